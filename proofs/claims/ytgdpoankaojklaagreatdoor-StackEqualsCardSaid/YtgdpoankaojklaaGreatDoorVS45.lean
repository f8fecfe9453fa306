import Derived.Test.YtgdpoankaojklaaGreatDoorVS40
/- stack.At at a place of the sheet. stack.Log stack.find, stack.Volume of a right deposit. Plain -/
set_option maxHeartbeats 16000000
set_option maxRecDepth 100000
namespace Go.Proofs.YtgdpoankaojklaaGreatDoor
open Go.RowKit Go.Lib Go.Shelf
attribute [local go_sem] Oper.semAt_some
theorem unitAt_none {U : List ByteArray} {H : List Rat} {z : Rat} (hH : H.length = U.length) (hU : ∀ u ∈ U, u ≠ ⟨#[]⟩) : (unitAt U H z).toList.isEmpty = decide (countH H z = 0) := by
 unfold unitAt;by_cases h : countH H z = 0
 ·rw [if_pos h, decide_eq_true h, ba_toList]; rfl
 ·have hl := countH_le H z
  have hlt : countH H z - 1 < U.length := by omega
  have hn := hU _ (List.getElem_mem hlt);rw [if_neg h, decide_eq_false h, List.getElem?_eq_getElem hlt, Option.getD_some, ba_toList];generalize U[countH H z - 1] = u at *;obtain ⟨a⟩ := u;cases ha : a.toList with
  | nil =>
    exfalso;apply hn;have : a = #[] := Array.toList_eq_nil_iff.1 ha;rw [this]
  | cons b l => rfl
theorem at_in (n : Nat) (hn : 6 <= n) (w : World) (hg : Good w) (pp pt pb pu ps : Option Addr) (np nt ns cp ct cb cu cs : Nat) (x y : ByteArray) (z : Rat) (U : List ByteArray) (H : List Rat) (hH : H.length = U.length) (hU1 : U.length <= 1000) (hUn : ∀ u ∈ U, u ≠ ⟨#[]⟩) (hU : RdS w (.slice pu U.length cu) U)
 (k : Nat) (hk : 0 < k) (hk2 : k <= 20000) (hHs : ∀ q ∈ H, Sz k q) (hzs : Sz k z) (fp : Nat -> Option Addr) (fc : Nat -> Nat)
 (HCP : Hid (∀ w', Below w.heap.size w w' -> Good w' -> Calls Tryz.prog 78 #[.agg #[.slice pp np cp, .slice pt nt ct], .agg #[.slice pb np cb, .slice pu U.length cu, .slice ps ns cs], .agg #[.string x, .string y, .string (RS z)]] w' (Ret (fun r _ => r = .int .i64 0) w')))
 (HSF : Hid (∀ i, i < U.length -> ∀ w', Below w.heap.size w w' -> Calls Tryz.prog 65 #[.agg #[.slice pb np cb, .slice pu U.length cu, .slice ps ns cs], .int .i64 (i : Int)] w' (Ret (fun r _ => r = .slice (fp i) np (fc i)) w')))
 (HVA : Hid (∀ i, i < U.length -> ∀ w', Below w.heap.size w w' -> Good w' -> Calls Tryz.prog 30 #[.agg #[.slice pp np cp, .slice pt nt ct], .slice (fp i) np (fc i), .agg #[.string x, .string y]] w' (Ret (fun r _ => r = .tuple #[.string (RS ((H[i]?).getD 0)), .int .i64 0]) w'))) :
 CallsIn Fence.wide n Tryz.prog 29 #[.agg #[.slice pp np cp, .slice pt nt ct], .agg #[.slice pb np cb, .slice pu U.length cu, .slice ps ns cs], .agg #[.string x, .string y, .string (RS z)]] w (Ret (fun r _ => r = .tuple #[.string (unitAt U H z), .bool (decide (countH H z = 0)), .int .i64 0]) w) := by
 have h1 : 1 <= n := by omega
 have HU := hid hU;have HUN := hid hUn;have HHS := hid hHs;have HZS := hid hzs;have HHL := hid hH;clear hU hUn hHs hzs hH;refine callsIn_of_wp_marks Tryz.func29 rfl trivial ?_ rfl;simp only [Tryz.ntmps29, List.size_toArray, List.length_cons, List.length_nil, Nat.reduceAdd, Nat.reduceSub, Array.replicate_succ, Array.replicate_zero, List.push_toArray, List.append_toArray, List.nil_append, List.cons_append];gi_wp2_with fail;obtain ⟨W, hW⟩ : ∃ W, W = (((w.alloc (.cells #[.slice pp np cp, .slice pt nt ct] 37)).alloc (.cells #[.slice pb np cb, .slice pu U.length cu, .slice ps ns cs] 43)).alloc (.cells #[.string x, .string y, .string (RS z)] 70)).alloc (.cells #[.string ⟨#[]⟩] 9) := ⟨_, rfl⟩;have hB : Below w.heap.size w W := by rw [hW]; exact ((((Below.refl _ _).alloc (Nat.le_refl _) _).alloc (by simp) _).alloc (by simp; omega) _).alloc (by simp; omega) _
 have b3 : BoxN W w.heap.size 37 [.slice pp np cp, .slice pt nt ct] := by rw [hW]; exact (((BoxN.new w #[.slice pp np cp, .slice pt nt ct] 37 _ rfl).alloc _).alloc _).alloc _
 have b4 : BoxN W (w.heap.size + 1) 43 [.slice pb np cb, .slice pu U.length cu, .slice ps ns cs] := by rw [hW]; exact ((BoxN.new _ #[.slice pb np cb, .slice pu U.length cu, .slice ps ns cs] _ _ (by simp)).alloc _).alloc _
 have b5 : BoxN W (w.heap.size + 2) 70 [.string x, .string y, .string (RS z)] := by rw [hW]; exact (BoxN.new _ #[.string x, .string y, .string (RS z)] _ _ (by simp)).alloc _
 have b6 : BoxN W (w.heap.size + 3) 9 [.string ⟨#[]⟩] := by rw [hW]; exact BoxN.new _ #[.string ⟨#[]⟩] _ _ (by simp)
 rw [<- hW];clear hW;refine ⟨trivial, ?_⟩;refine CallsIn.mono (callsIn_wide.2 (HCP.out W hB (hg.below hB))) ?_;rintro e w1 ⟨_, rfl, rfl, hb1⟩;have hB1 := hB.trans (hb1.mono hB.size);replace b3 := b3.below hb1 b3.lt;replace b4 := b4.below hb1 b4.lt;replace b5 := b5.below hb1 b5.lt;replace b6 := b6.below hb1 b6.lt;clear hb1 hB;have m0 := b3.cell 0 rfl;have m1 := b3.cell 1 rfl;have d0 := b4.cell 0 rfl;have d1 := b4.cell 1 rfl;have d2 := b4.cell 2 rfl;have v0 := b5.cell 0 rfl;have v1 := b5.cell 1 rfl;have hz1 := b6.lt;gi_wp2_with fail;refine ⟨trivial, ?_⟩;refine CallsIn.mono (callsIn_wide.2 (heights_any _ _ _ _ pp pt pb pu ps np nt np U.length ns cp ct cb cu cs x y rfl rfl rfl)) ?_;rintro e w2 ⟨rfl, hw2⟩;have c1 : BoxN w2 w1.heap.size 37 [.slice pp np cp, .slice pt nt ct] := by rw [<- hw2]; exact ((BoxN.new w1 #[.slice pp np cp, .slice pt nt ct] _ _ rfl).alloc _).alloc _
 have c2 : BoxN w2 (w1.heap.size + 1) 43 [.slice pb np cb, .slice pu U.length cu, .slice ps ns cs] := by rw [<- hw2]; exact (BoxN.new _ #[.slice pb np cb, .slice pu U.length cu, .slice ps ns cs] _ _ (by simp)).alloc _
 have c3 : BoxN w2 (w1.heap.size + 2) 63 [.string x, .string y] := by rw [<- hw2]; exact BoxN.new _ #[.string x, .string y] _ _ (by simp)
 have hb12 : Below w1.heap.size w1 w2 := by rw [<- hw2]; exact (((Below.refl _ _).alloc (Nat.le_refl _) _).alloc (by simp) _).alloc (by simp; omega) _
 have hB2 := hB1.trans (hb12.mono hB1.size);replace b4 := b4.below hb12 b4.lt;replace b5 := b5.below hb12 b5.lt;replace b6 := b6.below hb12 b6.lt;have hz2 : w1.heap.size + 3 <= w2.heap.size := by have := c3.lt; omega
 clear hw2 hb12 b3 m0 m1 d0 d1 d2 v0 v1;gi_wp2_with fail;refine wpIn_rangeFunc_ownF rfl h1 (gf := 127) (lb := #[.pointer (some ⟨w1.heap.size + 1, 0, none⟩), .pointer (some ⟨w1.heap.size, 0, none⟩), .pointer (some ⟨w1.heap.size + 2, 0, none⟩)]) rfl trivial (enters_of Tryz.func127 (by kernel_rfl) rfl)
  (heights_stops (n - 1) (by omega) w1.heap.size w hg pp pt pb pu ps np nt U.length ns cp ct cb cu cs x y H HHL.out hU1 fp fc HSF HVA w2 hB2 c1 c2 c3) (fun h k => Keep3.trans h k) (keep3_b (by have := hB2.size; omega) (by omega)) (Below.refl _ _) (fun _ => rfl)
  (fun (pre : List (IxR H)) W => (BoxN W (w.heap.size + 1) 43 [.slice pb np cb, .slice pu U.length cu, .slice ps ns cs] /\ BoxN W (w.heap.size + 2) 70 [.string x, .string y, .string (RS z)] /\ BoxN W (w.heap.size + 3) 9 [.string (unitL U pre)] /\ Hid (∀ q ∈ pre, H[q.1]'(q.2) <= z) /\ w2.heap.size <= W.heap.size) /\ Below w.heap.size w W)
  (fun c (pre : List (IxR H)) W => (∃ pre' q, c = .exit 0 /\ pre = pre' ++ [q] /\ w2.heap.size <= W.heap.size /\ BoxN W (w.heap.size + 3) 9 [.string (unitL U pre')] /\ Hid ((∀ q ∈ pre', H[q.1]'(q.2) <= z) /\ ¬ H[q.1]'(q.2) <= z)) /\ Below w.heap.size w W)
  (OwnFrom.and (Own.from (fun s A B row hs hg' hr => ⟨boxN_kept hs.1 hg' hr, boxN_kept hs.2.1 hg' hr, boxN_kept hs.2.2.1 hg' hr, hs.2.2.2.1, Nat.le_trans hs.2.2.2.2 hg'.size⟩) _) (ownFrom_below (Nat.le_refl _) (by have := hB2.size; omega)))
  ?hIx
  ⟨⟨b4, b5, b6, fun q hq => absurd hq List.not_mem_nil, Nat.le_refl _⟩, hB2⟩
  ?a1 ?assign ?body ?done ?stop
 case hIx =>
  intro c;exact OwnFrom.and (Own.from (fun s A B row hs hg' hr => by obtain ⟨pre', q, e0, e1, e4, e2, e3⟩ := hs; exact ⟨pre', q, e0, e1, Nat.le_trans e4 hg'.size, boxN_kept e2 hg' hr, e3⟩) _) (ownFrom_below (Nat.le_refl _) (by have := hB2.size; omega))
 case assign =>
  intro l x W K hK;dsimp only [encH]
  gi_wp2
  exact hK
 case body =>
  rintro l pre ix W ⟨⟨c4, c5, c6, HJ, hzI⟩, hBW⟩ hpl;have hix := ix.2;have hget : (H[ix.1]?).getD 0 = H[ix.1] := by rw [List.getElem?_eq_getElem hix]; rfl
  have HCM : Hid (∀ w', Good w' -> _) := fun w' hg' => ratCompare_any H[ix.1] z k hk hk2 (HHS.out _ (List.getElem_mem hix)) HZS.out w' hg';rw [hget];generalize RS H[ix.1] = hstr at *;have v2 := c5.cell 2 rfl;have hgW := hg.below hBW;have hzW := c6.lt;gi_wp2_with fail;refine ⟨trivial, by intro; omega, ?_⟩;refine CallsIn.mono (CallsIn.inRound l (callsIn_wide.2 (HCM.out W hgW))) ?_;rintro e w3 ⟨_, rfl, rfl, hb3⟩;have hBW3 := hBW.trans (hb3.mono hBW.size);have c43 := c4.below hb3 c4.lt;have c53 := c5.below hb3 c5.lt;have c63 := c6.below hb3 c6.lt;have hko3 := keepsOthers_below hb3;clear v2 HCM hget;by_cases hle : H[ix.1] <= z
  ·have hc0 := cmpQ_le hle
   have hc1 : decide (0 < cmpQ H[ix.1] z) = false := decide_eq_false (by omega);have hc2 : ¬ (0 < cmpQ H[ix.1] z) := by omega
   have HJ2 : Hid (∀ q ∈ pre ++ [ix], H[q.1]'(q.2) <= z) := fun q hq => by
    rcases List.mem_append.1 hq with h5 | h5
    ·exact HJ.out q h5
    ·rw [List.mem_singleton] at h5; subst h5; exact hle
   have hsn := unitL_snoc U pre ix;have HSN := hid hsn;generalize cmpQ H[ix.1] z = cz at *;have hixU : ix.1 < U.length := by have := HHL.out; omega
   obtain ⟨bu, ou, cu', hve, hbu, hcu, hcells⟩ := HU.out.cells (by omega);injection hve with hv1 hv2 hv3
   subst hv1 hv3;have x0 := zcq hBW3 hbu (hcells ix.1 hixU);have hun : U[ix.1]?.getD ⟨#[]⟩ = U[ix.1] := by rw [List.getElem?_eq_getElem hixU]; rfl
   have HUN2 := hid hun;generalize U[ix.1] = un at *;have hiz : (ix.1 : Int) < (U.length : Int) := by omega
   have d1 := c43.cell 1 rfl;have u0 := c63.cell 0 rfl;have u0f := c63.frozen 0;clear hcells hun hsn hle hc0;generalize hjx : ix.1 = jx at *;have HJX := hid hjx;clear hjx;gi_wp2_with fail;have hz3 := hBW3.size;have hsW := hb3.size;have hrest : ∀ j, j < W.heap.size -> j ≠ w.heap.size + 3 -> (w3.setCell ⟨w.heap.size + 3, 0, none⟩ (.string un)).heap[j]? = W.heap[j]? := fun j hj hne => (Below.heap_setCell _ _ _ j (fun e => hne e)).trans (hb3.block j hj);have hbS : Below w.heap.size W (w3.setCell ⟨w.heap.size + 3, 0, none⟩ (.string un)) := (hb3.mono hBW.size).setCell (p := ⟨w.heap.size + 3, 0, none⟩) (by show w.heap.size <= w.heap.size + 3; omega) _;refine ⟨hko3.trans (KeepsOthers.setCell _ _ _), ⟨hbS, hrest _ (by omega) (by omega), hrest _ (by omega) (by omega), hrest _ (by omega) (by omega)⟩, ⟨⟨(hrest _ (by have := c4.lt; omega) (by omega)).trans c4, (hrest _ (by have := c5.lt; omega) (by omega)).trans c5, ?_, HJ2, by simp; omega⟩, hBW3.setCell (p := ⟨w.heap.size + 3, 0, none⟩) (by show w.heap.size <= w.heap.size + 3; omega) _⟩⟩;rw [HSN.out, HUN2.out];exact c63.set 0 (.string un)
  ·have hc0 : 0 < cmpQ H[ix.1] z := (cmpQ_pos _ _).2 (Rat.not_le.1 hle)
   have hc1 : decide (0 < cmpQ H[ix.1] z) = true := decide_eq_true hc0;have HX2 : Hid ((∀ q ∈ pre, H[q.1]'(q.2) <= z) /\ ¬ H[ix.1] <= z) := ⟨HJ.out, hle⟩;generalize cmpQ H[ix.1] z = cz at *;gi_wp2_with fail;exact ⟨hko3, ⟨pre, ix, rfl, rfl, Nat.le_trans hzI hb3.size, c63, HX2⟩, hBW3⟩
 case done =>
  rintro D ys W hD hys ⟨⟨_, _, c6, HJ, hzI⟩, hBW⟩ hK;have hcnt : countH H z = U.length := by
   rw [<- HHL.out];refine countH_all fun q hq => ?_;obtain ⟨i, hi, rfl⟩ := List.getElem_of_mem hq;have hm : i ∈ ys.map Subtype.val := by rw [hys]; exact List.mem_range.2 (by have := HHL.out; omega)
   obtain ⟨y, hy, rfl⟩ := List.mem_map.1 hm;exact HJ.out y hy
  have hun := unitL_range (U := U) hys hcnt;rw [hun] at c6;have HEQ := hid (unitAt_none (z := z) HHL.out HUN.out);have x0 := c6.cell 0 rfl;have x0f := c6.frozen 0;have hz6 := c6.lt;generalize hue : unitAt U H z = un at *;have HUE := hid hue;clear hue;gi_wp2_with fail;have hne : D ≠ w.heap.size + 3 := by omega
  have hKs : (W.setCell ⟨w.heap.size + 3, 0, none⟩ (.string un)).heap[D]? = some (.deferred (some [])) := by
   rw [Below.heap_setCell _ _ _ D hne];exact hK
  have hBs := hBW.setCell (p := ⟨w.heap.size + 3, 0, none⟩) (by show w.heap.size <= w.heap.size + 3; omega) (.string un);have r6 := c6.set 0 (.string un);have hl6 := r6.lt;refine leaves_marks (B := w2.heap.size) ⟨[D], rfl, (by simp), fun E hE => by rw [List.mem_singleton] at hE; subst hE; exact ⟨hD, hKs⟩⟩ fun w' hw' => ?_
  have q6 : BoxN w' (w.heap.size + 3) 9 [.string un] := (hw'.block _ (.inl (by omega)) hl6).trans r6;have k0 := q6.cell 0 rfl;refine ⟨.tuple #[.string un, .bool un.toList.isEmpty, .int .i64 0], by simp [results, Tryz.results29, go_sem, k0], ?_⟩;refine ⟨_, rfl, by show _ = _; rw [HUE.out, HEQ.out], hBs.trans ((hw'.below (by simpa using hzI)).mono (by omega))⟩
 case stop =>
  rintro D c pre W hD hSp ⟨⟨pre', q, rfl, rfl, hzI, c6, HX⟩, hBW⟩ hK;have hl : (pre' ++ [q]).length = pre'.length + 1 := by simp
  rw [hl, List.range_succ, List.map_append] at hSp;obtain ⟨hs1, hs2⟩ := List.append_inj hSp (by simp);have hq : q.1 = pre'.length := by simpa using hs2
  have hcnt : countH H z = pre'.length := by
   refine countH_at (by have := q.2; omega) (fun i hi => ?_) ?_
   ·have hm : i ∈ pre'.map Subtype.val := by rw [hs1]; exact List.mem_range.2 hi
    obtain ⟨y, hy, rfl⟩ := List.mem_map.1 hm;exact HX.out.1 y hy
   ·have := HX.out.2
    simpa only [hq] using this
  have hun := unitL_range (U := U) hs1 hcnt;rw [hun] at c6;clear hSp hs1 hs2 hl hcnt hun;have HEQ := hid (unitAt_none (z := z) HHL.out HUN.out);have x0 := c6.cell 0 rfl;have x0f := c6.frozen 0;have hz6 := c6.lt;generalize hue : unitAt U H z = un at *;have HUE := hid hue;clear hue;gi_wp2_with fail;have hne : D ≠ w.heap.size + 3 := by omega
  have hKs : (W.setCell ⟨w.heap.size + 3, 0, none⟩ (.string un)).heap[D]? = some (.deferred (some [])) := by
   rw [Below.heap_setCell _ _ _ D hne];exact hK
  have hBs := hBW.setCell (p := ⟨w.heap.size + 3, 0, none⟩) (by show w.heap.size <= w.heap.size + 3; omega) (.string un);have r6 := c6.set 0 (.string un);have hl6 := r6.lt;refine leaves_marks (B := w2.heap.size) ⟨[D], rfl, (by simp), fun E hE => by rw [List.mem_singleton] at hE; subst hE; exact ⟨hD, hKs⟩⟩ fun w' hw' => ?_
  have q6 : BoxN w' (w.heap.size + 3) 9 [.string un] := (hw'.block _ (.inl (by omega)) hl6).trans r6;have k0 := q6.cell 0 rfl;refine ⟨.tuple #[.string un, .bool un.toList.isEmpty, .int .i64 0], by simp [results, Tryz.results29, go_sem, k0], ?_⟩;refine ⟨_, rfl, by show _ = _; rw [HUE.out, HEQ.out], hBs.trans ((hw'.below (by simpa using hzI)).mono (by omega))⟩
theorem at_ok (w : World) (hg : Good w) (pp pt pb pu ps : Option Addr) (np nt ns cp ct cb cu cs : Nat) (x y : ByteArray) (z : Rat) (U : List ByteArray) (H : List Rat) (hH : H.length = U.length) (hU1 : U.length <= 1000) (hUn : ∀ u ∈ U, u ≠ ⟨#[]⟩) (hU : RdS w (.slice pu U.length cu) U)
 (k : Nat) (hk : 0 < k) (hk2 : k <= 20000) (hHs : ∀ q ∈ H, Sz k q) (hzs : Sz k z) (fp : Nat -> Option Addr) (fc : Nat -> Nat)
 (HCP : Hid (∀ w', Below w.heap.size w w' -> Good w' -> Calls Tryz.prog 78 #[.agg #[.slice pp np cp, .slice pt nt ct], .agg #[.slice pb np cb, .slice pu U.length cu, .slice ps ns cs], .agg #[.string x, .string y, .string (RS z)]] w' (Ret (fun r _ => r = .int .i64 0) w')))
 (HSF : Hid (∀ i, i < U.length -> ∀ w', Below w.heap.size w w' -> Calls Tryz.prog 65 #[.agg #[.slice pb np cb, .slice pu U.length cu, .slice ps ns cs], .int .i64 (i : Int)] w' (Ret (fun r _ => r = .slice (fp i) np (fc i)) w')))
 (HVA : Hid (∀ i, i < U.length -> ∀ w', Below w.heap.size w w' -> Good w' -> Calls Tryz.prog 30 #[.agg #[.slice pp np cp, .slice pt nt ct], .slice (fp i) np (fc i), .agg #[.string x, .string y]] w' (Ret (fun r _ => r = .tuple #[.string (RS ((H[i]?).getD 0)), .int .i64 0]) w'))) :
 Calls Tryz.prog 29 #[.agg #[.slice pp np cp, .slice pt nt ct], .agg #[.slice pb np cb, .slice pu U.length cu, .slice ps ns cs], .agg #[.string x, .string y, .string (RS z)]] w (Ret (fun r _ => r = .tuple #[.string (unitAt U H z), .bool (decide (countH H z = 0)), .int .i64 0]) w) :=
 callsIn_wide.1 (at_in 6 (by omega) w hg pp pt pb pu ps np nt ns cp ct cb cu cs x y z U H hH hU1 hUn hU k hk hk2 hHs hzs fp fc HCP HSF HVA)
end Go.Proofs.YtgdpoankaojklaaGreatDoor
namespace Go.Proofs.YtgdpoankaojklaaGreatDoor
open Go.RowKit Go.Lib Go.Shelf
theorem snoc_ind {α : Type} {p : List α -> Prop} (h0 : p []) (h1 : ∀ l a, p l -> p (l ++ [a])) (l : List α) : p l := by
 rw [<- List.reverse_reverse l]
 induction l.reverse with
 | nil => exact h0
 | cons a t ih => rw [List.reverse_cons]; exact h1 _ _ ih
structure Itv where
 unit : ByteArray
 fro : Rat
 til : Rat
instance : DecidableEq Itv := fun a b => decidable_of_iff (a.unit = b.unit /\ a.fro = b.fro /\ a.til = b.til) ⟨fun h => by
 obtain ⟨u, f, t⟩ := a;obtain ⟨u', f', t'⟩ := b;obtain ⟨rfl, rfl, rfl⟩ := h;rfl, fun h => by rw [h]; exact ⟨rfl, rfl, rfl⟩⟩
def cellIv (c : Itv) : List Value := [.string c.unit, .string (RS c.fro), .string (RS c.til)]
def cellsIv (l : List Itv) : List Value := l.flatMap cellIv
theorem cellsIv_snoc (l : List Itv) (c : Itv) : cellsIv (l ++ [c]) = cellsIv l ++ [.string c.unit, .string (RS c.fro), .string (RS c.til)] := by simp [cellsIv, cellIv]
def logStep (U : List ByteArray) (H : List Rat) (z : Rat) (s : List Itv × Rat) (i : Nat) : List Itv × Rat :=
 if (H[i]?.getD 0) < s.2 then (s.1 ++ [⟨U[i]?.getD ⟨#[]⟩, z - s.2, z - (H[i]?.getD 0)⟩], H[i]?.getD 0) else s
def logTo (U : List ByteArray) (H : List Rat) (z : Rat) (l : List Nat) : List Itv × Rat := l.foldl (logStep U H z) ([], z)
def logL (U : List ByteArray) (H : List Rat) (z : Rat) : List Itv := (logTo U H z (bwd H.length H.length)).1
theorem logTo_snoc (U : List ByteArray) (H : List Rat) (z : Rat) (l : List Nat) (i : Nat) : logTo U H z (l ++ [i]) = logStep U H z (logTo U H z l) i := by unfold logTo; rw [List.foldl_append]; rfl
theorem logTo_len (U : List ByteArray) (H : List Rat) (z : Rat) (l : List Nat) : (logTo U H z l).1.length <= l.length := by
 refine snoc_ind (p := fun l => (logTo U H z l).1.length <= l.length) (Nat.le_refl _) (fun l i ih => ?_) l;rw [logTo_snoc];unfold logStep;split
 ·rw [List.length_append, List.length_append]; simp; exact ih
 ·rw [List.length_append]; omega
theorem logTo_Sz {U : List ByteArray} {H : List Rat} {z : Rat} {k : Nat} (hk : 0 < k) (hH : ∀ q ∈ H, Sz k q) (hz : Sz k z) (l : List Nat) : Sz k (logTo U H z l).2 := by
 refine snoc_ind (p := fun l => Sz k (logTo U H z l).2) hz (fun l i ih => ?_) l;rw [logTo_snoc];unfold logStep;split
 ·show Sz k (H[i]?.getD 0)
  cases hi : H[i]? with
  | none => exact Sz.zero _ hk
  | some q => exact hH q (List.mem_of_getElem? hi)
 ·exact ih
theorem owns_kept {W W' : World} {row : Option Nat} {B e s n : Nat} {v : Value} {xs : List Value} (h : W.ownsRow B e s v n xs) (hg : W.grownBy W' row) (hr : ∀ r, row = some r -> ∃ o : Obj, W.heap[r]? = some o /\ o.isCells = false) : W'.ownsRow B e s v n xs := by
 refine World.ownsRow.kept h hg ?_;obtain ⟨h1, h2⟩ := h;rcases h2 with ⟨rfl, h0⟩ | ⟨g, cap, cur, rfl, hb, hgc, _⟩
 ·exact .inl rfl
 ·refine .inr (fun e => ?_)
  obtain ⟨o, ho, hc⟩ := hr g e.symm;rw [hgc] at ho;cases ho;cases hc
theorem act_of (a : Act) : ∀ (ps : List (Nat × Value)) (a0 : Act), a.tmps.size = a0.tmps.size -> a.defers = a0.defers -> (∀ s, (∀ p ∈ ps, p.1 ≠ s) -> a.eval (.tmp s) = a0.eval (.tmp s)) -> (∀ p ∈ ps, a.eval (.tmp p.1) = p.2) -> (∀ p ∈ ps, p.1 < a0.tmps.size) -> a = ps.foldl (fun b p => b.put (some p.1) p.2) a0
 | [], a0, h1, h2, h3, _, _ => by
   obtain ⟨t, d⟩ := a;obtain ⟨t0, d0⟩ := a0;simp only at h1 h2;subst h2;have e : t = t0 := by
    refine Array.ext h1 fun i hi hi0 => ?_;have h5 := h3 i (fun p hp => absurd hp List.not_mem_nil);simpa [Act.eval, hi, hi0] using h5
   rw [e]; rfl
 | (q, u) :: ps, a0, h1, h2, h3, h4, h5 => by
   rw [List.foldl_cons];refine act_of a ps (a0.put (some q) u) (by rw [put_tsize]; exact h1) (by rw [put_defers]; exact h2) (fun s hs => ?_) (fun p hp => h4 p (List.mem_cons_of_mem _ hp)) (fun p hp => by rw [put_tsize]; exact h5 p (List.mem_cons_of_mem _ hp));by_cases hq : q = s
   ·subst hq
    rw [eval_put_self (h5 (q, u) (by simp))];exact h4 (q, u) (by simp)
   ·rw [eval_put_other hq]
    refine h3 s (fun p hp => ?_);rcases List.mem_cons.1 hp with rfl | h
    ·exact hq
    ·exact hs p h
def C14 (W : World) (L : List Value) (listed : Array Bool) (a : Act) (X : World) : Prop :=
 Below W.heap.size W X /\ (listed.getD 14 false = true -> ∃ b, W.heap.size <= b /\ a.eval (.tmp 16) = .pointer (some ⟨b, 0, none⟩) /\ BoxN X b 79 (if listed.getD 15 false = true then L else [.string ⟨#[]⟩, .string ⟨#[]⟩, .string ⟨#[]⟩]))
theorem C14.put {W X X' : World} {L : List Value} {listed : Array Bool} {a : Act} (h : C14 W L listed a X) (hb : Below X.heap.size X X') (i d : Nat) (v : Value) (h1 : i ≠ 14) (h2 : i ≠ 15) (h3 : d ≠ 16) : C14 W L (listed.setIfInBounds i true) (a.put (some d) v) X' := by
 refine ⟨h.1.trans (hb.mono h.1.size), fun hl => ?_⟩;rw [getD_ne _ _ _ h1] at hl;obtain ⟨b, e1, e2, e3⟩ := h.2 hl;refine ⟨b, e1, (eval_put_other h3).trans e2, ?_⟩;rw [getD_ne _ _ _ h2];exact e3.below hb e3.lt
theorem owns_struck {K : Nat} {W W' : World} {B e s n : Nat} {v : Value} {xs : List Value} (h : W.ownsRow B e s v n xs) (hs : Struck K W W') : W'.ownsRow B e s v n xs := by
 obtain ⟨h1, h2⟩ := h;refine ⟨h1, ?_⟩;rcases h2 with ⟨rfl, h0⟩ | ⟨g, cap, cur, rfl, hb, hgc, h5⟩
 ·exact .inl ⟨rfl, h0⟩
 ·exact .inr ⟨g, cap, cur, rfl, hb, (hs.block g (.inr fun l e => by rw [hgc] at e; cases e) (Array.getElem?_eq_some_iff.1 hgc).1).trans hgc, h5⟩
theorem info_Iv : (Tryz.prog.info? 79).map (fun i => (i.zero, i.size, i.bytes)) = some (some (.agg #[.string ⟨#[]⟩, .string ⟨#[]⟩, .string ⟨#[]⟩]), 3, 48) := by kernel_rfl
theorem wpIn_call {F : Fence} {n : Nat} {P : Program} {Q : Exit -> Act -> World -> Prop} {o : Oper} {a : Act} {w w' : World} {K : Act -> World -> Prop} {f : FuncId} {args : Array Value} (hd : ∀ c, o.op ≠ .defer c)
 (hf : ∀ f, o.about P w a.eval = some f -> F.fn f) (hr : (execOp a.eval o).run P w = .ok (.enter f args) w')
 (hK : (F.depth.isSome = true -> 1 <= n) /\ CallsIn F (n - 1) P f args w' fun e w'' => ∃ v, e = .returned v /\ K (a.put o.dst v) w'') : o.wpIn F n P a w K Q := by
 refine ⟨hf, ?_⟩;rw [Oper.semAt_eq _ _ _ hd, hr, Oper.uponIn_enter];refine ⟨hK.1, hK.2.mono ?_⟩;rintro e w'' ⟨v, rfl, h⟩;exact h
def Keep2 (b Bs : Nat) (A B : World) : Prop := B.heap[b]? = A.heap[b]? /\ B.heap[Bs]? = A.heap[Bs]?
theorem Keep2.trans {b Bs : Nat} {A B C : World} (h : Keep2 b Bs A B) (k : Keep2 b Bs B C) : Keep2 b Bs A C := ⟨k.1.trans h.1, k.2.trans h.2⟩
theorem keep2_b {b Bs : Nat} {w : World} (hb : b < w.heap.size) (hB : Bs < w.heap.size) (W : World) (l : Nat) (o o' : Obj) (hl : w.heap.size <= l) (_h : W.heap[l]? = some o) (_h1 : o.isCells = false) (_h2 : o.isWalk = false) : Keep2 b Bs W (W.putObj l o') :=
 ⟨World.putObj_heap_other (by omega), World.putObj_heap_other (by omega)⟩
theorem bwR2_in (n : Nat) (hn : 1 <= n) (l Bs b : Nat) (c : Nat) (xs : List Rat)
 (hlen : xs.length <= 1000000) (J Jx : List (IxR xs) -> World -> Prop)
 (hY : ∀ pre x W, J pre W -> pre.length < xs.length -> YieldAt Fence.wide (n - 1) Tryz.prog l (encBwR xs x.1) W fun e W' =>
   (e = .returned (.bool true) /\ J (pre ++ [x]) W' /\ Keep2 b Bs W W') \/ (e = .returned (.bool false) /\ Jx (pre ++ [x]) W'))
 (W : World) (hBs : W.cell? ⟨Bs, 0, none⟩ = some (.slice (some ⟨b, 0, none⟩) xs.length c))
 (hc : ∀ (i : Nat) (hi : i < xs.length), W.cell? ⟨b, 0 + i, none⟩ = some (.string (RS xs[i]))) (h0 : J [] W) :
 CallsIn Fence.wide n Tryz.prog 128 #[.func (.yield l) #[] #[], .pointer (some ⟨Bs, 0, none⟩)] W fun e W' => (∃ v, e = .returned v) /\
  ((∃ ys : List (IxR xs), ys.map Subtype.val = bwd xs.length xs.length /\ J ys W') \/ (∃ pre, True /\ Jx pre W')) := by
 refine callsIn_of_wp Tryz.func128 rfl trivial ?_ rfl;simp only [Tryz.ntmps128, List.size_toArray, List.length_cons, List.length_nil, Nat.reduceAdd, Nat.reduceSub, Array.replicate_succ, Array.replicate_zero, List.push_toArray, List.append_toArray, List.nil_append, List.cons_append];obtain ⟨m, hm⟩ : ∃ m, xs.length = m := ⟨_, rfl⟩;have HM := hid hm;have hm1 : xs.length <= m := by omega
 have hm2 : m <= xs.length := by omega
 rw [hm] at hBs;clear hm
 gi_wp2
 gi_loopw [3] (fun i wr => ∃ k : Nat, k <= m /\ i = .int .i64 ((m : Int) - 1 - (k : Int)) /\ (∃ pre : List (IxR xs), pre.map Subtype.val = bwd m k /\ J pre wr) /\ Keep2 b Bs W wr)
  (fun i _ => (RowKit.intOf i + 1).toNat)
 case atStart => exact ⟨0, Nat.zero_le _, by simp, ⟨[], rfl, h0⟩, rfl, rfl⟩
 case round =>
  obtain ⟨k, hk, rfl, ⟨pre, hpre, hJs⟩, hnx⟩ := hrel;by_cases hlt : k < m
  ·obtain ⟨i, hi⟩ : ∃ i, i = m - 1 - k := ⟨_, rfl⟩
   have HI := hid hi;have hj : i < xs.length := by omega
   have hc1 : wr.cell? ⟨b, 0 + i, none⟩ = some (.string (RS xs[i])) := (World.cell?_of_block hnx.1).trans (hc i hj);rw [Nat.zero_add] at hc1;have hc0 : wr.cell? ⟨Bs, 0, none⟩ = _ := (World.cell?_of_block hnx.2).trans hBs;obtain ⟨x, hx⟩ : ∃ x, x = RS xs[i] := ⟨_, rfl⟩;rw [<- hx] at hc1;have hxg : RS ((xs[i]?).getD 0) = x := by rw [hx]; simp [hj]
   obtain ⟨fn, tmps, assign, body, hy, hR⟩ := hY pre ⟨i, hj⟩ wr hJs (by have := congrArg List.length hpre; rw [List.length_map, bwd_length] at this; omega);dsimp only [encBwR] at hy;rw [hxg] at hy;have e1 : (m : Int) - 1 - (k : Int) = (i : Int) := by omega
   rw [e1];have hsucc : (pre ++ [(⟨i, hj⟩ : IxR xs)]).map Subtype.val = bwd m (k + 1) := by rw [bwd_succ, <- hi, List.map_append, hpre]; rfl
   have HS := hid hsucc;clear hc e1 hi hJs hx hsucc hxg hpre;have f1 : (0 : Int) <= (i : Int) := by omega
   have f2 : (i : Int) < (m : Int) := by have := HI.out; omega
   gi_wp2
   refine hR.mono ?_;rintro e W3 (⟨rfl, hJ3, hk3⟩ | ⟨rfl, hJx3⟩)
   ·gi_wp2
    go_roundw
    case rel => exact ⟨k + 1, by omega, congrArg (Value.int .i64) (by have := HI.out; omega), ⟨_, HS.out, hJ3⟩, hnx.trans hk3⟩
    case measure => simp [RowKit.intOf]
   ·gi_wp2
    refine bodyPost_ret (results_none rfl _ _ _) rfl ?_;exact ⟨⟨_, rfl⟩, .inr ⟨_, trivial, hJx3⟩⟩
  ·obtain rfl : k = m := by omega
   gi_wp2
   go_end0;exact ⟨⟨_, rfl⟩, .inl ⟨_, by rw [hpre, HM.out], hJs⟩⟩
theorem bwR2_stops (n : Nat) (hn : 1 <= n) (Bs b c : Nat) (xs : List Rat) (hlen : xs.length <= 1000000) (w : World)
 (hBs : Bs < w.heap.size) (hb : b < w.heap.size) (hc : w.cell? ⟨Bs, 0, none⟩ = some (.slice (some ⟨b, 0, none⟩) xs.length c))
 (hr : ∀ (i : Nat) (hi : i < xs.length), w.cell? ⟨b, 0 + i, none⟩ = some (.string (RS xs[i]))) :
 SeqStopsK Fence.wide n Tryz.prog 128 #[.pointer (some ⟨Bs, 0, none⟩)] (fun x : IxR xs => encBwR xs x.1) (Keep2 b Bs) (fun ys => ys.map Subtype.val = bwd xs.length xs.length) (fun _ => True) xs.length w := fun l J Jx W hW _ _ hY h0' =>
 bwR2_in n hn l Bs b c xs hlen J Jx hY W ((zcq hW hBs hc :)) (fun i hi => (zcq hW hb (hr i hi) :)) h0'
attribute [local go_sem] Oper.semAt_some
theorem ys_all {H : List Rat} {ys : List (IxR H)} (h : ys.map Subtype.val = List.range H.length) : (ys.map fun q : IxR H => Value.string (RS (H[q.1]'(q.2)))) = cellsFd H := by
 have e : (ys.map fun q : IxR H => Value.string (RS (H[q.1]'(q.2)))) = (ys.map Subtype.val).map fun i => Value.string (RS (H[i]?.getD 0)) := by
  rw [List.map_map];refine List.map_congr_left fun q _ => ?_;show _ = Value.string (RS (H[q.1]?.getD 0));rw [List.getElem?_eq_getElem q.2]; rfl
 rw [e, h];unfold cellsFd;refine List.ext_getElem? fun i => ?_;rw [List.getElem?_map, List.getElem?_map];rcases Nat.lt_or_ge i H.length with hi | hi
 ·rw [List.getElem?_range hi, List.getElem?_eq_getElem hi]
  simp [hi]
 ·rw [List.getElem?_eq_none (by rw [List.length_range]; exact hi), List.getElem?_eq_none hi]; rfl
theorem log_in (n : Nat) (hn : 6 <= n) (w : World) (hg : Good w) (pp pt pb pu ps : Option Addr) (np nt ns cp ct cb cu cs : Nat) (x y : ByteArray) (z : Rat) (U : List ByteArray) (H : List Rat) (hH : H.length = U.length) (hU0 : 0 < U.length) (hU1 : U.length <= 1000) (hU : RdS w (.slice pu U.length cu) U)
 (k : Nat) (hk : 0 < k) (hk2 : k <= 90) (hHs : ∀ q ∈ H, Sz k q) (hzs : Sz k z) (fp : Nat -> Option Addr) (fc : Nat -> Nat)
 (HCP : Hid (∀ w', Below w.heap.size w w' -> Good w' -> Calls Tryz.prog 78 #[.agg #[.slice pp np cp, .slice pt nt ct], .agg #[.slice pb np cb, .slice pu U.length cu, .slice ps ns cs], .agg #[.string x, .string y, .string (RS z)]] w' (Ret (fun r _ => r = .int .i64 0) w')))
 (HSF : Hid (∀ i, i < U.length -> ∀ w', Below w.heap.size w w' -> Calls Tryz.prog 65 #[.agg #[.slice pb np cb, .slice pu U.length cu, .slice ps ns cs], .int .i64 (i : Int)] w' (Ret (fun r _ => r = .slice (fp i) np (fc i)) w')))
 (HVA : Hid (∀ i, i < U.length -> ∀ w', Below w.heap.size w w' -> Good w' -> Calls Tryz.prog 30 #[.agg #[.slice pp np cp, .slice pt nt ct], .slice (fp i) np (fc i), .agg #[.string x, .string y]] w' (Ret (fun r _ => r = .tuple #[.string (RS ((H[i]?).getD 0)), .int .i64 0]) w'))) :
 CallsIn Fence.wide n Tryz.prog 28 #[.agg #[.slice pp np cp, .slice pt nt ct], .agg #[.slice pb np cb, .slice pu U.length cu, .slice ps ns cs], .agg #[.string x, .string y, .string (RS z)]] w (Ret (fun r w' => ∃ v, r = .tuple #[v, .int .i64 0] /\ w'.ownsRow w.heap.size 79 3 v (logL U H z).length (cellsIv (logL U H z))) w) := by
 have h1 : 1 <= n := by omega
 have HU := hid hU;have HHS := hid hHs;have HZS := hid hzs;have HHL := hid hH;clear hU hHs hzs hH;refine callsIn_of_wp_marks Tryz.func28 rfl trivial ?_ rfl;simp only [Tryz.ntmps28, List.size_toArray, List.length_cons, List.length_nil, Nat.reduceAdd, Nat.reduceSub, Array.replicate_succ, Array.replicate_zero, List.push_toArray, List.append_toArray, List.nil_append, List.cons_append];gi_wp2_with fail;obtain ⟨W, hW⟩ : ∃ W, W = ((((w.alloc (.cells #[.slice pp np cp, .slice pt nt ct] 37)).alloc (.cells #[.slice pb np cb, .slice pu U.length cu, .slice ps ns cs] 43)).alloc (.cells #[.string x, .string y, .string (RS z)] 70)).alloc (.cells #[.slice none 0 0] 71)).alloc (.cells #[.int .i64 0] 51) := ⟨_, rfl⟩;have hB : Below w.heap.size w W := by rw [hW]; exact (((((Below.refl _ _).alloc (Nat.le_refl _) _).alloc (by simp) _).alloc (by simp; omega) _).alloc (by simp; omega) _).alloc (by simp; omega) _
 have b3 : BoxN W w.heap.size 37 [.slice pp np cp, .slice pt nt ct] := by rw [hW]; exact ((((BoxN.new w #[.slice pp np cp, .slice pt nt ct] 37 _ rfl).alloc _).alloc _).alloc _).alloc _
 have b4 : BoxN W (w.heap.size + 1) 43 [.slice pb np cb, .slice pu U.length cu, .slice ps ns cs] := by rw [hW]; exact (((BoxN.new _ #[.slice pb np cb, .slice pu U.length cu, .slice ps ns cs] _ _ (by simp)).alloc _).alloc _).alloc _
 have b5 : BoxN W (w.heap.size + 2) 70 [.string x, .string y, .string (RS z)] := by rw [hW]; exact ((BoxN.new _ #[.string x, .string y, .string (RS z)] _ _ (by simp)).alloc _).alloc _
 have b6 : BoxN W (w.heap.size + 3) 71 [.slice none 0 0] := by rw [hW]; exact (BoxN.new _ #[.slice none 0 0] _ _ (by simp)).alloc _
 have b7 : BoxN W (w.heap.size + 4) 51 [.int .i64 0] := by rw [hW]; exact BoxN.new _ #[.int .i64 0] _ _ (by simp)
 rw [<- hW];clear hW;refine ⟨trivial, ?_⟩;refine CallsIn.mono (callsIn_wide.2 (HCP.out W hB (hg.below hB))) ?_;rintro e w1 ⟨_, rfl, rfl, hb1⟩;have hB1 := hB.trans (hb1.mono hB.size);replace b3 := b3.below hb1 b3.lt;replace b4 := b4.below hb1 b4.lt;replace b5 := b5.below hb1 b5.lt;replace b6 := b6.below hb1 b6.lt;replace b7 := b7.below hb1 b7.lt;clear hb1 hB;have v2 := cell_alloc_l (.cells #[.slice none 0 0] 71) (b5.cell 2 rfl);obtain ⟨W3, hW3⟩ : ∃ W3, W3 = ((w1.alloc (.cells #[.slice none 0 0] 71)).alloc (.cells #[.string (RS z)] 57)).alloc (.cells #[.slice none 0 0] 38) := ⟨_, rfl⟩;have hC3 : Below w1.heap.size w1 W3 := by rw [hW3]; exact (((Below.refl _ _).alloc (Nat.le_refl _) _).alloc (by simp) _).alloc (by simp; omega) _
 have b9 : BoxN W3 w1.heap.size 71 [.slice none 0 0] := by rw [hW3]; exact ((BoxN.new w1 #[.slice none 0 0] _ _ rfl).alloc _).alloc _
 have b10 : BoxN W3 (w1.heap.size + 1) 57 [.string (RS z)] := by rw [hW3]; exact (BoxN.new _ #[.string (RS z)] _ _ (by simp)).alloc _
 have b11 : BoxN W3 (w1.heap.size + 2) 38 [.slice none 0 0] := by rw [hW3]; exact BoxN.new _ #[.slice none 0 0] _ _ (by simp)
 have hz1 := b7.lt;replace b3 := b3.below hC3 b3.lt;replace b4 := b4.below hC3 b4.lt;replace b5 := b5.below hC3 b5.lt;replace b6 := b6.below hC3 b6.lt;replace b7 := b7.below hC3 b7.lt;have hB3 := hB1.trans (hC3.mono hB1.size);have m0 := b3.cell 0 rfl;have m1 := b3.cell 1 rfl;have d0 := b4.cell 0 rfl;have d1 := b4.cell 1 rfl;have d2 := b4.cell 2 rfl;have v0 := b5.cell 0 rfl;have v1 := b5.cell 1 rfl;have hzW := b11.lt;rw [hW3] at m0 m1 d0 d1 d2 v0 v1;gi_wp2_with fail;rw [<- hW3];refine ⟨trivial, ?_⟩;refine CallsIn.mono (callsIn_wide.2 (heights_any _ _ _ _ pp pt pb pu ps np nt np U.length ns cp ct cb cu cs x y rfl rfl rfl)) ?_;rintro e w2 ⟨rfl, hw2⟩;have c1 : BoxN w2 W3.heap.size 37 [.slice pp np cp, .slice pt nt ct] := by rw [<- hw2]; exact ((BoxN.new W3 #[.slice pp np cp, .slice pt nt ct] _ _ rfl).alloc _).alloc _
 have c2 : BoxN w2 (W3.heap.size + 1) 43 [.slice pb np cb, .slice pu U.length cu, .slice ps ns cs] := by rw [<- hw2]; exact (BoxN.new _ #[.slice pb np cb, .slice pu U.length cu, .slice ps ns cs] _ _ (by simp)).alloc _
 have c3 : BoxN w2 (W3.heap.size + 2) 63 [.string x, .string y] := by rw [<- hw2]; exact BoxN.new _ #[.string x, .string y] _ _ (by simp)
 have hb12 : Below W3.heap.size W3 w2 := by rw [<- hw2]; exact (((Below.refl _ _).alloc (Nat.le_refl _) _).alloc (by simp) _).alloc (by simp; omega) _
 have hB2 := hB3.trans (hb12.mono hB3.size);replace b4 := b4.below hb12 b4.lt;replace b5 := b5.below hb12 b5.lt;replace b6 := b6.below hb12 b6.lt;replace b7 := b7.below hb12 b7.lt;replace b9 := b9.below hb12 b9.lt;replace b10 := b10.below hb12 b10.lt;replace b11 := b11.below hb12 b11.lt;have hz2 : W3.heap.size + 3 <= w2.heap.size := by have := c3.lt; omega
 obtain ⟨a, ha⟩ : ∃ a, a = w1.heap.size := ⟨_, rfl⟩;have hza : w.heap.size + 5 <= a := by omega
 have hza3 : a + 3 <= W3.heap.size := by omega
 rw [<- ha] at b9 b10 b11 ⊢;clear hw2 hb12 b3 m0 m1 d0 d1 d2 v0 v1 v2 hW3 hC3 hB1 hB3 ha hzW hz1;clear w1;obtain ⟨i0, hi0, hy0, hy1, hy2⟩ := info_parts info_str;gi_wp2_with fail;refine wpIn_rangeFunc_ownF rfl h1 (gf := 127) (lb := #[.pointer (some ⟨W3.heap.size + 1, 0, none⟩), .pointer (some ⟨W3.heap.size, 0, none⟩), .pointer (some ⟨W3.heap.size + 2, 0, none⟩)]) rfl trivial (enters_of Tryz.func127 (by kernel_rfl) rfl)
  (heights_stops (n - 1) (by omega) W3.heap.size w hg pp pt pb pu ps np nt U.length ns cp ct cb cu cs x y H HHL.out hU1 fp fc HSF HVA w2 hB2 c1 c2 c3) (fun h k => Keep3.trans h k) (keep3_b (by have := hB2.size; omega) (by omega)) (Below.refl _ _) (fun _ => rfl)
  (fun (pre : List (IxR H)) W => ((BoxN W (w.heap.size + 1) 43 [.slice pb np cb, .slice pu U.length cu, .slice ps ns cs] /\ BoxN W (w.heap.size + 2) 70 [.string x, .string y, .string (RS z)] /\ BoxN W (w.heap.size + 3) 71 [.slice none 0 0] /\ BoxN W (w.heap.size + 4) 51 [.int .i64 0] /\ BoxN W a 71 [.slice none 0 0] /\ BoxN W (a + 1) 57 [.string (RS z)]) /\
    (∃ v, BoxN W (a + 2) 38 [v] /\ W.ownsRow w2.heap.size 57 1 v pre.length (pre.map fun q => Value.string (RS (H[q.1]'(q.2))))) /\ w2.heap.size <= W.heap.size) /\ Below w.heap.size w W)
  (fun _ _ _ => False)
  (OwnFrom.and (Own.from (fun s A B row hs hg' hr => by
    obtain ⟨⟨e1, e2, e3, e4, e5, e6⟩, ⟨v, e7, e8⟩, e9⟩ := hs;exact ⟨⟨boxN_kept e1 hg' hr, boxN_kept e2 hg' hr, boxN_kept e3 hg' hr, boxN_kept e4 hg' hr, boxN_kept e5 hg' hr, boxN_kept e6 hg' hr⟩, ⟨v, boxN_kept e7 hg' hr, owns_kept e8 hg' hr⟩, Nat.le_trans e9 hg'.size⟩) _) (ownFrom_below (Nat.le_refl _) (by have := hB2.size; omega)))
  (fun _ _ _ _ _ hs _ _ => hs)
  ⟨⟨⟨b4, b5, b6, b7, b9, b10⟩, ⟨_, b11, World.ownsRow_nil _ _ _ _⟩, Nat.le_refl _⟩, hB2⟩
  ?a1 ?assign ?body ?done ?stop
 case assign =>
  intro l x W K hK;dsimp only [encH]
  gi_wp2
  exact hK
 case body =>
  rintro l pre ix W ⟨⟨⟨e1, e2, e3, e4, e5, e6⟩, ⟨v, e7, e8⟩, e9⟩, hBW⟩ hpl;have hix := ix.2;have hget : (H[ix.1]?).getD 0 = H[ix.1] := by rw [List.getElem?_eq_getElem hix]; rfl
  rw [hget];have HPR : Hid ((pre ++ [ix]).map (fun q : IxR H => Value.string (RS (H[q.1]'(q.2)))) = pre.map (fun q : IxR H => Value.string (RS (H[q.1]'(q.2)))) ++ [Value.string (RS H[ix.1])]) := by unfold Hid; rw [List.map_append]; rfl
  generalize RS H[ix.1] = hstr at *;obtain ⟨pv, cv, rfl⟩ := ownsRow_shape e8;have x0 := cell_alloc_l (.cells #[.string hstr] 57) (e7.cell 0 rfl);have x0b := e7.cell 0 rfl;have hzW := e7.lt;have e7a := e7.alloc (.cells #[.string hstr] 57);have e8a := e8.alloc (.cells #[.string hstr] 57);have nDS := owns_boxN e8a e7a (by decide);have hpl2 : pre.length <= 1000 := by omega
  clear hget
  gi_wp2_with (gi_at_builtin; refine wpListIn_append_own _ rfl _ _ 38 rfl w2.heap.size 57 i0 (.string ⟨#[]⟩) 1 16 Tryz.underlying38 hi0 hy0 hy1 hy2 rfl (by decide) _ _ _ rfl e8a ⟨W.heap.size, 0, none⟩ 1 1 [.string hstr] rfl rfl (cell_one_new _ _ _) (by intro u hu; simp at hu; subst hu; rfl) (by unfold maxLen; omega) (by omega) (by simp; omega) ?_
               intro v8 w8 f8 hg8 _;have f7 := e7a.gb hg8 (fun e => nDS e.symm);have y0 := f7.cell 0 rfl;have y0f := f7.frozen 0;obtain ⟨p8, c8, rfl⟩ := ownsRow_shape f8)
  have hs8 := hg8.size;simp at hs8;have hbl : ∀ j, j < W.heap.size -> (∀ r, (Value.slice pv pre.length cv).ownBlock = some r -> j ≠ r) -> j ≠ a + 2 -> (w8.setCell ⟨a + 2, 0, none⟩ (.slice p8 (pre.length + 1) c8)).heap[j]? = W.heap[j]? := fun j hj hr hne => by
   rw [Below.heap_setCell _ _ _ j (fun e => hne e), hg8.block j (by simp; omega) (fun e => hr j e.symm rfl)];exact heap_old _ _ _ hj
  have hlo : ∀ j, j < w2.heap.size -> ∀ r, (Value.slice pv pre.length cv).ownBlock = some r -> j ≠ r := fun j hj r hr => by have := (e8.lt r hr).1; omega
  have hB8 : Below w.heap.size w w8 := (hBW.alloc (by omega) (.cells #[.string hstr] 57)).grown hg8 (by simp; omega) (fun j hj => by have := (e8.lt j hj).1; omega);have hB9 := hB8.setCell (p := ⟨a + 2, 0, none⟩) (by show w.heap.size <= a + 2; omega) (.slice p8 (pre.length + 1) c8);have f9 := f7.set 0 (.slice p8 (pre.length + 1) c8);have g8 := World.ownsRow.kept f8 (gb_set (gb_refl w8 (some (a + 2))) 0 (.slice p8 (pre.length + 1) c8)) (.inr (fun e => owns_boxN f8 f7 (by decide) e.symm));have hl1 := e1.lt;have hl2 := e2.lt;have hl3 := e3.lt;have hl4 := e4.lt;have hl5 := e5.lt;have hl6 := e6.lt;have hKO : KeepsOthers W (w8.setCell ⟨a + 2, 0, none⟩ (.slice p8 (pre.length + 1) c8)) := ⟨by simp; omega, fun j o hj ho => by
   have hjl := (Array.getElem?_eq_some_iff.1 hj).1;refine (hbl j hjl (fun r hr e => ?_) (fun e => ?_)).trans hj
   ·subst e
    rcases e8.2 with ⟨h0, _⟩ | ⟨g, cap, cur, h0, hb, hgc, _⟩
    ·rw [h0] at hr; cases hr
    ·injection h0 with h0 _ _
     rw [h0] at hr;cases hr;rw [hgc] at hj;cases hj;cases ho
   ·subst e
    unfold BoxN at e7;rw [e7] at hj;cases hj;cases ho⟩
  refine ⟨hKO, ⟨?_, hbl _ (by omega) (fun r hr => by have := (e8.lt r hr).1; omega) (by omega), hbl _ (by omega) (fun r hr => by have := (e8.lt r hr).1; omega) (by omega), hbl _ (by omega) (fun r hr => by have := (e8.lt r hr).1; omega) (by omega)⟩, ⟨⟨⟨(hbl _ hl1 (hlo _ (by omega)) (by omega)).trans e1, (hbl _ hl2 (hlo _ (by omega)) (by omega)).trans e2, (hbl _ hl3 (hlo _ (by omega)) (by omega)).trans e3, (hbl _ hl4 (hlo _ (by omega)) (by omega)).trans e4, (hbl _ hl5 (hlo _ (by omega)) (by omega)).trans e5, (hbl _ hl6 (hlo _ (by omega)) (by omega)).trans e6⟩, ⟨_, f9, ?_⟩, by simp; omega⟩, hB9⟩⟩
  ·refine ((((Below.refl _ W).alloc (by omega) (.cells #[.string hstr] 57)).grown hg8 (by simp; omega) (fun j hj => by have := (e8.lt j hj).1; omega)).setCell (p := ⟨a + 2, 0, none⟩) (by show w.heap.size <= a + 2; omega) (.slice p8 (pre.length + 1) c8))
  ·rw [HPR.out, List.length_append]
   exact g8
 case done =>
  rintro D ys W hD hys ⟨⟨⟨e1, e2, e3, e4, e5, e6⟩, ⟨v, e7, e8⟩, e9⟩, hBW⟩ hK;have hyl : ys.length = U.length := by have h5 := congrArg List.length hys; rwa [List.length_map, List.length_range] at h5
  rw [<- HHL.out] at hys;rw [ys_all hys, hyl] at e8;obtain ⟨g, cv, lv, rfl, hgb, hbg, hg1, hg2, hg3, hg4⟩ := box_of_owns e8 hU0;unfold maxLen at hg2;have hcells : ∀ (i : Nat) (hi : i < H.length), W.cell? ⟨g, 0 + i, none⟩ = some (.string (RS H[i])) := fun i hi => by
   rw [Nat.zero_add];refine hbg.cell i ?_;have h6 : (lv.take U.length)[i]? = (cellsFd H)[i]? := by rw [hg4]
   rw [List.getElem?_take, if_pos (by have := HHL.out; omega)] at h6;rw [h6];unfold cellsFd;rw [List.getElem?_map, List.getElem?_eq_getElem hi]; rfl
  have HBG := hid hbg;have hgl := hbg.lt;have x0 := e7.cell 0 rfl;have hWl := e7.lt;clear hys hyl b4 b5 b6 b7 b9 b10 b11 c1 c2 c3 e7 e8 hg3 hg4 hbg hg1;gi_wp2_with fail;refine ⟨trivial, ?_⟩;refine CallsIn.mono (callsIn_wide.2 (backwardR_any _ _ _ _)) ?_;rintro e W4 ⟨rfl, hW4⟩;have k1 : BoxN W4 W.heap.size 38 [.slice (some ⟨g, 0, none⟩) U.length cv] := by rw [<- hW4]; exact BoxN.new _ #[.slice (some ⟨g, 0, none⟩) U.length cv] _ _ rfl
  have hb4 : Below W.heap.size W W4 := by rw [<- hW4]; exact zal _ _
  have hB4 := hBW.trans (hb4.mono hBW.size);replace e1 := e1.below hb4 e1.lt;replace e2 := e2.below hb4 e2.lt;replace e3 := e3.below hb4 e3.lt;replace e4 := e4.below hb4 e4.lt;replace e5 := e5.below hb4 e5.lt;replace e6 := e6.below hb4 e6.lt;have hDl := (Array.getElem?_eq_some_iff.1 hK).1;have hK4 : W4.heap[D]? = some (.deferred (some [])) := (hb4.block D hDl).trans hK;have hcl4 : ∀ (i : Nat) (hi : i < H.length), W4.cell? ⟨g, 0 + i, none⟩ = some (.string (RS H[i])) := fun i hi => (zcq hb4 hgl (hcells i hi) :);have hz4 := k1.lt;have hk0 := k1.cell 0 rfl;rw [<- HHL.out] at hk0;clear hW4 hK x0 hcells;obtain ⟨i2, hi2, hw0, hw1, hw2⟩ := info_parts info_Iv;gi_wp2_with fail;refine wpIn_rangeFunc_ownF rfl h1 (gf := 128) (lb := #[.pointer (some ⟨W.heap.size, 0, none⟩)]) rfl trivial (enters_of Tryz.func128 (by kernel_rfl) rfl)
   (bwR2_stops (n - 1) (by omega) W.heap.size g cv H (by have := HHL.out; omega) W4 hz4 (by omega) hk0 hcl4) (fun h k => Keep2.trans h k) (keep2_b (by omega) hz4) (Below.refl _ _) (fun _ => rfl)
   (fun (pre : List (IxR H)) W => ((BoxN W (w.heap.size + 1) 43 [.slice pb np cb, .slice pu U.length cu, .slice ps ns cs] /\ BoxN W (w.heap.size + 2) 70 [.string x, .string y, .string (RS z)] /\ BoxN W (w.heap.size + 3) 71 [.slice none 0 0] /\ BoxN W (w.heap.size + 4) 51 [.int .i64 0] /\ BoxN W (a + 1) 57 [.string (RS (logTo U H z (pre.map Subtype.val)).2)]) /\
     (∃ v, BoxN W a 71 [v] /\ W.ownsRow W4.heap.size 79 3 v (logTo U H z (pre.map Subtype.val)).1.length (cellsIv (logTo U H z (pre.map Subtype.val)).1)) /\ W4.heap.size <= W.heap.size /\ W.heap[D]? = some (.deferred (some []))) /\ Below w.heap.size w W)
   (fun _ _ _ => False)
   (OwnFrom.and (fun s A B row hs hg' hr => by
     obtain ⟨⟨e1, e2, e3, e4, e6⟩, ⟨v, e7, e8⟩, e9, e10⟩ := hs;have hr' : ∀ r, row = some r -> ∃ o : Obj, A.heap[r]? = some o /\ o.isCells = false := fun r e => (hr r e).2;exact ⟨⟨boxN_kept e1 hg' hr', boxN_kept e2 hg' hr', boxN_kept e3 hg' hr', boxN_kept e4 hg' hr', boxN_kept e6 hg' hr'⟩, ⟨v, boxN_kept e7 hg' hr', owns_kept e8 hg' hr'⟩, Nat.le_trans e9 hg'.size, (hg'.block D (Array.getElem?_eq_some_iff.1 e10).1 (fun e => by have := (hr D e.symm).1; omega)).trans e10⟩) (ownFrom_below (Nat.le_refl _) (by have := hB4.size; omega)))
   (fun _ _ _ _ _ hs _ _ => hs)
   ⟨⟨⟨e1, e2, e3, e4, e6⟩, ⟨_, e5, World.ownsRow_nil _ _ _ _⟩, Nat.le_refl _, hK4⟩, hB4⟩
   ?a1' ?assign' ?body' ?done' ?stop'
  case assign' =>
   intro l x W K hK;dsimp only [encBwR]
   gi_wp2
   exact hK
  case body' =>
   rintro l pre ix W5 ⟨⟨⟨e1, e2, e3, e4, e6⟩, ⟨v, e7, e8⟩, e9, e10⟩, hB5⟩ hpl;have hix := ix.2;have hixU : ix.1 < U.length := by have := HHL.out; omega
   have hget : (H[ix.1]?).getD 0 = H[ix.1] := by rw [List.getElem?_eq_getElem hix]; rfl
   have hsn := logTo_snoc U H z (pre.map Subtype.val) ix.1;have hlen := logTo_len U H z (pre.map Subtype.val);rw [List.length_map] at hlen;have hsz := logTo_Sz (U := U) hk HHS.out HZS.out (pre.map Subtype.val);have HMP : Hid ((pre ++ [ix]).map Subtype.val = pre.map Subtype.val ++ [ix.1]) := by unfold Hid; rw [List.map_append]; rfl
   unfold logStep at hsn;rw [hget] at hsn;have hhz := HHS.out _ (List.getElem_mem hix);obtain ⟨st, tp, hst⟩ : ∃ st tp, logTo U H z (pre.map Subtype.val) = (st, tp) := ⟨_, _, rfl⟩;rw [hst] at e6 e8 hsn hlen hsz;dsimp only at e6 e8 hsn hlen hsz;have HST := hid hst;have HSN := hid hsn;rw [hget];generalize H[ix.1] = hq at *;have HCM : Hid (∀ w', Good w' -> _) := fun w' hg' => ratCompare_any hq tp k hk (by omega) hhz hsz w' hg'
   have HS1 : Hid (∀ w', Good w' -> _) := fun w' hg' => ratSub_any z tp k hk (by omega) HZS.out hsz w' hg'
   have HS2 : Hid (∀ w', Good w' -> _) := fun w' hg' => ratSub_any z hq k hk (by omega) HZS.out hhz w' hg'
   have HK1 : Hid (∀ w', Good w' -> _) := fun w' hg' => ratChk_ok (z - tp) ((HZS.out.sub hsz).mono (by omega)) w' hg'
   have HK2 : Hid (∀ w', Good w' -> _) := fun w' hg' => ratChk_ok (z - hq) ((HZS.out.sub hhz).mono (by omega)) w' hg'
   have t0 := e6.cell 0 rfl;have hg5 := hg.below hB5;have hl6 := e6.lt;clear hst hsn hget;gi_wp2_with fail;refine ⟨trivial, by intro; omega, ?_⟩;refine CallsIn.mono (CallsIn.inRound l (callsIn_wide.2 (HCM.out W5 hg5))) ?_;rintro e W6 ⟨_, rfl, rfl, hb6⟩;have hB6 := hB5.trans (hb6.mono hB5.size);have hs6 := hb6.size;have hko6 := keepsOthers_below hb6;have hD6 := (Array.getElem?_eq_some_iff.1 e10).1;replace e10 : W6.heap[D]? = _ := (hb6.block D hD6).trans e10;replace e1 := e1.below hb6 e1.lt;replace e2 := e2.below hb6 e2.lt;replace e3 := e3.below hb6 e3.lt;replace e4 := e4.below hb6 e4.lt;replace e6 := e6.below hb6 e6.lt;replace e7 := e7.below hb6 e7.lt;replace e8 := World.ownsRow.belowAll e8 hb6;have hke6 : Keep2 g W.heap.size W5 W6 := ⟨hb6.block _ (by omega), hb6.block _ (by omega)⟩;clear HCM t0;by_cases hlt : hq < tp
   ·have hc0 : cmpQ hq tp = -1 := by unfold cmpQ; rw [if_pos hlt]
    have hc1 : decide (0 <= cmpQ hq tp) = false := decide_eq_false (by omega);have HSN2 : Hid (logTo U H z ((pre ++ [ix]).map Subtype.val) = (st ++ [⟨U[ix.1]?.getD ⟨#[]⟩, z - tp, z - hq⟩], hq)) := by
     unfold Hid; rw [HMP.out, HSN.out, if_pos hlt]
    generalize cmpQ hq tp = cz at *;clear HSN hlt;gi_wp2_with fail;obtain ⟨bu, ou, cu', hve, hbu, hcu, hcells'⟩ := HU.out.cells (by omega);injection hve with hv1 hv2 hv3
    subst hv1 hv3;have hun : U[ix.1]?.getD ⟨#[]⟩ = U[ix.1] := by rw [List.getElem?_eq_getElem hixU]; rfl
    have HUN2 := hid hun;have xu := hcells' ix.1 hixU;generalize U[ix.1] = un at *;have hiz : (ix.1 : Int) < (U.length : Int) := by omega
    have HKA : Hid (∀ X, Below W6.heap.size W6 X -> X.cell? ⟨w.heap.size + 1, 1, none⟩ = some (.slice (some ⟨bu, ou, none⟩) U.length cu) /\ X.cell? ⟨bu, ou + ix.1, none⟩ = some (.string un) /\ X.cell? ⟨w.heap.size + 2, 2, none⟩ = some (.string (RS z)) /\ X.cell? ⟨a + 1, 0, none⟩ = some (.string (RS tp))) := fun X hb =>
     ⟨(e1.below hb e1.lt).cell 1 rfl, ((hB6.trans (hb.mono hB6.size)).cell (p := ⟨bu, ou + ix.1, none⟩) hbu).trans xu, (e2.below hb e2.lt).cell 2 rfl, (e6.below hb e6.lt).cell 0 rfl⟩
    have HGX : Hid (∀ X, Below W6.heap.size W6 X -> Good X) := fun X hb => hg.below (hB6.trans (hb.mono hB6.size));clear hcells' xu hun;refine wpIn_region_drawnA (fun i v => match i with
     | 0 => v = .pointer (some ⟨w.heap.size + 1, 1, none⟩) | 1 => v = .slice (some ⟨bu, ou, none⟩) U.length cu | 2 => v = .int .i64 (ix.1 : Int) | 3 => v = .pointer (some ⟨bu, ou + ix.1, none⟩) | 4 => v = .string un | 5 => v = .pointer (some ⟨w.heap.size + 2, 2, none⟩) | 6 => v = .string (RS z) | 7 => v = .string (RS tp) | 8 => v = .string (RS (z - tp)) | 9 => v = .pointer (some ⟨w.heap.size + 2, 2, none⟩) | 10 => v = .string (RS z) | 11 => v = .string (RS hq) | 12 => v = .string (RS (z - hq)) | 13 => v = .agg #[.string un, .string (RS (z - tp)), .string (RS (z - hq))] | 14 => ∃ b, v = .pointer (some ⟨b, 0, none⟩) | _ => v = undef)
     (C14 W6 [.string un, .string (RS (z - tp)), .string (RS (z - hq))]) (by kernel_rfl) (by kernel_rfl) ⟨below_drewN W6 1, fun h => by simp at h⟩ ?_ ?_
    ·intro listed a' X i o ho hk1 hdep hD hC
     have hne := getD_ne listed;obtain ⟨x1, xU, x2, x3⟩ := HKA.out X hC.1;have hgX := HGX.out X hC.1;have o4 : a'.eval (.tmp 4) = .pointer (some ⟨w.heap.size + 1, 0, none⟩) := hD.old 4 (by intro j oj hj; rcases j with _|_|_|_|_|_|_|_|_|_|_|_|_|_|_|_|j <;> first | (injection hj with hj; subst hj; simp) | exact absurd hj (by simp));have o5 : a'.eval (.tmp 5) = .pointer (some ⟨w.heap.size + 2, 0, none⟩) := hD.old 5 (by intro j oj hj; rcases j with _|_|_|_|_|_|_|_|_|_|_|_|_|_|_|_|j <;> first | (injection hj with hj; subst hj; simp) | exact absurd hj (by simp));have o10 : a'.eval (.tmp 10) = .pointer (some ⟨a + 1, 0, none⟩) := hD.old 10 (by intro j oj hj; rcases j with _|_|_|_|_|_|_|_|_|_|_|_|_|_|_|_|j <;> first | (injection hj with hj; subst hj; simp) | exact absurd hj (by simp));have o14 : a'.eval (.tmp 14) = .int .i64 (ix.1 : Int) := hD.old 14 (by intro j oj hj; rcases j with _|_|_|_|_|_|_|_|_|_|_|_|_|_|_|_|j <;> first | (injection hj with hj; subst hj; simp) | exact absurd hj (by simp));have o15 : a'.eval (.tmp 15) = .string (RS hq) := hD.old 15 (by intro j oj hj; rcases j with _|_|_|_|_|_|_|_|_|_|_|_|_|_|_|_|j <;> first | (injection hj with hj; subst hj; simp) | exact absurd hj (by simp));rcases i with _|_|_|_|_|_|_|_|_|_|_|_|_|_|_|_|i
     ·injection ho with ho; subst ho
      refine ⟨rfl, wpIn_value (w' := X) (by intro c hc; cases hc) (by intro c hc; cases hc) ?_ ⟨_, rfl, rfl, hC.put (Below.refl _ _) 0 48 _ (by decide) (by decide) (by decide)⟩⟩;clear hdep hD hne hC;generalize a'.eval = ρ at *;simp [execOp, go_sem, *]
     ·injection ho with ho; subst ho
      have e48 : a'.eval (.tmp 48) = .pointer (some ⟨w.heap.size + 1, 1, none⟩) := hD.has 0 _ 48 rfl rfl (hdep ⟨0, .data⟩ (by simp) rfl);refine ⟨rfl, wpIn_value (w' := X) (by intro c hc; cases hc) (by intro c hc; cases hc) ?_ ⟨_, rfl, rfl, hC.put (Below.refl _ _) 1 49 _ (by decide) (by decide) (by decide)⟩⟩;clear hdep hD hne hC;generalize a'.eval = ρ at *;simp [execOp, go_sem, *]
     ·injection ho with ho; subst ho
      refine ⟨rfl, wpIn_value (w' := X) (by intro c hc; cases hc) (by intro c hc; cases hc) ?_ ⟨_, rfl, rfl, hC.put (Below.refl _ _) 2 50 _ (by decide) (by decide) (by decide)⟩⟩;clear hdep hD hne hC;generalize a'.eval = ρ at *;simp [execOp, go_sem, *]
     ·injection ho with ho; subst ho
      have e49 : a'.eval (.tmp 49) = .slice (some ⟨bu, ou, none⟩) U.length cu := hD.has 1 _ 49 rfl rfl (hdep ⟨1, .data⟩ (by simp) rfl);have e50 : a'.eval (.tmp 50) = .int .i64 (ix.1 : Int) := hD.has 2 _ 50 rfl rfl (hdep ⟨2, .data⟩ (by simp) rfl);refine ⟨rfl, wpIn_value (w' := X) (by intro c hc; cases hc) (by intro c hc; cases hc) ?_ ⟨_, rfl, rfl, hC.put (Below.refl _ _) 3 51 _ (by decide) (by decide) (by decide)⟩⟩;clear hdep hD hne hC;generalize a'.eval = ρ at *;simp [execOp, go_sem, *]
     ·injection ho with ho; subst ho
      have e51 : a'.eval (.tmp 51) = .pointer (some ⟨bu, ou + ix.1, none⟩) := hD.has 3 _ 51 rfl rfl (hdep ⟨3, .data⟩ (by simp) rfl);refine ⟨rfl, wpIn_value (w' := X) (by intro c hc; cases hc) (by intro c hc; cases hc) ?_ ⟨_, rfl, rfl, hC.put (Below.refl _ _) 4 52 _ (by decide) (by decide) (by decide)⟩⟩;clear hdep hD hne hC;generalize a'.eval = ρ at *;simp [execOp, go_sem, *]
     ·injection ho with ho; subst ho
      refine ⟨rfl, wpIn_value (w' := X) (by intro c hc; cases hc) (by intro c hc; cases hc) ?_ ⟨_, rfl, rfl, hC.put (Below.refl _ _) 5 53 _ (by decide) (by decide) (by decide)⟩⟩;clear hdep hD hne hC;generalize a'.eval = ρ at *;simp [execOp, go_sem, *]
     ·injection ho with ho; subst ho
      have e53 : a'.eval (.tmp 53) = .pointer (some ⟨w.heap.size + 2, 2, none⟩) := hD.has 5 _ 53 rfl rfl (hdep ⟨5, .data⟩ (by simp) rfl);refine ⟨rfl, wpIn_value (w' := X) (by intro c hc; cases hc) (by intro c hc; cases hc) ?_ ⟨_, rfl, rfl, hC.put (Below.refl _ _) 6 54 _ (by decide) (by decide) (by decide)⟩⟩;clear hdep hD hne hC;generalize a'.eval = ρ at *;simp [execOp, go_sem, *]
     ·injection ho with ho; subst ho
      refine ⟨rfl, wpIn_value (w' := X) (by intro c hc; cases hc) (by intro c hc; cases hc) ?_ ⟨_, rfl, rfl, hC.put (Below.refl _ _) 7 55 _ (by decide) (by decide) (by decide)⟩⟩;clear hdep hD hne hC;generalize a'.eval = ρ at *;simp [execOp, go_sem, *]
     ·injection ho with ho; subst ho
      have e54 : a'.eval (.tmp 54) = .string (RS z) := hD.has 6 _ 54 rfl rfl (hdep ⟨6, .data⟩ (by simp) rfl);have e55 : a'.eval (.tmp 55) = .string (RS tp) := hD.has 7 _ 55 rfl rfl (hdep ⟨7, .data⟩ (by simp) rfl);refine ⟨rfl, wpIn_call (f := 32) (args := #[.string (RS z), .string (RS tp)]) (w' := X) (by intro c hc; cases hc) (fun _ _ => trivial) ?_ ⟨fun _ => by omega, ?_⟩⟩
      ·have ef : a'.eval (.func 32) = .func (.func 32) #[] #[] := rfl
       clear hdep hD hne hC;generalize a'.eval = ρ at *;simp [execOp, go_sem, *]
      ·refine CallsIn.mono (CallsIn.inRound l (callsIn_wide.2 (HS1.out X hgX))) ?_
       rintro e X2 ⟨_, rfl, rfl, hbX⟩;exact ⟨_, rfl, _, rfl, rfl, hC.put hbX 8 56 _ (by decide) (by decide) (by decide)⟩
     ·injection ho with ho; subst ho
      refine ⟨rfl, wpIn_value (w' := X) (by intro c hc; cases hc) (by intro c hc; cases hc) ?_ ⟨_, rfl, rfl, hC.put (Below.refl _ _) 9 57 _ (by decide) (by decide) (by decide)⟩⟩;clear hdep hD hne hC;generalize a'.eval = ρ at *;simp [execOp, go_sem, *]
     ·injection ho with ho; subst ho
      have e57 : a'.eval (.tmp 57) = .pointer (some ⟨w.heap.size + 2, 2, none⟩) := hD.has 9 _ 57 rfl rfl (hdep ⟨9, .data⟩ (by simp) rfl);refine ⟨rfl, wpIn_value (w' := X) (by intro c hc; cases hc) (by intro c hc; cases hc) ?_ ⟨_, rfl, rfl, hC.put (Below.refl _ _) 10 58 _ (by decide) (by decide) (by decide)⟩⟩;clear hdep hD hne hC;generalize a'.eval = ρ at *;simp [execOp, go_sem, *]
     ·injection ho with ho; subst ho
      refine ⟨rfl, wpIn_value (w' := X) (by intro c hc; cases hc) (by intro c hc; cases hc) ?_ ⟨_, rfl, rfl, hC.put (Below.refl _ _) 11 59 _ (by decide) (by decide) (by decide)⟩⟩;clear hdep hD hne hC;generalize a'.eval = ρ at *;simp [execOp, go_sem, *]
     ·injection ho with ho; subst ho
      have e58 : a'.eval (.tmp 58) = .string (RS z) := hD.has 10 _ 58 rfl rfl (hdep ⟨10, .data⟩ (by simp) rfl);have e59 : a'.eval (.tmp 59) = .string (RS hq) := hD.has 11 _ 59 rfl rfl (hdep ⟨11, .data⟩ (by simp) rfl);refine ⟨rfl, wpIn_call (f := 32) (args := #[.string (RS z), .string (RS hq)]) (w' := X) (by intro c hc; cases hc) (fun _ _ => trivial) ?_ ⟨fun _ => by omega, ?_⟩⟩
      ·have ef : a'.eval (.func 32) = .func (.func 32) #[] #[] := rfl
       clear hdep hD hne hC;generalize a'.eval = ρ at *;simp [execOp, go_sem, *]
      ·refine CallsIn.mono (CallsIn.inRound l (callsIn_wide.2 (HS2.out X hgX))) ?_
       rintro e X2 ⟨_, rfl, rfl, hbX⟩;exact ⟨_, rfl, _, rfl, rfl, hC.put hbX 12 60 _ (by decide) (by decide) (by decide)⟩
     ·injection ho with ho; subst ho
      have e52 : a'.eval (.tmp 52) = .string un := hD.has 4 _ 52 rfl rfl (hdep ⟨4, .data⟩ (by simp) rfl);have e56 : a'.eval (.tmp 56) = .string (RS (z - tp)) := hD.has 8 _ 56 rfl rfl (hdep ⟨8, .data⟩ (by simp) rfl);have e60 : a'.eval (.tmp 60) = .string (RS (z - hq)) := hD.has 12 _ 60 rfl rfl (hdep ⟨12, .data⟩ (by simp) rfl);refine ⟨rfl, wpIn_value (w' := X) (by intro c hc; cases hc) (by intro c hc; cases hc) ?_ ⟨_, rfl, rfl, hC.put (Below.refl _ _) 13 61 _ (by decide) (by decide) (by decide)⟩⟩;clear hdep hD hne hC;generalize a'.eval = ρ at *;simp [execOp, go_sem, *]
     ·injection ho with ho; subst ho
      have h15 : listed.getD 15 false = false := Bool.eq_false_iff.2 fun h => by
       have h5 := hD.closed 15 _ rfl h ⟨14, .data⟩ (by simp) rfl;rw [getD_false hk1] at h5; cases h5
      refine ⟨rfl, wpIn_value (v := .pointer (some ⟨X.heap.size, 0, none⟩)) (w' := X.alloc (.cells #[.string ⟨#[]⟩, .string ⟨#[]⟩, .string ⟨#[]⟩] 79)) (by intro c hc; cases hc) (by intro c hc; cases hc) ?_ ⟨_, ⟨_, rfl⟩, rfl, hC.1.alloc hC.1.size _, fun _ => ⟨X.heap.size, hC.1.size, eval_put_self (by rw [hD.tsize]; simp), ?_⟩⟩⟩
      ·clear hdep hD hne hC
       generalize a'.eval = ρ at *;simp [execOp, go_sem, *]
      ·rw [hne 14 15 (by decide), h15, if_neg (by decide)]
       exact BoxN.new X #[.string ⟨#[]⟩, .string ⟨#[]⟩, .string ⟨#[]⟩] _ _ rfl
     ·injection ho with ho; subst ho
      have e61 : a'.eval (.tmp 61) = .agg #[.string un, .string (RS (z - tp)), .string (RS (z - hq))] := hD.has 13 _ 61 rfl rfl (hdep ⟨13, .data⟩ (by simp) rfl);obtain ⟨b, hb1, hb2, hb3⟩ := hC.2 (hdep ⟨14, .data⟩ (by simp) rfl);rw [getD_false hk1, if_neg (by decide)] at hb3;have y0 := hb3.cell 0 rfl;have y1 := hb3.cell 1 rfl;have y2 := hb3.cell 2 rfl;have z0 := hb3.frozen 0;have z1 := hb3.frozen 1;have z2 := hb3.frozen 2;refine ⟨rfl, wpIn_skip' (w' := ((X.setCell ⟨b, 0, none⟩ (.string un)).setCell ⟨b, 1, none⟩ (.string (RS (z - tp)))).setCell ⟨b, 2, none⟩ (.string (RS (z - hq)))) (by intro c hc; cases hc) (by intro c hc; cases hc) ?_ ⟨_, rfl, rfl, ((hC.1.setCell (p := ⟨b, 0, none⟩) hb1 _).setCell (p := ⟨b, 1, none⟩) hb1 _).setCell (p := ⟨b, 2, none⟩) hb1 _, fun _ => ⟨b, hb1, hb2, ?_⟩⟩⟩
      ·clear hdep hD hne hC
       generalize a'.eval = ρ at *;simp [execOp, go_sem, *]
      ·rw [getD_now hk1, if_pos rfl]
       exact ((hb3.set 0 _).set 1 _).set 2 _
     ·exact absurd ho (by simp)
    ·intro listed a' X hall hD hC
     obtain ⟨bi, hbi1, hbi2, hbi3⟩ := hC.2 (hall 14 (by simp));rw [hall 15 (by simp), if_pos rfl] at hbi3;have hB7 := hC.1;have hact := act_of a' [(48, .pointer (some ⟨w.heap.size + 1, 1, none⟩)), (49, .slice (some ⟨bu, ou, none⟩) U.length cu), (50, .int .i64 (ix.1 : Int)), (51, .pointer (some ⟨bu, ou + ix.1, none⟩)), (52, .string un), (53, .pointer (some ⟨w.heap.size + 2, 2, none⟩)), (54, .string (RS z)), (55, .string (RS tp)), (56, .string (RS (z - tp))), (57, .pointer (some ⟨w.heap.size + 2, 2, none⟩)), (58, .string (RS z)), (59, .string (RS hq)), (60, .string (RS (z - hq))), (61, .agg #[.string un, .string (RS (z - tp)), .string (RS (z - hq))]), (16, .pointer (some ⟨bi, 0, none⟩))] _ hD.tsize hD.defers (fun s hs => hD.old s (by
      simp at hs;intro j oj hj; rcases j with _|_|_|_|_|_|_|_|_|_|_|_|_|_|_|_|j <;> first | (injection hj with hj; subst hj; simp; omega) | (injection hj with hj; subst hj; simp; done) | exact absurd hj (by simp))) ?_ (by simp)
     rotate_left
     ·intro p hp
      simp only [List.mem_cons, List.not_mem_nil, or_false] at hp;rcases hp with rfl|rfl|rfl|rfl|rfl|rfl|rfl|rfl|rfl|rfl|rfl|rfl|rfl|rfl|rfl
      ·exact hD.has 0 _ 48 rfl rfl (hall 0 (by simp))
      ·exact hD.has 1 _ 49 rfl rfl (hall 1 (by simp))
      ·exact hD.has 2 _ 50 rfl rfl (hall 2 (by simp))
      ·exact hD.has 3 _ 51 rfl rfl (hall 3 (by simp))
      ·exact hD.has 4 _ 52 rfl rfl (hall 4 (by simp))
      ·exact hD.has 5 _ 53 rfl rfl (hall 5 (by simp))
      ·exact hD.has 6 _ 54 rfl rfl (hall 6 (by simp))
      ·exact hD.has 7 _ 55 rfl rfl (hall 7 (by simp))
      ·exact hD.has 8 _ 56 rfl rfl (hall 8 (by simp))
      ·exact hD.has 9 _ 57 rfl rfl (hall 9 (by simp))
      ·exact hD.has 10 _ 58 rfl rfl (hall 10 (by simp))
      ·exact hD.has 11 _ 59 rfl rfl (hall 11 (by simp))
      ·exact hD.has 12 _ 60 rfl rfl (hall 12 (by simp))
      ·exact hD.has 13 _ 61 rfl rfl (hall 13 (by simp))
      ·exact hbi2
     rw [hact];clear hact hall hD hC hbi2;simp only [List.foldl_cons, List.foldl_nil, Act.put, List.setIfInBounds_toArray, List.set_cons_zero, List.set_cons_succ];have hg7 := HGX.out X hB7;have hB7w := hB6.trans (hB7.mono hB6.size);have hs7 := hB7.size;have i1 := hbi3.cell 1 rfl;have i2' := hbi3.cell 2 rfl;clear HKA HGX HS1 HS2;gi_wp2_with fail;refine ⟨trivial, by intro; omega, ?_⟩;refine CallsIn.mono (CallsIn.inRound l (callsIn_wide.2 (HK1.out X hg7))) ?_;rintro e X2 ⟨_, rfl, rfl, hbX⟩;have hbi4 := hbi3.below hbX hbi3.lt;have hB8 := hB7.trans (hbX.mono hB7.size);have hs8 := hbX.size;have i3 := hbi4.cell 2 rfl;clear hbX i1 i2' hbi3;gi_wp2_with fail;refine ⟨trivial, by intro; omega, ?_⟩;refine CallsIn.mono (CallsIn.inRound l (callsIn_wide.2 (HK2.out X2 (hg.below (hB6.trans (hB8.mono hB6.size)))))) ?_;rintro e X3 ⟨_, rfl, rfl, hbX⟩;have hbi5 := hbi4.below hbX hbi4.lt;have hB9 := hB8.trans (hbX.mono hB8.size);have hs9 := hbX.size;clear hbX i3 hbi4;have hB9w := hB6.trans (hB9.mono hB6.size);have f1 := e1.below hB9 e1.lt;have f2 := e2.below hB9 e2.lt;have f3 := e3.below hB9 e3.lt;have f4 := e4.below hB9 e4.lt;have f6 := e6.below hB9 e6.lt;have f7 := e7.below hB9 e7.lt;have f8 := World.ownsRow.belowAll e8 hB9;have f10 : X3.heap[D]? = _ := (hB9.block D (Array.getElem?_eq_some_iff.1 e10).1).trans e10;obtain ⟨pv, cv', rfl⟩ := ownsRow_shape f8;obtain ⟨N, hN⟩ : ∃ N, N = X3.alloc (.cells #[.string un, .string (RS (z - tp)), .string (RS (z - hq))] 79) := ⟨_, rfl⟩;have j0 := hbi5.cell 0 rfl;have j1 := hbi5.cell 1 rfl;have j2 := hbi5.cell 2 rfl;have j7 := f7.cell 0 rfl;have f7a := f7.alloc (.cells #[.string un, .string (RS (z - tp)), .string (RS (z - hq))] 79);have f8a := f8.alloc (.cells #[.string un, .string (RS (z - tp)), .string (RS (z - hq))] 79);have nDS := owns_boxN f8a f7a (by decide);have hl6 := f6.lt;have hstl : st.length <= 1000 := by have := HHL.out; omega
     gi_wp2_with (gi_at_builtin; refine wpListIn_append_own _ rfl _ _ 71 rfl W4.heap.size 79 i2 (.agg #[.string ⟨#[]⟩, .string ⟨#[]⟩, .string ⟨#[]⟩]) 3 48 Tryz.underlying71 hi2 hw0 hw1 hw2 rfl (by decide) _ _ _ rfl f8a ⟨X3.heap.size, 0, none⟩ 1 1 [.string un, .string (RS (z - tp)), .string (RS (z - hq))] rfl rfl (cell_three _ _ _ _ _) (by intro u hu; simp at hu; rcases hu with rfl | rfl | rfl <;> rfl) (by unfold maxLen; omega) (by omega) (by simp; omega) ?_
                  intro v8 w8 h8 hg8 _;have r7 := f7a.gb hg8 (fun e => nDS e.symm);have y0 := r7.cell 0 rfl;have y0f := r7.frozen 0;have r6 := (f6.alloc (.cells #[.string un, .string (RS (z - tp)), .string (RS (z - hq))] 79)).gb hg8 (fun e => owns_boxN f8a (f6.alloc (.cells #[.string un, .string (RS (z - tp)), .string (RS (z - hq))] 79)) (by decide) e.symm);have y6 := r6.cell 0 rfl;have y6f := r6.frozen 0;obtain ⟨p8, c8, rfl⟩ := ownsRow_shape h8)
     have hs10 := hg8.size;simp at hs10;have hbl : ∀ j, j < X3.heap.size -> (∀ r, (Value.slice pv st.length cv').ownBlock = some r -> j ≠ r) -> j ≠ a -> j ≠ a + 1 -> ((w8.setCell ⟨a, 0, none⟩ (.slice p8 (st.length + 1) c8)).setCell ⟨a + 1, 0, none⟩ (.string (RS hq))).heap[j]? = X3.heap[j]? := fun j hj hr hn1 hn2 => by
      rw [Below.heap_setCell _ _ _ j (fun e => hn2 e), Below.heap_setCell _ _ _ j (fun e => hn1 e), hg8.block j (by simp; omega) (fun e => hr j e.symm rfl)];exact heap_old _ _ _ hj
     have hlo : ∀ j, j < W4.heap.size -> ∀ r, (Value.slice pv st.length cv').ownBlock = some r -> j ≠ r := fun j hj r hr => by have := (f8.lt r hr).1; omega
     have hKO : KeepsOthers X3 ((w8.setCell ⟨a, 0, none⟩ (.slice p8 (st.length + 1) c8)).setCell ⟨a + 1, 0, none⟩ (.string (RS hq))) := ⟨by simp; omega, fun j o hj ho => by
      have hjl := (Array.getElem?_eq_some_iff.1 hj).1;refine (hbl j hjl (fun r hr e => ?_) (fun e => ?_) (fun e => ?_)).trans hj
      ·subst e
       rcases f8.2 with ⟨h0, _⟩ | ⟨g', cap, cur, h0, hb, hgc, _⟩
       ·rw [h0] at hr; cases hr
       ·injection h0 with h0 _ _
        rw [h0] at hr;cases hr;rw [hgc] at hj;cases hj;cases ho
      ·subst e
       unfold BoxN at f7;rw [f7] at hj;cases hj;cases ho
      ·subst e
       unfold BoxN at f6;rw [f6] at hj;cases hj;cases ho⟩
     have hl1 := f1.lt;have hl2 := f2.lt;have hl3 := f3.lt;have hl4 := f4.lt;have r7' := boxK_far28 (i := 0) (v := .string (RS hq)) (r7.set 0 (.slice p8 (st.length + 1) c8)) (show a ≠ a + 1 by omega);have r6' := (boxK_far28 (i := 0) (v := .slice p8 (st.length + 1) c8) r6 (show a + 1 ≠ a by omega)).set 0 (.string (RS hq));have h9 := World.ownsRow.kept h8 (gb_set (gb_refl w8 (some a)) 0 (.slice p8 (st.length + 1) c8)) (.inr (fun e => owns_boxN h8 r7 (by decide) e.symm));have r6m := boxK_far28 (i := 0) (v := .slice p8 (st.length + 1) c8) r6 (show a + 1 ≠ a by omega);have h10 := World.ownsRow.kept h9 (gb_set (gb_refl _ (some (a + 1))) 0 (.string (RS hq))) (.inr (fun e => owns_boxN h9 r6m (by decide) e.symm));have hDl6 := (Array.getElem?_eq_some_iff.1 f10).1;have hB10 : Below w.heap.size w ((w8.setCell ⟨a, 0, none⟩ (.slice p8 (st.length + 1) c8)).setCell ⟨a + 1, 0, none⟩ (.string (RS hq))) := (((hB9w.alloc hB9w.size (.cells #[.string un, .string (RS (z - tp)), .string (RS (z - hq))] 79)).grown hg8 (by have := hB9w.size; simp; omega) (fun j hj => by have := (f8a.lt j hj).1; omega)).setCell (p := ⟨a, 0, none⟩) (by show w.heap.size <= a; omega) _).setCell (p := ⟨a + 1, 0, none⟩) (by show w.heap.size <= a + 1; omega) _;have hk2g : Keep2 g W.heap.size W6 ((w8.setCell ⟨a, 0, none⟩ (.slice p8 (st.length + 1) c8)).setCell ⟨a + 1, 0, none⟩ (.string (RS hq))) := ⟨(hbl g (by omega) (hlo g (by omega)) (by omega) (by omega)).trans (hB9.block _ (by omega)), (hbl _ (by omega) (hlo _ (by omega)) (by omega) (by omega)).trans (hB9.block _ (by omega))⟩;refine ⟨(hko6.trans (keepsOthers_below hB9)).trans hKO, hke6.trans hk2g, ⟨⟨⟨(hbl _ hl1 (hlo _ (by omega)) (by omega) (by omega)).trans f1, (hbl _ hl2 (hlo _ (by omega)) (by omega) (by omega)).trans f2, (hbl _ hl3 (hlo _ (by omega)) (by omega) (by omega)).trans f3, (hbl _ hl4 (hlo _ (by omega)) (by omega) (by omega)).trans f4, ?_⟩, ⟨.slice p8 (st.length + 1) c8, ?_, ?_⟩, by simp; omega, (hbl D hDl6 (hlo D (by omega)) (by omega) (by omega)).trans f10⟩, hB10⟩⟩
     ·rw [HSN2.out]; exact r6'
     ·exact r7'
     ·rw [HSN2.out]
      show World.ownsRow _ _ _ _ _ (st ++ [_]).length (cellsIv (st ++ [_]));rw [cellsIv_snoc, List.length_append, HUN2.out];exact h10
   ·have hc0 : 0 <= cmpQ hq tp := by unfold cmpQ; rw [if_neg hlt]; split <;> omega
    have hc1 : decide (0 <= cmpQ hq tp) = true := decide_eq_true hc0;have HSN2 : Hid (logTo U H z ((pre ++ [ix]).map Subtype.val) = (st, tp)) := by
     unfold Hid; rw [HMP.out, HSN.out, if_neg hlt]
    generalize cmpQ hq tp = cz at *;clear HSN hlt;gi_wp2_with fail;refine ⟨hko6, hke6, ⟨⟨⟨e1, e2, e3, e4, ?_⟩, ⟨v, e7, ?_⟩, by omega, e10⟩, hB6⟩⟩
    ·rw [HSN2.out]; exact e6
    ·rw [HSN2.out]; exact e8
  case done' =>
   rintro D2 ys W5 hD2 hys ⟨⟨⟨e1, e2, e3, e4, e6⟩, ⟨v, e7, e8⟩, e9, e10⟩, hB5⟩ hK2;rw [hys] at e8;have HLL : Hid ((logTo U H z (bwd H.length H.length)).1 = logL U H z) := rfl;rw [HLL.out] at e8;obtain ⟨pv, cv', rfl⟩ := ownsRow_shape e8;have x0 := e7.cell 0 rfl;have y3 := e3.cell 0 rfl;have y3f := e3.frozen 0;have y4 := e4.cell 0 rfl;have y4f := e4.frozen 0;have hl3 := e3.lt;have hl4 := e4.lt;have hDl5 := (Array.getElem?_eq_some_iff.1 hK2).1;clear hys;gi_wp2_with fail;have hKs : ∀ E : Nat, E ≠ w.heap.size + 3 -> E ≠ w.heap.size + 4 -> ((W5.setCell ⟨w.heap.size + 3, 0, none⟩ (.slice pv (logL U H z).length cv')).setCell ⟨w.heap.size + 4, 0, none⟩ (.int .i64 0)).heap[E]? = W5.heap[E]? := fun E n1 n2 => by
    rw [Below.heap_setCell _ _ _ E (fun e => n2 e), Below.heap_setCell _ _ _ E (fun e => n1 e)]
   have r3 := boxK_far28 (i := 0) (v := .int .i64 0) (e3.set 0 (.slice pv (logL U H z).length cv')) (show w.heap.size + 3 ≠ w.heap.size + 4 by omega);have r4 := (boxK_far28 (i := 0) (v := .slice pv (logL U H z).length cv') e4 (show w.heap.size + 4 ≠ w.heap.size + 3 by omega)).set 0 (.int .i64 0);have o1 := World.ownsRow.kept e8 (gb_set (gb_refl W5 (some (w.heap.size + 3))) 0 (.slice pv (logL U H z).length cv')) (.inr (fun e => by have := (e8.lt _ e).1; omega));have o2 := World.ownsRow.kept o1 (gb_set (gb_refl _ (some (w.heap.size + 4))) 0 (.int .i64 0)) (.inr (fun e => by have := (e8.lt _ e).1; omega));have hBs := (hB5.setCell (p := ⟨w.heap.size + 3, 0, none⟩) (by show w.heap.size <= w.heap.size + 3; omega) (.slice pv (logL U H z).length cv')).setCell (p := ⟨w.heap.size + 4, 0, none⟩) (by show w.heap.size <= w.heap.size + 4; omega) (.int .i64 0);have hDD : D ≠ D2 := by omega
   have hsz5 : w2.heap.size <= W5.heap.size := by omega
   refine leaves_marks (B := w2.heap.size) ⟨[D2, D], rfl, (by simp; omega), fun E hE => by
    rcases List.mem_cons.1 hE with rfl | hE
    ·exact ⟨by omega, (hKs _ (by omega) (by omega)).trans hK2⟩
    ·rw [List.mem_singleton] at hE; subst hE; exact ⟨hD, (hKs _ (by omega) (by omega)).trans e10⟩⟩ fun w' hw' => ?_
   have q3 : BoxN w' (w.heap.size + 3) 71 [.slice pv (logL U H z).length cv'] := (hw'.block _ (.inl (by omega)) r3.lt).trans r3;have q4 : BoxN w' (w.heap.size + 4) 51 [.int .i64 0] := (hw'.block _ (.inl (by omega)) r4.lt).trans r4;have k3 := q3.cell 0 rfl;have k4 := q4.cell 0 rfl;refine ⟨.tuple #[.slice pv (logL U H z).length cv', .int .i64 0], by simp [results, Tryz.results28, go_sem, k3, k4], ?_⟩;refine ⟨_, rfl, ⟨_, rfl, ownsRow_base (owns_struck o2 hw') (by omega)⟩, hBs.trans ((hw'.below (by simpa using hsz5)).mono (by omega))⟩
  case stop' =>
   rintro D c pre W hD hSp h hK;exact h.elim
 case stop =>
  rintro D c pre W hD hSp h hK;exact h.elim
theorem log_ok (w : World) (hg : Good w) (pp pt pb pu ps : Option Addr) (np nt ns cp ct cb cu cs : Nat) (x y : ByteArray) (z : Rat) (U : List ByteArray) (H : List Rat) (hH : H.length = U.length) (hU0 : 0 < U.length) (hU1 : U.length <= 1000) (hU : RdS w (.slice pu U.length cu) U)
 (k : Nat) (hk : 0 < k) (hk2 : k <= 90) (hHs : ∀ q ∈ H, Sz k q) (hzs : Sz k z) (fp : Nat -> Option Addr) (fc : Nat -> Nat)
 (HCP : Hid (∀ w', Below w.heap.size w w' -> Good w' -> Calls Tryz.prog 78 #[.agg #[.slice pp np cp, .slice pt nt ct], .agg #[.slice pb np cb, .slice pu U.length cu, .slice ps ns cs], .agg #[.string x, .string y, .string (RS z)]] w' (Ret (fun r _ => r = .int .i64 0) w')))
 (HSF : Hid (∀ i, i < U.length -> ∀ w', Below w.heap.size w w' -> Calls Tryz.prog 65 #[.agg #[.slice pb np cb, .slice pu U.length cu, .slice ps ns cs], .int .i64 (i : Int)] w' (Ret (fun r _ => r = .slice (fp i) np (fc i)) w')))
 (HVA : Hid (∀ i, i < U.length -> ∀ w', Below w.heap.size w w' -> Good w' -> Calls Tryz.prog 30 #[.agg #[.slice pp np cp, .slice pt nt ct], .slice (fp i) np (fc i), .agg #[.string x, .string y]] w' (Ret (fun r _ => r = .tuple #[.string (RS ((H[i]?).getD 0)), .int .i64 0]) w'))) :
 Calls Tryz.prog 28 #[.agg #[.slice pp np cp, .slice pt nt ct], .agg #[.slice pb np cb, .slice pu U.length cu, .slice ps ns cs], .agg #[.string x, .string y, .string (RS z)]] w (Ret (fun r w' => ∃ v, r = .tuple #[v, .int .i64 0] /\ w'.ownsRow w.heap.size 79 3 v (logL U H z).length (cellsIv (logL U H z))) w) :=
 callsIn_wide.1 (log_in 6 (by omega) w hg pp pt pb pu ps np nt ns cp ct cb cu cs x y z U H hH hU0 hU1 hU k hk hk2 hHs hzs fp fc HCP HSF HVA)
end Go.Proofs.YtgdpoankaojklaaGreatDoor
namespace Go.Proofs.YtgdpoankaojklaaGreatDoor
open Go.RowKit Go.Lib
def findE (U : List ByteArray) (n : Nat) (u : ByteArray) : Int := if idxS U u < 0 then 10 else if idxS U u = (n : Int) then 21 else 0
theorem sfind_any (w : World) (vp vt vb vu vs : Value) (P : List PtQ) (T : List Tri) (k : Nat) (B : List Rat) (U : List ByteArray) (S : List (List Rat)) (h : DepN w vp vt vb vu vs P T k B U S) (u : ByteArray) (hg : Good w) :
 Calls Tryz.prog 89 #[.agg #[vp, vt], .agg #[vb, vu, vs], .string u] w (Ret (fun r _ => r = .tuple #[.int .i64 (if findE U S.length u = 0 then idxS U u else 0), .int .i64 (findE U S.length u)]) w) := by
 have HCK : Hid (∀ w', Below w.heap.size w w' -> Good w' -> _) := fun w' hb hg' => scheck_any w' _ _ _ _ _ P T k _ U _ (h.below hb).toT hg';rw [h.ok] at HCK;have HIX : Hid (∀ w', Below w.heap.size w w' -> _) := fun w' hb => indexS_any _ U u w' (h.below hb).unit;obtain ⟨pp, cp, pt, ct, pb, cb, pu, cu, ps, cs, rfl, rfl, rfl, rfl, rfl⟩ := h.open;have HFE : Hid (findE U S.length u = _) := rfl;unfold findE at HFE;obtain ⟨fe, hfe⟩ : ∃ fe, fe = findE U S.length u := ⟨_, rfl⟩;have HF : Hid (fe = if idxS U u < 0 then 10 else if idxS U u = (S.length : Int) then 21 else 0) := by unfold Hid; rw [hfe]; rfl
 rw [<- hfe];generalize idxS U u = iz at *;obtain ⟨fi, hfi⟩ : ∃ fi, fi = if fe = 0 then iz else 0 := ⟨_, rfl⟩
 rw [<- hfi];have HFX := hid hfi;clear h HFE hfe hfi;go_enter Tryz.func89, Tryz.ntmps89;go_wp2_with fail;obtain ⟨W, hW⟩ : ∃ W, W = (w.alloc (.cells #[.slice pp P.length cp, .slice pt T.length ct] 37)).alloc (.cells #[.slice pb P.length cb, .slice pu U.length cu, .slice ps S.length cs] 43) := ⟨_, rfl⟩;have hB : Below w.heap.size w W := by rw [hW]; exact zal2 _ _ _
 have b4 : BoxN W (w.heap.size + 1) 43 [.slice pb P.length cb, .slice pu U.length cu, .slice ps S.length cs] := by rw [hW]; exact BoxN.new _ #[.slice pb P.length cb, .slice pu U.length cu, .slice ps S.length cs] _ _ (by simp)
 rw [<- hW];clear hW;refine (HCK.out W hB (hg.below hB)).mono ?_;rintro e w1 ⟨_, rfl, rfl, hb1⟩;have hB1 := hB.trans (hb1.mono hB.size);replace b4 := b4.below hb1 b4.lt;have d1 := b4.cell 1 rfl;clear hb1 hB;go_wp2_with fail;refine (HIX.out w1 hB1).mono ?_;rintro e w2 ⟨_, rfl, rfl, hb2⟩;have hB2 := hB1.trans (hb2.mono hB1.size);replace b4 := b4.below hb2 b4.lt;have d2 := b4.cell 2 rfl;clear hb2 hB1 d1;by_cases h0 : iz < 0
 ·have HR : Hid (fe = 10) := by unfold Hid; rw [HF.out, if_pos h0]
  go_wp2_with fail;go_ret2;exact ⟨_, rfl, by rw [HFX.out, HR.out]; rfl, hB2⟩
 ·by_cases h1 : iz = (S.length : Int)
  ·have HR : Hid (fe = 21) := by unfold Hid; rw [HF.out, if_neg h0, if_pos h1]
   have hb : (iz == (S.length : Int)) = true := by rw [beq_iff_eq]; exact h1
   clear h1;go_wp2_with fail;go_ret2;exact ⟨_, rfl, by rw [HFX.out, HR.out]; rfl, hB2⟩
  ·have HR : Hid (fe = 0) := by unfold Hid; rw [HF.out, if_neg h0, if_neg h1]
   have hb : (iz == (S.length : Int)) = false := by rw [beq_eq_false_iff_ne]; exact h1
   go_wp2_with fail;go_ret2;exact ⟨_, rfl, by rw [HFX.out, HR.out]; rfl, hB2⟩
theorem svolume_ok (w : World) (vp vt vb vu vs : Value) (P : List PtQ) (T : List Tri) (k : Nat) (B : List Rat) (U : List ByteArray) (S : List (List Rat)) (h : DepN w vp vt vb vu vs P T k B U S) (u : ByteArray) (i : Nat) (hi : i < S.length) (hiu : idxS U u = (i : Int)) (vol : Rat)
 (HEX : ∀ w' vf vg, FieldIn w' vp vt vf P T k S[i] -> FieldIn w' vp vt vg P T k (fldN B S i) -> Good w' -> Calls Tryz.prog 90 #[.agg #[vp, vt], vf, vg] w' (Ret (fun r _ => r = .tuple #[.string (RS vol), .int .i64 0]) w')) (hg : Good w) :
 Calls Tryz.prog 39 #[.agg #[vp, vt], .agg #[vb, vu, vs], .string u] w (Ret (fun r _ => r = .tuple #[.string (RS vol), .int .i64 0]) w) := by
 have hfe : findE U S.length u = 0 := by
  unfold findE;rw [hiu, if_neg (by omega), if_neg (by omega)]
 have HFI : Hid (∀ w', Below w.heap.size w w' -> Good w' -> _) := fun w' hb hg' => sfind_any w' _ _ _ _ _ P T k B U S (h.below hb) u hg';rw [hfe, if_pos rfl, hiu] at HFI;obtain ⟨pf, cf, hfr, hSF⟩ := h.surface i (by omega);obtain ⟨bs, os, cs0, hve, hbs, hcells⟩ := h.surf.cells (by omega);obtain ⟨pg, cg, hcg, hrg⟩ := hcells i hi;have hm1 : S[i] ∈ B :: S := List.mem_cons_of_mem _ (List.getElem_mem hi);have hl1 := h.fl _ hm1;rw [hl1] at hcg hrg;have HE : Hid (∀ w', Below w.heap.size w w' -> Good w' -> Calls Tryz.prog 90 #[.agg #[vp, vt], .slice pg P.length cg, .slice pf P.length cf] w' (Ret (fun r _ => r = .tuple #[.string (RS vol), .int .i64 0]) w')) := fun w' hb hg' =>
  HEX w' _ _ ⟨RdC.below h.p hb, RdC.below h.t hb, h.m, RdC.below hrg hb, h.fs _ hm1, hl1⟩ ⟨RdC.below h.p hb, RdC.below h.t hb, h.m, RdC.below hfr hb, h.fs _ (fldN_mem B S (by omega)), h.fl _ (fldN_mem B S (by omega))⟩ hg'
 have HSF := hid hSF;obtain ⟨pp, cp, pt, ct, pb, cb, pu, cu, ps, cs, rfl, rfl, rfl, rfl, hvs⟩ := h.open;subst hve;injection hvs with hv1 hv2 hv3
 clear hv2 hv1 ps hv3 cs;generalize RS vol = sv at *;clear h HEX hcells hrg hfr hSF hm1 hl1 hfe;generalize S.length = n at *;have hiz : (i : Int) < (n : Int) := by omega
 go_enter Tryz.func39, Tryz.ntmps39;go_wp2_with fail;obtain ⟨W, hW⟩ : ∃ W, W = (w.alloc (.cells #[.slice pp P.length cp, .slice pt T.length ct] 37)).alloc (.cells #[.slice pb P.length cb, .slice pu U.length cu, .slice (some ⟨bs, os, none⟩) n cs0] 43) := ⟨_, rfl⟩;have hB : Below w.heap.size w W := by rw [hW]; exact zal2 _ _ _
 have b3 : BoxN W w.heap.size 37 [.slice pp P.length cp, .slice pt T.length ct] := by rw [hW]; exact (BoxN.new w #[.slice pp P.length cp, .slice pt T.length ct] _ _ rfl).alloc _
 have b4 : BoxN W (w.heap.size + 1) 43 [.slice pb P.length cb, .slice pu U.length cu, .slice (some ⟨bs, os, none⟩) n cs0] := by rw [hW]; exact BoxN.new _ #[.slice pb P.length cb, .slice pu U.length cu, .slice (some ⟨bs, os, none⟩) n cs0] _ _ (by simp)
 rw [<- hW];clear hW;refine (HFI.out W hB (hg.below hB)).mono ?_;rintro e w1 ⟨_, rfl, rfl, hb1⟩;have hB1 := hB.trans (hb1.mono hB.size);replace b3 := b3.below hb1 b3.lt;replace b4 := b4.below hb1 b4.lt;have m0 := b3.cell 0 rfl;have m1 := b3.cell 1 rfl;have d0 := b4.cell 0 rfl;have d1 := b4.cell 1 rfl;have d2 := b4.cell 2 rfl;have x0 := zcq hB1 hbs hcg;have hl4 := b4.lt;have hbs1 : bs < w1.heap.size := Nat.lt_of_lt_of_le hbs hB1.size;have hgd : Good w1.drew := (hg.below hB1).drewN 1;have hBd : Below w.heap.size w w1.drew := hB1.trans ((below_drewN w1 1).mono hB1.size);clear hb1 hB;go_upto_region 4 with fail;go_region_held3 (fun w' => w'.cell? ⟨w.heap.size, 0, none⟩ = some (.slice pp P.length cp) /\ w'.cell? ⟨w.heap.size, 1, none⟩ = some (.slice pt T.length ct) /\ w'.cell? ⟨w.heap.size + 1, 0, none⟩ = some (.slice pb P.length cb) /\ w'.cell? ⟨w.heap.size + 1, 1, none⟩ = some (.slice pu U.length cu) /\ w'.cell? ⟨w.heap.size + 1, 2, none⟩ = some (.slice (some ⟨bs, os, none⟩) n cs0) /\ w'.cell? ⟨bs, os + i, none⟩ = some (.slice pg P.length cg))
  (first | exact ⟨m0, m1, d0, d1, d2, x0⟩ | exact ⟨p_1_0, p_1_1, p_1_2, p_1_3, p_1_4, p_1_5⟩ | exact ⟨p_2_0, p_2_1, p_2_2, p_2_3, p_2_4, p_2_5⟩)
  (first
  | (go_at_call 90; refine (HE.out _ (hBd.trans (pb1.mono hBd.size)) pg1).mono ?_; rintro e pw2 ⟨_, rfl, rfl, pb2⟩
     have p_2_0 := zct pb2 p_1_0;have p_2_1 := zct pb2 p_1_1;have p_2_2 := zct pb2 p_1_2;have p_2_3 := zct pb2 p_1_3;have p_2_4 := zct pb2 p_1_4;have p_2_5 := zct pb2 p_1_5;have ps2 := pb2.size;have pg2 := pg1.below pb2)
  | (go_at_call 65; refine (HSF.out _ hBd).mono ?_; rintro e pw1 ⟨_, rfl, rfl, pb1⟩
     have p_1_0 := zct pb1 m0;have p_1_1 := zct pb1 m1;have p_1_2 := zct pb1 d0;have p_1_3 := zct pb1 d1;have p_1_4 := zct pb1 d2;have p_1_5 := zct pb1 x0;have ps1 : w1.heap.size <= pw1.heap.size := pb1.size;have pg1 := hgd.below pb1))
 have pB : Below w1.heap.size w1 pw2 := zbt (zbt (below_drewN w1 1) pb1) pb2;have hB5 := hB1.trans (pB.mono hB1.size);go_wp2_with fail;go_ret2;exact ⟨_, rfl, rfl, hB5⟩
theorem depE_right {P : List PtQ} {T : List Tri} {B : List Rat} {U : List ByteArray} {S : List (List Rat)} (hT : T ≠ []) (hl : ∀ F ∈ B :: S, F.length = P.length) (hs : ∀ F ∈ B :: S, ∀ q ∈ F, Sz 200 q) (hU : U.length = S.length + 1) (h60 : U.length <= 60)
 (hn : ∀ i (h : i < U.length), nameQ U[i] = true /\ hasS (U.take i) U[i] = false) (ho : ∀ i, i < S.length -> belowB (fldN B S i) (fldN B S (i + 1)) = true) : depE P T (B.map RS) U (S.map fun F => F.map RS) = 0 := by
 have hE : ∀ F ∈ B :: S, errF P.length (F.map RS) = 0 := fun F hF => errF_ok (hl F hF) (hs F hF);rw [depE_rest hT (hE B (by simp)), if_neg (by omega), if_neg (by omega)];rw [firstE_none (fun j hj => by
  obtain ⟨h1, h2⟩ := hn j hj;exact unitBad_ok hj h1 h2), if_neg (by simp), if_neg (by rw [List.length_map]; omega)]
 refine firstE_none fun j hj => ?_;rw [List.length_map] at hj;unfold surfBad;rw [fldT_map, fldT_map, if_neg (by rw [hE _ (fldN_mem B S (by omega))]; simp), numT_map, numT_map, if_pos (ho j hj)]
def pP28 : List PtQ := [(0, 0), (4, 0), (4, 4), (0, 4)]
def tT28 : List Tri := [(0, 1, 2), (0, 2, 3)]
theorem k28_P : sheetP 0 0 0 false = pP28 := by decide +kernel
theorem k28_T : shapeT 0 = tT28 := by decide +kernel
theorem k28_mesh : MeshOK pP28 tT28 2 := by rw [<- k28_P, <- k28_T]; exact sheet_ok 0 0 0 false
theorem k28_loc : locN pP28 tT28 (1, 1) tT28.length = ((0 : Nat) : Int) :: [1] := by decide +kernel
theorem k28_vol : volTo pP28 tT28 (subQ [5, 5, 5, 5] [2, 2, 2, 2]) 0 tT28.length = 48 := by decide +kernel
def uU28 : List ByteArray := [⟨#[97]⟩, ⟨#[98]⟩, ⟨#[99]⟩]
theorem k28_names : ∀ i (h : i < uU28.length), nameQ uU28[i] = true /\ hasS (uU28.take i) uU28[i] = false := by
 intro i h
 match i, h with
 | 0, _ => exact ⟨show nameQ ⟨#[97]⟩ = true by decide +kernel, show hasS [] ⟨#[97]⟩ = false by decide +kernel⟩
 | 1, _ => exact ⟨show nameQ ⟨#[98]⟩ = true by decide +kernel, show hasS [⟨#[97]⟩] ⟨#[98]⟩ = false by decide +kernel⟩
 | 2, _ => exact ⟨show nameQ ⟨#[99]⟩ = true by decide +kernel, show hasS [⟨#[97]⟩, ⟨#[98]⟩] ⟨#[99]⟩ = false by decide +kernel⟩
theorem sz2n (n : Nat) (h : n < 10) : Sz 2 ((n : Int) : Rat) := (sz1 n h).mono (by omega)
theorem k28_sz {F : List Rat} (h : F ∈ [([0, 0, 0, 0] : List Rat), [2, 2, 2, 2], [5, 5, 5, 5]]) : ∀ q ∈ F, Sz 2 q := by
 intro q hq;simp only [List.mem_cons, List.not_mem_nil, or_false] at h;rcases h with rfl | rfl | rfl <;> simp at hq <;> subst hq
 ·exact sz2n 0 (by omega)
 ·exact sz2n 2 (by omega)
 ·exact sz2n 5 (by omega)
theorem k28_dep : depE pP28 tT28 (([0, 0, 0, 0] : List Rat).map RS) uU28 (([[2, 2, 2, 2], [5, 5, 5, 5]] : List (List Rat)).map fun F => F.map RS) = 0 :=
 depE_right (by decide) (by decide) (fun F hF q hq => (k28_sz hF q hq).mono (by omega)) rfl (by decide) k28_names (by decide +kernel)
theorem k28_n {w : World} {vp vt vb vu vs : Value} (hp : RdP w vp (strP pP28)) (ht : RdT w vt tT28) (hb : RdQ w vb [0, 0, 0, 0]) (hu : RdS w vu uU28) (hs : RdF w vs [[2, 2, 2, 2], [5, 5, 5, 5]]) : DepN w vp vt vb vu vs pP28 tT28 2 [0, 0, 0, 0] uU28 [[2, 2, 2, 2], [5, 5, 5, 5]] :=
 ⟨hp, ht, k28_mesh, hb, hu, hs, by decide, fun F hF => k28_sz hF, rfl, by decide, k28_dep⟩
theorem k28_at : unitAt uU28 [0, 2, 5] 2 = ⟨#[98]⟩ /\ countH [0, 2, 5] 2 = 2 := by decide +kernel
theorem k28_count : decide (countH [0, 2, 5] 2 = 0) = false := by decide +kernel
theorem k28_log : logL uU28 [0, 2, 5] 6 = [⟨⟨#[99]⟩, 0, 1⟩, ⟨⟨#[98]⟩, 1, 4⟩, ⟨⟨#[97]⟩, 4, 6⟩] := by decide +kernel
theorem k28_ins : insS [0, 0, 0, 0] [[2, 2, 2, 2], [5, 5, 5, 5]] [1, 1, 1, 1] 1 = [[2, 2, 2, 2], [3, 3, 3, 3], [6, 6, 6, 6]] := by decide +kernel
theorem k28_vals : slopeT pP28 [0, 0, 0, 0] (0, 1, 2) = (0, 0) /\ slopeT pP28 [2, 2, 2, 2] (0, 1, 2) = (0, 0) /\ slopeT pP28 [5, 5, 5, 5] (0, 1, 2) = (0, 0) /\ onQ pP28 [0, 0, 0, 0] (0, 1, 2) (1, 1) = 0 /\ onQ pP28 [2, 2, 2, 2] (0, 1, 2) (1, 1) = 2 /\ onQ pP28 [5, 5, 5, 5] (0, 1, 2) (1, 1) = 5 := by decide +kernel
end Go.Proofs.YtgdpoankaojklaaGreatDoor
