import Derived.Test.YtmcbeajdloaliaaGreatDoorUS40
/- stack.At at a place of the sheet. stack.Log stack.find, stack.Volume of a right deposit. Plain -/
set_option maxHeartbeats 16000000
set_option maxRecDepth 100000
namespace Go.Proofs.YtmcbeajdloaliaaGreatDoor
open Go.RowKit Go.Lib Go.Shelf
attribute [local go_sem] Oper.semAt_some
theorem uAn {U : List ByteArray} {H : List Rat} {z : Rat} (V : H.length = U.length) (Y : ∀ u ∈ U, u ≠ ⟨#[]⟩) : (uAt U H z).toList.isEmpty = decide (cHH H z = 0) := by
 unfold uAt;by_cases h : cHH H z = 0
 ·rw [if_pos h, decide_eq_true h, btL]; rfl
 ·have S := cHl H z
  have Z : cHH H z - 1 < U.length := by omega
  have X := Y _ (List.getElem_mem Z);rw [if_neg h, decide_eq_false h, List.getElem?_eq_getElem Z, Option.getD_some, btL];generalize U[cHH H z - 1] = u at *;obtain ⟨a⟩ := u;cases ha : a.toList with
  | nil =>
    exfalso;apply X;have : a = #[] := Array.toList_eq_nil_iff.1 ha;rw [this]
  | cons b l => rfl
theorem at_in (n : Nat) (hn : 6 <= n) (w : World) (hg : Good w) (pp pt a v ps : Option Addr) (V nt b cp ct t C cs : Nat) (x y : ByteArray) (z : Rat) (U : List ByteArray) (H : List Rat) (hH : H.length = U.length) (hQ : U.length <= 1000) (hp : ∀ u ∈ U, u ≠ ⟨#[]⟩) (hU : RdS w (.slice v U.length C) U)
 (k : Nat) (hk : 0 < k) (hX : k <= 20000) (ho : ∀ q ∈ H, Sz k q) (hz : Sz k z) (fp : Nat -> Option Addr) (fc : Nat -> Nat)
 (hA : Hid (∀ w', Below w.heap.size w w' -> Good w' -> Calls Tryz.prog 64 #[.agg #[.slice pp V cp, .slice pt nt ct], .agg #[.slice a V t, .slice v U.length C, .slice ps b cs], .agg #[.string x, .string y, .string (RS z)]] w' (Ret (fun r _ => r = .int .i64 0) w')))
 (hG : Hid (∀ i, i < U.length -> ∀ w', Below w.heap.size w w' -> Calls Tryz.prog 48 #[.agg #[.slice a V t, .slice v U.length C, .slice ps b cs], .int .i64 (i : Int)] w' (Ret (fun r _ => r = .slice (fp i) V (fc i)) w')))
 (hL : Hid (∀ i, i < U.length -> ∀ w', Below w.heap.size w w' -> Good w' -> Calls Tryz.prog 114 #[.agg #[.slice pp V cp, .slice pt nt ct], .slice (fp i) V (fc i), .agg #[.string x, .string y]] w' (Ret (fun r _ => r = .tuple #[.string (RS ((H[i]?).getD 0)), .int .i64 0]) w'))) :
 CallsIn Fence.wide n Tryz.prog 30 #[.agg #[.slice pp V cp, .slice pt nt ct], .agg #[.slice a V t, .slice v U.length C, .slice ps b cs], .agg #[.string x, .string y, .string (RS z)]] w (Ret (fun r _ => r = .tuple #[.string (uAt U H z), .bool (decide (cHH H z = 0)), .int .i64 0]) w) := by
 have h1 : 1 <= n := by omega
 have HU := hid hU;have hf := hid hp;have hC := hid ho;have hN := hid hz;have I := hid hH;clear hU hp ho hz hH;refine callsIn_of_wp_marks Tryz.func30 rfl trivial ?_ rfl;simp only [Tryz.ntmps30, List.size_toArray, List.length_cons, List.length_nil, Nat.reduceAdd, Nat.reduceSub, Array.replicate_succ, Array.replicate_zero, List.push_toArray, List.append_toArray, List.nil_append, List.cons_append];gi_wp2_with fail;obtain ⟨W, hW⟩ := zex ((((w.alloc (.cells #[.slice pp V cp, .slice pt nt ct] 41)).alloc (.cells #[.slice a V t, .slice v U.length C, .slice ps b cs] 45)).alloc (.cells #[.string x, .string y, .string (RS z)] 83)).alloc (.cells #[.string ⟨#[]⟩] 9));have hB : Below w.heap.size w W := by rw [hW]; exact ((((Below.refl _ _).alloc (Nat.le_refl _) _).alloc (by simp) _).alloc (by simp; omega) _).alloc (by simp; omega) _
 have b3 : BoxN W w.heap.size 41 [.slice pp V cp, .slice pt nt ct] := by rw [hW]; exact (((BoxN.new w #[.slice pp V cp, .slice pt nt ct] 41 _ rfl).alloc _).alloc _).alloc _
 have b4 : BoxN W (w.heap.size + 1) 45 [.slice a V t, .slice v U.length C, .slice ps b cs] := by rw [hW]; exact ((BoxN.new _ #[.slice a V t, .slice v U.length C, .slice ps b cs] _ _ (by simp)).alloc _).alloc _
 have b5 : BoxN W (w.heap.size + 2) 83 [.string x, .string y, .string (RS z)] := by rw [hW]; exact (BoxN.new _ #[.string x, .string y, .string (RS z)] _ _ (by simp)).alloc _
 have b6 : BoxN W (w.heap.size + 3) 9 [.string ⟨#[]⟩] := by rw [hW]; exact BoxN.new _ #[.string ⟨#[]⟩] _ _ (by simp)
 rw [<- hW];clear hW;refine ⟨trivial, ?_⟩;refine CallsIn.mono (callsIn_wide.2 (hA.out W hB (hg.below hB))) ?_;rintro e w1 ⟨_, rfl, rfl, G⟩;have hP := zbt hB G;replace b3 := b3.bl G;replace b4 := b4.bl G;replace b5 := b5.bl G;replace b6 := b6.bl G;clear G hB;obtain ⟨m0, m1⟩ := zk2 b3;obtain ⟨d0, d1, d2⟩ := zk3 b4;obtain ⟨v0, v1⟩ := zk2 b5;have z9 := b6.lt;gi_wp2_with fail;refine ⟨trivial, ?_⟩;refine CallsIn.mono (callsIn_wide.2 (hay _ _ _ _ pp pt a v ps V nt V U.length b cp ct t C cs x y rfl rfl rfl)) ?_;rintro e w2 ⟨rfl, f⟩;have c1 : BoxN w2 w1.heap.size 41 [.slice pp V cp, .slice pt nt ct] := by rw [<- f]; exact ((BoxN.new w1 #[.slice pp V cp, .slice pt nt ct] _ _ rfl).alloc _).alloc _
 have c2 : BoxN w2 (w1.heap.size + 1) 45 [.slice a V t, .slice v U.length C, .slice ps b cs] := by rw [<- f]; exact (BoxN.new _ #[.slice a V t, .slice v U.length C, .slice ps b cs] _ _ (by simp)).alloc _
 have c3 : BoxN w2 (w1.heap.size + 2) 73 [.string x, .string y] := by rw [<- f]; exact BoxN.new _ #[.string x, .string y] _ _ (by simp)
 have R : Below w1.heap.size w1 w2 := by rw [<- f]; exact (((Below.refl _ _).alloc (Nat.le_refl _) _).alloc (by simp) _).alloc (by simp; omega) _
 have o := zbt hP R;replace b4 := b4.bl R;replace b5 := b5.bl R;replace b6 := b6.bl R;have za : w1.heap.size + 3 <= w2.heap.size := by have := c3.lt; omega
 clear f R b3 m0 m1 d0 d1 d2 v0 v1;gi_wp2_with fail;refine wpIn_rangeFunc_ownF rfl h1 (gf := 113) (lb := #[.pointer (some ⟨w1.heap.size + 1, 0, none⟩), .pointer (some ⟨w1.heap.size, 0, none⟩), .pointer (some ⟨w1.heap.size + 2, 0, none⟩)]) rfl trivial (enters_of Tryz.func113 (by kernel_rfl) rfl)
  (ht0 (n - 1) (by omega) w1.heap.size w hg pp pt a v ps V nt U.length b cp ct t C cs x y H I.out hQ fp fc hG hL w2 o c1 c2 c3) (fun h k => Keep3.trans h k) (k3b (by have := o.size; omega) (by omega)) (Below.refl _ _) (fun _ => rfl)
  (fun (pre : List (IxR H)) W => (BoxN W (w.heap.size + 1) 45 [.slice a V t, .slice v U.length C, .slice ps b cs] /\ BoxN W (w.heap.size + 2) 83 [.string x, .string y, .string (RS z)] /\ BoxN W (w.heap.size + 3) 9 [.string (unitL U pre)] /\ Hid (∀ q ∈ pre, H[q.1]'(q.2) <= z) /\ w2.heap.size <= W.heap.size) /\ Below w.heap.size w W)
  (fun c (pre : List (IxR H)) W => (∃ Z q, c = .exit 0 /\ pre = Z ++ [q] /\ w2.heap.size <= W.heap.size /\ BoxN W (w.heap.size + 3) 9 [.string (unitL U Z)] /\ Hid ((∀ q ∈ Z, H[q.1]'(q.2) <= z) /\ ¬ H[q.1]'(q.2) <= z)) /\ Below w.heap.size w W)
  (OwnFrom.and (Own.from (fun s A B row hs hg' hr => ⟨bNk hs.1 hg' hr, bNk hs.2.1 hg' hr, bNk hs.2.2.1 hg' hr, hs.2.2.2.1, Nat.le_trans hs.2.2.2.2 hg'.size⟩) _) (ownFrom_below (Nat.le_refl _) (by have := o.size; omega)))
  ?hIx
  ⟨⟨b4, b5, b6, fun q hq => absurd hq List.not_mem_nil, Nat.le_refl _⟩, o⟩
  ?a1 ?assign ?body ?done ?stop
 case hIx =>
  intro c;exact OwnFrom.and (Own.from (fun s A B row hs hg' hr => by obtain ⟨Z, q, e0, e1, e4, e2, e3⟩ := hs; exact ⟨Z, q, e0, e1, Nat.le_trans e4 hg'.size, bNk e2 hg' hr, e3⟩) _) (ownFrom_below (Nat.le_refl _) (by have := o.size; omega))
 case assign =>
  intro l x W K hK;dsimp only [encH]
  gi_wp2
  exact hK
 case body =>
  rintro l pre X W ⟨⟨c4, c5, N, HJ, d⟩, Q⟩ z7;have ht := X.2;have h2 : (H[X.1]?).getD 0 = H[X.1] := by rw [List.getElem?_eq_getElem ht]; rfl
  have he : Hid (∀ w', Good w' -> _) := fun w' hg' => rCa H[X.1] z k hk hX (hC.out _ (List.getElem_mem ht)) hN.out w' hg';rw [h2];generalize RS H[X.1] = hstr at *;have v2 := c5.cell 2 rfl;have hV := hg.below Q;have zc := N.lt;gi_wp2_with fail;refine ⟨trivial, by intro; omega, ?_⟩;refine CallsIn.mono (CallsIn.inRound l (callsIn_wide.2 (he.out W hV))) ?_;rintro e w3 ⟨_, rfl, rfl, S⟩;have M := zbt Q S;have hO := c4.bl S;have z2 := c5.bl S;have h0 := N.bl S;have h4 := ka0 S;clear v2 he h2;by_cases hle : H[X.1] <= z
  ·have hb := cQl hle
   have hT : decide (0 < cmpQ H[X.1] z) = false := decide_eq_false (by omega);have z4 : ¬ (0 < cmpQ H[X.1] z) := by omega
   have hF : Hid (∀ q ∈ pre ++ [X], H[q.1]'(q.2) <= z) := fun q hq => by
    rcases List.mem_append.1 hq with h5 | h5
    ·exact HJ.out q h5
    ·rw [List.mem_singleton] at h5; subst h5; exact hle
   have hw := ub0 U pre X;have hJ := hid hw;generalize cmpQ H[X.1] z = cz at *;have h3 : X.1 < U.length := by have := I.out; omega
   obtain ⟨bu, ou, z3, hY, hS, z5, L⟩ := HU.out.cells (by omega);injection hY with hv1 hv2 hv3
   subst hv1 hv3;have x0 := zcq M hS (L X.1 h3);have O : U[X.1]?.getD ⟨#[]⟩ = U[X.1] := by rw [List.getElem?_eq_getElem h3]; rfl
   have hh := hid O;generalize U[X.1] = un at *;have z6 : (X.1 : Int) < (U.length : Int) := by omega
   have d1 := hO.cell 1 rfl;have u0 := h0.cell 0 rfl;have zd := h0.frozen 0;clear L O hw hle hb;generalize hu : X.1 = jx at *;have z1 := hid hu;clear hu;gi_wp2_with fail;have zb := M.size;have z8 := S.size;have Y : ∀ j, j < W.heap.size -> j ≠ w.heap.size + 3 -> (w3.setCell ⟨w.heap.size + 3, 0, none⟩ (.string un)).heap[j]? = W.heap[j]? := fun j hj m => (Below.heap_setCell _ _ _ j (fun e => m e)).trans (S.block j hj);have hR : Below w.heap.size W (w3.setCell ⟨w.heap.size + 3, 0, none⟩ (.string un)) := (S.mono Q.size).setCell (p := ⟨w.heap.size + 3, 0, none⟩) (by show w.heap.size <= w.heap.size + 3; omega) _;refine ⟨h4.trans (KeepsOthers.setCell _ _ _), ⟨hR, Y _ (by omega) (by omega), Y _ (by omega) (by omega), Y _ (by omega) (by omega)⟩, ⟨⟨(Y _ (by have := c4.lt; omega) (by omega)).trans c4, (Y _ (by have := c5.lt; omega) (by omega)).trans c5, ?_, hF, by simp; omega⟩, M.setCell (p := ⟨w.heap.size + 3, 0, none⟩) (by show w.heap.size <= w.heap.size + 3; omega) _⟩⟩;rw [hJ.out, hh.out];exact h0.set 0 (.string un)
  ·have hb : 0 < cmpQ H[X.1] z := (cQp _ _).2 (Rat.not_le.1 hle)
   have hT : decide (0 < cmpQ H[X.1] z) = true := decide_eq_true hb;have hM : Hid ((∀ q ∈ pre, H[q.1]'(q.2) <= z) /\ ¬ H[X.1] <= z) := ⟨HJ.out, hle⟩;generalize cmpQ H[X.1] z = cz at *;gi_wp2_with fail;exact ⟨h4, ⟨pre, X, rfl, rfl, Nat.le_trans d S.size, h0, hM⟩, M⟩
 case done =>
  rintro D ys W hD hx ⟨⟨_, _, N, HJ, d⟩, Q⟩ hK;have J : cHH H z = U.length := by
   rw [<- I.out];refine cHa fun q hq => ?_;obtain ⟨i, hi, rfl⟩ := List.getElem_of_mem hq;have hm : i ∈ ys.map Subtype.val := by rw [hx]; exact List.mem_range.2 (by have := I.out; omega)
   obtain ⟨y, hy, rfl⟩ := List.mem_map.1 hm;exact HJ.out y hy
  have O := uLr (U := U) hx J;rw [O] at N;have h6 := hid (uAn (z := z) I.out hf.out);have x0 := N.cell 0 rfl;have z0 := N.frozen 0;have hZ := N.lt;generalize g : uAt U H z = un at *;have h7 := hid g;clear g;gi_wp2_with fail;have m : D ≠ w.heap.size + 3 := by omega
  have h9 : (W.setCell ⟨w.heap.size + 3, 0, none⟩ (.string un)).heap[D]? = some (.deferred (some [])) := by
   rw [Below.heap_setCell _ _ _ D m];exact hK
  have h8 := Q.setCell (p := ⟨w.heap.size + 3, 0, none⟩) (by show w.heap.size <= w.heap.size + 3; omega) (.string un);have r6 := N.set 0 (.string un);have hc := r6.lt;refine lms (B := w2.heap.size) ⟨[D], rfl, (by simp), fun E hE => by rw [List.mem_singleton] at hE; subst hE; exact ⟨hD, h9⟩⟩ fun w' hw' => ?_
  have q6 : BoxN w' (w.heap.size + 3) 9 [.string un] := (hw'.block _ (.inl (by omega)) hc).trans r6;have k0 := q6.cell 0 rfl;refine ⟨.tuple #[.string un, .bool un.toList.isEmpty, .int .i64 0], by simp [results, Tryz.results30, go_sem, k0], ?_⟩;refine ⟨_, rfl, by show _ = _; rw [h7.out, h6.out], h8.trans ((hw'.below (by simpa using d)).mono (by omega))⟩
 case stop =>
  rintro D c pre W hD ha ⟨⟨Z, q, rfl, rfl, d, N, HX⟩, Q⟩ hK;have hl : (Z ++ [q]).length = Z.length + 1 := by simp
  rw [hl, List.range_succ, List.map_append] at ha;obtain ⟨hd, hv⟩ := List.append_inj ha (by simp);have hq : q.1 = Z.length := by simpa using hv
  have J : cHH H z = Z.length := by
   refine cn0 (by have := q.2; omega) (fun i hi => ?_) ?_
   ·have hm : i ∈ Z.map Subtype.val := by rw [hd]; exact List.mem_range.2 hi
    obtain ⟨y, hy, rfl⟩ := List.mem_map.1 hm;exact HX.out.1 y hy
   ·have := HX.out.2
    simpa only [hq] using this
  have O := uLr (U := U) hd J;rw [O] at N;clear ha hd hv hl J O;have h6 := hid (uAn (z := z) I.out hf.out);have x0 := N.cell 0 rfl;have z0 := N.frozen 0;have hZ := N.lt;generalize g : uAt U H z = un at *;have h7 := hid g;clear g;gi_wp2_with fail;have m : D ≠ w.heap.size + 3 := by omega
  have h9 : (W.setCell ⟨w.heap.size + 3, 0, none⟩ (.string un)).heap[D]? = some (.deferred (some [])) := by
   rw [Below.heap_setCell _ _ _ D m];exact hK
  have h8 := Q.setCell (p := ⟨w.heap.size + 3, 0, none⟩) (by show w.heap.size <= w.heap.size + 3; omega) (.string un);have r6 := N.set 0 (.string un);have hc := r6.lt;refine lms (B := w2.heap.size) ⟨[D], rfl, (by simp), fun E hE => by rw [List.mem_singleton] at hE; subst hE; exact ⟨hD, h9⟩⟩ fun w' hw' => ?_
  have q6 : BoxN w' (w.heap.size + 3) 9 [.string un] := (hw'.block _ (.inl (by omega)) hc).trans r6;have k0 := q6.cell 0 rfl;refine ⟨.tuple #[.string un, .bool un.toList.isEmpty, .int .i64 0], by simp [results, Tryz.results30, go_sem, k0], ?_⟩;refine ⟨_, rfl, by show _ = _; rw [h7.out, h6.out], h8.trans ((hw'.below (by simpa using d)).mono (by omega))⟩
theorem at_ok (w : World) (o : Good w) (M K N X L : Option Addr) (Z O Q S R V Y cs : Nat) (x y : ByteArray) (z : Rat) (U : List ByteArray) (H : List Rat) (s : H.length = U.length) (B : U.length <= 1000) (A : ∀ u ∈ U, u ≠ ⟨#[]⟩) (p : RdS w (.slice X U.length Y) U)
 (k : Nat) (n : 0 < k) (v : k <= 20000) (C : ∀ q ∈ H, Sz k q) (t : Sz k z) (D : Nat -> Option Addr) (E : Nat -> Nat)
 (J : Hid (∀ w', Below w.heap.size w w' -> Good w' -> Calls Tryz.prog 64 #[.agg #[.slice M Z S, .slice K O R], .agg #[.slice N Z V, .slice X U.length Y, .slice L Q cs], .agg #[.string x, .string y, .string (RS z)]] w' (Ret (fun r _ => r = .int .i64 0) w')))
 (I : Hid (∀ i, i < U.length -> ∀ w', Below w.heap.size w w' -> Calls Tryz.prog 48 #[.agg #[.slice N Z V, .slice X U.length Y, .slice L Q cs], .int .i64 (i : Int)] w' (Ret (fun r _ => r = .slice (D i) Z (E i)) w')))
 (G : Hid (∀ i, i < U.length -> ∀ w', Below w.heap.size w w' -> Good w' -> Calls Tryz.prog 114 #[.agg #[.slice M Z S, .slice K O R], .slice (D i) Z (E i), .agg #[.string x, .string y]] w' (Ret (fun r _ => r = .tuple #[.string (RS ((H[i]?).getD 0)), .int .i64 0]) w'))) :
 Calls Tryz.prog 30 #[.agg #[.slice M Z S, .slice K O R], .agg #[.slice N Z V, .slice X U.length Y, .slice L Q cs], .agg #[.string x, .string y, .string (RS z)]] w (Ret (fun r _ => r = .tuple #[.string (uAt U H z), .bool (decide (cHH H z = 0)), .int .i64 0]) w) :=
 callsIn_wide.1 (at_in 6 (by omega) w o M K N X L Z O Q S R V Y cs x y z U H s B A p k n v C t D E J I G)
end Go.Proofs.YtmcbeajdloaliaaGreatDoor
namespace Go.Proofs.YtmcbeajdloaliaaGreatDoor
open Go.RowKit Go.Lib Go.Shelf
theorem sid {α : Type} {p : List α -> Prop} (Z : p []) (Y : ∀ l a, p l -> p (l ++ [a])) (l : List α) : p l := by
 rw [<- List.reverse_reverse l]
 induction l.reverse with
 | nil => exact Z
 | cons a t ih => rw [List.reverse_cons]; exact Y _ _ ih
structure Itv where
 unit : ByteArray
 fro : Rat
 til : Rat
instance : DecidableEq Itv := fun a b => decidable_of_iff (a.unit = b.unit /\ a.fro = b.fro /\ a.til = b.til) ⟨fun h => by
 obtain ⟨u, f, t⟩ := a;obtain ⟨u', f', t'⟩ := b;obtain ⟨rfl, rfl, rfl⟩ := h;rfl, fun h => by rw [h]; exact ⟨rfl, rfl, rfl⟩⟩
def cp0 (c : Itv) : List Value := [.string c.unit, .string (RS c.fro), .string (RS c.til)]
def cIv (l : List Itv) : List Value := l.flatMap cp0
theorem cIs (l : List Itv) (c : Itv) : cIv (l ++ [c]) = cIv l ++ [.string c.unit, .string (RS c.fro), .string (RS c.til)] := by simp [cIv, cp0]
def lSp (U : List ByteArray) (H : List Rat) (z : Rat) (s : List Itv × Rat) (i : Nat) : List Itv × Rat :=
 if (H[i]?.getD 0) < s.2 then (s.1 ++ [⟨U[i]?.getD ⟨#[]⟩, z - s.2, z - (H[i]?.getD 0)⟩], H[i]?.getD 0) else s
def logTo (U : List ByteArray) (H : List Rat) (z : Rat) (l : List Nat) : List Itv × Rat := l.foldl (lSp U H z) ([], z)
def logL (U : List ByteArray) (H : List Rat) (z : Rat) : List Itv := (logTo U H z (bwd H.length H.length)).1
theorem lTs (U : List ByteArray) (H : List Rat) (z : Rat) (l : List Nat) (i : Nat) : logTo U H z (l ++ [i]) = lSp U H z (logTo U H z l) i := by unfold logTo; rw [List.foldl_append]; rfl
theorem lTl (U : List ByteArray) (H : List Rat) (z : Rat) (l : List Nat) : (logTo U H z l).1.length <= l.length := by
 refine sid (p := fun l => (logTo U H z l).1.length <= l.length) (Nat.le_refl _) (fun l i ih => ?_) l;rw [lTs];unfold lSp;split
 ·rw [List.length_append, List.length_append]; simp; exact ih
 ·rw [List.length_append]; omega
theorem lTS {U : List ByteArray} {H : List Rat} {z : Rat} {k : Nat} (Y : 0 < k) (Z : ∀ q ∈ H, Sz k q) (X : Sz k z) (l : List Nat) : Sz k (logTo U H z l).2 := by
 refine sid (p := fun l => Sz k (logTo U H z l).2) X (fun l i ih => ?_) l;rw [lTs];unfold lSp;split
 ·show Sz k (H[i]?.getD 0)
  cases hi : H[i]? with
  | none => exact Sz.zero _ Y
  | some q => exact Z q (List.mem_of_getElem? hi)
 ·exact ih
theorem okt {W W' : World} {row : Option Nat} {B e s n : Nat} {v : Value} {xs : List Value} (h : W.ownsRow B e s v n xs) (S : W.grownBy W' row) (R : ∀ r, row = some r -> ∃ o : Obj, W.heap[r]? = some o /\ o.isCells = false) : W'.ownsRow B e s v n xs := by
 refine World.ownsRow.kept h S ?_;obtain ⟨O, V⟩ := h;rcases V with ⟨rfl, Q⟩ | ⟨g, cap, X, rfl, N, Z, _⟩
 ·exact .inl rfl
 ·refine .inr (fun e => ?_)
  obtain ⟨o, Y, U⟩ := R g e.symm;rw [Z] at Y;cases Y;cases U
theorem aof (a : Act) : ∀ (Z : List (Nat × Value)) (a0 : Act), a.tmps.size = a0.tmps.size -> a.defers = a0.defers -> (∀ s, (∀ p ∈ Z, p.1 ≠ s) -> a.eval (.tmp s) = a0.eval (.tmp s)) -> (∀ p ∈ Z, a.eval (.tmp p.1) = p.2) -> (∀ p ∈ Z, p.1 < a0.tmps.size) -> a = Z.foldl (fun b p => b.put (some p.1) p.2) a0
 | [], a0, h1, h2, h3, _, _ => by
   obtain ⟨t, d⟩ := a;obtain ⟨X, V⟩ := a0;simp only at h1 h2;subst h2;have e : t = X := by
    refine Array.ext h1 fun i hi hi0 => ?_;have Y := h3 i (fun p hp => absurd hp List.not_mem_nil);simpa [Act.eval, hi, hi0] using Y
   rw [e]; rfl
 | (q, u) :: Z, a0, h1, h2, h3, h4, Y => by
   rw [List.foldl_cons];refine aof a Z (a0.put (some q) u) (by rw [pte]; exact h1) (by rw [pds]; exact h2) (fun s hs => ?_) (fun p hp => h4 p (List.mem_cons_of_mem _ hp)) (fun p hp => by rw [pte]; exact Y p (List.mem_cons_of_mem _ hp));by_cases hq : q = s
   ·subst hq
    rw [eps (Y (q, u) (by simp))];exact h4 (q, u) (by simp)
   ·rw [epo hq]
    refine h3 s (fun p hp => ?_);rcases List.mem_cons.1 hp with rfl | h
    ·exact hq
    ·exact hs p h
def C14 (W : World) (L : List Value) (listed : Array Bool) (a : Act) (X : World) : Prop :=
 Below W.heap.size W X /\ (listed.getD 14 false = true -> ∃ b, W.heap.size <= b /\ a.eval (.tmp 16) = .pointer (some ⟨b, 0, none⟩) /\ BoxN X b 99 (if listed.getD 15 false = true then L else [.string ⟨#[]⟩, .string ⟨#[]⟩, .string ⟨#[]⟩]))
theorem C14.put {W X X' : World} {L : List Value} {listed : Array Bool} {a : Act} (h : C14 W L listed a X) (Z : Below X.heap.size X X') (i d : Nat) (v : Value) (S : i ≠ 14) (R : i ≠ 15) (Q : d ≠ 16) : C14 W L (listed.setIfInBounds i true) (a.put (some d) v) X' := by
 refine ⟨(zbt h.1 Z), fun hl => ?_⟩;rw [ga0 _ _ _ S] at hl;obtain ⟨b, Y, V, U⟩ := h.2 hl;refine ⟨b, Y, (epo Q).trans V, ?_⟩;rw [ga0 _ _ _ R];exact U.bl Z
theorem osk {K : Nat} {W W' : World} {B e s n : Nat} {v : Value} {xs : List Value} (h : W.ownsRow B e s v n xs) (Q : Struck K W W') : W'.ownsRow B e s v n xs := by
 obtain ⟨V, U⟩ := h;refine ⟨V, ?_⟩;rcases U with ⟨rfl, X⟩ | ⟨g, cap, Y, rfl, R, Z, S⟩
 ·exact .inl ⟨rfl, X⟩
 ·exact .inr ⟨g, cap, Y, rfl, R, (Q.block g (.inr fun l e => by rw [Z] at e; cases e) (Array.getElem?_eq_some_iff.1 Z).1).trans Z, S⟩
theorem iIv : (Tryz.prog.info? 99).map (fun i => (i.zero, i.size, i.bytes)) = some (some (.agg #[.string ⟨#[]⟩, .string ⟨#[]⟩, .string ⟨#[]⟩]), 3, 48) := by kernel_rfl
theorem wIc {F : Fence} {n : Nat} {P : Program} {Q : Exit -> Act -> World -> Prop} {o : Oper} {a : Act} {w w' : World} {K : Act -> World -> Prop} {f : FuncId} {args : Array Value} (X : ∀ c, o.op ≠ .defer c)
 (V : ∀ f, o.about P w a.eval = some f -> F.fn f) (U : (execOp a.eval o).run P w = .ok (.enter f args) w')
 (Y : (F.depth.isSome = true -> 1 <= n) /\ CallsIn F (n - 1) P f args w' fun e Z => ∃ v, e = .returned v /\ K (a.put o.dst v) Z) : o.wpIn F n P a w K Q := by
 refine ⟨V, ?_⟩;rw [Oper.semAt_eq _ _ _ X, U, Oper.uponIn_enter];refine ⟨Y.1, Y.2.mono ?_⟩;rintro e Z ⟨v, rfl, h⟩;exact h
def Keep2 (b Bs : Nat) (A B : World) : Prop := B.heap[b]? = A.heap[b]? /\ B.heap[Bs]? = A.heap[Bs]?
theorem Keep2.trans {b Bs : Nat} {A B C : World} (h : Keep2 b Bs A B) (k : Keep2 b Bs B C) : Keep2 b Bs A C := ⟨k.1.trans h.1, k.2.trans h.2⟩
theorem k2b {b Bs : Nat} {w : World} (X : b < w.heap.size) (Y : Bs < w.heap.size) (W : World) (l : Nat) (o Z : Obj) (V : w.heap.size <= l) (_h : W.heap[l]? = some o) (_h1 : o.isCells = false) (_h2 : o.isWalk = false) : Keep2 b Bs W (W.putObj l Z) :=
 ⟨World.putObj_heap_other (by omega), World.putObj_heap_other (by omega)⟩
theorem bRi (n : Nat) (j : 1 <= n) (l U b : Nat) (c : Nat) (xs : List Rat)
 (C : xs.length <= 1000000) (J G : List (IxR xs) -> World -> Prop)
 (t : ∀ pre x W, J pre W -> pre.length < xs.length -> YieldAt Fence.wide (n - 1) Tryz.prog l (eBR xs x.1) W fun e W' =>
   (e = .returned (.bool true) /\ J (pre ++ [x]) W' /\ Keep2 b U W W') \/ (e = .returned (.bool false) /\ G (pre ++ [x]) W'))
 (W : World) (S : W.cell? ⟨U, 0, none⟩ = some (.slice (some ⟨b, 0, none⟩) xs.length c))
 (D : ∀ (i : Nat) (N : i < xs.length), W.cell? ⟨b, 0 + i, none⟩ = some (.string (RS xs[i]))) (z : J [] W) :
 CallsIn Fence.wide n Tryz.prog 115 #[.func (.yield l) #[] #[], .pointer (some ⟨U, 0, none⟩)] W fun e W' => (∃ v, e = .returned v) /\
  ((∃ ys : List (IxR xs), ys.map Subtype.val = bwd xs.length xs.length /\ J ys W') \/ (∃ pre, True /\ G pre W')) := by
 refine callsIn_of_wp Tryz.func115 rfl trivial ?_ rfl;simp only [Tryz.ntmps115, List.size_toArray, List.length_cons, List.length_nil, Nat.reduceAdd, Nat.reduceSub, Array.replicate_succ, Array.replicate_zero, List.push_toArray, List.append_toArray, List.nil_append, List.cons_append];obtain ⟨m, I⟩ : ∃ m, xs.length = m := ⟨_, rfl⟩;have B := hid I;have r : xs.length <= m := by omega
 have q : m <= xs.length := by omega
 rw [I] at S;clear I
 gi_wp2
 gi_loopw [3] (fun i wr => ∃ k : Nat, k <= m /\ i = .int .i64 ((m : Int) - 1 - (k : Int)) /\ (∃ pre : List (IxR xs), pre.map Subtype.val = bwd m k /\ J pre wr) /\ Keep2 b U W wr)
  (fun i _ => (RowKit.intOf i + 1).toNat)
 case atStart => exact ⟨0, Nat.zero_le _, by simp, ⟨[], rfl, z⟩, rfl, rfl⟩
 case round =>
  obtain ⟨k, o, rfl, ⟨pre, Z, X⟩, V⟩ := hrel;by_cases hlt : k < m
  ·obtain ⟨i, N⟩ := zex (m - 1 - k)
   have H := hid N;have M : i < xs.length := by omega
   have Q : wr.cell? ⟨b, 0 + i, none⟩ = some (.string (RS xs[i])) := (World.cell?_of_block V.1).trans (D i M);rw [Nat.zero_add] at Q;have s : wr.cell? ⟨U, 0, none⟩ = _ := (World.cell?_of_block V.2).trans S;obtain ⟨x, hx⟩ := zex (RS xs[i]);rw [<- hx] at Q;have O : RS ((xs[i]?).getD 0) = x := by rw [hx]; simp [M]
   obtain ⟨fn, tmps, assign, body, hy, y⟩ := t pre ⟨i, M⟩ wr X (by have := congrArg List.length Z; rw [List.length_map, blh] at this; omega);dsimp only [eBR] at hy;rw [O] at hy;have E : (m : Int) - 1 - (k : Int) = (i : Int) := by omega
   rw [E];have Y : (pre ++ [(⟨i, M⟩ : IxR xs)]).map Subtype.val = bwd m (k + 1) := by rw [bsc, <- N, List.map_append, Z]; rfl
   have A := hid Y;clear D E N X hx Y O Z;have f1 : (0 : Int) <= (i : Int) := by omega
   have f2 : (i : Int) < (m : Int) := by have := H.out; omega
   gi_wp2
   refine y.mono ?_;rintro e p (⟨rfl, L, K⟩ | ⟨rfl, R⟩)
   ·gi_wp2
    go_roundw
    case rel => exact ⟨k + 1, by omega, congrArg (Value.int .i64) (by have := H.out; omega), ⟨_, A.out, L⟩, V.trans K⟩
    case measure => simp [RowKit.intOf]
   ·gi_wp2
    refine bodyPost_ret (results_none rfl _ _ _) rfl ?_;exact ⟨⟨_, rfl⟩, .inr ⟨_, trivial, R⟩⟩
  ·obtain rfl : k = m := by omega
   gi_wp2
   go_end0;exact ⟨⟨_, rfl⟩, .inl ⟨_, by rw [Z, B.out], X⟩⟩
theorem bRs (n : Nat) (Q : 1 <= n) (Z b c : Nat) (xs : List Rat) (Y : xs.length <= 1000000) (w : World)
 (X : Z < w.heap.size) (S : b < w.heap.size) (R : w.cell? ⟨Z, 0, none⟩ = some (.slice (some ⟨b, 0, none⟩) xs.length c))
 (O : ∀ (i : Nat) (U : i < xs.length), w.cell? ⟨b, 0 + i, none⟩ = some (.string (RS xs[i]))) :
 SeqStopsK Fence.wide n Tryz.prog 115 #[.pointer (some ⟨Z, 0, none⟩)] (fun x : IxR xs => eBR xs x.1) (Keep2 b Z) (fun ys => ys.map Subtype.val = bwd xs.length xs.length) (fun _ => True) xs.length w := fun l J Jx W V _ _ hY h0' =>
 bRi n Q l Z b c xs Y J Jx hY W ((zcq V X R :)) (fun i U => (zcq V S (O i U) :)) h0'
attribute [local go_sem] Oper.semAt_some
theorem yal {H : List Rat} {ys : List (IxR H)} (h : ys.map Subtype.val = List.range H.length) : (ys.map fun q : IxR H => Value.string (RS (H[q.1]'(q.2)))) = cFd H := by
 have e : (ys.map fun q : IxR H => Value.string (RS (H[q.1]'(q.2)))) = (ys.map Subtype.val).map fun i => Value.string (RS (H[i]?.getD 0)) := by
  rw [List.map_map];refine List.map_congr_left fun q _ => ?_;show _ = Value.string (RS (H[q.1]?.getD 0));rw [List.getElem?_eq_getElem q.2]; rfl
 rw [e, h];unfold cFd;refine List.ext_getElem? fun i => ?_;rw [List.getElem?_map, List.getElem?_map];rcases Nat.lt_or_ge i H.length with Z | Z
 ·rw [List.getElem?_range Z, List.getElem?_eq_getElem Z]
  simp [Z]
 ·rw [List.getElem?_eq_none (by rw [List.length_range]; exact Z), List.getElem?_eq_none Z]; rfl
theorem ler (w : World) (O M Q L N : Value) (s o t n q : Option Addr) (D B E A C J I K H cs : Nat) (l : O = .slice s D J) (k : M = .slice o B I) (j : Q = .slice t E K) (h : L = .slice n A H) (g : N = .slice q C cs) (x y z : ByteArray) (Z : Int) (G : Z ≠ 0)
 (U : Hid (∀ w', Below w.heap.size w w' -> Good w' -> Calls Tryz.prog 64 #[.agg #[O, M], .agg #[Q, L, N], .agg #[.string x, .string y, .string z]] w' (Ret (fun r _ => r = .int .i64 Z) w'))) (f : Good w) :
 Calls Tryz.prog 31 #[.agg #[O, M], .agg #[Q, L, N], .agg #[.string x, .string y, .string z]] w (Ret (fun r _ => r = .tuple #[.slice none 0 0, .int .i64 Z]) w) := by
 subst l k j h g;have m : (Z != 0) = true := by rw [bne_iff_ne]; exact G
 clear G;go_enter Tryz.func31, Tryz.ntmps31;go_wp2_with fail;obtain ⟨W, V⟩ := zex (((((w.alloc (.cells #[.slice s D J, .slice o B I] 41)).alloc (.cells #[.slice t E K, .slice n A H, .slice q C cs] 45)).alloc (.cells #[.string x, .string y, .string z] 83)).alloc (.cells #[.slice none 0 0] 84)).alloc (.cells #[.int .i64 0] 49));have S : Below w.heap.size w W := by rw [V]; exact (((((Below.refl _ _).alloc (Nat.le_refl _) _).alloc (by simp) _).alloc (by simp; omega) _).alloc (by simp; omega) _).alloc (by simp; omega) _
 have Y : BoxN W (w.heap.size + 3) 84 [.slice none 0 0] := by rw [V]; exact (BoxN.new _ #[.slice none 0 0] _ _ (by simp)).alloc _
 have X : BoxN W (w.heap.size + 4) 49 [.int .i64 0] := by rw [V]; exact BoxN.new _ #[.int .i64 0] _ _ (by simp)
 rw [<- V];clear V;refine zR (U.out _ S (f.below S)) fun w1 hb1 => ?_;have R := zbt S hb1;replace Y := Y.bl hb1;replace X := X.bl hb1;have x0 := Y.cell 0 rfl;have f0 := Y.frozen 0;have x1 := X.cell 0 rfl;have f1 := X.frozen 0;go_wp2_with fail;have e := bKf (i := 0) (v := .int .i64 Z) (Y.set 0 (.slice none 0 0)) (show w.heap.size + 3 ≠ w.heap.size + 4 by omega);have d := (bKf (i := 0) (v := .slice none 0 0) X (show w.heap.size + 4 ≠ w.heap.size + 3 by omega)).set 0 (.int .i64 Z);have c := e.cell 0 rfl;have b := d.cell 0 rfl;refine bodyPost_ret (v := .tuple #[.slice none 0 0, .int .i64 Z]) (by simp [results, Tryz.results31, go_sem, c, b]) rfl ⟨_, rfl, rfl, (R.setCell (p := ⟨w.heap.size + 3, 0, none⟩) (by show w.heap.size <= w.heap.size + 3; omega) _).setCell (p := ⟨w.heap.size + 4, 0, none⟩) (by show w.heap.size <= w.heap.size + 4; omega) _⟩
theorem lin (n : Nat) (hn : 6 <= n) (w : World) (hg : Good w) (pp pt pb pu ps : Option Addr) (np nt ns cp ct cb cu cs : Nat) (x y : ByteArray) (z : Rat) (U : List ByteArray) (H : List Rat) (hH : H.length = U.length) (ym : 0 < U.length) (yn : U.length <= 1000) (hU : RdS w (.slice pu U.length cu) U)
 (k : Nat) (hk : 0 < k) (xl : k <= 90) (zI : ∀ q ∈ H, Sz k q) (y5 : Sz k z) (fp : Nat -> Option Addr) (fc : Nat -> Nat)
 (y7 : Hid (∀ w', Below w.heap.size w w' -> Good w' -> Calls Tryz.prog 64 #[.agg #[.slice pp np cp, .slice pt nt ct], .agg #[.slice pb np cb, .slice pu U.length cu, .slice ps ns cs], .agg #[.string x, .string y, .string (RS z)]] w' (Ret (fun r _ => r = .int .i64 0) w')))
 (yc : Hid (∀ i, i < U.length -> ∀ w', Below w.heap.size w w' -> Calls Tryz.prog 48 #[.agg #[.slice pb np cb, .slice pu U.length cu, .slice ps ns cs], .int .i64 (i : Int)] w' (Ret (fun r _ => r = .slice (fp i) np (fc i)) w')))
 (yd : Hid (∀ i, i < U.length -> ∀ w', Below w.heap.size w w' -> Good w' -> Calls Tryz.prog 114 #[.agg #[.slice pp np cp, .slice pt nt ct], .slice (fp i) np (fc i), .agg #[.string x, .string y]] w' (Ret (fun r _ => r = .tuple #[.string (RS ((H[i]?).getD 0)), .int .i64 0]) w'))) :
 CallsIn Fence.wide n Tryz.prog 31 #[.agg #[.slice pp np cp, .slice pt nt ct], .agg #[.slice pb np cb, .slice pu U.length cu, .slice ps ns cs], .agg #[.string x, .string y, .string (RS z)]] w (Ret (fun r w' => ∃ v, r = .tuple #[v, .int .i64 0] /\ w'.ownsRow w.heap.size 99 3 v (logL U H z).length (cIv (logL U H z))) w) := by
 have h1 : 1 <= n := by omega
 have HU := hid hU;have zt := hid zI;have hP := hid y5;have hw := hid hH;clear hU zI y5 hH;refine callsIn_of_wp_marks Tryz.func31 rfl trivial ?_ rfl;simp only [Tryz.ntmps31, List.size_toArray, List.length_cons, List.length_nil, Nat.reduceAdd, Nat.reduceSub, Array.replicate_succ, Array.replicate_zero, List.push_toArray, List.append_toArray, List.nil_append, List.cons_append];gi_wp2_with fail;obtain ⟨W, hW⟩ := zex (((((w.alloc (.cells #[.slice pp np cp, .slice pt nt ct] 41)).alloc (.cells #[.slice pb np cb, .slice pu U.length cu, .slice ps ns cs] 45)).alloc (.cells #[.string x, .string y, .string (RS z)] 83)).alloc (.cells #[.slice none 0 0] 84)).alloc (.cells #[.int .i64 0] 49));have hB : Below w.heap.size w W := by rw [hW]; exact (((((Below.refl _ _).alloc (Nat.le_refl _) _).alloc (by simp) _).alloc (by simp; omega) _).alloc (by simp; omega) _).alloc (by simp; omega) _
 have b3 : BoxN W w.heap.size 41 [.slice pp np cp, .slice pt nt ct] := by rw [hW]; exact ((((BoxN.new w #[.slice pp np cp, .slice pt nt ct] 41 _ rfl).alloc _).alloc _).alloc _).alloc _
 have b4 : BoxN W (w.heap.size + 1) 45 [.slice pb np cb, .slice pu U.length cu, .slice ps ns cs] := by rw [hW]; exact (((BoxN.new _ #[.slice pb np cb, .slice pu U.length cu, .slice ps ns cs] _ _ (by simp)).alloc _).alloc _).alloc _
 have b5 : BoxN W (w.heap.size + 2) 83 [.string x, .string y, .string (RS z)] := by rw [hW]; exact ((BoxN.new _ #[.string x, .string y, .string (RS z)] _ _ (by simp)).alloc _).alloc _
 have b6 : BoxN W (w.heap.size + 3) 84 [.slice none 0 0] := by rw [hW]; exact (BoxN.new _ #[.slice none 0 0] _ _ (by simp)).alloc _
 have b7 : BoxN W (w.heap.size + 4) 49 [.int .i64 0] := by rw [hW]; exact BoxN.new _ #[.int .i64 0] _ _ (by simp)
 rw [<- hW];clear hW;refine ⟨trivial, ?_⟩;refine CallsIn.mono (callsIn_wide.2 (y7.out W hB (hg.below hB))) ?_;rintro e w1 ⟨_, rfl, rfl, h4⟩;have zD := zbt hB h4;replace b3 := b3.bl h4;replace b4 := b4.bl h4;replace b5 := b5.bl h4;replace b6 := b6.bl h4;replace b7 := b7.bl h4;clear h4 hB;have v2 := cal (.cells #[.slice none 0 0] 84) (b5.cell 2 rfl);obtain ⟨W3, hy⟩ := zex (((w1.alloc (.cells #[.slice none 0 0] 84)).alloc (.cells #[.string (RS z)] 55)).alloc (.cells #[.slice none 0 0] 32));have hx : Below w1.heap.size w1 W3 := by rw [hy]; exact (((Below.refl _ _).alloc (Nat.le_refl _) _).alloc (by simp) _).alloc (by simp; omega) _
 have b9 : BoxN W3 w1.heap.size 84 [.slice none 0 0] := by rw [hy]; exact ((BoxN.new w1 #[.slice none 0 0] _ _ rfl).alloc _).alloc _
 have hQ : BoxN W3 (w1.heap.size + 1) 55 [.string (RS z)] := by rw [hy]; exact (BoxN.new _ #[.string (RS z)] _ _ (by simp)).alloc _
 have hJ : BoxN W3 (w1.heap.size + 2) 32 [.slice none 0 0] := by rw [hy]; exact BoxN.new _ #[.slice none 0 0] _ _ (by simp)
 have yI := b7.lt;replace b3 := b3.bl hx;replace b4 := b4.bl hx;replace b5 := b5.bl hx;replace b6 := b6.bl hx;replace b7 := b7.bl hx;have zF := zbt zD hx;obtain ⟨m0, m1⟩ := zk2 b3;obtain ⟨d0, d1, d2⟩ := zk3 b4;obtain ⟨v0, v1⟩ := zk2 b5;have zZ := hJ.lt;rw [hy] at m0 m1 d0 d1 d2 v0 v1;gi_wp2_with fail;rw [<- hy];refine ⟨trivial, ?_⟩;refine CallsIn.mono (callsIn_wide.2 (hay _ _ _ _ pp pt pb pu ps np nt np U.length ns cp ct cb cu cs x y rfl rfl rfl)) ?_;rintro e w2 ⟨rfl, hA⟩;have c1 : BoxN w2 W3.heap.size 41 [.slice pp np cp, .slice pt nt ct] := by rw [<- hA]; exact ((BoxN.new W3 #[.slice pp np cp, .slice pt nt ct] _ _ rfl).alloc _).alloc _
 have c2 : BoxN w2 (W3.heap.size + 1) 45 [.slice pb np cb, .slice pu U.length cu, .slice ps ns cs] := by rw [<- hA]; exact (BoxN.new _ #[.slice pb np cb, .slice pu U.length cu, .slice ps ns cs] _ _ (by simp)).alloc _
 have c3 : BoxN w2 (W3.heap.size + 2) 73 [.string x, .string y] := by rw [<- hA]; exact BoxN.new _ #[.string x, .string y] _ _ (by simp)
 have m : Below W3.heap.size W3 w2 := by rw [<- hA]; exact (((Below.refl _ _).alloc (Nat.le_refl _) _).alloc (by simp) _).alloc (by simp; omega) _
 have hZ := zbt zF m;replace b4 := b4.bl m;replace b5 := b5.bl m;replace b6 := b6.bl m;replace b7 := b7.bl m;replace b9 := b9.bl m;replace hQ := hQ.bl m;replace hJ := hJ.bl m;have xp : W3.heap.size + 3 <= w2.heap.size := by have := c3.lt; omega
 obtain ⟨a, ha⟩ := zex (w1.heap.size);have xq : w.heap.size + 5 <= a := by omega
 have yT : a + 3 <= W3.heap.size := by omega
 rw [<- ha] at b9 hQ hJ ⊢;clear hA m b3 m0 m1 d0 d1 d2 v0 v1 v2 hy hx zD zF ha zZ yI;clear w1;obtain ⟨i0, yy, yF, yG, yH⟩ := info_parts isr;gi_wp2_with fail;refine wpIn_rangeFunc_ownF rfl h1 (gf := 113) (lb := #[.pointer (some ⟨W3.heap.size + 1, 0, none⟩), .pointer (some ⟨W3.heap.size, 0, none⟩), .pointer (some ⟨W3.heap.size + 2, 0, none⟩)]) rfl trivial (enters_of Tryz.func113 (by kernel_rfl) rfl)
  (ht0 (n - 1) (by omega) W3.heap.size w hg pp pt pb pu ps np nt U.length ns cp ct cb cu cs x y H hw.out yn fp fc yc yd w2 hZ c1 c2 c3) (fun h k => Keep3.trans h k) (k3b (by have := hZ.size; omega) (by omega)) (Below.refl _ _) (fun _ => rfl)
  (fun (pre : List (IxR H)) W => ((BoxN W (w.heap.size + 1) 45 [.slice pb np cb, .slice pu U.length cu, .slice ps ns cs] /\ BoxN W (w.heap.size + 2) 83 [.string x, .string y, .string (RS z)] /\ BoxN W (w.heap.size + 3) 84 [.slice none 0 0] /\ BoxN W (w.heap.size + 4) 49 [.int .i64 0] /\ BoxN W a 84 [.slice none 0 0] /\ BoxN W (a + 1) 55 [.string (RS z)]) /\
    (∃ v, BoxN W (a + 2) 32 [v] /\ W.ownsRow w2.heap.size 55 1 v pre.length (pre.map fun q => Value.string (RS (H[q.1]'(q.2))))) /\ w2.heap.size <= W.heap.size) /\ Below w.heap.size w W)
  (fun _ _ _ => False)
  (OwnFrom.and (Own.from (fun s A B row hs hg' hr => by
    obtain ⟨⟨e1, e2, e3, e4, e5, e6⟩, ⟨v, e7, C⟩, e9⟩ := hs;exact ⟨⟨bNk e1 hg' hr, bNk e2 hg' hr, bNk e3 hg' hr, bNk e4 hg' hr, bNk e5 hg' hr, bNk e6 hg' hr⟩, ⟨v, bNk e7 hg' hr, okt C hg' hr⟩, Nat.le_trans e9 hg'.size⟩) _) (ownFrom_below (Nat.le_refl _) (by have := hZ.size; omega)))
  (fun _ _ _ _ _ hs _ _ => hs)
  ⟨⟨⟨b4, b5, b6, b7, b9, hQ⟩, ⟨_, hJ, World.ownsRow_nil _ _ _ _⟩, Nat.le_refl _⟩, hZ⟩
  ?a1 ?assign ?body ?done ?stop
 case assign =>
  intro l x W K hK;dsimp only [encH]
  gi_wp2
  exact hK
 case body =>
  rintro l pre G W ⟨⟨⟨e1, e2, e3, e4, e5, e6⟩, ⟨v, e7, C⟩, e9⟩, zg⟩ yB;have z7 := G.2;have hf : (H[G.1]?).getD 0 = H[G.1] := by rw [List.getElem?_eq_getElem z7]; rfl
  rw [hf];have yb : Hid ((pre ++ [G]).map (fun q : IxR H => Value.string (RS (H[q.1]'(q.2)))) = pre.map (fun q : IxR H => Value.string (RS (H[q.1]'(q.2)))) ++ [Value.string (RS H[G.1])]) := by unfold Hid; rw [List.map_append]; rfl
  generalize RS H[G.1] = hstr at *;obtain ⟨pv, cv, rfl⟩ := oRs C;have x0 := cal (.cells #[.string hstr] 55) (e7.cell 0 rfl);have xv := e7.cell 0 rfl;have zZ := e7.lt;have zz := e7.alloc (.cells #[.string hstr] 55);have zA := C.alloc (.cells #[.string hstr] 55);have zr := obN zA zz (by decide);have yR : pre.length <= 1000 := by omega
  clear hf
  gi_wp2_with (gi_at_builtin; refine wpListIn_append_own _ rfl _ _ 32 rfl w2.heap.size 55 i0 (.string ⟨#[]⟩) 1 16 Tryz.underlying32 yy yF yG yH rfl (by decide) _ _ _ rfl zA ⟨W.heap.size, 0, none⟩ 1 1 [.string hstr] rfl rfl (cell_one_new _ _ _) (by intro u hu; simp at hu; subst hu; rfl) (by unfold maxLen; omega) (by omega) (by simp; omega) ?_
               intro v8 w8 f8 hd _;have f7 := zz.gb hd (fun e => zr e.symm);have y0 := f7.cell 0 rfl;have yN := f7.frozen 0;obtain ⟨p8, c8, rfl⟩ := oRs f8)
  have zU := hd.size;simp at zU;have L : ∀ j, j < W.heap.size -> (∀ r, (Value.slice pv pre.length cv).ownBlock = some r -> j ≠ r) -> j ≠ a + 2 -> (w8.setCell ⟨a + 2, 0, none⟩ (.slice p8 (pre.length + 1) c8)).heap[j]? = W.heap[j]? := fun j V hr J => by
   rw [Below.heap_setCell _ _ _ j (fun e => J e), hd.block j (by simp; omega) (fun e => hr j e.symm rfl)];exact ho0 _ _ _ V
  have d : ∀ j, j < w2.heap.size -> ∀ r, (Value.slice pv pre.length cv).ownBlock = some r -> j ≠ r := fun j V r hr => by have := (C.lt r hr).1; omega
  have z5 : Below w.heap.size w w8 := (zg.alloc (by omega) (.cells #[.string hstr] 55)).grown hd (by simp; omega) (fun j V => by have := (C.lt j V).1; omega);have t := z5.setCell (p := ⟨a + 2, 0, none⟩) (by show w.heap.size <= a + 2; omega) (.slice p8 (pre.length + 1) c8);have f9 := f7.set 0 (.slice p8 (pre.length + 1) c8);have g8 := World.ownsRow.kept f8 (gst (grl w8 (some (a + 2))) 0 (.slice p8 (pre.length + 1) c8)) (.inr (fun e => obN f8 f7 (by decide) e.symm));have zn := e1.lt;have zo := e2.lt;have z8 := e3.lt;have z9 := e4.lt;have yA := e5.lt;have zp := e6.lt;have zh : KeepsOthers W (w8.setCell ⟨a + 2, 0, none⟩ (.slice p8 (pre.length + 1) c8)) := ⟨by simp; omega, fun j o V R => by
   have zl := (Array.getElem?_eq_some_iff.1 V).1;refine (L j zl (fun r hr e => ?_) (fun e => ?_)).trans V
   ·subst e
    rcases C.2 with ⟨h0, _⟩ | ⟨g, cap, ye, h0, hb, zj, _⟩
    ·rw [h0] at hr; cases hr
    ·injection h0 with h0 _ _
     rw [h0] at hr;cases hr;rw [zj] at V;cases V;cases R
   ·subst e
    unfold BoxN at e7;rw [e7] at V;cases V;cases R⟩
  refine ⟨zh, ⟨?_, L _ (by omega) (fun r hr => by have := (C.lt r hr).1; omega) (by omega), L _ (by omega) (fun r hr => by have := (C.lt r hr).1; omega) (by omega), L _ (by omega) (fun r hr => by have := (C.lt r hr).1; omega) (by omega)⟩, ⟨⟨⟨(L _ zn (d _ (by omega)) (by omega)).trans e1, (L _ zo (d _ (by omega)) (by omega)).trans e2, (L _ z8 (d _ (by omega)) (by omega)).trans e3, (L _ z9 (d _ (by omega)) (by omega)).trans e4, (L _ yA (d _ (by omega)) (by omega)).trans e5, (L _ zp (d _ (by omega)) (by omega)).trans e6⟩, ⟨_, f9, ?_⟩, by simp; omega⟩, t⟩⟩
  ·refine ((((Below.refl _ W).alloc (by omega) (.cells #[.string hstr] 55)).grown hd (by simp; omega) (fun j V => by have := (C.lt j V).1; omega)).setCell (p := ⟨a + 2, 0, none⟩) (by show w.heap.size <= a + 2; omega) (.slice p8 (pre.length + 1) c8))
  ·rw [yb.out, List.length_append]
   exact g8
 case done =>
  rintro D ys W Y hF ⟨⟨⟨e1, e2, e3, e4, e5, e6⟩, ⟨v, e7, C⟩, e9⟩, zg⟩ hK;have zX : ys.length = U.length := by have h5 := congrArg List.length hF; rwa [List.length_map, List.length_range] at h5
  rw [<- hw.out] at hF;rw [yal hF, zX] at C;obtain ⟨g, cv, lv, rfl, xj, z6, yr, yt, yu, zO⟩ := boo C ym;unfold maxLen at yt;have hG : ∀ (i : Nat) (hi : i < H.length), W.cell? ⟨g, 0 + i, none⟩ = some (.string (RS H[i])) := fun i hi => by
   rw [Nat.zero_add];refine z6.cell i ?_;have h6 : (lv.take U.length)[i]? = (cFd H)[i]? := by rw [zO]
   rw [List.getElem?_take, if_pos (by have := hw.out; omega)] at h6;rw [h6];unfold cFd;rw [List.getElem?_map, List.getElem?_eq_getElem hi]; rfl
  have yU := hid z6;have yx := z6.lt;have x0 := e7.cell 0 rfl;have xh := e7.lt;clear hF zX b4 b5 b6 b7 b9 hQ hJ c1 c2 c3 e7 C yu zO z6 yr;gi_wp2_with fail;refine ⟨trivial, ?_⟩;refine CallsIn.mono (callsIn_wide.2 (bb0 _ _ _ _)) ?_;rintro e W4 ⟨rfl, zi⟩;have k1 : BoxN W4 W.heap.size 32 [.slice (some ⟨g, 0, none⟩) U.length cv] := by rw [<- zi]; exact BoxN.new _ #[.slice (some ⟨g, 0, none⟩) U.length cv] _ _ rfl
  have hh : Below W.heap.size W W4 := by rw [<- zi]; exact zal _ _
  have zG := zbt zg hh;replace e1 := e1.bl hh;replace e2 := e2.bl hh;replace e3 := e3.bl hh;replace e4 := e4.bl hh;replace e5 := e5.bl hh;replace e6 := e6.bl hh;have yj := (Array.getElem?_eq_some_iff.1 hK).1;have yk : W4.heap[D]? = some (.deferred (some [])) := (hh.block D yj).trans hK;have zN : ∀ (i : Nat) (hi : i < H.length), W4.cell? ⟨g, 0 + i, none⟩ = some (.string (RS H[i])) := fun i hi => (zcq hh yx (hG i hi) :);have zY := k1.lt;have zQ := k1.cell 0 rfl;rw [<- hw.out] at zQ;clear zi hK x0 hG;obtain ⟨i2, yz, yD, yE, hA⟩ := info_parts iIv;gi_wp2_with fail;refine wpIn_rangeFunc_ownF rfl h1 (gf := 115) (lb := #[.pointer (some ⟨W.heap.size, 0, none⟩)]) rfl trivial (enters_of Tryz.func115 (by kernel_rfl) rfl)
   (bRs (n - 1) (by omega) W.heap.size g cv H (by have := hw.out; omega) W4 zY (by omega) zQ zN) (fun h k => Keep2.trans h k) (k2b (by omega) zY) (Below.refl _ _) (fun _ => rfl)
   (fun (pre : List (IxR H)) W => ((BoxN W (w.heap.size + 1) 45 [.slice pb np cb, .slice pu U.length cu, .slice ps ns cs] /\ BoxN W (w.heap.size + 2) 83 [.string x, .string y, .string (RS z)] /\ BoxN W (w.heap.size + 3) 84 [.slice none 0 0] /\ BoxN W (w.heap.size + 4) 49 [.int .i64 0] /\ BoxN W (a + 1) 55 [.string (RS (logTo U H z (pre.map Subtype.val)).2)]) /\
     (∃ v, BoxN W a 84 [v] /\ W.ownsRow W4.heap.size 99 3 v (logTo U H z (pre.map Subtype.val)).1.length (cIv (logTo U H z (pre.map Subtype.val)).1)) /\ W4.heap.size <= W.heap.size /\ W.heap[D]? = some (.deferred (some []))) /\ Below w.heap.size w W)
   (fun _ _ _ => False)
   (OwnFrom.and (fun s A B row hs hg' hr => by
     obtain ⟨⟨e1, e2, e3, e4, e6⟩, ⟨v, e7, C⟩, e9, h7⟩ := hs;have hz : ∀ r, row = some r -> ∃ o : Obj, A.heap[r]? = some o /\ o.isCells = false := fun r e => (hr r e).2;exact ⟨⟨bNk e1 hg' hz, bNk e2 hg' hz, bNk e3 hg' hz, bNk e4 hg' hz, bNk e6 hg' hz⟩, ⟨v, bNk e7 hg' hz, okt C hg' hz⟩, Nat.le_trans e9 hg'.size, (hg'.block D (Array.getElem?_eq_some_iff.1 h7).1 (fun e => by have := (hr D e.symm).1; omega)).trans h7⟩) (ownFrom_below (Nat.le_refl _) (by have := zG.size; omega)))
   (fun _ _ _ _ _ hs _ _ => hs)
   ⟨⟨⟨e1, e2, e3, e4, e6⟩, ⟨_, e5, World.ownsRow_nil _ _ _ _⟩, Nat.le_refl _, yk⟩, zG⟩
   ?a1' ?assign' ?body' ?done' ?stop'
  case assign' =>
   intro l x W K hK;dsimp only [eBR]
   gi_wp2
   exact hK
  case body' =>
   rintro l pre G W5 ⟨⟨⟨e1, e2, e3, e4, e6⟩, ⟨v, e7, C⟩, e9, h7⟩, z3⟩ yB;have z7 := G.2;have zc : G.1 < U.length := by have := hw.out; omega
   have hf : (H[G.1]?).getD 0 = H[G.1] := by rw [List.getElem?_eq_getElem z7]; rfl
   have hO := lTs U H z (pre.map Subtype.val) G.1;have hT := lTl U H z (pre.map Subtype.val);rw [List.length_map] at hT;have hV := lTS (U := U) hk zt.out hP.out (pre.map Subtype.val);have zv : Hid ((pre ++ [G]).map Subtype.val = pre.map Subtype.val ++ [G.1]) := by unfold Hid; rw [List.map_append]; rfl
   unfold lSp at hO;rw [hf] at hO;have zk := zt.out _ (List.getElem_mem z7);obtain ⟨st, I, zq⟩ : ∃ st I, logTo U H z (pre.map Subtype.val) = (st, I) := ⟨_, _, rfl⟩;rw [zq] at e6 C hO hT hV;dsimp only at e6 C hO hT hV;have yV := hid zq;have hX := hid hO;rw [hf];generalize H[G.1] = hq at *;have zs : Hid (∀ w', Good w' -> _) := fun w' hg' => rCa hq I k hk (by omega) zk hV w' hg'
   have zw : Hid (∀ w', Good w' -> _) := fun w' hg' => rSa z I k hk (by omega) hP.out hV w' hg'
   have zx : Hid (∀ w', Good w' -> _) := fun w' hg' => rSa z hq k hk (by omega) hP.out zk w' hg'
   have y8 : Hid (∀ w', Good w' -> _) := fun w' hg' => rCo (z - I) ((hP.out.sub hV).mono (by omega)) w' hg'
   have y9 : Hid (∀ w', Good w' -> _) := fun w' hg' => rCo (z - hq) ((hP.out.sub zk).mono (by omega)) w' hg'
   have t0 := e6.cell 0 rfl;have yv := hg.below z3;have zp := e6.lt;clear zq hO hf;gi_wp2_with fail;refine ⟨trivial, by intro; omega, ?_⟩;refine CallsIn.mono (CallsIn.inRound l (callsIn_wide.2 (zs.out W5 yv))) ?_;rintro e W6 ⟨_, rfl, rfl, h2⟩;have hL := zbt z3 h2;have xm := h2.size;have ze := ka0 h2;have yi := (Array.getElem?_eq_some_iff.1 h7).1;replace h7 : W6.heap[D]? = _ := (h2.block D yi).trans h7;replace e1 := e1.bl h2;replace e2 := e2.bl h2;replace e3 := e3.bl h2;replace e4 := e4.bl h2;replace e6 := e6.bl h2;replace e7 := e7.bl h2;replace C := WRA C h2;have zd : Keep2 g W.heap.size W5 W6 := ⟨h2.block _ (by omega), h2.block _ (by omega)⟩;clear zs t0;by_cases hlt : hq < I
   ·have zM : cmpQ hq I = -1 := by unfold cmpQ; rw [if_pos hlt]
    have yq : decide (0 <= cmpQ hq I) = false := decide_eq_false (by omega);have hm : Hid (logTo U H z ((pre ++ [G]).map Subtype.val) = (st ++ [⟨U[G.1]?.getD ⟨#[]⟩, z - I, z - hq⟩], hq)) := by
     unfold Hid; rw [zv.out, hX.out, if_pos hlt]
    generalize cmpQ hq I = cz at *;clear hX hlt;gi_wp2_with fail;obtain ⟨bu, ou, yW, yC, yp, xi, hv⟩ := HU.out.cells (by omega);injection yC with hv1 hv2 hv3
    subst hv1 hv3;have zW : U[G.1]?.getD ⟨#[]⟩ = U[G.1] := by rw [List.getElem?_eq_getElem zc]; rfl
    have zy := hid zW;have xu := hv G.1 zc;generalize U[G.1] = un at *;have xk : (G.1 : Int) < (U.length : Int) := by omega
    have zu : Hid (∀ X, Below W6.heap.size W6 X -> X.cell? ⟨w.heap.size + 1, 1, none⟩ = some (.slice (some ⟨bu, ou, none⟩) U.length cu) /\ X.cell? ⟨bu, ou + G.1, none⟩ = some (.string un) /\ X.cell? ⟨w.heap.size + 2, 2, none⟩ = some (.string (RS z)) /\ X.cell? ⟨a + 1, 0, none⟩ = some (.string (RS I))) := fun X hb =>
     ⟨(e1.bl hb).cell 1 rfl, (((zbt hL hb)).cell (p := ⟨bu, ou + G.1, none⟩) yp).trans xu, (e2.bl hb).cell 2 rfl, (e6.bl hb).cell 0 rfl⟩
    have zf : Hid (∀ X, Below W6.heap.size W6 X -> Good X) := fun X hb => hg.below ((zbt hL hb));clear hv xu zW;refine wIr (fun i v => match i with
     | 0 => v = .pointer (some ⟨w.heap.size + 1, 1, none⟩) | 1 => v = .slice (some ⟨bu, ou, none⟩) U.length cu | 2 => v = .int .i64 (G.1 : Int) | 3 => v = .pointer (some ⟨bu, ou + G.1, none⟩) | 4 => v = .string un | 5 => v = .pointer (some ⟨w.heap.size + 2, 2, none⟩) | 6 => v = .string (RS z) | 7 => v = .string (RS I) | 8 => v = .string (RS (z - I)) | 9 => v = .pointer (some ⟨w.heap.size + 2, 2, none⟩) | 10 => v = .string (RS z) | 11 => v = .string (RS hq) | 12 => v = .string (RS (z - hq)) | 13 => v = .agg #[.string un, .string (RS (z - I)), .string (RS (z - hq))] | 14 => ∃ b, v = .pointer (some ⟨b, 0, none⟩) | _ => v = undef)
     (C14 W6 [.string un, .string (RS (z - I)), .string (RS (z - hq))]) (by kernel_rfl) (by kernel_rfl) ⟨bdN W6 1, fun h => by simp at h⟩ ?_ ?_
    ·intro hl M X i o R zm Z Y O
     have J := ga0 hl;obtain ⟨x1, xU, x2, x3⟩ := zu.out X O.1;have zP := zf.out X O.1;have o4 : M.eval (.tmp 4) = .pointer (some ⟨w.heap.size + 1, 0, none⟩) := Y.old 4 (by intro j oj V; rcases j with _|_|_|_|_|_|_|_|_|_|_|_|_|_|_|_|j <;> first | (injection V with V; subst V; simp) | exact absurd V (by simp));have o5 : M.eval (.tmp 5) = .pointer (some ⟨w.heap.size + 2, 0, none⟩) := Y.old 5 (by intro j oj V; rcases j with _|_|_|_|_|_|_|_|_|_|_|_|_|_|_|_|j <;> first | (injection V with V; subst V; simp) | exact absurd V (by simp));have xr : M.eval (.tmp 10) = .pointer (some ⟨a + 1, 0, none⟩) := Y.old 10 (by intro j oj V; rcases j with _|_|_|_|_|_|_|_|_|_|_|_|_|_|_|_|j <;> first | (injection V with V; subst V; simp) | exact absurd V (by simp));have xs : M.eval (.tmp 14) = .int .i64 (G.1 : Int) := Y.old 14 (by intro j oj V; rcases j with _|_|_|_|_|_|_|_|_|_|_|_|_|_|_|_|j <;> first | (injection V with V; subst V; simp) | exact absurd V (by simp));have xt : M.eval (.tmp 15) = .string (RS hq) := Y.old 15 (by intro j oj V; rcases j with _|_|_|_|_|_|_|_|_|_|_|_|_|_|_|_|j <;> first | (injection V with V; subst V; simp) | exact absurd V (by simp));rcases i with _|_|_|_|_|_|_|_|_|_|_|_|_|_|_|_|i
     ·injection R with R; subst R
      refine ⟨rfl, wIv (w' := X) (by intro c S; cases S) (by intro c S; cases S) ?_ ⟨_, rfl, rfl, O.put (Below.refl _ _) 0 48 _ (by decide) (by decide) (by decide)⟩⟩;clear Z Y J O;generalize M.eval = ρ at *;simp [execOp, go_sem, *]
     ·injection R with R; subst R
      have yX : M.eval (.tmp 48) = .pointer (some ⟨w.heap.size + 1, 1, none⟩) := Y.has 0 _ 48 rfl rfl (Z ⟨0, .data⟩ (by simp) rfl);refine ⟨rfl, wIv (w' := X) (by intro c S; cases S) (by intro c S; cases S) ?_ ⟨_, rfl, rfl, O.put (Below.refl _ _) 1 49 _ (by decide) (by decide) (by decide)⟩⟩;clear Z Y J O;generalize M.eval = ρ at *;simp [execOp, go_sem, *]
     ·injection R with R; subst R
      refine ⟨rfl, wIv (w' := X) (by intro c S; cases S) (by intro c S; cases S) ?_ ⟨_, rfl, rfl, O.put (Below.refl _ _) 2 50 _ (by decide) (by decide) (by decide)⟩⟩;clear Z Y J O;generalize M.eval = ρ at *;simp [execOp, go_sem, *]
     ·injection R with R; subst R
      have yY : M.eval (.tmp 49) = .slice (some ⟨bu, ou, none⟩) U.length cu := Y.has 1 _ 49 rfl rfl (Z ⟨1, .data⟩ (by simp) rfl);have yZ : M.eval (.tmp 50) = .int .i64 (G.1 : Int) := Y.has 2 _ 50 rfl rfl (Z ⟨2, .data⟩ (by simp) rfl);refine ⟨rfl, wIv (w' := X) (by intro c S; cases S) (by intro c S; cases S) ?_ ⟨_, rfl, rfl, O.put (Below.refl _ _) 3 51 _ (by decide) (by decide) (by decide)⟩⟩;clear Z Y J O;generalize M.eval = ρ at *;simp [execOp, go_sem, *]
     ·injection R with R; subst R
      have x4 : M.eval (.tmp 51) = .pointer (some ⟨bu, ou + G.1, none⟩) := Y.has 3 _ 51 rfl rfl (Z ⟨3, .data⟩ (by simp) rfl);refine ⟨rfl, wIv (w' := X) (by intro c S; cases S) (by intro c S; cases S) ?_ ⟨_, rfl, rfl, O.put (Below.refl _ _) 4 52 _ (by decide) (by decide) (by decide)⟩⟩;clear Z Y J O;generalize M.eval = ρ at *;simp [execOp, go_sem, *]
     ·injection R with R; subst R
      refine ⟨rfl, wIv (w' := X) (by intro c S; cases S) (by intro c S; cases S) ?_ ⟨_, rfl, rfl, O.put (Below.refl _ _) 5 53 _ (by decide) (by decide) (by decide)⟩⟩;clear Z Y J O;generalize M.eval = ρ at *;simp [execOp, go_sem, *]
     ·injection R with R; subst R
      have x6 : M.eval (.tmp 53) = .pointer (some ⟨w.heap.size + 2, 2, none⟩) := Y.has 5 _ 53 rfl rfl (Z ⟨5, .data⟩ (by simp) rfl);refine ⟨rfl, wIv (w' := X) (by intro c S; cases S) (by intro c S; cases S) ?_ ⟨_, rfl, rfl, O.put (Below.refl _ _) 6 54 _ (by decide) (by decide) (by decide)⟩⟩;clear Z Y J O;generalize M.eval = ρ at *;simp [execOp, go_sem, *]
     ·injection R with R; subst R
      refine ⟨rfl, wIv (w' := X) (by intro c S; cases S) (by intro c S; cases S) ?_ ⟨_, rfl, rfl, O.put (Below.refl _ _) 7 55 _ (by decide) (by decide) (by decide)⟩⟩;clear Z Y J O;generalize M.eval = ρ at *;simp [execOp, go_sem, *]
     ·injection R with R; subst R
      have x7 : M.eval (.tmp 54) = .string (RS z) := Y.has 6 _ 54 rfl rfl (Z ⟨6, .data⟩ (by simp) rfl);have x8 : M.eval (.tmp 55) = .string (RS I) := Y.has 7 _ 55 rfl rfl (Z ⟨7, .data⟩ (by simp) rfl);refine ⟨rfl, wIc (f := 23) (args := #[.string (RS z), .string (RS I)]) (w' := X) (by intro c S; cases S) (fun _ _ => trivial) ?_ ⟨fun _ => by omega, ?_⟩⟩
      ·have ef : M.eval (.func 23) = .func (.func 23) #[] #[] := rfl
       clear Z Y J O;generalize M.eval = ρ at *;simp [execOp, go_sem, *]
      ·refine CallsIn.mono (CallsIn.inRound l (callsIn_wide.2 (zw.out X zP))) ?_
       rintro e X2 ⟨_, rfl, rfl, h3⟩;exact ⟨_, rfl, _, rfl, rfl, O.put h3 8 56 _ (by decide) (by decide) (by decide)⟩
     ·injection R with R; subst R
      refine ⟨rfl, wIv (w' := X) (by intro c S; cases S) (by intro c S; cases S) ?_ ⟨_, rfl, rfl, O.put (Below.refl _ _) 9 57 _ (by decide) (by decide) (by decide)⟩⟩;clear Z Y J O;generalize M.eval = ρ at *;simp [execOp, go_sem, *]
     ·injection R with R; subst R
      have xa : M.eval (.tmp 57) = .pointer (some ⟨w.heap.size + 2, 2, none⟩) := Y.has 9 _ 57 rfl rfl (Z ⟨9, .data⟩ (by simp) rfl);refine ⟨rfl, wIv (w' := X) (by intro c S; cases S) (by intro c S; cases S) ?_ ⟨_, rfl, rfl, O.put (Below.refl _ _) 10 58 _ (by decide) (by decide) (by decide)⟩⟩;clear Z Y J O;generalize M.eval = ρ at *;simp [execOp, go_sem, *]
     ·injection R with R; subst R
      refine ⟨rfl, wIv (w' := X) (by intro c S; cases S) (by intro c S; cases S) ?_ ⟨_, rfl, rfl, O.put (Below.refl _ _) 11 59 _ (by decide) (by decide) (by decide)⟩⟩;clear Z Y J O;generalize M.eval = ρ at *;simp [execOp, go_sem, *]
     ·injection R with R; subst R
      have xb : M.eval (.tmp 58) = .string (RS z) := Y.has 10 _ 58 rfl rfl (Z ⟨10, .data⟩ (by simp) rfl);have xc : M.eval (.tmp 59) = .string (RS hq) := Y.has 11 _ 59 rfl rfl (Z ⟨11, .data⟩ (by simp) rfl);refine ⟨rfl, wIc (f := 23) (args := #[.string (RS z), .string (RS hq)]) (w' := X) (by intro c S; cases S) (fun _ _ => trivial) ?_ ⟨fun _ => by omega, ?_⟩⟩
      ·have ef : M.eval (.func 23) = .func (.func 23) #[] #[] := rfl
       clear Z Y J O;generalize M.eval = ρ at *;simp [execOp, go_sem, *]
      ·refine CallsIn.mono (CallsIn.inRound l (callsIn_wide.2 (zx.out X zP))) ?_
       rintro e X2 ⟨_, rfl, rfl, h3⟩;exact ⟨_, rfl, _, rfl, rfl, O.put h3 12 60 _ (by decide) (by decide) (by decide)⟩
     ·injection R with R; subst R
      have x5 : M.eval (.tmp 52) = .string un := Y.has 4 _ 52 rfl rfl (Z ⟨4, .data⟩ (by simp) rfl);have x9 : M.eval (.tmp 56) = .string (RS (z - I)) := Y.has 8 _ 56 rfl rfl (Z ⟨8, .data⟩ (by simp) rfl);have xd : M.eval (.tmp 60) = .string (RS (z - hq)) := Y.has 12 _ 60 rfl rfl (Z ⟨12, .data⟩ (by simp) rfl);refine ⟨rfl, wIv (w' := X) (by intro c S; cases S) (by intro c S; cases S) ?_ ⟨_, rfl, rfl, O.put (Below.refl _ _) 13 61 _ (by decide) (by decide) (by decide)⟩⟩;clear Z Y J O;generalize M.eval = ρ at *;simp [execOp, go_sem, *]
     ·injection R with R; subst R
      have yg : hl.getD 15 false = false := Bool.eq_false_iff.2 fun h => by
       have h5 := Y.closed 15 _ rfl h ⟨14, .data⟩ (by simp) rfl;rw [gDf zm] at h5; cases h5
      refine ⟨rfl, wIv (v := .pointer (some ⟨X.heap.size, 0, none⟩)) (w' := X.alloc (.cells #[.string ⟨#[]⟩, .string ⟨#[]⟩, .string ⟨#[]⟩] 99)) (by intro c S; cases S) (by intro c S; cases S) ?_ ⟨_, ⟨_, rfl⟩, rfl, O.1.alloc O.1.size _, fun _ => ⟨X.heap.size, O.1.size, eps (by rw [Y.tsize]; simp), ?_⟩⟩⟩
      ·clear Z Y J O
       generalize M.eval = ρ at *;simp [execOp, go_sem, *]
      ·rw [J 14 15 (by decide), yg, if_neg (by decide)]
       exact BoxN.new X #[.string ⟨#[]⟩, .string ⟨#[]⟩, .string ⟨#[]⟩] _ _ rfl
     ·injection R with R; subst R
      have xe : M.eval (.tmp 61) = .agg #[.string un, .string (RS (z - I)), .string (RS (z - hq))] := Y.has 13 _ 61 rfl rfl (Z ⟨13, .data⟩ (by simp) rfl);obtain ⟨b, h4, yo, hM⟩ := O.2 (Z ⟨14, .data⟩ (by simp) rfl);rw [gDf zm, if_neg (by decide)] at hM;obtain ⟨y0, y1, y2⟩ := zk3 hM;have z0 := hM.frozen 0;have z1 := hM.frozen 1;have z2 := hM.frozen 2;refine ⟨rfl, wIs (w' := ((X.setCell ⟨b, 0, none⟩ (.string un)).setCell ⟨b, 1, none⟩ (.string (RS (z - I)))).setCell ⟨b, 2, none⟩ (.string (RS (z - hq)))) (by intro c S; cases S) (by intro c S; cases S) ?_ ⟨_, rfl, rfl, ((O.1.setCell (p := ⟨b, 0, none⟩) h4 _).setCell (p := ⟨b, 1, none⟩) h4 _).setCell (p := ⟨b, 2, none⟩) h4 _, fun _ => ⟨b, h4, yo, ?_⟩⟩⟩
      ·clear Z Y J O
       generalize M.eval = ρ at *;simp [execOp, go_sem, *]
      ·rw [gDn zm, if_pos rfl]
       exact ((hM.set 0 _).set 1 _).set 2 _
     ·exact absurd R (by simp)
    ·intro hl M X Q Y O
     obtain ⟨bi, yQ, zb, ht⟩ := O.2 (Q 14 (by simp));rw [Q 15 (by simp), if_pos rfl] at ht;have z4 := O.1;have za := aof M [(48, .pointer (some ⟨w.heap.size + 1, 1, none⟩)), (49, .slice (some ⟨bu, ou, none⟩) U.length cu), (50, .int .i64 (G.1 : Int)), (51, .pointer (some ⟨bu, ou + G.1, none⟩)), (52, .string un), (53, .pointer (some ⟨w.heap.size + 2, 2, none⟩)), (54, .string (RS z)), (55, .string (RS I)), (56, .string (RS (z - I))), (57, .pointer (some ⟨w.heap.size + 2, 2, none⟩)), (58, .string (RS z)), (59, .string (RS hq)), (60, .string (RS (z - hq))), (61, .agg #[.string un, .string (RS (z - I)), .string (RS (z - hq))]), (16, .pointer (some ⟨bi, 0, none⟩))] _ Y.tsize Y.defers (fun s hs => Y.old s (by
      simp at hs;intro j oj V; rcases j with _|_|_|_|_|_|_|_|_|_|_|_|_|_|_|_|j <;> first | (injection V with V; subst V; simp; omega) | (injection V with V; subst V; simp; done) | exact absurd V (by simp))) ?_ (by simp)
     rotate_left
     ·intro p hp
      simp only [List.mem_cons, List.not_mem_nil, or_false] at hp;rcases hp with rfl|rfl|rfl|rfl|rfl|rfl|rfl|rfl|rfl|rfl|rfl|rfl|rfl|rfl|rfl
      ·exact Y.has 0 _ 48 rfl rfl (Q 0 (by simp))
      ·exact Y.has 1 _ 49 rfl rfl (Q 1 (by simp))
      ·exact Y.has 2 _ 50 rfl rfl (Q 2 (by simp))
      ·exact Y.has 3 _ 51 rfl rfl (Q 3 (by simp))
      ·exact Y.has 4 _ 52 rfl rfl (Q 4 (by simp))
      ·exact Y.has 5 _ 53 rfl rfl (Q 5 (by simp))
      ·exact Y.has 6 _ 54 rfl rfl (Q 6 (by simp))
      ·exact Y.has 7 _ 55 rfl rfl (Q 7 (by simp))
      ·exact Y.has 8 _ 56 rfl rfl (Q 8 (by simp))
      ·exact Y.has 9 _ 57 rfl rfl (Q 9 (by simp))
      ·exact Y.has 10 _ 58 rfl rfl (Q 10 (by simp))
      ·exact Y.has 11 _ 59 rfl rfl (Q 11 (by simp))
      ·exact Y.has 12 _ 60 rfl rfl (Q 12 (by simp))
      ·exact Y.has 13 _ 61 rfl rfl (Q 13 (by simp))
      ·exact zb
     rw [za];clear za Q Y O zb;simp only [List.foldl_cons, List.foldl_nil, Act.put, List.setIfInBounds_toArray, List.set_cons_zero, List.set_cons_succ];have yw := zf.out X z4;have yO := zbt hL z4;have xn := z4.size;have i1 := ht.cell 1 rfl;have yJ := ht.cell 2 rfl;clear zu zf zw zx;gi_wp2_with fail;refine ⟨trivial, by intro; omega, ?_⟩;refine CallsIn.mono (CallsIn.inRound l (callsIn_wide.2 (y8.out X yw))) ?_;rintro e X2 ⟨_, rfl, rfl, h3⟩;have hS := ht.bl h3;have z5 := zbt z4 h3;have zU := h3.size;have i3 := hS.cell 2 rfl;clear h3 i1 yJ ht;gi_wp2_with fail;refine ⟨trivial, by intro; omega, ?_⟩;refine CallsIn.mono (CallsIn.inRound l (callsIn_wide.2 (y9.out X2 (hg.below ((zbt hL z5)))))) ?_;rintro e X3 ⟨_, rfl, rfl, h3⟩;have zL := hS.bl h3;have t := zbt z5 h3;have xo := h3.size;clear h3 i3 hS;have hR := zbt hL t;have f1 := e1.bl t;have f2 := e2.bl t;have f3 := e3.bl t;have f4 := e4.bl t;have f6 := e6.bl t;have f7 := e7.bl t;have f8 := WRA C t;have zB : X3.heap[D]? = _ := (t.block D (Array.getElem?_eq_some_iff.1 h7).1).trans h7;obtain ⟨pv, he, rfl⟩ := oRs f8;obtain ⟨N, hN⟩ := zex (X3.alloc (.cells #[.string un, .string (RS (z - I)), .string (RS (z - hq))] 99));obtain ⟨j0, j1, j2⟩ := zk3 zL;have j7 := f7.cell 0 rfl;have zC := f7.alloc (.cells #[.string un, .string (RS (z - I)), .string (RS (z - hq))] 99);have hY := f8.alloc (.cells #[.string un, .string (RS (z - I)), .string (RS (z - hq))] 99);have zr := obN hY zC (by decide);have zp := f6.lt;have yS : st.length <= 1000 := by have := hw.out; omega
     gi_wp2_with (gi_at_builtin; refine wpListIn_append_own _ rfl _ _ 84 rfl W4.heap.size 99 i2 (.agg #[.string ⟨#[]⟩, .string ⟨#[]⟩, .string ⟨#[]⟩]) 3 48 Tryz.underlying84 yz yD yE hA rfl (by decide) _ _ _ rfl hY ⟨X3.heap.size, 0, none⟩ 1 1 [.string un, .string (RS (z - I)), .string (RS (z - hq))] rfl rfl (cte _ _ _ _ _) (by intro u hu; simp at hu; rcases hu with rfl | rfl | rfl <;> rfl) (by unfold maxLen; omega) (by omega) (by simp; omega) ?_
                  intro v8 w8 h8 hd _;have r7 := zC.gb hd (fun e => zr e.symm);have y0 := r7.cell 0 rfl;have yN := r7.frozen 0;have r6 := (f6.alloc (.cells #[.string un, .string (RS (z - I)), .string (RS (z - hq))] 99)).gb hd (fun e => obN hY (f6.alloc (.cells #[.string un, .string (RS (z - I)), .string (RS (z - hq))] 99)) (by decide) e.symm);have y6 := r6.cell 0 rfl;have xy := r6.frozen 0;obtain ⟨p8, c8, rfl⟩ := oRs h8)
     have zT := hd.size;simp at zT;have L : ∀ j, j < X3.heap.size -> (∀ r, (Value.slice pv st.length he).ownBlock = some r -> j ≠ r) -> j ≠ a -> j ≠ a + 1 -> ((w8.setCell ⟨a, 0, none⟩ (.slice p8 (st.length + 1) c8)).setCell ⟨a + 1, 0, none⟩ (.string (RS hq))).heap[j]? = X3.heap[j]? := fun j V hr hn1 hn2 => by
      rw [Below.heap_setCell _ _ _ j (fun e => hn2 e), Below.heap_setCell _ _ _ j (fun e => hn1 e), hd.block j (by simp; omega) (fun e => hr j e.symm rfl)];exact ho0 _ _ _ V
     have d : ∀ j, j < W4.heap.size -> ∀ r, (Value.slice pv st.length he).ownBlock = some r -> j ≠ r := fun j V r hr => by have := (f8.lt r hr).1; omega
     have zh : KeepsOthers X3 ((w8.setCell ⟨a, 0, none⟩ (.slice p8 (st.length + 1) c8)).setCell ⟨a + 1, 0, none⟩ (.string (RS hq))) := ⟨by simp; omega, fun j o V R => by
      have zl := (Array.getElem?_eq_some_iff.1 V).1;refine (L j zl (fun r hr e => ?_) (fun e => ?_) (fun e => ?_)).trans V
      ·subst e
       rcases f8.2 with ⟨h0, _⟩ | ⟨g', cap, ye, h0, hb, zj, _⟩
       ·rw [h0] at hr; cases hr
       ·injection h0 with h0 _ _
        rw [h0] at hr;cases hr;rw [zj] at V;cases V;cases R
      ·subst e
       unfold BoxN at f7;rw [f7] at V;cases V;cases R
      ·subst e
       unfold BoxN at f6;rw [f6] at V;cases V;cases R⟩
     have zn := f1.lt;have zo := f2.lt;have z8 := f3.lt;have z9 := f4.lt;have yM := bKf (i := 0) (v := .string (RS hq)) (r7.set 0 (.slice p8 (st.length + 1) c8)) (show a ≠ a + 1 by omega);have yK := (bKf (i := 0) (v := .slice p8 (st.length + 1) c8) r6 (show a + 1 ≠ a by omega)).set 0 (.string (RS hq));have h9 := World.ownsRow.kept h8 (gst (grl w8 (some a)) 0 (.slice p8 (st.length + 1) c8)) (.inr (fun e => obN h8 r7 (by decide) e.symm));have yL := bKf (i := 0) (v := .slice p8 (st.length + 1) c8) r6 (show a + 1 ≠ a by omega);have yf := World.ownsRow.kept h9 (gst (grl _ (some (a + 1))) 0 (.string (RS hq))) (.inr (fun e => obN h9 yL (by decide) e.symm));have zH := (Array.getElem?_eq_some_iff.1 zB).1;have zE : Below w.heap.size w ((w8.setCell ⟨a, 0, none⟩ (.slice p8 (st.length + 1) c8)).setCell ⟨a + 1, 0, none⟩ (.string (RS hq))) := (((hR.alloc hR.size (.cells #[.string un, .string (RS (z - I)), .string (RS (z - hq))] 99)).grown hd (by have := hR.size; simp; omega) (fun j V => by have := (hY.lt j V).1; omega)).setCell (p := ⟨a, 0, none⟩) (by show w.heap.size <= a; omega) _).setCell (p := ⟨a + 1, 0, none⟩) (by show w.heap.size <= a + 1; omega) _;have zS : Keep2 g W.heap.size W6 ((w8.setCell ⟨a, 0, none⟩ (.slice p8 (st.length + 1) c8)).setCell ⟨a + 1, 0, none⟩ (.string (RS hq))) := ⟨(L g (by omega) (d g (by omega)) (by omega) (by omega)).trans (t.block _ (by omega)), (L _ (by omega) (d _ (by omega)) (by omega) (by omega)).trans (t.block _ (by omega))⟩;refine ⟨(ze.trans (ka0 t)).trans zh, zd.trans zS, ⟨⟨⟨(L _ zn (d _ (by omega)) (by omega) (by omega)).trans f1, (L _ zo (d _ (by omega)) (by omega) (by omega)).trans f2, (L _ z8 (d _ (by omega)) (by omega) (by omega)).trans f3, (L _ z9 (d _ (by omega)) (by omega) (by omega)).trans f4, ?_⟩, ⟨.slice p8 (st.length + 1) c8, ?_, ?_⟩, by simp; omega, (L D zH (d D (by omega)) (by omega) (by omega)).trans zB⟩, zE⟩⟩
     ·rw [hm.out]; exact yK
     ·exact yM
     ·rw [hm.out]
      show World.ownsRow _ _ _ _ _ (st ++ [_]).length (cIv (st ++ [_]));rw [cIs, List.length_append, zy.out];exact yf
   ·have zM : 0 <= cmpQ hq I := by unfold cmpQ; rw [if_neg hlt]; split <;> omega
    have yq : decide (0 <= cmpQ hq I) = true := decide_eq_true zM;have hm : Hid (logTo U H z ((pre ++ [G]).map Subtype.val) = (st, I)) := by
     unfold Hid; rw [zv.out, hX.out, if_neg hlt]
    generalize cmpQ hq I = cz at *;clear hX hlt;gi_wp2_with fail;refine ⟨ze, zd, ⟨⟨⟨e1, e2, e3, e4, ?_⟩, ⟨v, e7, ?_⟩, by omega, h7⟩, hL⟩⟩
    ·rw [hm.out]; exact e6
    ·rw [hm.out]; exact C
  case done' =>
   rintro D2 ys W5 xf hF ⟨⟨⟨e1, e2, e3, e4, e6⟩, ⟨v, e7, C⟩, e9, h7⟩, z3⟩ zJ;rw [hF] at C;have ya : Hid ((logTo U H z (bwd H.length H.length)).1 = logL U H z) := rfl;rw [ya.out] at C;obtain ⟨pv, he, rfl⟩ := oRs C;have x0 := e7.cell 0 rfl;have y3 := e3.cell 0 rfl;have xw := e3.frozen 0;have y4 := e4.cell 0 rfl;have xx := e4.frozen 0;have z8 := e3.lt;have z9 := e4.lt;have yP := (Array.getElem?_eq_some_iff.1 zJ).1;clear hF;gi_wp2_with fail;have zK : ∀ E : Nat, E ≠ w.heap.size + 3 -> E ≠ w.heap.size + 4 -> ((W5.setCell ⟨w.heap.size + 3, 0, none⟩ (.slice pv (logL U H z).length he)).setCell ⟨w.heap.size + 4, 0, none⟩ (.int .i64 0)).heap[E]? = W5.heap[E]? := fun E n1 n2 => by
    rw [Below.heap_setCell _ _ _ E (fun e => n2 e), Below.heap_setCell _ _ _ E (fun e => n1 e)]
   have r3 := bKf (i := 0) (v := .int .i64 0) (e3.set 0 (.slice pv (logL U H z).length he)) (show w.heap.size + 3 ≠ w.heap.size + 4 by omega);have r4 := (bKf (i := 0) (v := .slice pv (logL U H z).length he) e4 (show w.heap.size + 4 ≠ w.heap.size + 3 by omega)).set 0 (.int .i64 0);have o1 := World.ownsRow.kept C (gst (grl W5 (some (w.heap.size + 3))) 0 (.slice pv (logL U H z).length he)) (.inr (fun e => by have := (C.lt _ e).1; omega));have o2 := World.ownsRow.kept o1 (gst (grl _ (some (w.heap.size + 4))) 0 (.int .i64 0)) (.inr (fun e => by have := (C.lt _ e).1; omega));have yh := (z3.setCell (p := ⟨w.heap.size + 3, 0, none⟩) (by show w.heap.size <= w.heap.size + 3; omega) (.slice pv (logL U H z).length he)).setCell (p := ⟨w.heap.size + 4, 0, none⟩) (by show w.heap.size <= w.heap.size + 4; omega) (.int .i64 0);have xg : D ≠ D2 := by omega
   have zV : w2.heap.size <= W5.heap.size := by omega
   refine lms (B := w2.heap.size) ⟨[D2, D], rfl, (by simp; omega), fun E hE => by
    rcases List.mem_cons.1 hE with rfl | hE
    ·exact ⟨by omega, (zK _ (by omega) (by omega)).trans zJ⟩
    ·rw [List.mem_singleton] at hE; subst hE; exact ⟨Y, (zK _ (by omega) (by omega)).trans h7⟩⟩ fun w' hw' => ?_
   have q3 : BoxN w' (w.heap.size + 3) 84 [.slice pv (logL U H z).length he] := (hw'.block _ (.inl (by omega)) r3.lt).trans r3;have q4 : BoxN w' (w.heap.size + 4) 49 [.int .i64 0] := (hw'.block _ (.inl (by omega)) r4.lt).trans r4;have k3 := q3.cell 0 rfl;have k4 := q4.cell 0 rfl;refine ⟨.tuple #[.slice pv (logL U H z).length he, .int .i64 0], by simp [results, Tryz.results31, go_sem, k3, k4], ?_⟩;refine ⟨_, rfl, ⟨_, rfl, oRb (osk o2 hw') (by omega)⟩, yh.trans ((hw'.below (by simpa using zV)).mono (by omega))⟩
  case stop' =>
   rintro D c pre W Y yl h hK;exact h.elim
 case stop =>
  rintro D c pre W Y yl h hK;exact h.elim
theorem lj0 (w : World) (n : Good w) (M K N X L : Option Addr) (Z O Q S R V Y cs : Nat) (x y : ByteArray) (z : Rat) (U : List ByteArray) (H : List Rat) (p : H.length = U.length) (B : 0 < U.length) (A : U.length <= 1000) (o : RdS w (.slice X U.length Y) U)
 (k : Nat) (m : 0 < k) (t : k <= 90) (C : ∀ q ∈ H, Sz k q) (s : Sz k z) (D : Nat -> Option Addr) (E : Nat -> Nat)
 (J : Hid (∀ w', Below w.heap.size w w' -> Good w' -> Calls Tryz.prog 64 #[.agg #[.slice M Z S, .slice K O R], .agg #[.slice N Z V, .slice X U.length Y, .slice L Q cs], .agg #[.string x, .string y, .string (RS z)]] w' (Ret (fun r _ => r = .int .i64 0) w')))
 (I : Hid (∀ i, i < U.length -> ∀ w', Below w.heap.size w w' -> Calls Tryz.prog 48 #[.agg #[.slice N Z V, .slice X U.length Y, .slice L Q cs], .int .i64 (i : Int)] w' (Ret (fun r _ => r = .slice (D i) Z (E i)) w')))
 (G : Hid (∀ i, i < U.length -> ∀ w', Below w.heap.size w w' -> Good w' -> Calls Tryz.prog 114 #[.agg #[.slice M Z S, .slice K O R], .slice (D i) Z (E i), .agg #[.string x, .string y]] w' (Ret (fun r _ => r = .tuple #[.string (RS ((H[i]?).getD 0)), .int .i64 0]) w'))) :
 Calls Tryz.prog 31 #[.agg #[.slice M Z S, .slice K O R], .agg #[.slice N Z V, .slice X U.length Y, .slice L Q cs], .agg #[.string x, .string y, .string (RS z)]] w (Ret (fun r w' => ∃ v, r = .tuple #[v, .int .i64 0] /\ w'.ownsRow w.heap.size 99 3 v (logL U H z).length (cIv (logL U H z))) w) :=
 callsIn_wide.1 (lin 6 (by omega) w n M K N X L Z O Q S R V Y cs x y z U H p B A o k m t C s D E J I G)
end Go.Proofs.YtmcbeajdloaliaaGreatDoor
namespace Go.Proofs.YtmcbeajdloaliaaGreatDoor
open Go.RowKit Go.Lib
def findE (U : List ByteArray) (n : Nat) (u : ByteArray) : Int := if idxS U u < 0 then 10 else if idxS U u = (n : Int) then 21 else 0
theorem sB0 (w : World) (x t y s v : Value) (P : List PtQ) (T : List Tri) (k : Nat) (B : List Rat) (U : List ByteArray) (S : List (List Rat)) (h : DepN w x t y s v P T k B U S) (u : ByteArray) (n : Good w) :
 Calls Tryz.prog 58 #[.agg #[x, t], .agg #[y, s, v], .string u] w (Ret (fun r _ => r = .tuple #[.int .i64 (if findE U S.length u = 0 then idxS U u else 0), .int .i64 (findE U S.length u)]) w) := by
 have O : Hid (∀ w', Below w.heap.size w w' -> Good w' -> _) := fun w' K hg' => sa0 w' _ _ _ _ _ P T k _ U _ (h.below K).toT hg';rw [h.ok] at O;have G : Hid (∀ w', Below w.heap.size w w' -> _) := fun w' K => iSa _ U u w' (h.below K).unit;obtain ⟨m, q, l, p, C, E, z, D, A, cs, rfl, rfl, rfl, rfl, rfl⟩ := h.open;have N : Hid (findE U S.length u = _) := rfl;unfold findE at N;obtain ⟨L, V⟩ := zex (findE U S.length u);have H : Hid (L = if idxS U u < 0 then 10 else if idxS U u = (S.length : Int) then 21 else 0) := by unfold Hid; rw [V]; rfl
 rw [<- V];generalize idxS U u = iz at *;obtain ⟨i, R⟩ := zex (if L = 0 then iz else 0)
 rw [<- R];have Z := hid R;clear h N V R;go_enter Tryz.func58, Tryz.ntmps58;go_wp2_with fail;obtain ⟨W, I⟩ := zex ((w.alloc (.cells #[.slice m P.length q, .slice l T.length p] 41)).alloc (.cells #[.slice C P.length E, .slice z U.length D, .slice A S.length cs] 45));have J : Below w.heap.size w W := by rw [I]; exact zal2 _ _ _
 have Q : BoxN W (w.heap.size + 1) 45 [.slice C P.length E, .slice z U.length D, .slice A S.length cs] := by rw [I]; exact BoxN.new _ #[.slice C P.length E, .slice z U.length D, .slice A S.length cs] _ _ (by simp)
 rw [<- I];clear I;refine zR (O.out W J (n.below J)) fun w1 hb1 => ?_;have Y := zbt J hb1;replace Q := Q.bl hb1;have o := Q.cell 1 rfl;clear hb1 J;go_wp2_with fail;refine zR (G.out w1 Y) fun w2 hb2 => ?_;have X := zbt Y hb2;replace Q := Q.bl hb2;have j := Q.cell 2 rfl;clear hb2 Y o;by_cases h0 : iz < 0
 ·have M : Hid (L = 10) := by unfold Hid; rw [H.out, if_pos h0]
  go_wp2_with fail;go_ret2;exact ⟨_, rfl, by rw [Z.out, M.out]; rfl, X⟩
 ·by_cases h1 : iz = (S.length : Int)
  ·have M : Hid (L = 21) := by unfold Hid; rw [H.out, if_neg h0, if_pos h1]
   have K : (iz == (S.length : Int)) = true := by rw [beq_iff_eq]; exact h1
   clear h1;go_wp2_with fail;go_ret2;exact ⟨_, rfl, by rw [Z.out, M.out]; rfl, X⟩
  ·have M : Hid (L = 0) := by unfold Hid; rw [H.out, if_neg h0, if_neg h1]
   have K : (iz == (S.length : Int)) = false := by rw [beq_eq_false_iff_ne]; exact h1
   go_wp2_with fail;go_ret2;exact ⟨_, rfl, by rw [Z.out, M.out]; rfl, X⟩
theorem st0 (w : World) (K J vb vu vs : Value) (P : List PtQ) (T : List Tri) (k : Nat) (B : List Rat) (U : List ByteArray) (S : List (List Rat)) (h : DepN w K J vb vu vs P T k B U S) (u : ByteArray) (i : Nat) (hi : i < S.length) (x : idxS U u = (i : Int)) (Q : Rat)
 (I : ∀ w' vf vg, FieldIn w' K J vf P T k S[i] -> FieldIn w' K J vg P T k (fldN B S i) -> Good w' -> Calls Tryz.prog 59 #[.agg #[K, J], vf, vg] w' (Ret (fun r _ => r = .tuple #[.string (RS Q), .int .i64 0]) w')) (hg : Good w) :
 Calls Tryz.prog 21 #[.agg #[K, J], .agg #[vb, vu, vs], .string u] w (Ret (fun r _ => r = .tuple #[.string (RS Q), .int .i64 0]) w) := by
 have z : findE U S.length u = 0 := by
  unfold findE;rw [x, if_neg (by omega), if_neg (by omega)]
 have H : Hid (∀ w', Below w.heap.size w w' -> Good w' -> _) := fun w' hb hg' => sB0 w' _ _ _ _ _ P T k B U S (h.below hb) u hg';rw [z, if_pos rfl, x] at H;obtain ⟨pf, cf, y, E⟩ := h.surface i (by omega);obtain ⟨L, os, R, h0, C, X⟩ := h.surf.cells (by omega);obtain ⟨pg, cg, A, M⟩ := X i hi;have N : S[i] ∈ B :: S := List.mem_cons_of_mem _ (List.getElem_mem hi);have O := h.fl _ N;rw [O] at A M;have HE : Hid (∀ w', Below w.heap.size w w' -> Good w' -> Calls Tryz.prog 59 #[.agg #[K, J], .slice pg P.length cg, .slice pf P.length cf] w' (Ret (fun r _ => r = .tuple #[.string (RS Q), .int .i64 0]) w')) := fun w' hb hg' =>
  I w' _ _ ⟨RdC.below h.p hb, RdC.below h.t hb, h.m, RdC.below M hb, h.fs _ N, O⟩ ⟨RdC.below h.p hb, RdC.below h.t hb, h.m, RdC.below y hb, h.fs _ (fNm B S (by omega)), h.fl _ (fNm B S (by omega))⟩ hg'
 have d := hid E;obtain ⟨j, q, g, p, l, s, f, o, ps, cs, rfl, rfl, rfl, rfl, h1⟩ := h.open;subst h0;injection h1 with hv1 hv2 hv3
 clear hv2 hv1 ps hv3 cs;generalize RS Q = sv at *;clear h I X M y E N O z;generalize S.length = n at *;have h5 : (i : Int) < (n : Int) := by omega
 go_enter Tryz.func21, Tryz.ntmps21;go_wp2_with fail;obtain ⟨W, D⟩ := zex ((w.alloc (.cells #[.slice j P.length q, .slice g T.length p] 41)).alloc (.cells #[.slice l P.length s, .slice f U.length o, .slice (some ⟨L, os, none⟩) n R] 45));have m : Below w.heap.size w W := by rw [D]; exact zal2 _ _ _
 have c : BoxN W w.heap.size 41 [.slice j P.length q, .slice g T.length p] := by rw [D]; exact (BoxN.new w #[.slice j P.length q, .slice g T.length p] _ _ rfl).alloc _
 have t : BoxN W (w.heap.size + 1) 45 [.slice l P.length s, .slice f U.length o, .slice (some ⟨L, os, none⟩) n R] := by rw [D]; exact BoxN.new _ #[.slice l P.length s, .slice f U.length o, .slice (some ⟨L, os, none⟩) n R] _ _ (by simp)
 rw [<- D];clear D;refine zR (H.out W m (hg.below m)) fun w1 hb1 => ?_;have V := zbt m hb1;replace c := c.bl hb1;replace t := t.bl hb1;obtain ⟨m0, m1⟩ := zk2 c;obtain ⟨d0, d1, d2⟩ := zk3 t;have x0 := zcq V C A;have h6 := t.lt;have h4 : L < w1.heap.size := Nat.lt_of_lt_of_le C V.size;have a : Good w1.drew := (hg.below V).drewN 1;have G : Below w.heap.size w w1.drew := V.trans ((bdN w1 1).mono V.size);clear hb1 m;go_upto_region 4 with fail;go_region_held3 (fun w' => w'.cell? ⟨w.heap.size, 0, none⟩ = some (.slice j P.length q) /\ w'.cell? ⟨w.heap.size, 1, none⟩ = some (.slice g T.length p) /\ w'.cell? ⟨w.heap.size + 1, 0, none⟩ = some (.slice l P.length s) /\ w'.cell? ⟨w.heap.size + 1, 1, none⟩ = some (.slice f U.length o) /\ w'.cell? ⟨w.heap.size + 1, 2, none⟩ = some (.slice (some ⟨L, os, none⟩) n R) /\ w'.cell? ⟨L, os + i, none⟩ = some (.slice pg P.length cg))
  (first | exact ⟨m0, m1, d0, d1, d2, x0⟩ | exact ⟨p_1_0, p_1_1, p_1_2, p_1_3, p_1_4, p_1_5⟩ | exact ⟨p_2_0, p_2_1, p_2_2, p_2_3, p_2_4, p_2_5⟩)
  (first
  | (go_at_call 59; refine (HE.out _ ((zbt G Z)) v).mono ?_; rintro e h3 ⟨_, rfl, rfl, Y⟩
     have p_2_0 := zct Y p_1_0;have p_2_1 := zct Y p_1_1;have p_2_2 := zct Y p_1_2;have p_2_3 := zct Y p_1_3;have p_2_4 := zct Y p_1_4;have p_2_5 := zct Y p_1_5;have h9 := Y.size;have h7 := v.below Y)
  | (go_at_call 48; refine (d.out _ G).mono ?_; rintro e h2 ⟨_, rfl, rfl, Z⟩
     have p_1_0 := zct Z m0;have p_1_1 := zct Z m1;have p_1_2 := zct Z d0;have p_1_3 := zct Z d1;have p_1_4 := zct Z d2;have p_1_5 := zct Z x0;have h8 : w1.heap.size <= h2.heap.size := Z.size;have v := a.below Z))
 have pB : Below w1.heap.size w1 h3 := zbt (zbt (bdN w1 1) Z) Y;have b := zbt V pB;go_wp2_with fail;go_ret2;exact ⟨_, rfl, rfl, b⟩
theorem dg0 {P : List PtQ} {T : List Tri} {B : List Rat} {U : List ByteArray} {S : List (List Rat)} (R : T ≠ []) (Q : ∀ F ∈ B :: S, F.length = P.length) (M : ∀ F ∈ B :: S, ∀ q ∈ F, Sz 200 q) (L : U.length = S.length + 1) (V : U.length <= 60)
 (O : ∀ i (h : i < U.length), nameQ U[i] = true /\ hasS (U.take i) U[i] = false) (N : ∀ i, i < S.length -> belowB (fldN B S i) (fldN B S (i + 1)) = true) : depE P T (B.map RS) U (S.map fun F => F.map RS) = 0 := by
 have Z : ∀ F ∈ B :: S, errF P.length (F.map RS) = 0 := fun F hF => eFo (Q F hF) (M F hF);rw [dEr R (Z B (by simp)), if_neg (by omega), if_neg (by omega)];rw [fEn (fun j hj => by
  obtain ⟨Y, X⟩ := O j hj;exact uBo hj Y X), if_neg (by simp), if_neg (by rw [List.length_map]; omega)]
 refine fEn fun j hj => ?_;rw [List.length_map] at hj;unfold sBd;rw [fTm, fTm, if_neg (by rw [Z _ (fNm B S (by omega))]; simp), nTm, nTm, if_pos (N j hj)]
def pP28 : List PtQ := [(0, 0), (4, 0), (4, 4), (0, 4)]
def tT28 : List Tri := [(0, 1, 2), (0, 2, 3)]
theorem k28_P : sc0 0 0 0 false = pP28 := by decide +kernel
theorem k28_T : sTT 0 = tT28 := by decide +kernel
theorem k2m : MeshOK pP28 tT28 2 := by rw [<- k28_P, <- k28_T]; exact sr0 0 0 0 false
theorem k2l : locN pP28 tT28 (1, 1) tT28.length = ((0 : Nat) : Int) :: [1] := by decide +kernel
theorem k2v : volTo pP28 tT28 (subQ [5, 5, 5, 5] [2, 2, 2, 2]) 0 tT28.length = 48 := by decide +kernel
def uU28 : List ByteArray := [⟨#[97]⟩, ⟨#[98]⟩, ⟨#[99]⟩]
theorem k2n : ∀ i (h : i < uU28.length), nameQ uU28[i] = true /\ hasS (uU28.take i) uU28[i] = false := by
 intro i h
 match i, h with
 | 0, _ => exact ⟨show nameQ ⟨#[97]⟩ = true by decide +kernel, show hasS [] ⟨#[97]⟩ = false by decide +kernel⟩
 | 1, _ => exact ⟨show nameQ ⟨#[98]⟩ = true by decide +kernel, show hasS [⟨#[97]⟩] ⟨#[98]⟩ = false by decide +kernel⟩
 | 2, _ => exact ⟨show nameQ ⟨#[99]⟩ = true by decide +kernel, show hasS [⟨#[97]⟩, ⟨#[98]⟩] ⟨#[99]⟩ = false by decide +kernel⟩
theorem sz2n (n : Nat) (h : n < 10) : Sz 2 ((n : Int) : Rat) := (sz1 n h).mono (by omega)
theorem k2s {F : List Rat} (h : F ∈ [([0, 0, 0, 0] : List Rat), [2, 2, 2, 2], [5, 5, 5, 5]]) : ∀ q ∈ F, Sz 2 q := by
 intro q hq;simp only [List.mem_cons, List.not_mem_nil, or_false] at h;rcases h with rfl | rfl | rfl <;> simp at hq <;> subst hq
 ·exact sz2n 0 (by omega)
 ·exact sz2n 2 (by omega)
 ·exact sz2n 5 (by omega)
theorem k2d : depE pP28 tT28 (([0, 0, 0, 0] : List Rat).map RS) uU28 (([[2, 2, 2, 2], [5, 5, 5, 5]] : List (List Rat)).map fun F => F.map RS) = 0 :=
 dg0 (by decide) (by decide) (fun F hF q hq => (k2s hF q hq).mono (by omega)) rfl (by decide) k2n (by decide +kernel)
theorem k28_n {w : World} {vp vt vb vu vs : Value} (Y : RdP w vp (strP pP28)) (V : RdT w vt tT28) (Z : RdQ w vb [0, 0, 0, 0]) (U : RdS w vu uU28) (X : RdF w vs [[2, 2, 2, 2], [5, 5, 5, 5]]) : DepN w vp vt vb vu vs pP28 tT28 2 [0, 0, 0, 0] uU28 [[2, 2, 2, 2], [5, 5, 5, 5]] :=
 ⟨Y, V, k2m, Z, U, X, by decide, fun F hF => k2s hF, rfl, by decide, k2d⟩
theorem k28_at : uAt uU28 [0, 2, 5] 2 = ⟨#[98]⟩ /\ cHH [0, 2, 5] 2 = 2 := by decide +kernel
theorem k2c : decide (cHH [0, 2, 5] 2 = 0) = false := by decide +kernel
theorem kf0 : logL uU28 [0, 2, 5] 6 = [⟨⟨#[99]⟩, 0, 1⟩, ⟨⟨#[98]⟩, 1, 4⟩, ⟨⟨#[97]⟩, 4, 6⟩] := by decide +kernel
theorem k2i : insS [0, 0, 0, 0] [[2, 2, 2, 2], [5, 5, 5, 5]] [1, 1, 1, 1] 1 = [[2, 2, 2, 2], [3, 3, 3, 3], [6, 6, 6, 6]] := by decide +kernel
theorem kd0 : sd0 pP28 [0, 0, 0, 0] (0, 1, 2) = (0, 0) /\ sd0 pP28 [2, 2, 2, 2] (0, 1, 2) = (0, 0) /\ sd0 pP28 [5, 5, 5, 5] (0, 1, 2) = (0, 0) /\ onQ pP28 [0, 0, 0, 0] (0, 1, 2) (1, 1) = 0 /\ onQ pP28 [2, 2, 2, 2] (0, 1, 2) (1, 1) = 2 /\ onQ pP28 [5, 5, 5, 5] (0, 1, 2) (1, 1) = 5 := by decide +kernel
end Go.Proofs.YtmcbeajdloaliaaGreatDoor
