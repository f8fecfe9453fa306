import Derived.Test.YtgdpoankaojklaaGreatDoorVS30
import Derived.Shelf.Spec.SlicesInsertGrow
/- slices.Clone at texts mesh.Contains The walks over field.Profile$1, field.Profile. stack.clone. slices.Insert of one value into a row of the call's own, at texts and at A deposit of numbers -/
set_option maxHeartbeats 8000000
set_option maxRecDepth 100000
namespace Go.Proofs.YtgdpoankaojklaaGreatDoor
open Go.RowKit Go.Lib
theorem strs_nil (a : Addr) (n c : Nat) (w : World) : (binOp BinOp.eql 40 (.slice (some a) n c) (.slice none 0 0)).run Tryz.prog w = .ok (.bool false) w := by kernel_rfl
theorem cloneS_any (w : World) (vl : Value) (L : List ByteArray) (h : RdS w vl L) (hne : L ≠ []) (hl : L.length <= 1000000) :
 Calls Tryz.prog 103 #[vl] w (Ret (fun r w' => w'.ownsRow w.heap.size 9 1 r L.length (L.map fun x => Value.string x)) w) := by
 obtain ⟨p, c, rfl, hlc, hm, hr⟩ := h.open;obtain ⟨b, off, rfl, hb, hcell⟩ := hr hne;have hl0 := List.length_pos_iff.2 hne;obtain ⟨i0, hi, hz0, hz1, hz2⟩ := info_parts info_Sg;have HN : Hid (∀ o, ∀ (j : Nat) (u : Value), (L.map fun x => Value.string x)[j]? = some u -> (w.alloc o).cell? ((⟨b, off, none⟩ : Addr).add j) = some u) := fun o j u hu => by
  rw [List.getElem?_map] at hu;rcases Nat.lt_or_ge j L.length with hj | hj
  ·rw [List.getElem?_eq_getElem hj] at hu
   injection hu with hu
   subst hu;have hadd : (⟨b, off, none⟩ : Addr).add j = ⟨b, off + j, none⟩ := by unfold Addr.add; split <;> simp_all
   rw [hadd];exact cell_alloc_l o (hcell j hj)
  ·rw [List.getElem?_eq_none hj] at hu; cases hu
 have HO : Hid (∀ u ∈ (L.map fun x => Value.string x), u.oneCell' = true) := fun u hu => by
  obtain ⟨q, _, rfl⟩ := List.mem_map.1 hu;rfl
 clear h hr hcell hne;have hnil := strs_nil;go_enter Tryz.func103, Tryz.ntmps103
 go_wp2_with (at_builtin; refine wpList_append_own _ rfl _ _ 40 rfl w.heap.size 9 i0 (.string ⟨#[]⟩) 1 16 Tryz.underlying40 hi hz0 hz1 hz2 rfl (by decide) (.slice (some ⟨w.heap.size, 0, none⟩) 0 0) 0 [] rfl (World.ownsRow_made w #[] 0 (Nat.le_refl _) (by decide) rfl) ⟨b, off, none⟩ L.length c (L.map fun x => Value.string x) rfl (by simp) (HN.out _) HO.out (by unfold maxLen; omega) (by omega) (by simp) ?_
              intro v7 w7 hown7 hgrow7 _;have hb7 : Below w.heap.size w w7 := ((Below.refl _ _).alloc (Nat.le_refl _) _).grown hgrow7 (by simp) (fun j hj => by simp [Value.ownBlock] at hj; omega);clear hgrow7)
 have HOW : Hid (w7.ownsRow w.heap.size 9 1 v7 L.length (L.map fun x => Value.string x)) := by
  rw [Nat.zero_add, List.nil_append] at hown7;exact hown7
 clear hown7;go_wp2_with fail;go_ret;exact ⟨_, rfl, HOW.out, hb7⟩
def FlsD (E : Nat) (w : World) (B : Nat) (v : Value) (S : List (List Rat)) : Prop :=
 ∃ us : List Value, us.length = S.length /\ w.ownsRow B E 1 v S.length us /\ (∀ (i : Nat) (u : Value) (F : List Rat), us[i]? = some u -> S[i]? = some F -> FldV w B u F) /\
  ∀ (i j : Nat) (u u' : Value), i ≠ j -> us[i]? = some u -> us[j]? = some u' -> u.ownBlock ≠ u'.ownBlock
theorem FlsD.v {E : Nat} {w : World} {B : Nat} {v : Value} {S : List (List Rat)} (h : FlsD E w B v S) : FlsV E w B v S := by
 obtain ⟨us, h0, h1, h2, -⟩ := h;exact ⟨us, h0, h1, h2⟩
theorem FlsD.nil (E : Nat) (w : World) (B : Nat) : FlsD E w B (.slice none 0 0) [] := ⟨[], rfl, World.ownsRow_nil _ _ _ _, fun i u F h => by simp at h, fun i j u u' _ h => by simp at h⟩
theorem FlsD.below {E : Nat} {w w' : World} {B : Nat} {v : Value} {S : List (List Rat)} (h : FlsD E w B v S) (hb : Below w.heap.size w w') : FlsD E w' B v S := by
 obtain ⟨us, h0, h1, h2, h3⟩ := h;exact ⟨us, h0, World.ownsRow.belowAll h1 hb, fun i u F a b => (h2 i u F a b).below hb, h3⟩
theorem FlsD.base {E : Nat} {w : World} {B B' : Nat} {v : Value} {S : List (List Rat)} (h : FlsD E w B v S) (hb : B' <= B) : FlsD E w B' v S := by
 obtain ⟨us, h0, h1, h2, h3⟩ := h;exact ⟨us, h0, ownsRow_base h1 hb, fun i u F a b => (h2 i u F a b).base hb, h3⟩
theorem FlsD.snoc {E : Nat} (hE : 57 ≠ E) {w w' : World} {B M : Nat} {v v' u : Value} {S : List (List Rat)} {us : List Value} {F : List Rat} (h0 : us.length = S.length) (h1 : w.ownsRow B E 1 v S.length us)
 (h2 : ∀ (i : Nat) (u : Value) (F : List Rat), us[i]? = some u -> S[i]? = some F -> FldV w B u F) (h3 : ∀ (i j : Nat) (u u' : Value), i ≠ j -> us[i]? = some u -> us[j]? = some u' -> u.ownBlock ≠ u'.ownBlock)
 (hM : ∀ (i : Nat) (u : Value) (b : Nat), us[i]? = some u -> u.ownBlock = some b -> b < M)
 (hg : w.grownBy w' v.ownBlock) (hown : w'.ownsRow B E 1 v' (S.length + 1) (us ++ [u])) (hu : FldV w M u F) (hu0 : F ≠ []) (hBM : B <= M) : FlsD E w' B v' (S ++ [F]) := by
 obtain ⟨us', e0, e1, e2⟩ := FlsV.snoc hE h0 h1 h2 hg hown (hu.base hBM);have hub : ∃ b, u.ownBlock = some b /\ M <= b := by
  obtain ⟨h5, h6⟩ := hu;rcases h6 with ⟨rfl, h7⟩ | ⟨g, cap, cur, rfl, hb, _⟩
  ·exact absurd (List.length_eq_zero_iff.1 h7) hu0
  ·exact ⟨g, rfl, hb⟩
 obtain ⟨b, hub, hMb⟩ := hub;have key : ∀ {x F}, FldV w B x F -> FldV w' B x F := fun h => World.ownsRow.kept h hg (owns_apart h h1 hE);refine ⟨us ++ [u], by simp [h0], by rw [List.length_append]; exact hown, fun i x G a c => ?_, fun i j x y hij a c => ?_⟩
 ·rcases Nat.lt_or_ge i S.length with h | h
  ·rw [List.getElem?_append_left (by omega)] at a
   rw [List.getElem?_append_left h] at c;exact key (h2 i x G a c)
  ·have hj := (List.getElem?_eq_some_iff.1 c).1
   rw [List.length_append] at hj;obtain rfl : i = S.length := by simp at hj; omega
   rw [List.getElem?_append_right (Nat.le_refl _), Nat.sub_self] at c;rw [List.getElem?_append_right (by omega), h0, Nat.sub_self] at a;simp at a c;subst a; subst c;exact key (hu.base hBM)
 ·have hlen : (us ++ [u]).length = S.length + 1 := by simp [h0]
  have hi := (List.getElem?_eq_some_iff.1 a).1;have hj := (List.getElem?_eq_some_iff.1 c).1;rw [hlen] at hi hj;have last : ∀ {k : Nat} {z : Value}, k = S.length -> (us ++ [u])[k]? = some z -> z = u := fun hk hz => by
   subst hk;rw [List.getElem?_append_right (by omega), h0, Nat.sub_self] at hz;simpa using hz.symm
  have fst : ∀ {k : Nat} {z : Value}, k < S.length -> (us ++ [u])[k]? = some z -> us[k]? = some z := fun hk hz => by
   rwa [List.getElem?_append_left (by omega)] at hz
  rcases Nat.lt_or_ge i S.length with h | h <;> rcases Nat.lt_or_ge j S.length with h' | h'
  ·exact h3 i j x y hij (fst h a) (fst h' c)
  ·rw [last (by omega) c, hub]
   intro e;have := hM i x b (fst h a) e;omega
  ·rw [last (by omega) a, hub]
   intro e;have := hM j y b (fst h' c) e.symm;omega
  ·omega
theorem FlsD.kept {E : Nat} {w w' : World} {B : Nat} {v : Value} {S : List (List Rat)} {row : Option Nat} (h : FlsD E w B v S) (hg : w.grownBy w' row) (hne : ∀ (x : Value) (e s n : Nat) (xs : List Value), (e = E \/ e = 57) -> w.ownsRow B e s x n xs -> x.ownBlock = none \/ x.ownBlock ≠ row) : FlsD E w' B v S := by
 obtain ⟨us, h0, h1, h2, h3⟩ := h;exact ⟨us, h0, World.ownsRow.kept h1 hg (hne _ _ _ _ _ (.inl rfl) h1), fun i u F a b => World.ownsRow.kept (h2 i u F a b) hg (hne _ _ _ _ _ (.inr rfl) (h2 i u F a b)), h3⟩
theorem contains_of (w : World) (vp vt : Value) (sx sy : ByteArray) (P : List (ByteArray × ByteArray)) (T : List Tri) (hp : RdP w vp P) (ht : RdT w vt T) (Φ : Value -> World -> Prop) (b : Bool) (n : Int)
 (hΦ : ∀ r w', Φ r w' -> ∃ ps m cs, r = .tuple #[.slice ps m cs, .int .i64 n] /\ decide ((0 : Int) < (m : Int)) = b)
 (HL : ∀ w', Below w.heap.size w w' -> Calls Tryz.prog 75 #[.agg #[vp, vt], .agg #[.string sx, .string sy]] w' (Ret Φ w')) :
 Calls Tryz.prog 26 #[.agg #[vp, vt], .agg #[.string sx, .string sy]] w (Ret (fun r _ => r = .tuple #[.bool b, .int .i64 n]) w) := by
 have HL' := hid HL;have HF := hid hΦ;obtain ⟨pp, cp, rfl, -, -, -⟩ := hp.open;obtain ⟨pt, ct, rfl, -, -, -⟩ := ht.open;clear HL hΦ hp ht;go_enter Tryz.func26, Tryz.ntmps26;go_wp2_with fail;obtain ⟨W, hW⟩ : ∃ W, W = (w.alloc (.cells #[.slice pp P.length cp, .slice pt T.length ct] 37)).alloc (.cells #[.string sx, .string sy] 63) := ⟨_, rfl⟩;have hB : Below w.heap.size w W := by rw [hW]; exact zal2 _ _ _
 rw [<- hW];clear hW;refine (HL'.out W hB).mono ?_;rintro e w1 ⟨r, rfl, hr, hb1⟩;obtain ⟨ps, m, cs, rfl, hmb⟩ := HF.out _ _ hr;have hB1 := hB.trans (hb1.mono hB.size);clear hr hb1 hB;rcases Nat.eq_zero_or_pos m with rfl | hm
 ·obtain rfl : b = false := by rw [<- hmb]; rfl
  clear hmb;go_wp2_with fail;go_ret2;exact ⟨_, rfl, rfl, hB1⟩
 ·have hm1 : (0 : Int) < (m : Int) := by omega
  obtain rfl : b = true := by rw [<- hmb]; exact decide_eq_true hm1
  clear hmb;go_wp2_with fail;go_ret2;exact ⟨_, rfl, rfl, hB1⟩
theorem RdI.shape {w : World} {v : Value} {l : List Int} (h : RdI .i64 w v l) : ∃ ps cs, v = .slice ps l.length cs := by
 obtain ⟨ps, cs, rfl, -, -, -⟩ := h.open;exact ⟨ps, cs, rfl⟩
theorem contains_ok (w : World) (vp vt : Value) (P : List PtQ) (T : List Tri) (k : Nat) (hp : RdP w vp (strP P)) (ht : RdT w vt T) (hm : MeshOK P T k) (p : PtQ) (hpz : SzP 200 p) (hg : Good w) :
 Calls Tryz.prog 26 #[.agg #[vp, vt], .agg #[.string (RS p.1), .string (RS p.2)]] w (Ret (fun r _ => r = .tuple #[.bool (decide ((0 : Int) < ((locN P T p T.length).length : Int))), .int .i64 0]) w) := by
 refine contains_of w vp vt _ _ _ T hp ht _ _ 0 ?_ fun w' hb => locate_ok w' vp vt P T k (RdC.below hp hb) (RdC.below ht hb) hm p hpz (hg.below hb);rintro r w' ⟨v, rfl, hr⟩;obtain ⟨ps, cs, rfl⟩ := hr.shape;exact ⟨ps, _, cs, rfl, rfl⟩
structure BoxK (z : World) (b : Nat) : Prop where
 c0 : z.cell? ⟨b, 0, none⟩ = some (.string ⟨#[]⟩)
 c1 : z.cell? ⟨b, 1, none⟩ = some (.string ⟨#[]⟩)
 f0 : z.frozen? ⟨b, 0, none⟩ = false
 f1 : z.frozen? ⟨b, 1, none⟩ = false
 lt : b < z.heap.size
theorem BoxK.of {z : World} {b : Nat} (h : BoxN z b 63 [.string ⟨#[]⟩, .string ⟨#[]⟩]) : BoxK z b := ⟨h.cell 0 rfl, h.cell 1 rfl, h.frozen 0, h.frozen 1, h.lt⟩
theorem zc3 {x z : World} (h : Below (x.alloc (.cells #[.slice none 0 0, .slice none 0 0, .slice none 0 0] 43)).heap.size (x.alloc (.cells #[.slice none 0 0, .slice none 0 0, .slice none 0 0] 43)) z) : BoxN z x.heap.size 43 [.slice none 0 0, .slice none 0 0, .slice none 0 0] := (BoxN.new _ _ _ _ rfl).below h (by simp)
theorem zc3d {x z : World} (h : Below (x.alloc (.cells #[.slice none 0 0, .slice none 0 0, .slice none 0 0] 43)).drew.heap.size (x.alloc (.cells #[.slice none 0 0, .slice none 0 0, .slice none 0 0] 43)).drew z) : BoxN z x.heap.size 43 [.slice none 0 0, .slice none 0 0, .slice none 0 0] := (BoxN.new x _ _ _ rfl).drew.below h (by simp)
theorem box3_new (w : World) (v0 v1 v2 : Value) (t n : Nat) (hn : w.heap.size = n) : BoxN (w.alloc (.cells #[v0, v1, v2] t)) n t [v0, v1, v2] := BoxN.new _ _ _ _ hn
theorem box3_set {w : World} {b t : Nat} {v0 v1 v2 : Value} (h : BoxN w b t [.slice none 0 0, .slice none 0 0, .slice none 0 0]) : BoxN (((w.setCell ⟨b, 0, none⟩ v0).setCell ⟨b, 1, none⟩ v1).setCell ⟨b, 2, none⟩ v2) b t [v0, v1, v2] := ((h.set 0 v0).set 1 v1).set 2 v2
theorem own_set3 {w : World} {B e n b t : Nat} {v x0 x1 x2 : Value} {xs : List Value} (h : w.ownsRow B e 1 v n xs) (hne : e ≠ t) {l : List Value} (hb : BoxN w b t l) : (((w.setCell ⟨b, 0, none⟩ x0).setCell ⟨b, 1, none⟩ x1).setCell ⟨b, 2, none⟩ x2).ownsRow B e 1 v n xs :=
 World.ownsRow.kept h (gb_set (gb_set (gb_set (gb_refl w _) 0 x0) 1 x1) 2 x2) (.inr (fun e' => owns_boxN h hb hne e'.symm))
theorem own_drew {w : World} {B e n : Nat} {v : Value} {xs : List Value} (h : w.ownsRow B e 1 v n xs) : w.drew.ownsRow B e 1 v n xs := World.ownsRow.belowAll h (below_drewN w 1)
structure BoxC (z : World) (b : Nat) : Prop where
 c0 : z.cell? ⟨b, 0, none⟩ = some (.slice none 0 0)
 c1 : z.cell? ⟨b, 1, none⟩ = some (.slice none 0 0)
 c2 : z.cell? ⟨b, 2, none⟩ = some (.slice none 0 0)
 f0 : z.frozen? ⟨b, 0, none⟩ = false
 f1 : z.frozen? ⟨b, 1, none⟩ = false
 f2 : z.frozen? ⟨b, 2, none⟩ = false
 lt : b < z.heap.size
theorem BoxC.of {z : World} {b : Nat} (h : BoxN z b 43 [.slice none 0 0, .slice none 0 0, .slice none 0 0]) : BoxC z b := ⟨h.cell 0 rfl, h.cell 1 rfl, h.cell 2 rfl, h.frozen 0, h.frozen 1, h.frozen 2, h.lt⟩
theorem FlsD.lt {w : World} {B : Nat} {us : List Value} {S : List (List Rat)} (h0 : us.length = S.length) (h2 : ∀ (i : Nat) (u : Value) (F : List Rat), us[i]? = some u -> S[i]? = some F -> FldV w B u F) :
 ∀ (i : Nat) (u : Value) (b : Nat), us[i]? = some u -> u.ownBlock = some b -> b < w.heap.size := fun i u b hu hb => by
 have hi := (List.getElem?_eq_some_iff.1 hu).1;exact ((h2 i u S[i] hu (List.getElem?_eq_getElem (by omega))).lt b hb).2
theorem sclone_any (w : World) (vb vu vs : Value) (B : List Rat) (U : List ByteArray) (S : List (List Rat)) (hb : RdQ w vb B) (hu : RdS w vu U) (hs : RdF w vs S)
 (hB : B ≠ []) (hU : U ≠ []) (hS : ∀ F ∈ S, F ≠ []) (hl : B.length <= 1000000) (hlu : U.length <= 1000000) (hls : S.length <= 1000) (hlS : ∀ F ∈ S, F.length <= 1000000) :
 Calls Tryz.prog 61 #[.agg #[vb, vu, vs]] w (Ret (fun r w' => ∃ v1 v2 v3, r = .agg #[v1, v2, v3] /\ FldV w' w.heap.size v1 B /\ w'.ownsRow w.heap.size 9 1 v2 U.length (U.map fun x => Value.string x) /\ ∃ M, w.heap.size <= M /\ M <= w'.heap.size /\ (∀ b, v1.ownBlock = some b -> b < M) /\ FlsD 39 w' M v3 S) w) := by
 have HC1 : Hid (∀ w', Below w.heap.size w w' -> Calls Tryz.prog 64 #[vb] w' (Ret (fun r w2 => FldV w2 w'.heap.size r B) w')) := fun w' h => clone_any w' vb B (RdC.below hb h) hB hl;have HC2 : Hid (∀ w', Below w.heap.size w w' -> Calls Tryz.prog 103 #[vu] w' (Ret (fun r w2 => w2.ownsRow w'.heap.size 9 1 r U.length (U.map fun x => Value.string x)) w')) := fun w' h => cloneS_any w' vu U (RdC.below hu h) hU hlu;have HC3 : Hid (∀ i (hi : i < S.length) p c w', RdQ w' (.slice p S[i].length c) S[i] -> Calls Tryz.prog 64 #[.slice p S[i].length c] w' (Ret (fun r w2 => FldV w2 w'.heap.size r S[i]) w')) := fun i hi p c w' hr =>
  clone_any w' _ _ hr (hS _ (List.getElem_mem hi)) (hlS _ (List.getElem_mem hi))
 have HNE := hid hS;have HRS := hid hs;obtain ⟨pb, cb, rfl, -, -, -⟩ := hb.open;obtain ⟨pu, cu, rfl, -, -, -⟩ := hu.open;obtain ⟨ps, cs, rfl, hs1, hs2⟩ := hs.shape;unfold maxLen at hs2;clear hb hu hs hB hU hS hlS;go_enter Tryz.func61, Tryz.ntmps61;go_upto_region 1 with fail;obtain ⟨W0, hW0⟩ : ∃ W0, W0 = (w.alloc (.cells #[.slice pb B.length cb, .slice pu U.length cu, .slice ps S.length cs] 43)).alloc (.cells #[.slice none 0 0, .slice none 0 0, .slice none 0 0] 43) := ⟨_, rfl⟩;have hz0 : w.heap.size + 2 <= W0.heap.size := by rw [hW0]; simp
 have hB0 : Below w.heap.size w W0 := by rw [hW0]; exact zal2 _ _ _
 have b2 : BoxN W0 (w.heap.size + 1) 43 [.slice none 0 0, .slice none 0 0, .slice none 0 0] := by rw [hW0]; exact BoxN.new _ _ _ _ (by simp)
 have b1 : BoxN W0 w.heap.size 43 [.slice pb B.length cb, .slice pu U.length cu, .slice ps S.length cs] := by
  rw [hW0];have h1 := (BoxN.new w #[.slice pb B.length cb, .slice pu U.length cu, .slice ps S.length cs] 43 _ rfl);exact h1.below (zal _ _) h1.lt
 rw [<- hW0];clear hW0;have x0 := b1.cell 0 rfl;have x1 := b1.cell 1 rfl;have hl1 := b1.lt;have HS : Hid (∀ w', Below W0.heap.size W0 w' -> w'.cell? ⟨w.heap.size, 0, none⟩ = some (.slice pb B.length cb) /\ w'.cell? ⟨w.heap.size, 1, none⟩ = some (.slice pu U.length cu)) := fun w' hb => ⟨(zcq hb hl1 x0 :), (zcq hb hl1 x1 :)⟩;have HY1 : Hid (∀ w', Below W0.heap.size W0 w' -> _) := fun w' hb => HC1.out w' (hB0.trans (hb.mono hB0.size));have HY2 : Hid (∀ w', Below W0.heap.size W0 w' -> _) := fun w' hb => HC2.out w' (hB0.trans (hb.mono hB0.size));have q0 : Below W0.heap.size W0 W0.drew := below_drewN W0 1;clear x0 x1;go_cut [3] (fun s3 wx => ∃ b3 v1 v2, s3 = .pointer (some ⟨b3, 0, none⟩) /\ W0.heap.size <= b3 /\ BoxN wx b3 43 [v1, v2, .slice none 0 0] /\ wx.ownsRow W0.heap.size 57 1 v1 B.length (cellsFd B) /\ wx.ownsRow W0.heap.size 9 1 v2 U.length (U.map fun x => Value.string x) /\ Below W0.heap.size W0 wx)
 case first =>
  go_region_held3 (fun w' => w'.cell? ⟨w.heap.size, 0, none⟩ = some (.slice pb B.length cb) /\ w'.cell? ⟨w.heap.size, 1, none⟩ = some (.slice pu U.length cu))
   ((refine HS.out _ ?_; repeat (first | with_reducible exact q2 | with_reducible exact q1 | with_reducible exact q0 | with_reducible exact Below.refl _ _ | with_reducible refine Below.drew ?_ | ((with_reducible refine Below.setCell ?_ ?_ _); rotate_left; (first | omega | (simp <;> omega))) | ((with_reducible refine Below.alloc ?_ ?_ _); rotate_left; (first | exact Nat.le_refl _ | omega | (simp <;> omega))))))
   (first
     | ((with_reducible refine Calls.mono (HY2.out _ ?_) ?_); (focus repeat (first | with_reducible exact q2 | with_reducible exact q1 | with_reducible exact q0 | with_reducible exact Below.refl _ _ | with_reducible refine Below.drew ?_ | ((with_reducible refine Below.setCell ?_ ?_ _); rotate_left; (first | omega | (simp <;> omega))) | ((with_reducible refine Below.alloc ?_ ?_ _); rotate_left; (first | exact Nat.le_refl _ | omega | (simp <;> omega)))))
        rintro e z2 ⟨v2, rfl, own2', hy2⟩;have q2 : Below W0.heap.size W0 z2 := (by refine Below.trans ?_ (hy2.mono ?_); rotate_left; (first | exact Nat.le_refl _ | omega | (simp <;> omega)); repeat (first | with_reducible exact q1 | with_reducible exact q0 | with_reducible exact Below.refl _ _ | with_reducible refine Below.drew ?_ | ((with_reducible refine Below.alloc ?_ ?_ _); rotate_left; (first | exact Nat.le_refl _ | omega | (simp <;> omega)))));have sz2 := q2.size;have p2 : Below z1.heap.size z1 z2 := (by refine Below.trans ?_ (hy2.mono ?_); rotate_left; (first | exact Nat.le_refl _ | omega | (simp <;> omega)); repeat (first | with_reducible exact Below.refl _ _ | with_reducible refine Below.drew ?_ | ((with_reducible refine Below.alloc ?_ ?_ _); rotate_left; (first | exact Nat.le_refl _ | omega | (simp <;> omega)))));have own2 := hid (ownsRow_base own2' (b' := W0.heap.size) (by first | omega | (simp <;> omega)));have own12 := hid (World.ownsRow.belowAll own1.out p2);clear own2';obtain ⟨p8, c8, rfl⟩ := ownsRow_shape own2.out
        (first | (have H8 := hid (E8.out.below p2 E8.out.lt)) | skip)
        (first | (have D8 := hid (zc3 hy2)) | skip)
        (first | (have H8f := BoxC.of H8.out; obtain ⟨u1, u2, u3, u4, u5, u6, u7⟩ := H8f) | skip)
        (first | (have D8f := BoxC.of D8.out; obtain ⟨v1', v2', v3', v4', v5', v6', v7'⟩ := D8f) | skip))
     | ((with_reducible refine Calls.mono (HY1.out _ ?_) ?_); (focus repeat (first | with_reducible exact q0 | with_reducible exact Below.refl _ _ | with_reducible refine Below.drew ?_ | ((with_reducible refine Below.alloc ?_ ?_ _); rotate_left; (first | exact Nat.le_refl _ | omega | (simp <;> omega)))))
        rintro e z1 ⟨v1, rfl, own1', hy1⟩;have q1 : Below W0.heap.size W0 z1 := (by refine Below.trans ?_ (hy1.mono ?_); rotate_left; (first | exact Nat.le_refl _ | omega | (simp <;> omega)); repeat (first | with_reducible exact q0 | with_reducible exact Below.refl _ _ | with_reducible refine Below.drew ?_ | ((with_reducible refine Below.alloc ?_ ?_ _); rotate_left; (first | exact Nat.le_refl _ | omega | (simp <;> omega)))));have sz1 := q1.size;have own1 := hid (ownsRow_base own1' (b' := W0.heap.size) (by first | omega | (simp <;> omega)));clear own1';obtain ⟨p7, c7, rfl⟩ := ownsRow_shape own1.out
        (first | (have E8 := hid (zc3d hy1)) | skip)))
  all_goals
   go_wp2_with fail;go_meet;refine ⟨_, .slice p7 B.length c7, .slice p8 U.length c8, rfl, ?_, ?_, ?_, ?_, ?_⟩
   ·first | exact Nat.le_refl _ | omega | (simp; omega) | (simp)
   ·repeat (first | with_reducible exact H8.out | with_reducible exact D8.out | with_reducible refine BoxN.drew ?_ | with_reducible refine box3_set ?_ | ((with_reducible refine box3_new _ _ _ _ _ _ ?_); (first | rfl | (simp <;> omega))) | with_reducible refine BoxN.alloc ?_ _)
   ·repeat (first | with_reducible exact own12.out | with_reducible exact H8.out | with_reducible exact D8.out | with_reducible refine own_drew ?_ | with_reducible refine World.ownsRow.alloc ?_ _ | ((with_reducible refine own_set3 (t := 43) (l := [.slice none 0 0, .slice none 0 0, .slice none 0 0]) ?_ (by decide) ?_)) | with_reducible refine BoxN.drew ?_ | ((with_reducible refine box3_new _ _ _ _ _ _ ?_); (first | rfl | (simp <;> omega))) | with_reducible refine BoxN.alloc ?_ _)
   ·repeat (first | with_reducible exact own2.out | with_reducible exact H8.out | with_reducible exact D8.out | with_reducible refine own_drew ?_ | with_reducible refine World.ownsRow.alloc ?_ _ | ((with_reducible refine own_set3 (t := 43) (l := [.slice none 0 0, .slice none 0 0, .slice none 0 0]) ?_ (by decide) ?_)) | with_reducible refine BoxN.drew ?_ | ((with_reducible refine box3_new _ _ _ _ _ _ ?_); (first | rfl | (simp <;> omega))) | with_reducible refine BoxN.alloc ?_ _)
   ·repeat (first | with_reducible exact q2 | with_reducible exact q1 | with_reducible exact q0 | with_reducible exact Below.refl _ _ | with_reducible refine Below.drew ?_ | ((with_reducible refine Below.setCell ?_ ?_ _); rotate_left; (first | omega | (simp <;> omega))) | ((with_reducible refine Below.alloc ?_ ?_ _); rotate_left; (first | exact Nat.le_refl _ | omega | (simp <;> omega))))
 case rest =>
 obtain ⟨b3, v1, v2, rfl, h3, B3, own1, own2, hbW⟩ := hcut;obtain ⟨W1, hW1⟩ : ∃ x, x = wc := ⟨_, rfl⟩;subst hW1;have hB1 : Below w.heap.size w W1 := hB0.trans (hbW.mono hB0.size);have b11 := b1.below hbW b1.lt;have b21 := b2.below hbW b2.lt;have d2 := b11.cell 2 rfl;have n31 : b3 ≠ w.heap.size := by omega
 have n32 : b3 ≠ w.heap.size + 1 := by omega
 obtain ⟨n, hn⟩ : ∃ n, n = S.length := ⟨_, rfl⟩;have HN := hid hn;rw [<- hn] at d2 b11 hs1 hls;obtain ⟨i0, hi, hz0', hz1', hz2'⟩ := info_parts info_Fd;have hle1 : w.heap.size + 2 <= W1.heap.size := by have := hbW.size; omega
 have HB2 := hid b2;clear b1 b2 hn HS HY1 HY2 q0;have hW01 := hbW.size;go_wp2_with fail;go_loopw [16] (fun t16 wr => ∃ (i : Nat) (v3 : Value), t16 = .int .i64 i /\ i <= n /\ BoxN wr b3 43 [v1, v2, v3] /\ FlsD 39 wr W1.heap.size v3 (S.take i) /\ W1.heap.size <= wr.heap.size /\ wr.ownsRow W0.heap.size 57 1 v1 B.length (cellsFd B) /\ wr.ownsRow W0.heap.size 9 1 v2 U.length (U.map fun x => Value.string x) /\ Below W0.heap.size W0 wr) (fun t16 _ => n - (RowKit.intOf t16).toNat)
 case atStart => exact ⟨0, _, rfl, Nat.zero_le _, B3, by rw [List.take_zero]; exact FlsD.nil _ _ _, Nat.le_refl _, own1, own2, hbW⟩
 case round =>
  obtain ⟨i, v3, rfl, hin, C3, hfl, hW1z, o1, o2, hbr⟩ := hrel;have hBr : Below w.heap.size w wr := hB0.trans (hbr.mono hB0.size);rcases Nat.lt_or_ge i n with hlt | hlt
  ·have hiS : i < S.length := by have := HN.out; omega
   obtain ⟨bs, os, cs', hve, hbs, hcells⟩ := HRS.out.cells (by omega);injection hve with hv1 hv2 hv3
   clear hv2;subst hv1 hv3;obtain ⟨pg, cg, hcg, hrg⟩ := hcells i hiS;have x0 := zcq hBr hbs hcg;have HCL : Hid (∀ w', Below wr.heap.size wr w' -> _) := fun w' hb => HC3.out i hiS pg cg w' (RdC.below hrg (hBr.trans (hb.mono hBr.size)));have HSF : Hid (S.take (i + 1) = S.take i ++ [S[i]]) := List.take_succ_eq_append_getElem hiS;have HF0 := hid (HNE.out S[i] (List.getElem_mem hiS));have hTL : (S.take i).length = i := by rw [List.length_take]; omega
   generalize S[i] = F at *;have HFL := hid hfl;obtain ⟨us, h0, hus, huf, hud⟩ := hfl;rw [hTL] at hus;obtain ⟨p3, c3, rfl⟩ := ownsRow_shape hus;have hiz : (i : Int) < (n : Int) := by omega
   have HLT := hid (FlsD.lt h0 huf);have HUF := hid huf;have HUD := hid hud;have H0 := hid h0;have HTL := hid hTL;have e2 := C3.cell 2 rfl;have f2 := C3.frozen 2;have hzr := hbr.size;have hl3 := C3.lt;clear hcells hrg hcg huf hud h0 hTL HFL;go_upto_region 5 with fail;have g0 : Below wr.heap.size wr wr.drew := below_drewN wr 1;have us0 : wr.drew.ownsRow W1.heap.size 39 1 (.slice p3 i c3) i us := own_drew hus;have C30 : BoxN wr.drew b3 43 [v1, v2, .slice p3 i c3] := C3.drew;have z0 : wr.heap.size <= wr.drew.heap.size := Nat.le_refl _;have e20 := C30.cell 2 rfl;refine AnyL.region (S := Till 7 (fun w' => wr.heap.size <= w'.heap.size) (fun w' => w'.cell? ⟨b3, 2, none⟩ = some (.slice p3 i c3))) (by kernel_rfl) ?_;have hHeld : Till 7 (fun w' => wr.heap.size <= w'.heap.size) (fun w' => w'.cell? ⟨b3, 2, none⟩ = some (.slice p3 i c3)) (Array.replicate 8 false) _ := ⟨z0, fun _ => e20⟩;refine AnyL.take (i := 0) (oi := _) (v := ?_) rfl (by kernel_rfl) (by kernel_rfl) (by kernel_rfl) (by decide) (fun _ _ _ h => h) (Or.inl ⟨by rfl, ?_⟩) ⟨hHeld.1, fun _ => hHeld.2 (by rfl)⟩ ?_;rotate_left
   ·intro w hSw; (try dsimp only at hSw); first | (go_simp; done) | (go_simp; with_reducible rfl)
   try simp only [Act.put]
   refine AnyL.take2 (i := 1) (oi := _) (v := ?_) rfl (by kernel_rfl) (by kernel_rfl) (by kernel_rfl) (by decide) (ok := _) rfl (by kernel_rfl) (by kernel_rfl) (fun _ _ _ h => h) (Or.inl ⟨by rfl, ?_⟩) ⟨hHeld.1, fun _ => hHeld.2 (by rfl)⟩ ?_;rotate_left
   ·intro w hSw; (try dsimp only at hSw); first | (go_simp; done) | (go_simp; with_reducible rfl)
   try simp only [Act.put]
   refine AnyL.take (i := 2) (oi := _) (v := ?_) rfl (by kernel_rfl) (by kernel_rfl) (by kernel_rfl) (by decide) (fun _ _ _ h => h) (Or.inl ⟨by rfl, ?_⟩) ⟨hHeld.1, fun _ => hHeld.2 (by rfl)⟩ ?_;rotate_left
   ·intro w hSw; (try dsimp only at hSw); first | (go_simp; done) | (go_simp; with_reducible rfl)
   try simp only [Act.put]
   refine AnyL.one (i := 3) (o := _) (by kernel_rfl) rfl (fun K hK => ?_);go_simp
   (refine (HCL.out _ g0).mono ?_; rintro e y1 ⟨vF, rfl, hF1, hy1⟩; obtain ⟨pF, cF, rfl⟩ := FldV.shape hF1; have g1 := g0.trans (hy1.mono g0.size); have us1 := World.ownsRow.belowAll us0 hy1; have C31 := C30.below hy1 C30.lt; have e21 := C31.cell 2 rfl)
   refine hK.out _ _ ⟨g1.size, fun hk => e21⟩ (fun hHeld => ?_);clear hK K;try simp only [Act.put]
   refine AnyL.one (i := 4) (o := _) (by kernel_rfl) rfl (fun K hK => ?_);go_simp;refine hK.out _ _ ⟨(Nat.le_trans g1.size (by simp)), fun hk => (cell_alloc_l _ e21)⟩ (fun hHeld => ?_);clear hK K;try simp only [Act.put]
   refine AnyL.one (i := 5) (o := _) (by kernel_rfl) rfl (fun K hK => ?_)
   (rw [if_pos (by simp [Region.wanted])]; refine wp_append_own _ (.tmp 21) (.tmp 24) 41 (by rfl) W1.heap.size 39 i0 (.slice none 0 0) 1 24 Tryz.underlying41 hi hz0' hz1' hz2' rfl (by decide) _ _ _ (by simp [Act.eval]) (us1.alloc _) ⟨y1.heap.size, 0, none⟩ 1 1 [.slice pF F.length cF] (by simp [Act.eval]) rfl (cell_one_new _ _ _) (by intro u hu; simp at hu; subst hu; rfl) (by unfold maxLen; omega) (by omega) (by have := g1.size; simp; omega) ?_; intro v8 w8 us8 hg8 _; have C38 := (C31.alloc (.cells #[.slice pF F.length cF] 39)).gb hg8 (fun e => owns_boxN (us1.alloc _) (C31.alloc (.cells #[.slice pF F.length cF] 39)) (by decide) e.symm); have z8 : wr.heap.size <= w8.heap.size := Nat.le_trans g1.size (Nat.le_trans (by simp) hg8.size); obtain ⟨p8, c8, rfl⟩ := ownsRow_shape us8; have e28 := C38.cell 2 rfl; have f28 := C38.frozen 2)
   refine hK.out _ _ ⟨z8, fun hk => e28⟩ (fun hHeld => ?_);clear hK K;try simp only [Act.put]
   refine AnyL.take (i := 6) (oi := _) (v := ?_) rfl (by kernel_rfl) (by kernel_rfl) (by kernel_rfl) (by decide) (fun _ _ _ h => h) (Or.inl ⟨by rfl, ?_⟩) ⟨hHeld.1, fun _ => hHeld.2 (by rfl)⟩ ?_;rotate_left
   ·intro w hSw; (try dsimp only at hSw); first | (go_simp; done) | (go_simp; with_reducible rfl)
   try simp only [Act.put]
   refine AnyL.one (i := 7) (o := _) (by kernel_rfl) rfl (fun K hK => ?_);go_simp;refine hK.out _ _ ⟨(Nat.le_trans z8 (by simp)), fun hk => (by simp at hk)⟩ (fun hHeld => ?_);clear hK K;try simp only [Act.put]
   refine AnyL.done (by kernel_rfl) ?_ _;have gg1 : Below W0.heap.size W0 y1 := hbr.trans (g1.mono hbr.size);have hua := us1.alloc (.cells #[.slice pF F.length cF] 39);have hF1a : FldV (y1.alloc (.cells #[.slice pF F.length cF] 39)) wr.heap.size (.slice pF F.length cF) F := (World.ownsRow.alloc hF1 _);have hsn := FlsD.snoc (E := 39) (M := wr.heap.size) (us := us) (u := .slice pF F.length cF) (v := .slice p3 i c3) (S := S.take i) (by decide) H0.out (by rw [HTL.out]; exact hua) (fun k u G a b => World.ownsRow.alloc (World.ownsRow.belowAll (World.ownsRow.belowAll (HUF.out k u G a b) g0) hy1) _) HUD.out HLT.out hg8 (by rw [HTL.out]; exact us8) hF1a HF0.out hW1z;have hg9 : w8.grownBy (w8.setCell ⟨b3, 2, none⟩ (.slice p8 (i + 1) c8)) (some b3) := gb_set (gb_refl w8 _) 2 _;have hbo : ∀ (x : Value) (e s n : Nat) (xs : List Value), (e = 39 \/ e = 57) -> w8.ownsRow W1.heap.size e s x n xs -> x.ownBlock = none \/ x.ownBlock ≠ some b3 := fun x e s n xs he h => .inr (fun e' => owns_boxN h C38 (by rcases he with rfl | rfl <;> decide) e'.symm)
   have o18 := World.ownsRow.kept ((World.ownsRow.belowAll (own_drew o1) hy1).alloc (.cells #[.slice pF F.length cF] 39)) hg8 (owns_apart ((World.ownsRow.belowAll (own_drew o1) hy1).alloc (.cells #[.slice pF F.length cF] 39)) hua (by decide));have o28 := World.ownsRow.kept ((World.ownsRow.belowAll (own_drew o2) hy1).alloc (.cells #[.slice pF F.length cF] 39)) hg8 (owns_apart ((World.ownsRow.belowAll (own_drew o2) hy1).alloc (.cells #[.slice pF F.length cF] 39)) hua (by decide));have o19 := World.ownsRow.kept o18 hg9 (.inr (fun e' => owns_boxN o18 C38 (by decide) e'.symm));have o29 := World.ownsRow.kept o28 hg9 (.inr (fun e' => owns_boxN o28 C38 (by decide) e'.symm));have hfl9 := hsn.kept hg9 hbo;have hbr8 := (gg1.alloc gg1.size (.cells #[.slice pF F.length cF] 39)).grown hg8 (by have := gg1.size; simp; omega) (fun j hj => Nat.le_trans hbW.size (hua.lt j hj).1);have hbr9 : Below W0.heap.size W0 (w8.setCell ⟨b3, 2, none⟩ (.slice p8 (i + 1) c8)) := hbr8.setCell (p := ⟨b3, 2, none⟩) h3 _;have C39 := C38.set 2 (.slice p8 (i + 1) c8);rw [<- HSF.out] at hfl9;clear hsn hg9 hbo o18 o28 hua hF1a gg1 us8 hg8 C38 e28 f28 hbr8 us1 C31 e21 hF1 hy1 g1 us0 C30 e20;go_wp2_with fail;go_roundw
   case rel => exact ⟨i + 1, _, by go_num, by omega, C39, hfl9, (by have h1 := Nat.le_trans hW1z z8; simpa using h1), o19, o29, hbr9⟩
   case measure => simp [RowKit.intOf]; omega
  ·obtain rfl : i = n := by omega
   have hge : ¬ (i : Int) < (i : Int) := by omega
   rw [List.take_of_length_le (by have := HN.out; omega)] at hfl;obtain ⟨p3, c3, hv3⟩ := hfl.v.shape;obtain ⟨q1, k1, hv1⟩ := ownsRow_shape o1;obtain ⟨q2, k2, hv2⟩ := ownsRow_shape o2;subst hv1 hv2 hv3;have c21 := HB2.out.below hbr HB2.out.lt;have e0 := C3.cell 0 rfl;have e1 := C3.cell 1 rfl;have e2 := C3.cell 2 rfl;have g0 := c21.cell 0 rfl;have g1 := c21.cell 1 rfl;have g2 := c21.cell 2 rfl;have f0 := c21.frozen 0;have f1 := c21.frozen 1;have f2 := c21.frozen 2;go_wp2_with fail;have k := box3_set c21 (v0 := .slice q1 B.length k1) (v1 := .slice q2 U.length k2) (v2 := .slice p3 S.length c3);have hle : w.heap.size <= w.heap.size + 1 := by omega
   have hBe := ((hBr.setCell (p := ⟨w.heap.size + 1, 0, none⟩) hle (.slice q1 B.length k1)).setCell (p := ⟨w.heap.size + 1, 1, none⟩) hle (.slice q2 U.length k2)).setCell (p := ⟨w.heap.size + 1, 2, none⟩) hle (.slice p3 S.length c3);have oe1 := own_set3 o1 (by decide) c21 (x0 := .slice q1 B.length k1) (x1 := .slice q2 U.length k2) (x2 := .slice p3 S.length c3);have oe2 := own_set3 o2 (by decide) c21 (x0 := .slice q1 B.length k1) (x1 := .slice q2 U.length k2) (x2 := .slice p3 S.length c3);have oe3 := hfl.kept (gb_set (gb_set (gb_set (gb_refl wr (some (w.heap.size + 1))) 0 (.slice q1 B.length k1)) 1 (.slice q2 U.length k2)) 2 (.slice p3 S.length c3)) (fun x e s n xs he h => .inr (fun e' => owns_boxN h c21 (by rcases he with rfl | rfl <;> decide) e'.symm));have t0 := k.cell 0 rfl;have t1 := k.cell 1 rfl;have t2 := k.cell 2 rfl;refine bodyPost_ret (v := .agg #[.slice q1 B.length k1, .slice q2 U.length k2, .slice p3 S.length c3]) (by simp [results, Tryz.results61, go_sem, t0, t1, t2]) rfl ⟨_, rfl, ⟨_, _, _, rfl, ?_, ?_, W1.heap.size, ?_, ?_, ?_, ?_⟩, hBe⟩
   ·exact ownsRow_base (b' := w.heap.size) oe1 (by omega)
   ·exact ownsRow_base (b' := w.heap.size) oe2 (by omega)
   ·have := hbW.size; omega
   ·simpa using hW1z
   ·intro b hb; exact (own1.lt b hb).2
   ·exact oe3
open Go.Shelf
theorem BoxN.setCells {b t : Nat} : ∀ (vs : List Value) (o : Nat) {w : World} {l : List Value}, BoxN w b t l -> o + vs.length <= l.length -> BoxN (w.setCells b o vs) b t (l.take o ++ vs ++ l.drop (o + vs.length))
 | [], o, w, l, h, _ => by simpa [World.setCells] using h
 | v :: r, o, w, l, h, hl => by
   have hl' : o + (r.length + 1) <= l.length := hl;have h2 := BoxN.setCells r (o + 1) (h.set o v) (by rw [List.length_set]; omega);rw [World.setCells];have e : (l.set o v).take (o + 1) ++ r ++ (l.set o v).drop (o + 1 + r.length) = l.take o ++ (v :: r) ++ l.drop (o + (v :: r).length) := by
    have e1 : (l.set o v).take (o + 1) = l.take o ++ [v] := by
     rw [List.take_succ_eq_append_getElem (by rw [List.length_set]; omega), List.getElem_set_self];congr 1;rw [List.take_set_of_le (Nat.le_refl _)]
    have e2 : (l.set o v).drop (o + 1 + r.length) = l.drop (o + (v :: r).length) := by
     rw [List.drop_set_of_lt (by omega)];congr 1;simp; omega
    rw [e1, e2];simp
   rw [e] at h2;exact h2
theorem gb_setCells {W : World} {g : Nat} : ∀ (vs : List Value) (o : Nat) {w : World}, W.grownBy w (some g) -> W.grownBy (w.setCells g o vs) (some g)
 | [], _, _, h => h
 | v :: r, o, _, h => gb_setCells r (o + 1) (gb_set h o v)
theorem gb_drew {W w : World} {M : Option Nat} (h : W.grownBy w M) : W.grownBy w.drew M := ⟨h.os, h.tape, h.output, h.size, h.block⟩
theorem owns_of_box {w : World} {B g e n c : Nat} {l : List Value} {cs : List Value} (h : BoxN w g e l) (hB : B <= g) (hn : n <= c) (hm : c <= maxLen) (hl : l.length = c) (ht : l.take n = cs) : w.ownsRow B e 1 (.slice (some ⟨g, 0, none⟩) n c) n cs := by
 have hcn : cs.length = n := by rw [<- ht, List.length_take]; omega
 exact ⟨by omega, .inr ⟨g, c, l.toArray, rfl, hB, h, hn, hm, by simpa using hl, by simpa using ht⟩⟩
theorem box_of_owns {w : World} {B e n : Nat} {v : Value} {cs : List Value} (h : w.ownsRow B e 1 v n cs) (hn : 0 < n) : ∃ g c l, v = .slice (some ⟨g, 0, none⟩) n c /\ B <= g /\ BoxN w g e l /\ n <= c /\ c <= maxLen /\ l.length = c /\ l.take n = cs := by
 obtain ⟨h1, h2⟩ := h;rcases h2 with ⟨rfl, h0⟩ | ⟨g, cap, cur, rfl, hb, hg, hnc, hcm, hcs, ht⟩
 ·omega
 ·exact ⟨g, cap, cur.toList, rfl, hb, by unfold BoxN; simpa using hg, hnc, hcm, by simpa using hcs, by simpa using ht⟩
theorem ins_shift {l cs : List Value} {x : Value} {n i : Nat} (ht : l.take n = cs) (hi : i < n) (hl : n + 1 <= l.length) :
 let l1 := l.take (i + 1) ++ cs.drop i ++ l.drop (i + 1 + (cs.drop i).length)
 l1.length = l.length /\ (l1.take i ++ [x] ++ l1.drop (i + 1)).take (n + 1) = cs.take i ++ x :: cs.drop i := by
 have hcl : cs.length = n := by rw [<- ht, List.length_take]; omega
 have hd : (cs.drop i).length = n - i := by rw [List.length_drop, hcl]
 intro l1;have h1 : l1.length = l.length := by
  simp only [l1, List.length_append, List.length_take, hd, List.length_drop]; omega
 refine ⟨h1, ?_⟩;have e1 : l1.take i = cs.take i := by
  simp only [l1];rw [List.append_assoc, List.take_append_of_le_length (by rw [List.length_take]; omega), List.take_take, <- ht, List.take_take];congr 1;omega
 have e2 : (l1.drop (i + 1)).take (n - i) = cs.drop i := by
  simp only [l1];rw [List.append_assoc, List.drop_append_of_le_length (by rw [List.length_take]; omega), List.drop_of_length_le (by rw [List.length_take]; omega), List.nil_append, List.take_append_of_le_length (by omega), List.take_of_length_le (by omega)]
 have e3 : (cs.take i).length = i := by rw [List.length_take]; omega
 rw [e1, List.append_assoc, List.take_append, e3, List.take_of_length_le (by omega), List.singleton_append];congr 1;rw [show n + 1 - i = (n - i) + 1 by omega, List.take_succ_cons, e2]
theorem ins_grow {l0 cs : List Value} {x : Value} {n i : Nat} (hcl : cs.length = n) (ht : l0.take i = cs.take i) (hi : i < n) (hl : n + 1 <= l0.length) :
 let l1 := l0.take i ++ [x] ++ l0.drop (i + 1)
 l1.length = l0.length /\ (l1.take (i + 1) ++ cs.drop i ++ l1.drop (i + 1 + (cs.drop i).length)).length = l0.length /\ (l1.take (i + 1) ++ cs.drop i ++ l1.drop (i + 1 + (cs.drop i).length)).take (n + 1) = cs.take i ++ x :: cs.drop i := by
 have hd : (cs.drop i).length = n - i := by rw [List.length_drop, hcl]
 intro l1;have h1 : l1.length = l0.length := by
  simp only [l1, List.length_append, List.length_take, List.length_drop, List.length_singleton]; omega
 refine ⟨h1, by simp only [List.length_append, List.length_take, List.length_drop, h1]; omega, ?_⟩;have e0 : (cs.take i).length = i := by rw [List.length_take]; omega
 have e1 : l1.take (i + 1) = cs.take i ++ [x] := by
  simp only [l1];rw [ht, List.take_append_of_le_length (by simp; omega), List.take_of_length_le (by simp; omega)]
 rw [e1, List.take_append_of_le_length (by simp only [List.length_append, e0, hd, List.length_singleton]; omega), List.take_of_length_le (by simp only [List.length_append, e0, hd, List.length_singleton]; omega)];simp
theorem insS_shift (b n c i vb : Nat) (cs : List Value) (x : Value) (w : World) (hi : i < n) (hroom : n + 1 <= c) (hc63 : c <= 9223372036854775807) (hvb : vb ≠ b)
 (hcl : cs.length = n) (hcs : ∀ j v, cs[j]? = some v -> w.cell? ⟨b, 0 + j, none⟩ = some v) (hsp : ∀ j, j < n + 1 -> (w.cell? ⟨b, 0 + j, none⟩).isSome = true) (hfz : ∀ j, j < n + 1 -> w.frozen? ⟨b, 0 + j, none⟩ = false)
 (hvs : ∀ j v, [x][j]? = some v -> w.cell? ⟨vb, 0 + j, none⟩ = some v) (h1c : ∀ v ∈ cs, v.oneCell' = true) (h1v : ∀ v ∈ [x], v.oneCell' = true)
 (tA tB : TypeId) (kA kB : Nat) (hsa : w.shape? vb = some (tA, kA)) (hsb : w.shape? b = some (tB, kB)) (hkB : kB ≠ 0) (hfa : w.frozen? ⟨vb, 0, none⟩ = false) (hfe : w.frozen? ⟨vb, kA, none⟩ = false) :
 Calls Tryz.prog 62 #[.slice (some ⟨b, 0, none⟩) n c, .int .i64 i, .slice (some ⟨vb, 0, none⟩) 1 1] w fun e w' =>
  e = .returned (.slice (some ⟨b, 0, none⟩) (n + 1) c) /\ w' = (w.drew.setCells b (0 + (i + 1)) (cs.drop i)).setCells b (0 + i) [x] := by
 have mixed : (Tryz.prog).follows .mixedOrders = true := by kernel_rfl
 have hz2 : ¬ ((i : Int) = (n : Int)) := by omega
 have hsz : ((Tryz.prog).info? 9).map (·.size) = some 1 := by kernel_rfl
 have hov : ∀ lb cb, (callFunc 104 #[.slice (some ⟨vb, 0, none⟩) 1 1, .slice (some ⟨b, i + 1, none⟩) lb cb]).run Tryz.prog w = .ok (.value (.bool false)) w := fun lb cb => by
  rw [run_callFunc_extern Tryz.func104 (by kernel_rfl) (by kernel_rfl) (by kernel_rfl) (e := Extern.SlicesOverlaps.overlaps #[40, 40] #[4]) (by kernel_rfl),
   Lib.run_overlaps_apart w 40 4 9 Tryz.underlying40 1 Tryz.sizeOf9 ⟨vb, 0, none⟩ ⟨b, i + 1, none⟩ 1 1 lb cb hvb tA tB kA kB hsa hsb hkB hfa hfe]
  rfl
 have hdl : (cs.drop i).length = n - i := by rw [List.length_drop, hcl]
 have hw1 : IntKind.i64.wrap ((i : Int) + 1) = (i : Int) + 1 := by rw [IntKind.wrap_i64]; omega
 have hb1 : (0 : Int) <= (i : Int) + 1 := by omega
 have hin : i <= n := by omega
 have htn : ((i : Int) + 1).toNat = i + 1 := by omega
 have hb2 : ¬ (c = i + 1) := by omega
 have hb3 : (i : Int) <= (n : Int) + 1 := by omega
 have hb4 : ¬ (c = i) := by omega
 have hcp1 : ∀ ty dc sc, (Builtin.copy_ #[40, 40] ty #[.slice (some ⟨b, 0 + (i + 1), none⟩) (n + 1 - (i + 1)) dc, .slice (some ⟨b, 0 + i, none⟩) (n + 1 - i) sc]).run Tryz.prog w.drew = .ok (goInt (cs.drop i).length) (w.drew.setCells b (0 + (i + 1)) (cs.drop i)) := fun ty dc sc =>
  run_copy_cells w.drew _ _ ty 9 b (0 + (i + 1)) (n + 1 - (i + 1)) dc ⟨b, 0 + i, none⟩ (n + 1 - i) sc (cs.drop i) Tryz.underlying40 hsz (by rw [hdl]; simp only [Nat.min_def]; split <;> omega)
   (fun j v hj => by rw [Addr.add_lit, Nat.add_assoc]; exact hcs (i + j) v (by rwa [List.getElem?_drop] at hj))
   (fun j hj => by rw [Nat.add_assoc]; exact hsp _ (by omega)) (fun j hj => by rw [Nat.add_assoc]; exact hfz _ (by omega)) (fun v hv => h1c v (List.mem_of_mem_drop hv))
 obtain ⟨W1, hW1⟩ : ∃ W1, W1 = w.drew.setCells b (0 + (i + 1)) (cs.drop i) := ⟨_, rfl⟩;have hsp1 : ∀ k, k < n + 1 -> (W1.cell? ⟨b, 0 + k, none⟩).isSome = true := fun k hk => by
  rw [hW1];exact Go.Proofs.isSome_setCells b _ _ _ (fun j hj => by rw [Nat.add_assoc]; exact hsp _ (by omega)) _ (hsp k hk)
 have hcp2 : ∀ (W : World), (∀ x, W.cell? x = W1.cell? x) -> (∀ x, W.frozen? x = W1.frozen? x) -> ∀ ty dc, (Builtin.copy_ #[40, 40] ty #[.slice (some ⟨b, 0 + i, none⟩) (n + 1 - i) dc, .slice (some ⟨vb, 0, none⟩) 1 1]).run Tryz.prog W = .ok (goInt [x].length) (W.setCells b (0 + i) [x]) := fun W hWc hWf ty dc =>
  run_copy_cells W _ _ ty 9 b (0 + i) (n + 1 - i) dc ⟨vb, 0, none⟩ 1 1 [x] Tryz.underlying40 hsz (by simp only [Nat.min_def, List.length_singleton]; split <;> omega)
   (fun j v hj => by
     rw [Addr.add_lit, hWc, hW1, World.cell?_setCells_out b _ _ _ _ (fun h _ => absurd h hvb)];exact hvs j v hj)
   (fun j hj => by rw [hWc, Nat.add_assoc]; exact hsp1 _ (by simp at hj; omega)) (fun j hj => by rw [hWf, hW1, World.frozen?_setCells, Nat.add_assoc]; exact hfz _ (by simp at hj; omega)) h1v
 rw [<- hW1] at hcp1;simp only [Nat.zero_add] at hcp1 hcp2;go_enter Tryz.func62, Tryz.ntmps62;go_wp2_with (simp only [hov])
 go_region_law_o (refine step_copy_runI rfl _ _ 40 40 rfl (.slice (some ⟨b, i + 1, none⟩) (n + 1 - (i + 1)) (c - (i + 1))) (.slice (some ⟨b, i, none⟩) (n + 1 - i) (c - i)) (by simp [Act.eval, Act.put]) (by simp [Act.eval, Act.put]) (hcp1 _ _ _) ?_)
 go_wp2_with (at_builtin; refine wpList_copy_runI _ rfl _ _ 40 40 rfl _ _ rfl rfl (hcp2 _ (fun _ => rfl) (fun _ => rfl) _ _) ?_);go_ret;refine ⟨rfl, ?_⟩;first | simp only [Nat.zero_add] | (rw [hW1]; simp only [Nat.zero_add])
theorem insS_grow (b n i vb : Nat) (cs : List Value) (x : Value) (w : World) (hi : i < n) (hbig : n <= 1000000)
 (hcl : cs.length = n) (hcs : ∀ j v, cs[j]? = some v -> w.cell? ⟨b, 0 + j, none⟩ = some v)
 (hvs : ∀ j v, [x][j]? = some v -> w.cell? ⟨vb, 0 + j, none⟩ = some v) (h1c : ∀ v ∈ cs, v.oneCell' = true) (h1v : ∀ v ∈ [x], v.oneCell' = true) :
 Calls Tryz.prog 62 #[.slice (some ⟨b, 0, none⟩) n n, .int .i64 i, .slice (some ⟨vb, 0, none⟩) 1 1] w fun e w' =>
  e = .returned (.slice (some ⟨w.heap.size, 0, none⟩) (n + 1) (grownCap w (n + 1) n 9)) /\
  w' = (((w.alloc (.cells ((cs.take i).toArray ++ Builtin.zeroCells (Value.string ⟨#[]⟩).cells (n + 1 - i) ++ Builtin.zeroCells (Value.string ⟨#[]⟩).cells (grownCap w (n + 1) n 9 - (n + 1))) 9)).drew.setCells w.heap.size i [x]).drew).setCells w.heap.size (i + 1) (cs.drop i) := by
 obtain ⟨i0, hi0, hz0, hzs, hzb⟩ := info_parts (show ((Tryz.prog).info? 9).map (fun i => (i.zero, i.size, i.bytes)) = some (some (Value.string ⟨#[]⟩), 1, 16) by kernel_rfl);have mixed : (Tryz.prog).follows .mixedOrders = true := by kernel_rfl
 have hz2 : ¬ ((i : Int) = (n : Int)) := by omega
 have hz3 : (n : Int) < (n : Int) + 1 := by omega
 have hsz : ((Tryz.prog).info? 9).map (·.size) = some 1 := by rw [hi0]; simp [hzs]
 have hbw : b < w.heap.size := block_lt_of_cell (hcs 0 _ (List.getElem?_eq_getElem (by omega)));have hvw : vb < w.heap.size := block_lt_of_cell (hvs 0 _ (List.getElem?_eq_getElem (by simp)));have hkk : (n : Int) + 1 - (i : Int) = ((n + 1 - i : Nat) : Int) := by omega
 have hik : i + (n + 1 - i) = n + 1 := by omega
 have hold : (Builtin.firstCells i0.size i (.slice (some ⟨b, 0, none⟩) i n)).run Tryz.prog w.drew = .ok (cs.take i).toArray w.drew := by
  rw [hzs];exact run_firstCells_some w.drew 1 i ⟨b, 0, none⟩ i n (cs.take i) (by rw [List.length_take]; omega) (fun j v hj => by
   rw [Addr.add_lit];rw [List.getElem?_take] at hj;split at hj
   ·exact hcs j v hj
   ·cases hj)
 have hrz : ∀ ty, (Builtin.append_ #[40, 3] ty #[.slice (some ⟨b, 0, none⟩) i n, .int .i64 ((n : Int) + 1 - (i : Int))]).run Tryz.prog w =
  .ok (.slice (some ⟨w.heap.size, 0, none⟩) (n + 1) (grownCap w (n + 1) n 9)) (w.drew.alloc (.cells ((cs.take i).toArray ++ Builtin.zeroCells (Value.string ⟨#[]⟩).cells (n + 1 - i) ++ Builtin.zeroCells (Value.string ⟨#[]⟩).cells (grownCap w (n + 1) n 9 - (n + 1))) 9)) := fun ty => by
  have h := Lib.run_append_grow_zeros w 40 3 ty 9 i0 _ .i64 .i64 Tryz.underlying40 Tryz.underlying3 hi0 hz0 (some ⟨b, 0, none⟩) i n (cs.take i) hold (n + 1 - i) (by omega) (by omega) (by omega) (by omega) (by rw [hzb]; omega) (by rw [hzb, hik]; exact growslice_fits (by omega) (by omega));rw [hik] at h;rw [hkk];exact h
 obtain ⟨G, hG⟩ : ∃ G, G = grownCap w (n + 1) n 9 := ⟨_, rfl⟩;obtain ⟨ROW, hROW⟩ : ∃ ROW : Array Value, ROW = (cs.take i).toArray ++ Builtin.zeroCells (Value.string ⟨#[]⟩).cells (n + 1 - i) ++ Builtin.zeroCells (Value.string ⟨#[]⟩).cells (G - (n + 1)) := ⟨_, rfl⟩;rw [<- hG] at hrz ⊢;rw [<- hROW] at hrz ⊢;have hRl : n + 1 <= ROW.size := by
  rw [hROW];simp [Builtin.zeroCells, Value.cells];omega
 obtain ⟨W1, hW1⟩ : ∃ W1, W1 = w.drew.alloc (.cells ROW 9) := ⟨_, rfl⟩;rw [<- hW1] at hrz;have hN : ∀ j, j < n + 1 -> (W1.cell? ⟨w.heap.size, j, none⟩).isSome = true := fun j hj => by
  rw [hW1, World.cell?_alloc_at (w := w.drew) ROW _ w.heap.size j rfl, Array.getElem?_eq_getElem (by omega)]; rfl
 have hNf : ∀ j, W1.frozen? ⟨w.heap.size, j, none⟩ = false := fun j => by rw [hW1]; exact World.frozen?_alloc_at (w := w.drew) ROW _ w.heap.size j rfl
 have hOb : ∀ j v, w.cell? ⟨b, j, none⟩ = some v -> W1.cell? ⟨b, j, none⟩ = some v := fun j v h => by rw [hW1, World.cell?_alloc_past (w := w.drew) _ b j hbw]; exact h
 have hOv : ∀ j v, w.cell? ⟨vb, j, none⟩ = some v -> W1.cell? ⟨vb, j, none⟩ = some v := fun j v h => by rw [hW1, World.cell?_alloc_past (w := w.drew) _ vb j hvw]; exact h
 have hcpA : ∀ (W : World), (∀ x, W.cell? x = W1.cell? x) -> (∀ x, W.frozen? x = W1.frozen? x) -> ∀ ty dc, (Builtin.copy_ #[40, 40] ty #[.slice (some ⟨w.heap.size, i, none⟩) (n + 1 - i) dc, .slice (some ⟨vb, 0, none⟩) 1 1]).run Tryz.prog W = .ok (goInt [x].length) (W.setCells w.heap.size i [x]) := fun W hWc hWf ty dc =>
  run_copy_cells W _ _ ty 9 w.heap.size i (n + 1 - i) dc ⟨vb, 0, none⟩ 1 1 [x] Tryz.underlying40 hsz (by simp only [Nat.min_def, List.length_singleton]; split <;> omega)
   (fun j v hj => by rw [Addr.add_lit, hWc]; exact hOv _ v (hvs j v hj))
   (fun j hj => by rw [hWc]; exact hN _ (by simp at hj; omega)) (fun j hj => by rw [hWf]; exact hNf _) h1v
 have hGn : n + 1 <= G := by rw [hG]; exact grownCap_ge w _ _ _
 have hG63 : G <= 9223372036854775807 := by
  have := grownCap_le_maxLen w (n + 1) n 9 (by unfold maxLen; omega);rw [<- hG] at this;unfold maxLen at this;omega
 have hGi : ¬ (G = i) := by omega
 have hGim : ¬ (G = i + 1) := by omega
 have hci : ¬ (n = i) := by omega
 have hbN : b ≠ w.heap.size := by omega
 have hdl : (cs.drop i).length = n - i := by rw [List.length_drop, hcl]
 have hcpB : ∀ (W : World), (∀ y, W.cell? y = (W1.setCells w.heap.size i [x]).cell? y) -> (∀ y, W.frozen? y = (W1.setCells w.heap.size i [x]).frozen? y) -> ∀ ty dc sc, (Builtin.copy_ #[40, 40] ty #[.slice (some ⟨w.heap.size, i + 1, none⟩) (n + 1 - (i + 1)) dc, .slice (some ⟨b, i, none⟩) (n - i) sc]).run Tryz.prog W = .ok (goInt (cs.drop i).length) (W.setCells w.heap.size (i + 1) (cs.drop i)) := fun W hWc hWf ty dc sc =>
  run_copy_cells W _ _ ty 9 w.heap.size (i + 1) (n + 1 - (i + 1)) dc ⟨b, i, none⟩ (n - i) sc (cs.drop i) Tryz.underlying40 hsz (by rw [hdl]; simp only [Nat.min_def]; split <;> omega)
   (fun j v hj => by
     rw [Addr.add_lit, hWc, World.cell?_setCells_out _ _ _ _ _ (fun h _ => absurd h hbN)];have h := hcs (i + j) v (by rwa [List.getElem?_drop] at hj);rw [Nat.zero_add] at h;exact hOb _ v h)
   (fun j hj => by rw [hWc]; exact Go.Proofs.isSome_setCells _ _ _ _ (fun t ht => hN _ (by simp at ht; omega)) _ (hN _ (by omega)))
   (fun j hj => by rw [hWf, World.frozen?_setCells]; exact hNf _) (fun v hv => h1c v (List.mem_of_mem_drop hv))
 subst hW1;have hE1 : ∀ x, ((w.alloc (.cells ROW 9)).drew).cell? x = (w.drew.alloc (.cells ROW 9)).cell? x := fun x => rfl;have hE2 : ∀ x, ((w.alloc (.cells ROW 9)).drew).frozen? x = (w.drew.alloc (.cells ROW 9)).frozen? x := fun x => rfl;have hF1 : ∀ y, (((w.alloc (.cells ROW 9)).drew.setCells w.heap.size i [x]).drew).cell? y = ((w.drew.alloc (.cells ROW 9)).setCells w.heap.size i [x]).cell? y := fun y => rfl;have hF2 : ∀ y, (((w.alloc (.cells ROW 9)).drew.setCells w.heap.size i [x]).drew).frozen? y = ((w.drew.alloc (.cells ROW 9)).setCells w.heap.size i [x]).frozen? y := fun y => rfl;have hw1 : IntKind.i64.wrap ((i : Int) + 1) = (i : Int) + 1 := by rw [IntKind.wrap_i64]; omega
 have hb1 : (0 : Int) <= (i : Int) + 1 := by omega
 have hin : i <= n := by omega
 have htn : ((i : Int) + 1).toNat = i + 1 := by omega
 have hb3 : (i : Int) <= (n : Int) := by omega
 clear hkk hik hold hROW hG hRl;go_enter Tryz.func62, Tryz.ntmps62;go_wp2_with (first
  | (at_builtin; refine Lib.wpList_append_run _ rfl _ _ _ _ rfl _ _ rfl rfl _ _ (hrz _) ?_)
  | (at_builtin; refine wpList_copy_runI _ rfl _ _ 40 40 rfl _ _ rfl rfl (hcpA _ hE1 hE2 _ _) ?_)
  | (at_builtin; refine wpList_copy_runI _ rfl _ _ 40 40 rfl _ _ rfl rfl (hcpB _ (fun _ => rfl) (fun _ => rfl) _ _ _) ?_))
 go_region_law_o (refine step_copy_runI rfl _ _ 40 40 rfl (.slice (some ⟨w.heap.size, i + 1, none⟩) (n + 1 - (i + 1)) (G - (i + 1))) (.slice (some ⟨b, i, none⟩) (n - i) (n - i)) (by simp [Act.eval, Act.put]) (by simp [Act.eval, Act.put]) (hcpB _ hF1 hF2 3 (G - (i + 1)) (n - i)) ?_)
 go_wp2;go_ret;exact ⟨rfl, rfl⟩
theorem insS_any (w : World) (B : Nat) (v : Value) (n i vb : Nat) (cs : List Value) (x : Value) (hown : w.ownsRow B 9 1 v n cs) (hvb : BoxN w vb 9 [x]) (h1c : ∀ u ∈ cs, u.oneCell' = true) (h1x : x.oneCell' = true)
 (hin : i <= n) (hn : n <= 1000000) (hB : B <= w.heap.size) (hap : v.ownBlock ≠ some vb) :
 Calls Tryz.prog 62 #[v, .int .i64 i, .slice (some ⟨vb, 0, none⟩) 1 1] w fun e w' => ∃ v', e = .returned v' /\ w'.ownsRow B 9 1 v' (n + 1) (cs.take i ++ x :: cs.drop i) /\ w.grownBy w' v.ownBlock := by
 have hvs : ∀ j u, [x][j]? = some u -> w.cell? ⟨vb, 0 + j, none⟩ = some u := fun j u hj => by rw [Nat.zero_add]; exact hvb.cell j hj
 have h1v : ∀ u ∈ [x], u.oneCell' = true := fun u hu => by simp at hu; subst hu; exact h1x
 have hcl : cs.length = n := by have := hown.1; omega
 rcases Nat.lt_or_ge i n with hlt | hge
 ·obtain ⟨g, c, l, rfl, hBg, hbx, hnc, hcm, hll, htk⟩ := box_of_owns hown (by omega)
  have hne : vb ≠ g := fun e => hap (by subst e; rfl)
  have hcm' := hcm;unfold maxLen at hcm';have hcs : ∀ j u, cs[j]? = some u -> w.cell? ⟨g, 0 + j, none⟩ = some u := fun j u hj => by
   rw [Nat.zero_add];refine hbx.cell j ?_;rw [<- htk, List.getElem?_take] at hj;split at hj
   ·exact hj
   ·cases hj
  rcases Nat.lt_or_ge n c with hroom | hfull
  ·refine (insS_shift g n c i vb cs x w hlt hroom hcm' hne hcl hcs (fun j hj => ?_) (fun j _ => hbx.frozen _) hvs h1c h1v 9 9 1 l.length (by unfold BoxN at hvb; simp [World.shape?, hvb]) (by unfold BoxN at hbx; simp [World.shape?, hbx]) (by omega) (hvb.frozen 0) (hvb.frozen 1)).mono ?_
   ·rw [hbx.cell (0 + j) (List.getElem?_eq_getElem (by omega))]; rfl
   ·rintro e w' ⟨rfl, rfl⟩
    obtain ⟨e1, e2⟩ := ins_shift (x := x) htk hlt (by omega : n + 1 <= l.length);have hd : (cs.drop i).length = n - i := by rw [List.length_drop, hcl]
    have k1 := BoxN.setCells (cs.drop i) (i + 1) hbx.drew (by omega);have k2 := BoxN.setCells [x] i k1 (by rw [e1]; simp; omega);rw [Nat.zero_add, Nat.zero_add];refine ⟨_, rfl, owns_of_box k2 hBg hroom hcm ?_ e2, gb_setCells [x] i (gb_setCells (cs.drop i) (i + 1) (gb_drew (gb_refl w (some g))))⟩;simp only [List.length_append, List.length_take, List.length_drop, List.length_singleton] at e1 ⊢;omega
  ·obtain rfl : c = n := by omega
   refine (insS_grow g c i vb cs x w hlt hn hcl hcs hvs h1c h1v).mono ?_;rintro e w' ⟨rfl, rfl⟩;have hG1 := grownCap_ge w (c + 1) c 9;have hG2 := grownCap_le_maxLen w (c + 1) c 9 (by unfold maxLen; omega);generalize grownCap w (c + 1) c 9 = G at *;obtain ⟨ROW, hR⟩ : ∃ ROW : Array Value, ROW = (cs.take i).toArray ++ Builtin.zeroCells (Value.string ⟨#[]⟩).cells (c + 1 - i) ++ Builtin.zeroCells (Value.string ⟨#[]⟩).cells (G - (c + 1)) := ⟨_, rfl⟩;rw [<- hR];have hRs : ROW.toList.length = G := by
    rw [hR];simp [Builtin.zeroCells, Value.cells];omega
   have hRt : ROW.toList.take i = cs.take i := by
    rw [hR];simp only [Array.toList_append, List.append_assoc];rw [List.take_append_of_le_length (by rw [List.length_take]; omega), List.take_take, Nat.min_self]
   have kb : BoxN (w.alloc (.cells ROW 9)) w.heap.size 9 ROW.toList := BoxN.new _ _ _ _ rfl;obtain ⟨e0, e1, e2⟩ := ins_grow (x := x) hcl hRt hlt (by omega);have hd : (cs.drop i).length = c - i := by rw [List.length_drop, hcl]
   have k1 := BoxN.setCells [x] i kb.drew (by rw [hRs]; simp; omega);have k2 := BoxN.setCells (cs.drop i) (i + 1) k1.drew (by simp only [List.length_singleton]; rw [e0]; omega);simp only [List.length_singleton] at k1 k2;have hgA : w.grownBy (((w.alloc (.cells ROW 9)).drew.setCells w.heap.size i [x]).drew.setCells w.heap.size (i + 1) (cs.drop i)) (some g) := by
    have kk : (w.alloc (.cells ROW 9)).grownBy (((w.alloc (.cells ROW 9)).drew.setCells w.heap.size i [x]).drew.setCells w.heap.size (i + 1) (cs.drop i)) (some w.heap.size) := gb_setCells _ _ (gb_drew (gb_setCells _ _ (gb_drew (gb_refl (w.alloc (.cells ROW 9)) _))));refine ⟨kk.os, kk.tape, kk.output, Nat.le_trans (by simp) kk.size, fun j hj hne' => ?_⟩;rw [kk.block j (by simp; omega) (fun e => by cases e; omega)];exact heap_old _ _ _ hj
   exact ⟨_, rfl, owns_of_box k2 hB hG1 hG2 (by rw [e1]; exact hRs) e2, hgA⟩
 ·obtain rfl : i = n := by omega
  obtain ⟨i0, hi0, hz0, hzs, hzb⟩ := info_parts (show ((Tryz.prog).info? 9).map (fun i => (i.zero, i.size, i.bytes)) = some (some (Value.string ⟨#[]⟩), 1, 16) by kernel_rfl);obtain ⟨p, c, rfl⟩ := ownsRow_shape hown;have HO := hid hown;have HV := hid hvs;have HC := hid hvb;have hE : Hid (cs.take i ++ x :: cs.drop i = cs ++ [x]) := by unfold Hid; rw [List.take_of_length_le (by omega), List.drop_of_length_le (by omega)]
  have hm9 : c <= 9223372036854775807 := by
   rcases hown.2 with ⟨h0, h1⟩ | ⟨g, cap, cur, h0, hb, hg, hnc, hcm, hcs, ht⟩
   ·cases h0; omega
   ·cases h0; exact hcm
  have hic : i <= c := by
   rcases hown.2 with ⟨h0, h1⟩ | ⟨g, cap, cur, h0, hb, hg, hnc, hcm, hcs, ht⟩
   ·cases h0; omega
   ·cases h0; exact hnc
  clear hown hvs hvb hap hcl hge hin h1c;rcases (Decidable.em (c = i)) with hci | hci
  ·subst hci
   go_enter Tryz.func62, Tryz.ntmps62
   go_wp2_with (at_builtin; refine wpList_append_own _ rfl _ _ 40 rfl B 9 i0 (Value.string ⟨#[]⟩) 1 16 Tryz.underlying40 hi0 hz0 hzs hzb rfl (by decide) _ _ _ rfl HO.out ⟨vb, 0, none⟩ 1 1 [x] rfl rfl (fun j u hu => by rw [Addr.add_lit]; exact HV.out j u hu) h1v (by unfold maxLen; omega) (by omega) hB ?_
                intro v7 w7 hown7 hgrow7 _)
   have hgw : w.grownBy w7 (Value.slice p c c).ownBlock := hgrow7;rw [<- hE.out] at hown7;have HW := hid hown7;clear hown7 hgrow7;go_wp2_with fail;go_ret;exact ⟨_, rfl, HW.out, hgw⟩
  ·go_enter Tryz.func62, Tryz.ntmps62
   go_wp2_with (at_builtin; refine wpList_append_own _ rfl _ _ 40 rfl B 9 i0 (Value.string ⟨#[]⟩) 1 16 Tryz.underlying40 hi0 hz0 hzs hzb rfl (by decide) _ _ _ rfl HO.out ⟨vb, 0, none⟩ 1 1 [x] rfl rfl (fun j u hu => by rw [Addr.add_lit]; exact HV.out j u hu) h1v (by unfold maxLen; omega) (by omega) hB ?_
                intro v7 w7 hown7 hgrow7 _)
   have hgw : w.grownBy w7 (Value.slice p i c).ownBlock := hgrow7;rw [<- hE.out] at hown7;have HW := hid hown7;clear hown7 hgrow7;go_wp2_with fail;go_ret;exact ⟨_, rfl, HW.out, hgw⟩
theorem insF_shift (b n c i vb : Nat) (cs : List Value) (x : Value) (w : World) (hi : i < n) (hroom : n + 1 <= c) (hc63 : c <= 9223372036854775807) (hvb : vb ≠ b)
 (hcl : cs.length = n) (hcs : ∀ j v, cs[j]? = some v -> w.cell? ⟨b, 0 + j, none⟩ = some v) (hsp : ∀ j, j < n + 1 -> (w.cell? ⟨b, 0 + j, none⟩).isSome = true) (hfz : ∀ j, j < n + 1 -> w.frozen? ⟨b, 0 + j, none⟩ = false)
 (hvs : ∀ j v, [x][j]? = some v -> w.cell? ⟨vb, 0 + j, none⟩ = some v) (h1c : ∀ v ∈ cs, v.oneCell' = true) (h1v : ∀ v ∈ [x], v.oneCell' = true)
 (tA tB : TypeId) (kA kB : Nat) (hsa : w.shape? vb = some (tA, kA)) (hsb : w.shape? b = some (tB, kB)) (hkB : kB ≠ 0) (hfa : w.frozen? ⟨vb, 0, none⟩ = false) (hfe : w.frozen? ⟨vb, kA, none⟩ = false) :
 Calls Tryz.prog 63 #[.slice (some ⟨b, 0, none⟩) n c, .int .i64 i, .slice (some ⟨vb, 0, none⟩) 1 1] w fun e w' =>
  e = .returned (.slice (some ⟨b, 0, none⟩) (n + 1) c) /\ w' = (w.drew.setCells b (0 + (i + 1)) (cs.drop i)).setCells b (0 + i) [x] := by
 have mixed : (Tryz.prog).follows .mixedOrders = true := by kernel_rfl
 have hz2 : ¬ ((i : Int) = (n : Int)) := by omega
 have hsz : ((Tryz.prog).info? 39).map (·.size) = some 1 := by kernel_rfl
 have hov : ∀ lb cb, (callFunc 106 #[.slice (some ⟨vb, 0, none⟩) 1 1, .slice (some ⟨b, i + 1, none⟩) lb cb]).run Tryz.prog w = .ok (.value (.bool false)) w := fun lb cb => by
  rw [run_callFunc_extern Tryz.func106 (by kernel_rfl) (by kernel_rfl) (by kernel_rfl) (e := Extern.SlicesOverlaps.overlaps #[41, 41] #[4]) (by kernel_rfl),
   Lib.run_overlaps_apart w 41 4 39 Tryz.underlying41 1 Tryz.sizeOf39 ⟨vb, 0, none⟩ ⟨b, i + 1, none⟩ 1 1 lb cb hvb tA tB kA kB hsa hsb hkB hfa hfe]
  rfl
 have hdl : (cs.drop i).length = n - i := by rw [List.length_drop, hcl]
 have hw1 : IntKind.i64.wrap ((i : Int) + 1) = (i : Int) + 1 := by rw [IntKind.wrap_i64]; omega
 have hb1 : (0 : Int) <= (i : Int) + 1 := by omega
 have hin : i <= n := by omega
 have htn : ((i : Int) + 1).toNat = i + 1 := by omega
 have hb2 : ¬ (c = i + 1) := by omega
 have hb3 : (i : Int) <= (n : Int) + 1 := by omega
 have hb4 : ¬ (c = i) := by omega
 have hcp1 : ∀ ty dc sc, (Builtin.copy_ #[41, 41] ty #[.slice (some ⟨b, 0 + (i + 1), none⟩) (n + 1 - (i + 1)) dc, .slice (some ⟨b, 0 + i, none⟩) (n + 1 - i) sc]).run Tryz.prog w.drew = .ok (goInt (cs.drop i).length) (w.drew.setCells b (0 + (i + 1)) (cs.drop i)) := fun ty dc sc =>
  run_copy_cells w.drew _ _ ty 39 b (0 + (i + 1)) (n + 1 - (i + 1)) dc ⟨b, 0 + i, none⟩ (n + 1 - i) sc (cs.drop i) Tryz.underlying41 hsz (by rw [hdl]; simp only [Nat.min_def]; split <;> omega)
   (fun j v hj => by rw [Addr.add_lit, Nat.add_assoc]; exact hcs (i + j) v (by rwa [List.getElem?_drop] at hj))
   (fun j hj => by rw [Nat.add_assoc]; exact hsp _ (by omega)) (fun j hj => by rw [Nat.add_assoc]; exact hfz _ (by omega)) (fun v hv => h1c v (List.mem_of_mem_drop hv))
 obtain ⟨W1, hW1⟩ : ∃ W1, W1 = w.drew.setCells b (0 + (i + 1)) (cs.drop i) := ⟨_, rfl⟩;have hsp1 : ∀ k, k < n + 1 -> (W1.cell? ⟨b, 0 + k, none⟩).isSome = true := fun k hk => by
  rw [hW1];exact Go.Proofs.isSome_setCells b _ _ _ (fun j hj => by rw [Nat.add_assoc]; exact hsp _ (by omega)) _ (hsp k hk)
 have hcp2 : ∀ (W : World), (∀ x, W.cell? x = W1.cell? x) -> (∀ x, W.frozen? x = W1.frozen? x) -> ∀ ty dc, (Builtin.copy_ #[41, 41] ty #[.slice (some ⟨b, 0 + i, none⟩) (n + 1 - i) dc, .slice (some ⟨vb, 0, none⟩) 1 1]).run Tryz.prog W = .ok (goInt [x].length) (W.setCells b (0 + i) [x]) := fun W hWc hWf ty dc =>
  run_copy_cells W _ _ ty 39 b (0 + i) (n + 1 - i) dc ⟨vb, 0, none⟩ 1 1 [x] Tryz.underlying41 hsz (by simp only [Nat.min_def, List.length_singleton]; split <;> omega)
   (fun j v hj => by
     rw [Addr.add_lit, hWc, hW1, World.cell?_setCells_out b _ _ _ _ (fun h _ => absurd h hvb)];exact hvs j v hj)
   (fun j hj => by rw [hWc, Nat.add_assoc]; exact hsp1 _ (by simp at hj; omega)) (fun j hj => by rw [hWf, hW1, World.frozen?_setCells, Nat.add_assoc]; exact hfz _ (by simp at hj; omega)) h1v
 rw [<- hW1] at hcp1;simp only [Nat.zero_add] at hcp1 hcp2;go_enter Tryz.func63, Tryz.ntmps63;go_wp2_with (simp only [hov])
 go_region_law_o (refine step_copy_runI rfl _ _ 41 41 rfl (.slice (some ⟨b, i + 1, none⟩) (n + 1 - (i + 1)) (c - (i + 1))) (.slice (some ⟨b, i, none⟩) (n + 1 - i) (c - i)) (by simp [Act.eval, Act.put]) (by simp [Act.eval, Act.put]) (hcp1 _ _ _) ?_)
 go_wp2_with (at_builtin; refine wpList_copy_runI _ rfl _ _ 41 41 rfl _ _ rfl rfl (hcp2 _ (fun _ => rfl) (fun _ => rfl) _ _) ?_);go_ret;refine ⟨rfl, ?_⟩;first | simp only [Nat.zero_add] | (rw [hW1]; simp only [Nat.zero_add])
theorem insF_grow (b n i vb : Nat) (cs : List Value) (x : Value) (w : World) (hi : i < n) (hbig : n <= 1000000)
 (hcl : cs.length = n) (hcs : ∀ j v, cs[j]? = some v -> w.cell? ⟨b, 0 + j, none⟩ = some v)
 (hvs : ∀ j v, [x][j]? = some v -> w.cell? ⟨vb, 0 + j, none⟩ = some v) (h1c : ∀ v ∈ cs, v.oneCell' = true) (h1v : ∀ v ∈ [x], v.oneCell' = true) :
 Calls Tryz.prog 63 #[.slice (some ⟨b, 0, none⟩) n n, .int .i64 i, .slice (some ⟨vb, 0, none⟩) 1 1] w fun e w' =>
  e = .returned (.slice (some ⟨w.heap.size, 0, none⟩) (n + 1) (grownCap w (n + 1) n 39)) /\
  w' = (((w.alloc (.cells ((cs.take i).toArray ++ Builtin.zeroCells (Value.slice none 0 0).cells (n + 1 - i) ++ Builtin.zeroCells (Value.slice none 0 0).cells (grownCap w (n + 1) n 39 - (n + 1))) 39)).drew.setCells w.heap.size i [x]).drew).setCells w.heap.size (i + 1) (cs.drop i) := by
 obtain ⟨i0, hi0, hz0, hzs, hzb⟩ := info_parts (show ((Tryz.prog).info? 39).map (fun i => (i.zero, i.size, i.bytes)) = some (some (Value.slice none 0 0), 1, 24) by kernel_rfl);have mixed : (Tryz.prog).follows .mixedOrders = true := by kernel_rfl
 have hz2 : ¬ ((i : Int) = (n : Int)) := by omega
 have hz3 : (n : Int) < (n : Int) + 1 := by omega
 have hsz : ((Tryz.prog).info? 39).map (·.size) = some 1 := by rw [hi0]; simp [hzs]
 have hbw : b < w.heap.size := block_lt_of_cell (hcs 0 _ (List.getElem?_eq_getElem (by omega)));have hvw : vb < w.heap.size := block_lt_of_cell (hvs 0 _ (List.getElem?_eq_getElem (by simp)));have hkk : (n : Int) + 1 - (i : Int) = ((n + 1 - i : Nat) : Int) := by omega
 have hik : i + (n + 1 - i) = n + 1 := by omega
 have hold : (Builtin.firstCells i0.size i (.slice (some ⟨b, 0, none⟩) i n)).run Tryz.prog w.drew = .ok (cs.take i).toArray w.drew := by
  rw [hzs];exact run_firstCells_some w.drew 1 i ⟨b, 0, none⟩ i n (cs.take i) (by rw [List.length_take]; omega) (fun j v hj => by
   rw [Addr.add_lit];rw [List.getElem?_take] at hj;split at hj
   ·exact hcs j v hj
   ·cases hj)
 have hrz : ∀ ty, (Builtin.append_ #[41, 3] ty #[.slice (some ⟨b, 0, none⟩) i n, .int .i64 ((n : Int) + 1 - (i : Int))]).run Tryz.prog w =
  .ok (.slice (some ⟨w.heap.size, 0, none⟩) (n + 1) (grownCap w (n + 1) n 39)) (w.drew.alloc (.cells ((cs.take i).toArray ++ Builtin.zeroCells (Value.slice none 0 0).cells (n + 1 - i) ++ Builtin.zeroCells (Value.slice none 0 0).cells (grownCap w (n + 1) n 39 - (n + 1))) 39)) := fun ty => by
  have h := Lib.run_append_grow_zeros w 41 3 ty 39 i0 _ .i64 .i64 Tryz.underlying41 Tryz.underlying3 hi0 hz0 (some ⟨b, 0, none⟩) i n (cs.take i) hold (n + 1 - i) (by omega) (by omega) (by omega) (by omega) (by rw [hzb]; omega) (by rw [hzb, hik]; exact growslice_fits (by omega) (by omega));rw [hik] at h;rw [hkk];exact h
 obtain ⟨G, hG⟩ : ∃ G, G = grownCap w (n + 1) n 39 := ⟨_, rfl⟩;obtain ⟨ROW, hROW⟩ : ∃ ROW : Array Value, ROW = (cs.take i).toArray ++ Builtin.zeroCells (Value.slice none 0 0).cells (n + 1 - i) ++ Builtin.zeroCells (Value.slice none 0 0).cells (G - (n + 1)) := ⟨_, rfl⟩;rw [<- hG] at hrz ⊢;rw [<- hROW] at hrz ⊢;have hRl : n + 1 <= ROW.size := by
  rw [hROW];simp [Builtin.zeroCells, Value.cells];omega
 obtain ⟨W1, hW1⟩ : ∃ W1, W1 = w.drew.alloc (.cells ROW 39) := ⟨_, rfl⟩;rw [<- hW1] at hrz;have hN : ∀ j, j < n + 1 -> (W1.cell? ⟨w.heap.size, j, none⟩).isSome = true := fun j hj => by
  rw [hW1, World.cell?_alloc_at (w := w.drew) ROW _ w.heap.size j rfl, Array.getElem?_eq_getElem (by omega)]; rfl
 have hNf : ∀ j, W1.frozen? ⟨w.heap.size, j, none⟩ = false := fun j => by rw [hW1]; exact World.frozen?_alloc_at (w := w.drew) ROW _ w.heap.size j rfl
 have hOb : ∀ j v, w.cell? ⟨b, j, none⟩ = some v -> W1.cell? ⟨b, j, none⟩ = some v := fun j v h => by rw [hW1, World.cell?_alloc_past (w := w.drew) _ b j hbw]; exact h
 have hOv : ∀ j v, w.cell? ⟨vb, j, none⟩ = some v -> W1.cell? ⟨vb, j, none⟩ = some v := fun j v h => by rw [hW1, World.cell?_alloc_past (w := w.drew) _ vb j hvw]; exact h
 have hcpA : ∀ (W : World), (∀ x, W.cell? x = W1.cell? x) -> (∀ x, W.frozen? x = W1.frozen? x) -> ∀ ty dc, (Builtin.copy_ #[41, 41] ty #[.slice (some ⟨w.heap.size, i, none⟩) (n + 1 - i) dc, .slice (some ⟨vb, 0, none⟩) 1 1]).run Tryz.prog W = .ok (goInt [x].length) (W.setCells w.heap.size i [x]) := fun W hWc hWf ty dc =>
  run_copy_cells W _ _ ty 39 w.heap.size i (n + 1 - i) dc ⟨vb, 0, none⟩ 1 1 [x] Tryz.underlying41 hsz (by simp only [Nat.min_def, List.length_singleton]; split <;> omega)
   (fun j v hj => by rw [Addr.add_lit, hWc]; exact hOv _ v (hvs j v hj))
   (fun j hj => by rw [hWc]; exact hN _ (by simp at hj; omega)) (fun j hj => by rw [hWf]; exact hNf _) h1v
 have hGn : n + 1 <= G := by rw [hG]; exact grownCap_ge w _ _ _
 have hG63 : G <= 9223372036854775807 := by
  have := grownCap_le_maxLen w (n + 1) n 39 (by unfold maxLen; omega);rw [<- hG] at this;unfold maxLen at this;omega
 have hGi : ¬ (G = i) := by omega
 have hGim : ¬ (G = i + 1) := by omega
 have hci : ¬ (n = i) := by omega
 have hbN : b ≠ w.heap.size := by omega
 have hdl : (cs.drop i).length = n - i := by rw [List.length_drop, hcl]
 have hcpB : ∀ (W : World), (∀ y, W.cell? y = (W1.setCells w.heap.size i [x]).cell? y) -> (∀ y, W.frozen? y = (W1.setCells w.heap.size i [x]).frozen? y) -> ∀ ty dc sc, (Builtin.copy_ #[41, 41] ty #[.slice (some ⟨w.heap.size, i + 1, none⟩) (n + 1 - (i + 1)) dc, .slice (some ⟨b, i, none⟩) (n - i) sc]).run Tryz.prog W = .ok (goInt (cs.drop i).length) (W.setCells w.heap.size (i + 1) (cs.drop i)) := fun W hWc hWf ty dc sc =>
  run_copy_cells W _ _ ty 39 w.heap.size (i + 1) (n + 1 - (i + 1)) dc ⟨b, i, none⟩ (n - i) sc (cs.drop i) Tryz.underlying41 hsz (by rw [hdl]; simp only [Nat.min_def]; split <;> omega)
   (fun j v hj => by
     rw [Addr.add_lit, hWc, World.cell?_setCells_out _ _ _ _ _ (fun h _ => absurd h hbN)];have h := hcs (i + j) v (by rwa [List.getElem?_drop] at hj);rw [Nat.zero_add] at h;exact hOb _ v h)
   (fun j hj => by rw [hWc]; exact Go.Proofs.isSome_setCells _ _ _ _ (fun t ht => hN _ (by simp at ht; omega)) _ (hN _ (by omega)))
   (fun j hj => by rw [hWf, World.frozen?_setCells]; exact hNf _) (fun v hv => h1c v (List.mem_of_mem_drop hv))
 subst hW1;have hE1 : ∀ x, ((w.alloc (.cells ROW 39)).drew).cell? x = (w.drew.alloc (.cells ROW 39)).cell? x := fun x => rfl;have hE2 : ∀ x, ((w.alloc (.cells ROW 39)).drew).frozen? x = (w.drew.alloc (.cells ROW 39)).frozen? x := fun x => rfl;have hF1 : ∀ y, (((w.alloc (.cells ROW 39)).drew.setCells w.heap.size i [x]).drew).cell? y = ((w.drew.alloc (.cells ROW 39)).setCells w.heap.size i [x]).cell? y := fun y => rfl;have hF2 : ∀ y, (((w.alloc (.cells ROW 39)).drew.setCells w.heap.size i [x]).drew).frozen? y = ((w.drew.alloc (.cells ROW 39)).setCells w.heap.size i [x]).frozen? y := fun y => rfl;have hw1 : IntKind.i64.wrap ((i : Int) + 1) = (i : Int) + 1 := by rw [IntKind.wrap_i64]; omega
 have hb1 : (0 : Int) <= (i : Int) + 1 := by omega
 have hin : i <= n := by omega
 have htn : ((i : Int) + 1).toNat = i + 1 := by omega
 have hb3 : (i : Int) <= (n : Int) := by omega
 clear hkk hik hold hROW hG hRl;go_enter Tryz.func63, Tryz.ntmps63;go_wp2_with (first
  | (at_builtin; refine Lib.wpList_append_run _ rfl _ _ _ _ rfl _ _ rfl rfl _ _ (hrz _) ?_)
  | (at_builtin; refine wpList_copy_runI _ rfl _ _ 41 41 rfl _ _ rfl rfl (hcpA _ hE1 hE2 _ _) ?_)
  | (at_builtin; refine wpList_copy_runI _ rfl _ _ 41 41 rfl _ _ rfl rfl (hcpB _ (fun _ => rfl) (fun _ => rfl) _ _ _) ?_))
 go_region_law_o (refine step_copy_runI rfl _ _ 41 41 rfl (.slice (some ⟨w.heap.size, i + 1, none⟩) (n + 1 - (i + 1)) (G - (i + 1))) (.slice (some ⟨b, i, none⟩) (n - i) (n - i)) (by simp [Act.eval, Act.put]) (by simp [Act.eval, Act.put]) (hcpB _ hF1 hF2 3 (G - (i + 1)) (n - i)) ?_)
 go_wp2;go_ret;exact ⟨rfl, rfl⟩
theorem insF_any (w : World) (B : Nat) (v : Value) (n i vb : Nat) (cs : List Value) (x : Value) (hown : w.ownsRow B 39 1 v n cs) (hvb : BoxN w vb 39 [x]) (h1c : ∀ u ∈ cs, u.oneCell' = true) (h1x : x.oneCell' = true)
 (hin : i <= n) (hn : n <= 1000000) (hB : B <= w.heap.size) (hap : v.ownBlock ≠ some vb) :
 Calls Tryz.prog 63 #[v, .int .i64 i, .slice (some ⟨vb, 0, none⟩) 1 1] w fun e w' => ∃ v', e = .returned v' /\ w'.ownsRow B 39 1 v' (n + 1) (cs.take i ++ x :: cs.drop i) /\ w.grownBy w' v.ownBlock := by
 have hvs : ∀ j u, [x][j]? = some u -> w.cell? ⟨vb, 0 + j, none⟩ = some u := fun j u hj => by rw [Nat.zero_add]; exact hvb.cell j hj
 have h1v : ∀ u ∈ [x], u.oneCell' = true := fun u hu => by simp at hu; subst hu; exact h1x
 have hcl : cs.length = n := by have := hown.1; omega
 rcases Nat.lt_or_ge i n with hlt | hge
 ·obtain ⟨g, c, l, rfl, hBg, hbx, hnc, hcm, hll, htk⟩ := box_of_owns hown (by omega)
  have hne : vb ≠ g := fun e => hap (by subst e; rfl)
  have hcm' := hcm;unfold maxLen at hcm';have hcs : ∀ j u, cs[j]? = some u -> w.cell? ⟨g, 0 + j, none⟩ = some u := fun j u hj => by
   rw [Nat.zero_add];refine hbx.cell j ?_;rw [<- htk, List.getElem?_take] at hj;split at hj
   ·exact hj
   ·cases hj
  rcases Nat.lt_or_ge n c with hroom | hfull
  ·refine (insF_shift g n c i vb cs x w hlt hroom hcm' hne hcl hcs (fun j hj => ?_) (fun j _ => hbx.frozen _) hvs h1c h1v 39 39 1 l.length (by unfold BoxN at hvb; simp [World.shape?, hvb]) (by unfold BoxN at hbx; simp [World.shape?, hbx]) (by omega) (hvb.frozen 0) (hvb.frozen 1)).mono ?_
   ·rw [hbx.cell (0 + j) (List.getElem?_eq_getElem (by omega))]; rfl
   ·rintro e w' ⟨rfl, rfl⟩
    obtain ⟨e1, e2⟩ := ins_shift (x := x) htk hlt (by omega : n + 1 <= l.length);have hd : (cs.drop i).length = n - i := by rw [List.length_drop, hcl]
    have k1 := BoxN.setCells (cs.drop i) (i + 1) hbx.drew (by omega);have k2 := BoxN.setCells [x] i k1 (by rw [e1]; simp; omega);rw [Nat.zero_add, Nat.zero_add];refine ⟨_, rfl, owns_of_box k2 hBg hroom hcm ?_ e2, gb_setCells [x] i (gb_setCells (cs.drop i) (i + 1) (gb_drew (gb_refl w (some g))))⟩;simp only [List.length_append, List.length_take, List.length_drop, List.length_singleton] at e1 ⊢;omega
  ·obtain rfl : c = n := by omega
   refine (insF_grow g c i vb cs x w hlt hn hcl hcs hvs h1c h1v).mono ?_;rintro e w' ⟨rfl, rfl⟩;have hG1 := grownCap_ge w (c + 1) c 39;have hG2 := grownCap_le_maxLen w (c + 1) c 39 (by unfold maxLen; omega);generalize grownCap w (c + 1) c 39 = G at *;obtain ⟨ROW, hR⟩ : ∃ ROW : Array Value, ROW = (cs.take i).toArray ++ Builtin.zeroCells (Value.slice none 0 0).cells (c + 1 - i) ++ Builtin.zeroCells (Value.slice none 0 0).cells (G - (c + 1)) := ⟨_, rfl⟩;rw [<- hR];have hRs : ROW.toList.length = G := by
    rw [hR];simp [Builtin.zeroCells, Value.cells];omega
   have hRt : ROW.toList.take i = cs.take i := by
    rw [hR];simp only [Array.toList_append, List.append_assoc];rw [List.take_append_of_le_length (by rw [List.length_take]; omega), List.take_take, Nat.min_self]
   have kb : BoxN (w.alloc (.cells ROW 39)) w.heap.size 39 ROW.toList := BoxN.new _ _ _ _ rfl;obtain ⟨e0, e1, e2⟩ := ins_grow (x := x) hcl hRt hlt (by omega);have hd : (cs.drop i).length = c - i := by rw [List.length_drop, hcl]
   have k1 := BoxN.setCells [x] i kb.drew (by rw [hRs]; simp; omega);have k2 := BoxN.setCells (cs.drop i) (i + 1) k1.drew (by simp only [List.length_singleton]; rw [e0]; omega);simp only [List.length_singleton] at k1 k2;have hgA : w.grownBy (((w.alloc (.cells ROW 39)).drew.setCells w.heap.size i [x]).drew.setCells w.heap.size (i + 1) (cs.drop i)) (some g) := by
    have kk : (w.alloc (.cells ROW 39)).grownBy (((w.alloc (.cells ROW 39)).drew.setCells w.heap.size i [x]).drew.setCells w.heap.size (i + 1) (cs.drop i)) (some w.heap.size) := gb_setCells _ _ (gb_drew (gb_setCells _ _ (gb_drew (gb_refl (w.alloc (.cells ROW 39)) _))));refine ⟨kk.os, kk.tape, kk.output, Nat.le_trans (by simp) kk.size, fun j hj hne' => ?_⟩;rw [kk.block j (by simp; omega) (fun e => by cases e; omega)];exact heap_old _ _ _ hj
   exact ⟨_, rfl, owns_of_box k2 hB hG1 hG2 (by rw [e1]; exact hRs) e2, hgA⟩
 ·obtain rfl : i = n := by omega
  obtain ⟨i0, hi0, hz0, hzs, hzb⟩ := info_parts (show ((Tryz.prog).info? 39).map (fun i => (i.zero, i.size, i.bytes)) = some (some (Value.slice none 0 0), 1, 24) by kernel_rfl);obtain ⟨p, c, rfl⟩ := ownsRow_shape hown;have HO := hid hown;have HV := hid hvs;have HC := hid hvb;have hE : Hid (cs.take i ++ x :: cs.drop i = cs ++ [x]) := by unfold Hid; rw [List.take_of_length_le (by omega), List.drop_of_length_le (by omega)]
  have hm9 : c <= 9223372036854775807 := by
   rcases hown.2 with ⟨h0, h1⟩ | ⟨g, cap, cur, h0, hb, hg, hnc, hcm, hcs, ht⟩
   ·cases h0; omega
   ·cases h0; exact hcm
  have hic : i <= c := by
   rcases hown.2 with ⟨h0, h1⟩ | ⟨g, cap, cur, h0, hb, hg, hnc, hcm, hcs, ht⟩
   ·cases h0; omega
   ·cases h0; exact hnc
  clear hown hvs hvb hap hcl hge hin h1c;rcases (Decidable.em (c = i)) with hci | hci
  ·subst hci
   go_enter Tryz.func63, Tryz.ntmps63
   go_wp2_with (at_builtin; refine wpList_append_own _ rfl _ _ 41 rfl B 39 i0 (Value.slice none 0 0) 1 24 Tryz.underlying41 hi0 hz0 hzs hzb rfl (by decide) _ _ _ rfl HO.out ⟨vb, 0, none⟩ 1 1 [x] rfl rfl (fun j u hu => by rw [Addr.add_lit]; exact HV.out j u hu) h1v (by unfold maxLen; omega) (by omega) hB ?_
                intro v7 w7 hown7 hgrow7 _)
   have hgw : w.grownBy w7 (Value.slice p c c).ownBlock := hgrow7;rw [<- hE.out] at hown7;have HW := hid hown7;clear hown7 hgrow7;go_wp2_with fail;go_ret;exact ⟨_, rfl, HW.out, hgw⟩
  ·go_enter Tryz.func63, Tryz.ntmps63
   go_wp2_with (at_builtin; refine wpList_append_own _ rfl _ _ 41 rfl B 39 i0 (Value.slice none 0 0) 1 24 Tryz.underlying41 hi0 hz0 hzs hzb rfl (by decide) _ _ _ rfl HO.out ⟨vb, 0, none⟩ 1 1 [x] rfl rfl (fun j u hu => by rw [Addr.add_lit]; exact HV.out j u hu) h1v (by unfold maxLen; omega) (by omega) hB ?_
                intro v7 w7 hown7 hgrow7 _)
   have hgw : w.grownBy w7 (Value.slice p i c).ownBlock := hgrow7;rw [<- hE.out] at hown7;have HW := hid hown7;clear hown7 hgrow7;go_wp2_with fail;go_ret;exact ⟨_, rfl, HW.out, hgw⟩
structure DepN (w : World) (vp vt vb vu vs : Value) (P : List PtQ) (T : List Tri) (k : Nat) (B : List Rat) (U : List ByteArray) (S : List (List Rat)) : Prop where
 p : RdP w vp (strP P)
 t : RdT w vt T
 m : MeshOK P T k
 base : RdQ w vb B
 unit : RdS w vu U
 surf : RdF w vs S
 fl : ∀ F ∈ B :: S, F.length = P.length
 fs : ∀ F ∈ B :: S, ∀ q ∈ F, Sz k q
 ul : U.length = S.length + 1
 u60 : U.length <= 60
 ok : depE P T (B.map RS) U (S.map fun F => F.map RS) = 0
theorem DepN.below {w w' : World} {vp vt vb vu vs : Value} {P : List PtQ} {T : List Tri} {k : Nat} {B : List Rat} {U : List ByteArray} {S : List (List Rat)} (h : DepN w vp vt vb vu vs P T k B U S) (hb : Below w.heap.size w w') : DepN w' vp vt vb vu vs P T k B U S :=
 ⟨RdC.below h.p hb, RdC.below h.t hb, h.m, RdC.below h.base hb, RdC.below h.unit hb, h.surf.below hb, h.fl, h.fs, h.ul, h.u60, h.ok⟩
theorem DepN.toT {w : World} {vp vt vb vu vs : Value} {P : List PtQ} {T : List Tri} {k : Nat} {B : List Rat} {U : List ByteArray} {S : List (List Rat)} (h : DepN w vp vt vb vu vs P T k B U S) : DepT w vp vt vb vu vs P T k (B.map RS) U (S.map fun F => F.map RS) := by
 have hall : ∀ F ∈ B.map RS :: S.map (fun F => F.map RS), ∃ R ∈ B :: S, F = R.map RS := fun F hF => by
  rcases List.mem_cons.1 hF with rfl | h1
  ·exact ⟨B, by simp, rfl⟩
  ·obtain ⟨R, hR, rfl⟩ := List.mem_map.1 h1
   exact ⟨R, List.mem_cons_of_mem _ hR, rfl⟩
 refine ⟨h.p, h.t, fun _ => h.m, h.base.toS, h.unit, h.surf.toTx, fun F hF => ?_, fun F hF _ => ?_⟩
 ·obtain ⟨R, hR, rfl⟩ := hall F hF
  refine ⟨size_ok h.m.kpos h.m.klim2 (h.fs R hR), ?_⟩;rw [List.length_map, h.fl R hR];have := h.m.plen;omega
 ·obtain ⟨R, hR, rfl⟩ := hall F hF
  exact ⟨R, rfl, h.fl R hR, h.fs R hR⟩
theorem DepN.open {w : World} {vp vt vb vu vs : Value} {P : List PtQ} {T : List Tri} {k : Nat} {B : List Rat} {U : List ByteArray} {S : List (List Rat)} (h : DepN w vp vt vb vu vs P T k B U S) :
 ∃ pp cp pt ct pb cb pu cu ps cs, vp = .slice pp P.length cp /\ vt = .slice pt T.length ct /\ vb = .slice pb P.length cb /\ vu = .slice pu U.length cu /\ vs = .slice ps S.length cs := by
 obtain ⟨pp, cp, e1, -, -, -⟩ := h.p.open;obtain ⟨pt, ct, e2, -, -, -⟩ := h.t.open;obtain ⟨pb, cb, e3, -, -, -⟩ := h.base.open;obtain ⟨pu, cu, e4, -, -, -⟩ := h.unit.open;obtain ⟨ps, cs, e5, -, -⟩ := h.surf.shape;rw [strP_length] at e1;rw [h.fl B (by simp)] at e3;exact ⟨pp, cp, pt, ct, pb, cb, pu, cu, ps, cs, e1, e2, e3, e4, e5⟩
def fldN (B : List Rat) (S : List (List Rat)) (n : Nat) : List Rat := (B :: S)[n]?.getD []
theorem fldN_mem (B : List Rat) (S : List (List Rat)) {i : Nat} (h : i <= S.length) : fldN B S i ∈ B :: S := by
 unfold fldN;rw [List.getElem?_eq_getElem (by simp; omega)];exact List.getElem_mem _
theorem fldT_map (B : List Rat) (S : List (List Rat)) (n : Nat) : fldT (B.map RS) (S.map fun F => F.map RS) n = (fldN B S n).map RS := by
 unfold fldT fldN;rw [<- List.map_cons (f := fun F : List Rat => F.map RS), List.getElem?_map];cases (B :: S)[n]? <;> rfl
theorem DepN.surface {w : World} {vp vt vb vu vs : Value} {P : List PtQ} {T : List Tri} {k : Nat} {B : List Rat} {U : List ByteArray} {S : List (List Rat)} (h : DepN w vp vt vb vu vs P T k B U S) (n : Nat) (hn : n <= S.length) :
 ∃ p c, RdQ w (.slice p P.length c) (fldN B S n) /\ ∀ w', Below w.heap.size w w' -> Calls Tryz.prog 65 #[.agg #[vb, vu, vs], .int .i64 (n : Int)] w' (Ret (fun r _ => r = .slice p P.length c) w') := by
 obtain ⟨p, c, h1, h2⟩ := surface_any w vb vu vs _ U _ h.toT.base h.unit h.toT.surf n (by rw [List.length_map]; exact hn);rw [fldT_map, List.length_map, h.fl _ (fldN_mem B S hn)] at h1 h2;exact ⟨p, c, rdS_toQ h1, h2⟩
theorem insNeg_any (q : Rat) (w : World) :
 Calls Tryz.prog 60 #[.string (RS q)] w (Ret (fun r _ => r = .bool (decide (q < 0))) w) := by
 by_cases h : q < 0
 ·have HC : Hid (∀ w, _) := fun w => ratSign_neg q h w
  rw [decide_eq_true h];generalize RS q = s at *;clear h;go_enter Tryz.func60, Tryz.ntmps60;go_wp2_with fail;refine (HC.out w).mono ?_;rintro e w1 ⟨_, rfl, rfl, hb1⟩;go_wp2_with fail;go_ret;exact ⟨_, rfl, rfl, hb1⟩
 ·have HC : Hid (∀ w, _) := fun w => ratSign_nn q h w
  rw [decide_eq_false h];generalize RS q = s at *;clear h;go_enter Tryz.func60, Tryz.ntmps60;go_wp2_with fail;refine (HC.out w).mono ?_;rintro e w1 ⟨_, rfl, ⟨z, rfl, h0, h1⟩, hb1⟩;have hz : decide (z < 0) = false := decide_eq_false (by omega);go_wp2_with fail;go_ret;exact ⟨_, rfl, rfl, hb1⟩
def negF (F : List Rat) : Bool := F.any fun q => decide (q < 0)
theorem indexNeg_any (w : World) (v : Value) (l : List Rat) (hr : RdQ w v l) (hl : l.length <= 1000) :
 Calls Tryz.prog 102 #[v, .func (.func 60) #[] #[]] w (Ret (fun r _ => ∃ z : Int, r = .int .i64 z /\ decide (0 <= z) = negF l) w) := by
 obtain ⟨p, c, rfl, -, -, hr'⟩ := hr.open;have HR := hid hr';clear hr hr';go_enter Tryz.func102, Tryz.ntmps102;go_wp2_with fail;go_loopw [5, 8] (fun _ t8 wr => ∃ i : Nat, t8 = .int .i64 i /\ i <= l.length /\ Hid (negF (l.take i) = false) /\ Below w.heap.size w wr) (fun _ t8 _ => l.length - (RowKit.intOf t8).toNat)
 case atStart => exact ⟨0, rfl, Nat.zero_le _, rfl, Below.refl _ _⟩
 case round =>
  obtain ⟨i, rfl, hi, HJ, hbr⟩ := hrel;rcases Nat.lt_or_ge i l.length with h | h
  ·obtain ⟨b, off, rfl, hbl, hc⟩ := HR.out (List.ne_nil_of_length_pos (by omega))
   have d0 := zcq hbr hbl (hc i h);have hiz : (i : Int) < (l.length : Int) := by omega
   have HY : Hid (decide (l[i] < 0) = true -> negF l = true) := fun h1 => by
    unfold negF;rw [List.any_eq_true];exact ⟨l[i], List.getElem_mem _, h1⟩
   have HN : Hid (decide (l[i] < 0) = false -> negF (l.take (i + 1)) = false) := fun h1 => by
    have h2 := HJ.out;unfold negF at h2 ⊢;rw [List.take_succ_eq_append_getElem h, List.any_append, h2];simp only [List.any_cons, List.any_nil, Bool.or_false, Bool.false_or];exact h1
   have HC : Hid (∀ w, _) := fun w => insNeg_any l[i] w;generalize decide (l[i] < 0) = nb at *;generalize l[i] = x at *;clear hc;go_wp2_with fail;refine (HC.out wr).mono ?_;rintro e w1 ⟨_, rfl, rfl, hb1⟩;have hbr1 := hbr.trans (hb1.mono hbr.size);clear d0 hb1;cases nb
   ·have H2 := hid (HN.out rfl)
    clear HN HY;go_wp2_with fail;go_roundw
    case rel => exact ⟨i + 1, by go_num, by omega, H2, hbr1⟩
    case measure =>
     show l.length - ((i : Int) + 1).toNat < l.length - (i : Int).toNat;omega
   ·have H2 := hid (HY.out rfl)
    clear HN HY;go_wp2_with fail;go_ret;exact ⟨_, rfl, ⟨_, rfl, by rw [H2.out]; exact decide_eq_true (by omega)⟩, hbr1⟩
  ·have hge : (l.length : Int) <= (i : Int) := by omega
   have H2 : Hid (negF l = false) := by have h1 := HJ.out; rw [List.take_of_length_le h] at h1; exact h1
   go_wp2_with fail;go_ret;exact ⟨_, rfl, ⟨_, rfl, by rw [H2.out]; rfl⟩, hbr⟩
theorem containsNeg_any (w : World) (v : Value) (l : List Rat) (hr : RdQ w v l) (hl : l.length <= 1000) :
 Calls Tryz.prog 59 #[v, .func (.func 60) #[] #[]] w (Ret (fun r _ => r = .bool (negF l)) w) := by
 have HC := hid (indexNeg_any w v l hr hl);obtain ⟨p, c, rfl, -, -, -⟩ := hr.open;generalize negF l = nb at *;clear hr;go_enter Tryz.func59, Tryz.ntmps59;go_wp2_with fail;refine HC.out.mono ?_;rintro e w1 ⟨_, rfl, ⟨z, rfl, hz⟩, hb1⟩;go_wp2_with fail;go_ret;exact ⟨_, rfl, rfl, hb1⟩
end Go.Proofs.YtgdpoankaojklaaGreatDoor
