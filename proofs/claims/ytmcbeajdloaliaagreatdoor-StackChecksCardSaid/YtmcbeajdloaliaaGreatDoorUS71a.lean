import Derived.Test.YtmcbeajdloaliaaGreatDoorUS30
import Derived.Shelf.Spec.SlicesInsertGrow
/- slices.Clone at texts mesh.Contains The walks over field.Profile$1, field.Profile. stack.clone. slices.Insert of one value into a row of the call's own, at texts and at Append of a row that may be nil -/
set_option maxHeartbeats 8000000
set_option maxRecDepth 100000
namespace Go.Proofs.YtmcbeajdloaliaaGreatDoor
open Go.RowKit Go.Lib
theorem snl (a : Addr) (n c : Nat) (w : World) : (binOp BinOp.eql 42 (.slice (some a) n c) (.slice none 0 0)).run Tryz.prog w = .ok (.bool false) w := by kernel_rfl
theorem cl0 (w : World) (I : Value) (L : List ByteArray) (h : RdS w I L) (V : L ≠ []) (v : L.length <= 1000000) :
 Calls Tryz.prog 82 #[I] w (Ret (fun r w' => w'.ownsRow w.heap.size 9 1 r L.length (L.map fun x => Value.string x)) w) := by
 obtain ⟨p, c, rfl, B, t, J⟩ := h.open;obtain ⟨b, off, rfl, y, X⟩ := J V;have C := List.length_pos_iff.2 V;obtain ⟨A, D, O, N, M⟩ := info_parts iSg;have G : Hid (∀ o, ∀ (j : Nat) (u : Value), (L.map fun x => Value.string x)[j]? = some u -> (w.alloc o).cell? ((⟨b, off, none⟩ : Addr).add j) = some u) := fun o j u hu => by
  rw [List.getElem?_map] at hu;rcases Nat.lt_or_ge j L.length with U | U
  ·rw [List.getElem?_eq_getElem U] at hu
   injection hu with hu
   subst hu;have S : (⟨b, off, none⟩ : Addr).add j = ⟨b, off + j, none⟩ := by unfold Addr.add; split <;> simp_all
   rw [S];exact cal o (X j U)
  ·rw [List.getElem?_eq_none U] at hu; cases hu
 have E : Hid (∀ u ∈ (L.map fun x => Value.string x), u.oneCell' = true) := fun u hu => by
  obtain ⟨q, _, rfl⟩ := List.mem_map.1 hu;rfl
 clear h J X V;have K := snl;go_enter Tryz.func82, Tryz.ntmps82
 go_wp2_with (at_builtin; refine wpList_append_own _ rfl _ _ 42 rfl w.heap.size 9 A (.string ⟨#[]⟩) 1 16 Tryz.underlying42 D O N M rfl (by decide) (.slice (some ⟨w.heap.size, 0, none⟩) 0 0) 0 [] rfl (World.ownsRow_made w #[] 0 (Nat.le_refl _) (by decide) rfl) ⟨b, off, none⟩ L.length c (L.map fun x => Value.string x) rfl (by simp) (G.out _) E.out (by unfold maxLen; omega) (by omega) (by simp) ?_
              intro z H Z Y _;have Q : Below w.heap.size w H := ((Below.refl _ _).alloc (Nat.le_refl _) _).grown Y (by simp) (fun j U => by simp [Value.ownBlock] at U; omega);clear Y)
 have R : Hid (H.ownsRow w.heap.size 9 1 z L.length (L.map fun x => Value.string x)) := by
  rw [Nat.zero_add, List.nil_append] at Z;exact Z
 clear Z;go_wp2_with fail;go_ret;exact ⟨_, rfl, R.out, Q⟩
def FlsD (E : Nat) (w : World) (B : Nat) (v : Value) (S : List (List Rat)) : Prop :=
 ∃ us : List Value, us.length = S.length /\ w.ownsRow B E 1 v S.length us /\ (∀ (i : Nat) (u : Value) (F : List Rat), us[i]? = some u -> S[i]? = some F -> FldV w B u F) /\
  ∀ (i j : Nat) (u u' : Value), i ≠ j -> us[i]? = some u -> us[j]? = some u' -> u.ownBlock ≠ u'.ownBlock
theorem FlsD.v {E : Nat} {w : World} {B : Nat} {v : Value} {S : List (List Rat)} (h : FlsD E w B v S) : FlsV E w B v S := by
 obtain ⟨us, Z, Y, X, -⟩ := h;exact ⟨us, Z, Y, X⟩
theorem FlsD.nil (E : Nat) (w : World) (B : Nat) : FlsD E w B (.slice none 0 0) [] := ⟨[], rfl, World.ownsRow_nil _ _ _ _, fun i u F h => by simp at h, fun i j u u' _ h => by simp at h⟩
theorem FlsD.below {E : Nat} {w w' : World} {B : Nat} {v : Value} {S : List (List Rat)} (h : FlsD E w B v S) (Z : Below w.heap.size w w') : FlsD E w' B v S := by
 obtain ⟨us, Y, X, V, U⟩ := h;exact ⟨us, Y, WRA X Z, fun i u F a b => (V i u F a b).below Z, U⟩
theorem FlsD.base {E : Nat} {w : World} {B B' : Nat} {v : Value} {S : List (List Rat)} (h : FlsD E w B v S) (Z : B' <= B) : FlsD E w B' v S := by
 obtain ⟨us, Y, X, V, U⟩ := h;exact ⟨us, Y, oRb X Z, fun i u F a b => (V i u F a b).base Z, U⟩
theorem FlsD.snoc {E : Nat} (I : 55 ≠ E) {w w' : World} {B M : Nat} {v v' u : Value} {S : List (List Rat)} {us : List Value} {F : List Rat} (V : us.length = S.length) (K : w.ownsRow B E 1 v S.length us)
 (J : ∀ (i : Nat) (u : Value) (F : List Rat), us[i]? = some u -> S[i]? = some F -> FldV w B u F) (t : ∀ (i j : Nat) (u C : Value), i ≠ j -> us[i]? = some u -> us[j]? = some C -> u.ownBlock ≠ C.ownBlock)
 (H : ∀ (i : Nat) (u : Value) (b : Nat), us[i]? = some u -> u.ownBlock = some b -> b < M)
 (D : w.grownBy w' v.ownBlock) (Y : w'.ownsRow B E 1 v' (S.length + 1) (us ++ [u])) (N : FldV w M u F) (L : F ≠ []) (U : B <= M) : FlsD E w' B v' (S ++ [F]) := by
 obtain ⟨n, m, l, f⟩ := FlsV.snoc I V K J D Y (N.base U);have Z : ∃ b, u.ownBlock = some b /\ M <= b := by
  obtain ⟨d, s⟩ := N;rcases s with ⟨rfl, r⟩ | ⟨g, cap, A, rfl, p, _⟩
  ·exact absurd (List.length_eq_zero_iff.1 r) L
  ·exact ⟨g, rfl, p⟩
 obtain ⟨b, Z, q⟩ := Z;have key : ∀ {x F}, FldV w B x F -> FldV w' B x F := fun h => World.ownsRow.kept h D (oat h K I);refine ⟨us ++ [u], by simp [V], by rw [List.length_append]; exact Y, fun i x G a c => ?_, fun i j x y hij a c => ?_⟩
 ·rcases Nat.lt_or_ge i S.length with h | h
  ·rw [List.getElem?_append_left (by omega)] at a
   rw [List.getElem?_append_left h] at c;exact key (J i x G a c)
  ·have Q := (List.getElem?_eq_some_iff.1 c).1
   rw [List.length_append] at Q;obtain rfl : i = S.length := by simp at Q; omega
   rw [List.getElem?_append_right (Nat.le_refl _), Nat.sub_self] at c;rw [List.getElem?_append_right (by omega), V, Nat.sub_self] at a;simp at a c;subst a; subst c;exact key (N.base U)
 ·have R : (us ++ [u]).length = S.length + 1 := by simp [V]
  have o := (List.getElem?_eq_some_iff.1 a).1;have Q := (List.getElem?_eq_some_iff.1 c).1;rw [R] at o Q;have X : ∀ {k : Nat} {z : Value}, k = S.length -> (us ++ [u])[k]? = some z -> z = u := fun hk hz => by
   subst hk;rw [List.getElem?_append_right (by omega), V, Nat.sub_self] at hz;simpa using hz.symm
  have fst : ∀ {k : Nat} {z : Value}, k < S.length -> (us ++ [u])[k]? = some z -> us[k]? = some z := fun hk hz => by
   rwa [List.getElem?_append_left (by omega)] at hz
  rcases Nat.lt_or_ge i S.length with h | h <;> rcases Nat.lt_or_ge j S.length with O | O
  ·exact t i j x y hij (fst h a) (fst O c)
  ·rw [X (by omega) c, Z]
   intro e;have := H i x b (fst h a) e;omega
  ·rw [X (by omega) a, Z]
   intro e;have := H j y b (fst O c) e.symm;omega
  ·omega
theorem FlsD.kept {E : Nat} {w w' : World} {B : Nat} {v : Value} {S : List (List Rat)} {row : Option Nat} (h : FlsD E w B v S) (V : w.grownBy w' row) (Z : ∀ (x : Value) (e s n : Nat) (xs : List Value), (e = E \/ e = 55) -> w.ownsRow B e s x n xs -> x.ownBlock = none \/ x.ownBlock ≠ row) : FlsD E w' B v S := by
 obtain ⟨us, U, Y, X, R⟩ := h;exact ⟨us, U, World.ownsRow.kept Y V (Z _ _ _ _ _ (.inl rfl) Y), fun i u F a b => World.ownsRow.kept (X i u F a b) V (Z _ _ _ _ _ (.inr rfl) (X i u F a b)), R⟩
theorem cof (w : World) (N M : Value) (Q O : ByteArray) (P : List (ByteArray × ByteArray)) (T : List Tri) (K : RdP w N P) (I : RdT w M T) (Φ : Value -> World -> Prop) (b : Bool) (n : Int)
 (hΦ : ∀ r w', Φ r w' -> ∃ H m cs, r = .tuple #[.slice H m cs, .int .i64 n] /\ decide ((0 : Int) < (m : Int)) = b)
 (L : ∀ w', Below w.heap.size w w' -> Calls Tryz.prog 154 #[.agg #[N, M], .agg #[.string Q, .string O]] w' (Ret Φ w')) :
 Calls Tryz.prog 112 #[.agg #[N, M], .agg #[.string Q, .string O]] w (Ret (fun r _ => r = .tuple #[.bool b, .int .i64 n]) w) := by
 have V := hid L;have G := hid hΦ;obtain ⟨C, E, rfl, -, -, -⟩ := K.open;obtain ⟨B, D, rfl, -, -, -⟩ := I.open;clear L hΦ K I;go_enter Tryz.func112, Tryz.ntmps112;go_wp2_with fail;obtain ⟨W, S⟩ := zex ((w.alloc (.cells #[.slice C P.length E, .slice B T.length D] 41)).alloc (.cells #[.string Q, .string O] 73));have U : Below w.heap.size w W := by rw [S]; exact zal2 _ _ _
 rw [<- S];clear S;refine (V.out W U).mono ?_;rintro e z ⟨r, rfl, J, X⟩;obtain ⟨H, m, cs, rfl, Z⟩ := G.out _ _ J;have Y := zbt U X;clear J X U;rcases Nat.eq_zero_or_pos m with rfl | A
 ·obtain rfl : b = false := by rw [<- Z]; rfl
  clear Z;go_wp2_with fail;go_ret2;exact ⟨_, rfl, rfl, Y⟩
 ·have R : (0 : Int) < (m : Int) := by omega
  obtain rfl : b = true := by rw [<- Z]; exact decide_eq_true R
  clear Z;go_wp2_with fail;go_ret2;exact ⟨_, rfl, rfl, Y⟩
theorem RdI.shape {w : World} {v : Value} {l : List Int} (h : RdI .i64 w v l) : ∃ Z cs, v = .slice Z l.length cs := by
 obtain ⟨Z, cs, rfl, -, -, -⟩ := h.open;exact ⟨Z, cs, rfl⟩
theorem cok (w : World) (Z Y : Value) (P : List PtQ) (T : List Tri) (k : Nat) (V : RdP w Z (strP P)) (U : RdT w Y T) (R : MeshOK P T k) (p : PtQ) (X : SzP 200 p) (S : Good w) :
 Calls Tryz.prog 112 #[.agg #[Z, Y], .agg #[.string (RS p.1), .string (RS p.2)]] w (Ret (fun r _ => r = .tuple #[.bool (decide ((0 : Int) < ((locN P T p T.length).length : Int))), .int .i64 0]) w) := by
 refine cof w Z Y _ _ _ T V U _ _ 0 ?_ fun w' hb => lok w' Z Y P T k (RdC.below V hb) (RdC.below U hb) R p X (S.below hb);rintro r w' ⟨v, rfl, Q⟩;obtain ⟨O, cs, rfl⟩ := Q.shape;exact ⟨O, _, cs, rfl, rfl⟩
structure BoxK (z : World) (b : Nat) : Prop where
 c0 : z.cell? ⟨b, 0, none⟩ = some (.string ⟨#[]⟩)
 c1 : z.cell? ⟨b, 1, none⟩ = some (.string ⟨#[]⟩)
 f0 : z.frozen? ⟨b, 0, none⟩ = false
 f1 : z.frozen? ⟨b, 1, none⟩ = false
 lt : b < z.heap.size
theorem BoxK.of {z : World} {b : Nat} (h : BoxN z b 73 [.string ⟨#[]⟩, .string ⟨#[]⟩]) : BoxK z b := ⟨h.cell 0 rfl, h.cell 1 rfl, h.frozen 0, h.frozen 1, h.lt⟩
theorem zc3 {x z : World} (h : Below (x.alloc (.cells #[.slice none 0 0, .slice none 0 0, .slice none 0 0] 45)).heap.size (x.alloc (.cells #[.slice none 0 0, .slice none 0 0, .slice none 0 0] 45)) z) : BoxN z x.heap.size 45 [.slice none 0 0, .slice none 0 0, .slice none 0 0] := (BoxN.new _ _ _ _ rfl).below h (by simp)
theorem zc3d {x z : World} (h : Below (x.alloc (.cells #[.slice none 0 0, .slice none 0 0, .slice none 0 0] 45)).drew.heap.size (x.alloc (.cells #[.slice none 0 0, .slice none 0 0, .slice none 0 0] 45)).drew z) : BoxN z x.heap.size 45 [.slice none 0 0, .slice none 0 0, .slice none 0 0] := (BoxN.new x _ _ _ rfl).drew.below h (by simp)
theorem b3n (w : World) (v0 v1 v2 : Value) (t n : Nat) (Z : w.heap.size = n) : BoxN (w.alloc (.cells #[v0, v1, v2] t)) n t [v0, v1, v2] := BoxN.new _ _ _ _ Z
theorem b3s {w : World} {b t : Nat} {v0 v1 v2 : Value} (h : BoxN w b t [.slice none 0 0, .slice none 0 0, .slice none 0 0]) : BoxN (((w.setCell ⟨b, 0, none⟩ v0).setCell ⟨b, 1, none⟩ v1).setCell ⟨b, 2, none⟩ v2) b t [v0, v1, v2] := ((h.set 0 v0).set 1 v1).set 2 v2
theorem os3 {w : World} {B e n b t : Nat} {v x0 x1 x2 : Value} {xs : List Value} (h : w.ownsRow B e 1 v n xs) (Z : e ≠ t) {l : List Value} (Y : BoxN w b t l) : (((w.setCell ⟨b, 0, none⟩ x0).setCell ⟨b, 1, none⟩ x1).setCell ⟨b, 2, none⟩ x2).ownsRow B e 1 v n xs :=
 World.ownsRow.kept h (gst (gst (gst (grl w _) 0 x0) 1 x1) 2 x2) (.inr (fun e' => obN h Y Z e'.symm))
theorem odw {w : World} {B e n : Nat} {v : Value} {xs : List Value} (h : w.ownsRow B e 1 v n xs) : w.drew.ownsRow B e 1 v n xs := WRA h (bdN w 1)
structure BoxC (z : World) (b : Nat) : Prop where
 c0 : z.cell? ⟨b, 0, none⟩ = some (.slice none 0 0)
 c1 : z.cell? ⟨b, 1, none⟩ = some (.slice none 0 0)
 c2 : z.cell? ⟨b, 2, none⟩ = some (.slice none 0 0)
 f0 : z.frozen? ⟨b, 0, none⟩ = false
 f1 : z.frozen? ⟨b, 1, none⟩ = false
 f2 : z.frozen? ⟨b, 2, none⟩ = false
 lt : b < z.heap.size
theorem BoxC.of {z : World} {b : Nat} (h : BoxN z b 45 [.slice none 0 0, .slice none 0 0, .slice none 0 0]) : BoxC z b := ⟨h.cell 0 rfl, h.cell 1 rfl, h.cell 2 rfl, h.frozen 0, h.frozen 1, h.frozen 2, h.lt⟩
theorem FlsD.lt {w : World} {B : Nat} {us : List Value} {S : List (List Rat)} (Y : us.length = S.length) (Z : ∀ (i : Nat) (u : Value) (F : List Rat), us[i]? = some u -> S[i]? = some F -> FldV w B u F) :
 ∀ (i : Nat) (u : Value) (b : Nat), us[i]? = some u -> u.ownBlock = some b -> b < w.heap.size := fun i u b hu hb => by
 have X := (List.getElem?_eq_some_iff.1 hu).1;exact ((Z i u S[i] hu (List.getElem?_eq_getElem (by omega))).lt b hb).2
theorem sv0 (w : World) (vb vu vs : Value) (B : List Rat) (U : List ByteArray) (S : List (List Rat)) (J : RdQ w vb B) (hu : RdS w vu U) (hs : RdF w vs S)
 (hB : B ≠ []) (hU : U ≠ []) (hS : ∀ F ∈ S, F ≠ []) (hl : B.length <= 1000000) (zs : U.length <= 1000000) (zq : S.length <= 1000) (hT : ∀ F ∈ S, F.length <= 1000000) :
 Calls Tryz.prog 44 #[.agg #[vb, vu, vs]] w (Ret (fun r w' => ∃ v1 v2 v3, r = .agg #[v1, v2, v3] /\ FldV w' w.heap.size v1 B /\ w'.ownsRow w.heap.size 9 1 v2 U.length (U.map fun x => Value.string x) /\ ∃ M, w.heap.size <= M /\ M <= w'.heap.size /\ (∀ b, v1.ownBlock = some b -> b < M) /\ FlsD 33 w' M v3 S) w) := by
 have z9 : Hid (∀ w', Below w.heap.size w w' -> Calls Tryz.prog 47 #[vb] w' (Ret (fun r w2 => FldV w2 w'.heap.size r B) w')) := fun w' h => cf0 w' vb B (RdC.below J h) hB hl;have za : Hid (∀ w', Below w.heap.size w w' -> Calls Tryz.prog 82 #[vu] w' (Ret (fun r w2 => w2.ownsRow w'.heap.size 9 1 r U.length (U.map fun x => Value.string x)) w')) := fun w' h => cl0 w' vu U (RdC.below hu h) hU zs;have zb : Hid (∀ i (hi : i < S.length) p c w', RdQ w' (.slice p S[i].length c) S[i] -> Calls Tryz.prog 47 #[.slice p S[i].length c] w' (Ret (fun r w2 => FldV w2 w'.heap.size r S[i]) w')) := fun i hi p c w' hr =>
  cf0 w' _ _ hr (hS _ (List.getElem_mem hi)) (hT _ (List.getElem_mem hi))
 have zg := hid hS;have zh := hid hs;obtain ⟨pb, cb, rfl, -, -, -⟩ := J.open;obtain ⟨pu, cu, rfl, -, -, -⟩ := hu.open;obtain ⟨ps, cs, rfl, zt, zu⟩ := hs.shape;unfold maxLen at zu;clear J hu hs hB hU hS hT;go_enter Tryz.func44, Tryz.ntmps44;go_upto_region 1 with fail;obtain ⟨Y, D⟩ := zex ((w.alloc (.cells #[.slice pb B.length cb, .slice pu U.length cu, .slice ps S.length cs] 45)).alloc (.cells #[.slice none 0 0, .slice none 0 0, .slice none 0 0] 45));have zK : w.heap.size + 2 <= Y.heap.size := by rw [D]; simp
 have h6 : Below w.heap.size w Y := by rw [D]; exact zal2 _ _ _
 have b2 : BoxN Y (w.heap.size + 1) 45 [.slice none 0 0, .slice none 0 0, .slice none 0 0] := by rw [D]; exact BoxN.new _ _ _ _ (by simp)
 have b1 : BoxN Y w.heap.size 45 [.slice pb B.length cb, .slice pu U.length cu, .slice ps S.length cs] := by
  rw [D];have h1 := (BoxN.new w #[.slice pb B.length cb, .slice pu U.length cu, .slice ps S.length cs] 45 _ rfl);exact h1.below (zal _ _) h1.lt
 rw [<- D];clear D;obtain ⟨x0, x1⟩ := zk2 b1;have hR := b1.lt;have HS : Hid (∀ w', Below Y.heap.size Y w' -> w'.cell? ⟨w.heap.size, 0, none⟩ = some (.slice pb B.length cb) /\ w'.cell? ⟨w.heap.size, 1, none⟩ = some (.slice pu U.length cu)) := fun w' J => ⟨(zcq J hR x0 :), (zcq J hR x1 :)⟩;have hH : Hid (∀ w', Below Y.heap.size Y w' -> _) := fun w' J => z9.out w' ((zbt h6 J));have hJ : Hid (∀ w', Below Y.heap.size Y w' -> _) := fun w' J => za.out w' ((zbt h6 J));have q0 : Below Y.heap.size Y Y.drew := bdN Y 1;clear x0 x1;go_cut [3] (fun s3 wx => ∃ N v1 v2, s3 = .pointer (some ⟨N, 0, none⟩) /\ Y.heap.size <= N /\ BoxN wx N 45 [v1, v2, .slice none 0 0] /\ wx.ownsRow Y.heap.size 55 1 v1 B.length (cFd B) /\ wx.ownsRow Y.heap.size 9 1 v2 U.length (U.map fun x => Value.string x) /\ Below Y.heap.size Y wx)
 case first =>
  go_region_held3 (fun w' => w'.cell? ⟨w.heap.size, 0, none⟩ = some (.slice pb B.length cb) /\ w'.cell? ⟨w.heap.size, 1, none⟩ = some (.slice pu U.length cu))
   ((refine HS.out _ ?_; repeat (first | with_reducible exact q2 | with_reducible exact q | with_reducible exact q0 | with_reducible exact Below.refl _ _ | with_reducible refine Below.drew ?_ | ((with_reducible refine Below.setCell ?_ ?_ _); rotate_left; (first | omega | (simp <;> omega))) | ((with_reducible refine Below.alloc ?_ ?_ _); rotate_left; (first | exact Nat.le_refl _ | omega | (simp <;> omega))))))
   (first
     | ((with_reducible refine Calls.mono (hJ.out _ ?_) ?_); (focus repeat (first | with_reducible exact q2 | with_reducible exact q | with_reducible exact q0 | with_reducible exact Below.refl _ _ | with_reducible refine Below.drew ?_ | ((with_reducible refine Below.setCell ?_ ?_ _); rotate_left; (first | omega | (simp <;> omega))) | ((with_reducible refine Below.alloc ?_ ?_ _); rotate_left; (first | exact Nat.le_refl _ | omega | (simp <;> omega)))))
        rintro e z2 ⟨v2, rfl, h2, hz⟩;have q2 : Below Y.heap.size Y z2 := (by refine Below.trans ?_ (hz.mono ?_); rotate_left; (first | exact Nat.le_refl _ | omega | (simp <;> omega)); repeat (first | with_reducible exact q | with_reducible exact q0 | with_reducible exact Below.refl _ _ | with_reducible refine Below.drew ?_ | ((with_reducible refine Below.alloc ?_ ?_ _); rotate_left; (first | exact Nat.le_refl _ | omega | (simp <;> omega)))));have zO := q2.size;have p2 : Below z1.heap.size z1 z2 := (by refine Below.trans ?_ (hz.mono ?_); rotate_left; (first | exact Nat.le_refl _ | omega | (simp <;> omega)); repeat (first | with_reducible exact Below.refl _ _ | with_reducible refine Below.drew ?_ | ((with_reducible refine Below.alloc ?_ ?_ _); rotate_left; (first | exact Nat.le_refl _ | omega | (simp <;> omega)))));have H := hid (oRb h2 (b' := Y.heap.size) (by first | omega | (simp <;> omega)));have hD := hid (WRA Q.out p2);clear h2;obtain ⟨p8, c8, rfl⟩ := oRs H.out
        (first | (have H8 := hid (E8.out.below p2 E8.out.lt)) | skip)
        (first | (have D8 := hid (zc3 hz)) | skip)
        (first | (have z7 := BoxC.of H8.out; obtain ⟨u1, u2, u3, u4, u5, u6, u7⟩ := z7) | skip)
        (first | (have z6 := BoxC.of D8.out; obtain ⟨zP, zQ, zS, zT, zU, zV, zW⟩ := z6) | skip))
     | ((with_reducible refine Calls.mono (hH.out _ ?_) ?_); (focus repeat (first | with_reducible exact q0 | with_reducible exact Below.refl _ _ | with_reducible refine Below.drew ?_ | ((with_reducible refine Below.alloc ?_ ?_ _); rotate_left; (first | exact Nat.le_refl _ | omega | (simp <;> omega)))))
        rintro e z1 ⟨v1, rfl, d, X⟩;have q : Below Y.heap.size Y z1 := (by refine Below.trans ?_ (X.mono ?_); rotate_left; (first | exact Nat.le_refl _ | omega | (simp <;> omega)); repeat (first | with_reducible exact q0 | with_reducible exact Below.refl _ _ | with_reducible refine Below.drew ?_ | ((with_reducible refine Below.alloc ?_ ?_ _); rotate_left; (first | exact Nat.le_refl _ | omega | (simp <;> omega)))));have sz1 := q.size;have Q := hid (oRb d (b' := Y.heap.size) (by first | omega | (simp <;> omega)));clear d;obtain ⟨p7, c7, rfl⟩ := oRs Q.out
        (first | (have E8 := hid (zc3d X)) | skip)))
  all_goals
   go_wp2_with fail;go_meet;refine ⟨_, .slice p7 B.length c7, .slice p8 U.length c8, rfl, ?_, ?_, ?_, ?_, ?_⟩
   ·first | exact Nat.le_refl _ | omega | (simp; omega) | (simp)
   ·repeat (first | with_reducible exact H8.out | with_reducible exact D8.out | with_reducible refine BoxN.drew ?_ | with_reducible refine b3s ?_ | ((with_reducible refine b3n _ _ _ _ _ _ ?_); (first | rfl | (simp <;> omega))) | with_reducible refine BoxN.alloc ?_ _)
   ·repeat (first | with_reducible exact hD.out | with_reducible exact H8.out | with_reducible exact D8.out | with_reducible refine odw ?_ | with_reducible refine World.ownsRow.alloc ?_ _ | ((with_reducible refine os3 (t := 45) (l := [.slice none 0 0, .slice none 0 0, .slice none 0 0]) ?_ (by decide) ?_)) | with_reducible refine BoxN.drew ?_ | ((with_reducible refine b3n _ _ _ _ _ _ ?_); (first | rfl | (simp <;> omega))) | with_reducible refine BoxN.alloc ?_ _)
   ·repeat (first | with_reducible exact H.out | with_reducible exact H8.out | with_reducible exact D8.out | with_reducible refine odw ?_ | with_reducible refine World.ownsRow.alloc ?_ _ | ((with_reducible refine os3 (t := 45) (l := [.slice none 0 0, .slice none 0 0, .slice none 0 0]) ?_ (by decide) ?_)) | with_reducible refine BoxN.drew ?_ | ((with_reducible refine b3n _ _ _ _ _ _ ?_); (first | rfl | (simp <;> omega))) | with_reducible refine BoxN.alloc ?_ _)
   ·repeat (first | with_reducible exact q2 | with_reducible exact q | with_reducible exact q0 | with_reducible exact Below.refl _ _ | with_reducible refine Below.drew ?_ | ((with_reducible refine Below.setCell ?_ ?_ _); rotate_left; (first | omega | (simp <;> omega))) | ((with_reducible refine Below.alloc ?_ ?_ _); rotate_left; (first | exact Nat.le_refl _ | omega | (simp <;> omega))))
 case rest =>
 obtain ⟨N, v1, v2, rfl, h3, B3, Q, H, R⟩ := hcut;obtain ⟨W1, zo⟩ : ∃ x, x = wc := ⟨_, rfl⟩;subst zo;have zF : Below w.heap.size w W1 := zbt h6 R;have hL := b1.bl R;have zD := b2.bl R;have d2 := hL.cell 2 rfl;have zM : N ≠ w.heap.size := by omega
 have zN : N ≠ w.heap.size + 1 := by omega
 obtain ⟨n, hn⟩ := zex (S.length);have HN := hid hn;rw [<- hn] at d2 hL zt zq;obtain ⟨i0, hi, hY, hZ, z3⟩ := info_parts iFd;have zC : w.heap.size + 2 <= W1.heap.size := by have := R.size; omega
 have hF := hid b2;clear b1 b2 hn HS hH hJ q0;have zB := R.size;go_wp2_with fail;go_loopw [16] (fun t16 wr => ∃ (i : Nat) (v3 : Value), t16 = .int .i64 i /\ i <= n /\ BoxN wr N 45 [v1, v2, v3] /\ FlsD 33 wr W1.heap.size v3 (S.take i) /\ W1.heap.size <= wr.heap.size /\ wr.ownsRow Y.heap.size 55 1 v1 B.length (cFd B) /\ wr.ownsRow Y.heap.size 9 1 v2 U.length (U.map fun x => Value.string x) /\ Below Y.heap.size Y wr) (fun t16 _ => n - (RowKit.intOf t16).toNat)
 case atStart => exact ⟨0, _, rfl, Nat.zero_le _, B3, by rw [List.take_zero]; exact FlsD.nil _ _ _, Nat.le_refl _, Q, H, R⟩
 case round =>
  obtain ⟨i, v3, rfl, zH, C3, g, m, o1, o2, h7⟩ := hrel;have hm : Below w.heap.size w wr := zbt h6 h7;rcases Nat.lt_or_ge i n with zr | zr
  ·have h9 : i < S.length := by have := HN.out; omega
   obtain ⟨bs, os, zE, zv, zp, I⟩ := zh.out.cells (by omega);injection zv with hw hx hy
   clear hx;subst hw hy;obtain ⟨pg, cg, hQ, hV⟩ := I i h9;have x0 := zcq hm zp hQ;have zc : Hid (∀ w', Below wr.heap.size wr w' -> _) := fun w' J => zb.out i h9 pg cg w' (RdC.below hV ((zbt hm J)));have zi : Hid (S.take (i + 1) = S.take i ++ [S[i]]) := List.take_succ_eq_append_getElem h9;have zd := hid (zg.out S[i] (List.getElem_mem h9));have hp : (S.take i).length = i := by rw [List.length_take]; omega
   generalize S[i] = F at *;have ze := hid g;obtain ⟨us, h0, hv, ht, hX⟩ := g;rw [hp] at hv;obtain ⟨z, C, rfl⟩ := oRs hv;have zI : (i : Int) < (n : Int) := by omega
   have zf := hid (FlsD.lt h0 ht);have zk := hid ht;have zj := hid hX;have H0 := hid h0;have hG := hid hp;have e2 := C3.cell 2 rfl;have f2 := C3.frozen 2;have zL := h7.size;have zJ := C3.lt;clear I hV hQ ht hX h0 hp ze;go_upto_region 5 with fail;have g0 : Below wr.heap.size wr wr.drew := bdN wr 1;have z4 : wr.drew.ownsRow W1.heap.size 33 1 (.slice z i C) i us := odw hv;have hg : BoxN wr.drew N 45 [v1, v2, .slice z i C] := C3.drew;have z0 : wr.heap.size <= wr.drew.heap.size := Nat.le_refl _;have hM := hg.cell 2 rfl;refine AnyL.region (S := Till 7 (fun w' => wr.heap.size <= w'.heap.size) (fun w' => w'.cell? ⟨N, 2, none⟩ = some (.slice z i C))) (by kernel_rfl) ?_;have Z : Till 7 (fun w' => wr.heap.size <= w'.heap.size) (fun w' => w'.cell? ⟨N, 2, none⟩ = some (.slice z i C)) (Array.replicate 8 false) _ := ⟨z0, fun _ => hM⟩;refine zlk 0 Z ?_;try simp only [Act.put]
   refine AnyL.take2 (i := 1) (oi := _) (v := ?_) rfl (by kernel_rfl) (by kernel_rfl) (by kernel_rfl) (by decide) (ok := _) rfl (by kernel_rfl) (by kernel_rfl) (fun _ _ _ h => h) (Or.inl ⟨by rfl, ?_⟩) ⟨Z.1, fun _ => Z.2 (by rfl)⟩ ?_;rotate_left
   ·intro w zn; (try dsimp only at zn); first | (go_simp; done) | (go_simp; with_reducible rfl)
   try simp only [Act.put]
   refine zlk 2 Z ?_;try simp only [Act.put]
   refine AnyL.one (i := 3) (o := _) (by kernel_rfl) rfl (fun K hK => ?_);go_simp
   (refine (zc.out _ g0).mono ?_; rintro e y1 ⟨vF, rfl, ho, X⟩; obtain ⟨y, A, rfl⟩ := FldV.shape ho; have g1 := zbt g0 X; have ha := WRA z4 X; have h4 := hg.bl X; have hh := h4.cell 2 rfl)
   refine hK.out _ _ ⟨g1.size, fun hk => hh⟩ (fun Z => ?_);clear hK K;try simp only [Act.put]
   refine AnyL.one (i := 4) (o := _) (by kernel_rfl) rfl (fun K hK => ?_);go_simp;refine hK.out _ _ ⟨(Nat.le_trans g1.size (by simp)), fun hk => (cal _ hh)⟩ (fun Z => ?_);clear hK K;try simp only [Act.put]
   refine AnyL.one (i := 5) (o := _) (by kernel_rfl) rfl (fun K hK => ?_)
   (rw [if_pos (by simp [Region.wanted])]; refine wp_append_own _ (.tmp 21) (.tmp 24) 43 (by rfl) W1.heap.size 33 i0 (.slice none 0 0) 1 24 Tryz.underlying43 hi hY hZ z3 rfl (by decide) _ _ _ (by simp [Act.eval]) (ha.alloc _) ⟨y1.heap.size, 0, none⟩ 1 1 [.slice y F.length A] (by simp [Act.eval]) rfl (cell_one_new _ _ _) (by intro u hu; simp at hu; subst hu; rfl) (by unfold maxLen; omega) (by omega) (by have := g1.size; simp; omega) ?_; intro v8 w8 hE L _; have O := (h4.alloc (.cells #[.slice y F.length A] 33)).gb L (fun e => obN (ha.alloc _) (h4.alloc (.cells #[.slice y F.length A] 33)) (by decide) e.symm); have z8 : wr.heap.size <= w8.heap.size := Nat.le_trans g1.size (Nat.le_trans (by simp) L.size); obtain ⟨p8, c8, rfl⟩ := oRs hE; have hN := O.cell 2 rfl; have zl := O.frozen 2)
   refine hK.out _ _ ⟨z8, fun hk => hN⟩ (fun Z => ?_);clear hK K;try simp only [Act.put]
   refine zlk 6 Z ?_;try simp only [Act.put]
   refine AnyL.one (i := 7) (o := _) (by kernel_rfl) rfl (fun K hK => ?_);go_simp;refine hK.out _ _ ⟨(Nat.le_trans z8 (by simp)), fun hk => (by simp at hk)⟩ (fun Z => ?_);clear hK K;try simp only [Act.put]
   refine AnyL.done (by kernel_rfl) ?_ _;have h5 : Below Y.heap.size Y y1 := zbt h7 g1;have f := ha.alloc (.cells #[.slice y F.length A] 33);have hc : FldV (y1.alloc (.cells #[.slice y F.length A] 33)) wr.heap.size (.slice y F.length A) F := (World.ownsRow.alloc ho _);have hW := FlsD.snoc (E := 33) (M := wr.heap.size) (us := us) (u := .slice y F.length A) (v := .slice z i C) (S := S.take i) (by decide) H0.out (by rw [hG.out]; exact f) (fun k u G a b => World.ownsRow.alloc (WRA (WRA (zk.out k u G a b) g0) X) _) zj.out zf.out L (by rw [hG.out]; exact hE) hc zd.out m;have h8 : w8.grownBy (w8.setCell ⟨N, 2, none⟩ (.slice p8 (i + 1) c8)) (some N) := gst (grl w8 _) 2 _;have hO : ∀ (x : Value) (e s n : Nat) (xs : List Value), (e = 33 \/ e = 55) -> w8.ownsRow W1.heap.size e s x n xs -> x.ownBlock = none \/ x.ownBlock ≠ some N := fun x e s n xs he h => .inr (fun e' => obN h O (by rcases he with rfl | rfl <;> decide) e'.symm)
   have hA := World.ownsRow.kept ((WRA (odw o1) X).alloc (.cells #[.slice y F.length A] 33)) L (oat ((WRA (odw o1) X).alloc (.cells #[.slice y F.length A] 33)) f (by decide));have hC := World.ownsRow.kept ((WRA (odw o2) X).alloc (.cells #[.slice y F.length A] 33)) L (oat ((WRA (odw o2) X).alloc (.cells #[.slice y F.length A] 33)) f (by decide));have zw := World.ownsRow.kept hA h8 (.inr (fun e' => obN hA O (by decide) e'.symm));have zx := World.ownsRow.kept hC h8 (.inr (fun e' => obN hC O (by decide) e'.symm));have hf := hW.kept h8 hO;have hd := (h5.alloc h5.size (.cells #[.slice y F.length A] 33)).grown L (by have := h5.size; simp; omega) (fun j hj => Nat.le_trans R.size (f.lt j hj).1);have hP : Below Y.heap.size Y (w8.setCell ⟨N, 2, none⟩ (.slice p8 (i + 1) c8)) := hd.setCell (p := ⟨N, 2, none⟩) h3 _;have z5 := O.set 2 (.slice p8 (i + 1) c8);rw [<- zi.out] at hf;clear hW h8 hO hA hC f hc h5 hE L O hN zl hd ha h4 hh ho X g1 z4 hg hM;go_wp2_with fail;go_roundw
   case rel => exact ⟨i + 1, _, by go_num, by omega, z5, hf, (by have h1 := Nat.le_trans m z8; simpa using h1), zw, zx, hP⟩
   case measure => simp [RowKit.intOf]; omega
  ·obtain rfl : i = n := by omega
   have zG : ¬ (i : Int) < (i : Int) := by omega
   rw [List.take_of_length_le (by have := HN.out; omega)] at g;obtain ⟨z, C, hy⟩ := g.v.shape;obtain ⟨q, k1, hw⟩ := oRs o1;obtain ⟨q2, k2, hx⟩ := oRs o2;subst hw hx hy;have V := hF.out.below h7 hF.out.lt;obtain ⟨e0, e1, e2⟩ := zk3 C3;obtain ⟨g0, g1, g2⟩ := zk3 V;have f0 := V.frozen 0;have f1 := V.frozen 1;have f2 := V.frozen 2;go_wp2_with fail;have k := b3s V (v0 := .slice q B.length k1) (v1 := .slice q2 U.length k2) (v2 := .slice z S.length C);have hq : w.heap.size <= w.heap.size + 1 := by omega
   have zm := ((hm.setCell (p := ⟨w.heap.size + 1, 0, none⟩) hq (.slice q B.length k1)).setCell (p := ⟨w.heap.size + 1, 1, none⟩) hq (.slice q2 U.length k2)).setCell (p := ⟨w.heap.size + 1, 2, none⟩) hq (.slice z S.length C);have zy := os3 o1 (by decide) V (x0 := .slice q B.length k1) (x1 := .slice q2 U.length k2) (x2 := .slice z S.length C);have zz := os3 o2 (by decide) V (x0 := .slice q B.length k1) (x1 := .slice q2 U.length k2) (x2 := .slice z S.length C);have zA := g.kept (gst (gst (gst (grl wr (some (w.heap.size + 1))) 0 (.slice q B.length k1)) 1 (.slice q2 U.length k2)) 2 (.slice z S.length C)) (fun x e s n xs he h => .inr (fun e' => obN h V (by rcases he with rfl | rfl <;> decide) e'.symm));obtain ⟨t0, t1, t2⟩ := zk3 k;refine bodyPost_ret (v := .agg #[.slice q B.length k1, .slice q2 U.length k2, .slice z S.length C]) (by simp [results, Tryz.results44, go_sem, t0, t1, t2]) rfl ⟨_, rfl, ⟨_, _, _, rfl, ?_, ?_, W1.heap.size, ?_, ?_, ?_, ?_⟩, zm⟩
   ·exact oRb (b' := w.heap.size) zy (by omega)
   ·exact oRb (b' := w.heap.size) zz (by omega)
   ·have := R.size; omega
   ·simpa using m
   ·intro b J; exact (Q.lt b J).2
   ·exact zA
open Go.Shelf
theorem BoxN.setCells {b t : Nat} : ∀ (Z : List Value) (o : Nat) {w : World} {l : List Value}, BoxN w b t l -> o + Z.length <= l.length -> BoxN (w.setCells b o Z) b t (l.take o ++ Z ++ l.drop (o + Z.length))
 | [], o, w, l, h, _ => by simpa [World.setCells] using h
 | v :: r, o, w, l, h, hl => by
   have U : o + (r.length + 1) <= l.length := hl;have Y := BoxN.setCells r (o + 1) (h.set o v) (by rw [List.length_set]; omega);rw [World.setCells];have e : (l.set o v).take (o + 1) ++ r ++ (l.set o v).drop (o + 1 + r.length) = l.take o ++ (v :: r) ++ l.drop (o + (v :: r).length) := by
    have X : (l.set o v).take (o + 1) = l.take o ++ [v] := by
     rw [List.take_succ_eq_append_getElem (by rw [List.length_set]; omega), List.getElem_set_self];congr 1;rw [List.take_set_of_le (Nat.le_refl _)]
    have V : (l.set o v).drop (o + 1 + r.length) = l.drop (o + (v :: r).length) := by
     rw [List.drop_set_of_lt (by omega)];congr 1;simp; omega
    rw [X, V];simp
   rw [e] at Y;exact Y
theorem gsC {W : World} {g : Nat} : ∀ (Z : List Value) (o : Nat) {w : World}, W.grownBy w (some g) -> W.grownBy (w.setCells g o Z) (some g)
 | [], _, _, h => h
 | v :: r, o, _, h => gsC r (o + 1) (gst h o v)
theorem gdw {W w : World} {M : Option Nat} (h : W.grownBy w M) : W.grownBy w.drew M := ⟨h.os, h.tape, h.output, h.size, h.block⟩
theorem oob {w : World} {B g e n c : Nat} {l : List Value} {cs : List Value} (h : BoxN w g e l) (Y : B <= g) (S : n <= c) (U : c <= maxLen) (V : l.length = c) (Z : l.take n = cs) : w.ownsRow B e 1 (.slice (some ⟨g, 0, none⟩) n c) n cs := by
 have X : cs.length = n := by rw [<- Z, List.length_take]; omega
 exact ⟨by omega, .inr ⟨g, c, l.toArray, rfl, Y, h, S, U, by simpa using V, by simpa using Z⟩⟩
theorem boo {w : World} {B e n : Nat} {v : Value} {cs : List Value} (h : w.ownsRow B e 1 v n cs) (M : 0 < n) : ∃ g c l, v = .slice (some ⟨g, 0, none⟩) n c /\ B <= g /\ BoxN w g e l /\ n <= c /\ c <= maxLen /\ l.length = c /\ l.take n = cs := by
 obtain ⟨N, U⟩ := h;rcases U with ⟨rfl, O⟩ | ⟨g, cap, Z, rfl, S, R, V, Y, X, Q⟩
 ·omega
 ·exact ⟨g, cap, Z.toList, rfl, S, by unfold BoxN; simpa using R, V, Y, by simpa using X, by simpa using Q⟩
theorem ie0 {l cs : List Value} {x : Value} {n i : Nat} (X : l.take n = cs) (O : i < n) (N : n + 1 <= l.length) :
 let Z := l.take (i + 1) ++ cs.drop i ++ l.drop (i + 1 + (cs.drop i).length)
 Z.length = l.length /\ (Z.take i ++ [x] ++ Z.drop (i + 1)).take (n + 1) = cs.take i ++ x :: cs.drop i := by
 have Y : cs.length = n := by rw [<- X, List.length_take]; omega
 have Q : (cs.drop i).length = n - i := by rw [List.length_drop, Y]
 intro Z;have R : Z.length = l.length := by
  simp only [Z, List.length_append, List.length_take, Q, List.length_drop]; omega
 refine ⟨R, ?_⟩;have V : Z.take i = cs.take i := by
  simp only [Z];rw [List.append_assoc, List.take_append_of_le_length (by rw [List.length_take]; omega), List.take_take, <- X, List.take_take];congr 1;omega
 have U : (Z.drop (i + 1)).take (n - i) = cs.drop i := by
  simp only [Z];rw [List.append_assoc, List.drop_append_of_le_length (by rw [List.length_take]; omega), List.drop_of_length_le (by rw [List.length_take]; omega), List.nil_append, List.take_append_of_le_length (by omega), List.take_of_length_le (by omega)]
 have S : (cs.take i).length = i := by rw [List.length_take]; omega
 rw [V, List.append_assoc, List.take_append, S, List.take_of_length_le (by omega), List.singleton_append];congr 1;rw [show n + 1 - i = (n - i) + 1 by omega, List.take_succ_cons, U]
theorem igw {l0 cs : List Value} {x : Value} {n i : Nat} (Y : cs.length = n) (R : l0.take i = cs.take i) (Q : i < n) (O : n + 1 <= l0.length) :
 let Z := l0.take i ++ [x] ++ l0.drop (i + 1)
 Z.length = l0.length /\ (Z.take (i + 1) ++ cs.drop i ++ Z.drop (i + 1 + (cs.drop i).length)).length = l0.length /\ (Z.take (i + 1) ++ cs.drop i ++ Z.drop (i + 1 + (cs.drop i).length)).take (n + 1) = cs.take i ++ x :: cs.drop i := by
 have U : (cs.drop i).length = n - i := by rw [List.length_drop, Y]
 intro Z;have V : Z.length = l0.length := by
  simp only [Z, List.length_append, List.length_take, List.length_drop, List.length_singleton]; omega
 refine ⟨V, by simp only [List.length_append, List.length_take, List.length_drop, V]; omega, ?_⟩;have X : (cs.take i).length = i := by rw [List.length_take]; omega
 have S : Z.take (i + 1) = cs.take i ++ [x] := by
  simp only [Z];rw [R, List.take_append_of_le_length (by simp; omega), List.take_of_length_le (by simp; omega)]
 rw [S, List.take_append_of_le_length (by simp only [List.length_append, X, U, List.length_singleton]; omega), List.take_of_length_le (by simp only [List.length_append, X, U, List.length_singleton]; omega)];simp
theorem iSs (b n c i X : Nat) (cs : List Value) (x : Value) (w : World) (hi : i < n) (C : n + 1 <= c) (r : c <= 9223372036854775807) (O : X ≠ b)
 (K : cs.length = n) (J : ∀ j v, cs[j]? = some v -> w.cell? ⟨b, 0 + j, none⟩ = some v) (U : ∀ j, j < n + 1 -> (w.cell? ⟨b, 0 + j, none⟩).isSome = true) (S : ∀ j, j < n + 1 -> w.frozen? ⟨b, 0 + j, none⟩ = false)
 (z : ∀ j v, [x][j]? = some v -> w.cell? ⟨X, 0 + j, none⟩ = some v) (M : ∀ v ∈ cs, v.oneCell' = true) (L : ∀ v ∈ [x], v.oneCell' = true)
 (q p : TypeId) (y t : Nat) (B : w.shape? X = some (q, y)) (A : w.shape? b = some (p, t)) (E : t ≠ 0) (H : w.frozen? ⟨X, 0, none⟩ = false) (G : w.frozen? ⟨X, y, none⟩ = false) :
 Calls Tryz.prog 45 #[.slice (some ⟨b, 0, none⟩) n c, .int .i64 i, .slice (some ⟨X, 0, none⟩) 1 1] w fun e w' =>
  e = .returned (.slice (some ⟨b, 0, none⟩) (n + 1) c) /\ w' = (w.drew.setCells b (0 + (i + 1)) (cs.drop i)).setCells b (0 + i) [x] := by
 have s : (Tryz.prog).follows .mixedOrders = true := by kernel_rfl
 have h0 : ¬ ((i : Int) = (n : Int)) := by omega
 have Q : ((Tryz.prog).info? 9).map (·.size) = some 1 := by kernel_rfl
 have D : ∀ lb cb, (callFunc 83 #[.slice (some ⟨X, 0, none⟩) 1 1, .slice (some ⟨b, i + 1, none⟩) lb cb]).run Tryz.prog w = .ok (.value (.bool false)) w := fun lb cb => by
  rw [run_callFunc_extern Tryz.func83 (by kernel_rfl) (by kernel_rfl) (by kernel_rfl) (e := Extern.SlicesOverlaps.overlaps #[42, 42] #[4]) (by kernel_rfl),
   Lib.run_overlaps_apart w 42 4 9 Tryz.underlying42 1 Tryz.sizeOf9 ⟨X, 0, none⟩ ⟨b, i + 1, none⟩ 1 1 lb cb O q p y t B A E H G]
  rfl
 have I : (cs.drop i).length = n - i := by rw [List.length_drop, K]
 have a : IntKind.i64.wrap ((i : Int) + 1) = (i : Int) + 1 := by rw [IntKind.wrap_i64]; omega
 have o : (0 : Int) <= (i : Int) + 1 := by omega
 have f : i <= n := by omega
 have d : ((i : Int) + 1).toNat = i + 1 := by omega
 have m : ¬ (c = i + 1) := by omega
 have l : (i : Int) <= (n : Int) + 1 := by omega
 have g : ¬ (c = i) := by omega
 have Y : ∀ ty dc sc, (Builtin.copy_ #[42, 42] ty #[.slice (some ⟨b, 0 + (i + 1), none⟩) (n + 1 - (i + 1)) dc, .slice (some ⟨b, 0 + i, none⟩) (n + 1 - i) sc]).run Tryz.prog w.drew = .ok (goInt (cs.drop i).length) (w.drew.setCells b (0 + (i + 1)) (cs.drop i)) := fun ty dc sc =>
  run_copy_cells w.drew _ _ ty 9 b (0 + (i + 1)) (n + 1 - (i + 1)) dc ⟨b, 0 + i, none⟩ (n + 1 - i) sc (cs.drop i) Tryz.underlying42 Q (by rw [I]; simp only [Nat.min_def]; split <;> omega)
   (fun j v hj => by rw [Addr.add_lit, Nat.add_assoc]; exact J (i + j) v (by rwa [List.getElem?_drop] at hj))
   (fun j hj => by rw [Nat.add_assoc]; exact U _ (by omega)) (fun j hj => by rw [Nat.add_assoc]; exact S _ (by omega)) (fun v hv => M v (List.mem_of_mem_drop hv))
 obtain ⟨N, Z⟩ := zex (w.drew.setCells b (0 + (i + 1)) (cs.drop i));have R : ∀ k, k < n + 1 -> (N.cell? ⟨b, 0 + k, none⟩).isSome = true := fun k hk => by
  rw [Z];exact Go.Proofs.isSome_setCells b _ _ _ (fun j hj => by rw [Nat.add_assoc]; exact U _ (by omega)) _ (U k hk)
 have V : ∀ (W : World), (∀ x, W.cell? x = N.cell? x) -> (∀ x, W.frozen? x = N.frozen? x) -> ∀ ty dc, (Builtin.copy_ #[42, 42] ty #[.slice (some ⟨b, 0 + i, none⟩) (n + 1 - i) dc, .slice (some ⟨X, 0, none⟩) 1 1]).run Tryz.prog W = .ok (goInt [x].length) (W.setCells b (0 + i) [x]) := fun W hWc hWf ty dc =>
  run_copy_cells W _ _ ty 9 b (0 + i) (n + 1 - i) dc ⟨X, 0, none⟩ 1 1 [x] Tryz.underlying42 Q (by simp only [Nat.min_def, List.length_singleton]; split <;> omega)
   (fun j v hj => by
     rw [Addr.add_lit, hWc, Z, World.cell?_setCells_out b _ _ _ _ (fun h _ => absurd h O)];exact z j v hj)
   (fun j hj => by rw [hWc, Nat.add_assoc]; exact R _ (by simp at hj; omega)) (fun j hj => by rw [hWf, Z, World.frozen?_setCells, Nat.add_assoc]; exact S _ (by simp at hj; omega)) L
 rw [<- Z] at Y;simp only [Nat.zero_add] at Y V;go_enter Tryz.func45, Tryz.ntmps45;go_wp2_with (simp only [D])
 go_region_law_o (refine step_copy_runI rfl _ _ 42 42 rfl (.slice (some ⟨b, i + 1, none⟩) (n + 1 - (i + 1)) (c - (i + 1))) (.slice (some ⟨b, i, none⟩) (n + 1 - i) (c - i)) (by simp [Act.eval, Act.put]) (by simp [Act.eval, Act.put]) (Y _ _ _) ?_)
 go_wp2_with (at_builtin; refine wpList_copy_runI _ rfl _ _ 42 42 rfl _ _ rfl rfl (V _ (fun _ => rfl) (fun _ => rfl) _ _) ?_);go_ret;refine ⟨rfl, ?_⟩;first | simp only [Nat.zero_add] | (rw [Z]; simp only [Nat.zero_add])
theorem ik0 (b n i Q : Nat) (cs : List Value) (x : Value) (w : World) (hi : i < n) (h3 : n <= 1000000)
 (f : cs.length = n) (O : ∀ j v, cs[j]? = some v -> w.cell? ⟨b, 0 + j, none⟩ = some v)
 (H : ∀ j v, [x][j]? = some v -> w.cell? ⟨Q, 0 + j, none⟩ = some v) (B : ∀ v ∈ cs, v.oneCell' = true) (A : ∀ v ∈ [x], v.oneCell' = true) :
 Calls Tryz.prog 45 #[.slice (some ⟨b, 0, none⟩) n n, .int .i64 i, .slice (some ⟨Q, 0, none⟩) 1 1] w fun e w' =>
  e = .returned (.slice (some ⟨w.heap.size, 0, none⟩) (n + 1) (grownCap w (n + 1) n 9)) /\
  w' = (((w.alloc (.cells ((cs.take i).toArray ++ Builtin.zeroCells (Value.string ⟨#[]⟩).cells (n + 1 - i) ++ Builtin.zeroCells (Value.string ⟨#[]⟩).cells (grownCap w (n + 1) n 9 - (n + 1))) 9)).drew.setCells w.heap.size i [x]).drew).setCells w.heap.size (i + 1) (cs.drop i) := by
 obtain ⟨i0, K, a, D, E⟩ := info_parts (show ((Tryz.prog).info? 9).map (fun i => (i.zero, i.size, i.bytes)) = some (some (Value.string ⟨#[]⟩), 1, 16) by kernel_rfl);have h0 : (Tryz.prog).follows .mixedOrders = true := by kernel_rfl
 have hc : ¬ ((i : Int) = (n : Int)) := by omega
 have hd : (n : Int) < (n : Int) + 1 := by omega
 have I : ((Tryz.prog).info? 9).map (·.size) = some 1 := by rw [K]; simp [D]
 have g : b < w.heap.size := block_lt_of_cell (O 0 _ (List.getElem?_eq_getElem (by omega)));have c : Q < w.heap.size := block_lt_of_cell (H 0 _ (List.getElem?_eq_getElem (by simp)));have J : (n : Int) + 1 - (i : Int) = ((n + 1 - i : Nat) : Int) := by omega
 have N : i + (n + 1 - i) = n + 1 := by omega
 have R : (Builtin.firstCells i0.size i (.slice (some ⟨b, 0, none⟩) i n)).run Tryz.prog w.drew = .ok (cs.take i).toArray w.drew := by
  rw [D];exact run_firstCells_some w.drew 1 i ⟨b, 0, none⟩ i n (cs.take i) (by rw [List.length_take]; omega) (fun j v hj => by
   rw [Addr.add_lit];rw [List.getElem?_take] at hj;split at hj
   ·exact O j v hj
   ·cases hj)
 have V : ∀ ty, (Builtin.append_ #[42, 3] ty #[.slice (some ⟨b, 0, none⟩) i n, .int .i64 ((n : Int) + 1 - (i : Int))]).run Tryz.prog w =
  .ok (.slice (some ⟨w.heap.size, 0, none⟩) (n + 1) (grownCap w (n + 1) n 9)) (w.drew.alloc (.cells ((cs.take i).toArray ++ Builtin.zeroCells (Value.string ⟨#[]⟩).cells (n + 1 - i) ++ Builtin.zeroCells (Value.string ⟨#[]⟩).cells (grownCap w (n + 1) n 9 - (n + 1))) 9)) := fun ty => by
  have h := Lib.run_append_grow_zeros w 42 3 ty 9 i0 _ .i64 .i64 Tryz.underlying42 Tryz.underlying3 K a (some ⟨b, 0, none⟩) i n (cs.take i) R (n + 1 - i) (by omega) (by omega) (by omega) (by omega) (by rw [E]; omega) (by rw [E, N]; exact growslice_fits (by omega) (by omega));rw [N] at h;rw [J];exact h
 obtain ⟨G, C⟩ := zex (grownCap w (n + 1) n 9);obtain ⟨Z, X⟩ := zex ((cs.take i).toArray ++ Builtin.zeroCells (Value.string ⟨#[]⟩).cells (n + 1 - i) ++ Builtin.zeroCells (Value.string ⟨#[]⟩).cells (G - (n + 1)) : Array Value);rw [<- C] at V ⊢;rw [<- X] at V ⊢;have l : n + 1 <= Z.size := by
  rw [X];simp [Builtin.zeroCells, Value.cells];omega
 obtain ⟨U, Y⟩ := zex (w.drew.alloc (.cells Z 9));rw [<- Y] at V;have p : ∀ j, j < n + 1 -> (U.cell? ⟨w.heap.size, j, none⟩).isSome = true := fun j hj => by
  rw [Y, World.cell?_alloc_at (w := w.drew) Z _ w.heap.size j rfl, Array.getElem?_eq_getElem (by omega)]; rfl
 have M : ∀ j, U.frozen? ⟨w.heap.size, j, none⟩ = false := fun j => by rw [Y]; exact World.frozen?_alloc_at (w := w.drew) Z _ w.heap.size j rfl
 have o : ∀ j v, w.cell? ⟨b, j, none⟩ = some v -> U.cell? ⟨b, j, none⟩ = some v := fun j v h => by rw [Y, World.cell?_alloc_past (w := w.drew) _ b j g]; exact h
 have m : ∀ j v, w.cell? ⟨Q, j, none⟩ = some v -> U.cell? ⟨Q, j, none⟩ = some v := fun j v h => by rw [Y, World.cell?_alloc_past (w := w.drew) _ Q j c]; exact h
 have L : ∀ (W : World), (∀ x, W.cell? x = U.cell? x) -> (∀ x, W.frozen? x = U.frozen? x) -> ∀ ty dc, (Builtin.copy_ #[42, 42] ty #[.slice (some ⟨w.heap.size, i, none⟩) (n + 1 - i) dc, .slice (some ⟨Q, 0, none⟩) 1 1]).run Tryz.prog W = .ok (goInt [x].length) (W.setCells w.heap.size i [x]) := fun W hWc hWf ty dc =>
  run_copy_cells W _ _ ty 9 w.heap.size i (n + 1 - i) dc ⟨Q, 0, none⟩ 1 1 [x] Tryz.underlying42 I (by simp only [Nat.min_def, List.length_singleton]; split <;> omega)
   (fun j v hj => by rw [Addr.add_lit, hWc]; exact m _ v (H j v hj))
   (fun j hj => by rw [hWc]; exact p _ (by simp at hj; omega)) (fun j hj => by rw [hWf]; exact M _) A
 have h5 : n + 1 <= G := by rw [C]; exact grownCap_ge w _ _ _
 have h1 : G <= 9223372036854775807 := by
  have := grownCap_le_maxLen w (n + 1) n 9 (by unfold maxLen; omega);rw [<- C] at this;unfold maxLen at this;omega
 have h4 : ¬ (G = i) := by omega
 have h2 : ¬ (G = i + 1) := by omega
 have h8 : ¬ (n = i) := by omega
 have k : b ≠ w.heap.size := by omega
 have d : (cs.drop i).length = n - i := by rw [List.length_drop, f]
 have S : ∀ (W : World), (∀ y, W.cell? y = (U.setCells w.heap.size i [x]).cell? y) -> (∀ y, W.frozen? y = (U.setCells w.heap.size i [x]).frozen? y) -> ∀ ty dc sc, (Builtin.copy_ #[42, 42] ty #[.slice (some ⟨w.heap.size, i + 1, none⟩) (n + 1 - (i + 1)) dc, .slice (some ⟨b, i, none⟩) (n - i) sc]).run Tryz.prog W = .ok (goInt (cs.drop i).length) (W.setCells w.heap.size (i + 1) (cs.drop i)) := fun W hWc hWf ty dc sc =>
  run_copy_cells W _ _ ty 9 w.heap.size (i + 1) (n + 1 - (i + 1)) dc ⟨b, i, none⟩ (n - i) sc (cs.drop i) Tryz.underlying42 I (by rw [d]; simp only [Nat.min_def]; split <;> omega)
   (fun j v hj => by
     rw [Addr.add_lit, hWc, World.cell?_setCells_out _ _ _ _ _ (fun h _ => absurd h k)];have h := O (i + j) v (by rwa [List.getElem?_drop] at hj);rw [Nat.zero_add] at h;exact o _ v h)
   (fun j hj => by rw [hWc]; exact Go.Proofs.isSome_setCells _ _ _ _ (fun t ht => p _ (by simp at ht; omega)) _ (p _ (by omega)))
   (fun j hj => by rw [hWf, World.frozen?_setCells]; exact M _) (fun v hv => B v (List.mem_of_mem_drop hv))
 subst Y;have z : ∀ x, ((w.alloc (.cells Z 9)).drew).cell? x = (w.drew.alloc (.cells Z 9)).cell? x := fun x => rfl;have s : ∀ x, ((w.alloc (.cells Z 9)).drew).frozen? x = (w.drew.alloc (.cells Z 9)).frozen? x := fun x => rfl;have r : ∀ y, (((w.alloc (.cells Z 9)).drew.setCells w.heap.size i [x]).drew).cell? y = ((w.drew.alloc (.cells Z 9)).setCells w.heap.size i [x]).cell? y := fun y => rfl;have q : ∀ y, (((w.alloc (.cells Z 9)).drew.setCells w.heap.size i [x]).drew).frozen? y = ((w.drew.alloc (.cells Z 9)).setCells w.heap.size i [x]).frozen? y := fun y => rfl;have hb : IntKind.i64.wrap ((i : Int) + 1) = (i : Int) + 1 := by rw [IntKind.wrap_i64]; omega
 have h6 : (0 : Int) <= (i : Int) + 1 := by omega
 have h9 : i <= n := by omega
 have ha : ((i : Int) + 1).toNat = i + 1 := by omega
 have h7 : (i : Int) <= (n : Int) := by omega
 clear J N R X C l;go_enter Tryz.func45, Tryz.ntmps45;go_wp2_with (first
  | (at_builtin; refine Lib.wpList_append_run _ rfl _ _ _ _ rfl _ _ rfl rfl _ _ (V _) ?_)
  | (at_builtin; refine wpList_copy_runI _ rfl _ _ 42 42 rfl _ _ rfl rfl (L _ z s _ _) ?_)
  | (at_builtin; refine wpList_copy_runI _ rfl _ _ 42 42 rfl _ _ rfl rfl (S _ (fun _ => rfl) (fun _ => rfl) _ _ _) ?_))
 go_region_law_o (refine step_copy_runI rfl _ _ 42 42 rfl (.slice (some ⟨w.heap.size, i + 1, none⟩) (n + 1 - (i + 1)) (G - (i + 1))) (.slice (some ⟨b, i, none⟩) (n - i) (n - i)) (by simp [Act.eval, Act.put]) (by simp [Act.eval, Act.put]) (S _ r q 3 (G - (i + 1)) (n - i)) ?_)
 go_wp2;go_ret;exact ⟨rfl, rfl⟩
theorem im0 (w : World) (B : Nat) (v : Value) (n i J : Nat) (cs : List Value) (x : Value) (X : w.ownsRow B 9 1 v n cs) (U : BoxN w J 9 [x]) (E : ∀ u ∈ cs, u.oneCell' = true) (h2 : x.oneCell' = true)
 (ha : i <= n) (hn : n <= 1000000) (hB : B <= w.heap.size) (z : v.ownBlock ≠ some J) :
 Calls Tryz.prog 45 #[v, .int .i64 i, .slice (some ⟨J, 0, none⟩) 1 1] w fun e w' => ∃ v', e = .returned v' /\ w'.ownsRow B 9 1 v' (n + 1) (cs.take i ++ x :: cs.drop i) /\ w.grownBy w' v.ownBlock := by
 have K : ∀ j u, [x][j]? = some u -> w.cell? ⟨J, 0 + j, none⟩ = some u := fun j u hj => by rw [Nat.zero_add]; exact U.cell j hj
 have N : ∀ u ∈ [x], u.oneCell' = true := fun u hu => by simp at hu; subst hu; exact h2
 have R : cs.length = n := by have := X.1; omega
 rcases Nat.lt_or_ge i n with L | h9
 ·obtain ⟨g, c, l, rfl, h3, S, C, Q, hf, s⟩ := boo X (by omega)
  have hc : J ≠ g := fun e => z (by subst e; rfl)
  have I := Q;unfold maxLen at I;have M : ∀ j u, cs[j]? = some u -> w.cell? ⟨g, 0 + j, none⟩ = some u := fun j u hj => by
   rw [Nat.zero_add];refine S.cell j ?_;rw [<- s, List.getElem?_take] at hj;split at hj
   ·exact hj
   ·cases hj
  rcases Nat.lt_or_ge n c with O | h7
  ·refine (iSs g n c i J cs x w L O I hc R M (fun j hj => ?_) (fun j _ => S.frozen _) K E N 9 9 1 l.length (by unfold BoxN at U; simp [World.shape?, U]) (by unfold BoxN at S; simp [World.shape?, S]) (by omega) (U.frozen 0) (U.frozen 1)).mono ?_
   ·rw [S.cell (0 + j) (List.getElem?_eq_getElem (by omega))]; rfl
   ·rintro e w' ⟨rfl, rfl⟩
    obtain ⟨k, a⟩ := ie0 (x := x) s L (by omega : n + 1 <= l.length);have hd : (cs.drop i).length = n - i := by rw [List.length_drop, R]
    have h := BoxN.setCells (cs.drop i) (i + 1) S.drew (by omega);have f := BoxN.setCells [x] i h (by rw [k]; simp; omega);rw [Nat.zero_add, Nat.zero_add];refine ⟨_, rfl, oob f h3 O Q ?_ a, gsC [x] i (gsC (cs.drop i) (i + 1) (gdw (grl w (some g))))⟩;simp only [List.length_append, List.length_take, List.length_drop, List.length_singleton] at k ⊢;omega
  ·obtain rfl : c = n := by omega
   refine (ik0 g c i J cs x w L hn R M K E N).mono ?_;rintro e w' ⟨rfl, rfl⟩;have h4 := grownCap_ge w (c + 1) c 9;have h5 := grownCap_le_maxLen w (c + 1) c 9 (by unfold maxLen; omega);generalize grownCap w (c + 1) c 9 = G at *;obtain ⟨V, hR⟩ := zex ((cs.take i).toArray ++ Builtin.zeroCells (Value.string ⟨#[]⟩).cells (c + 1 - i) ++ Builtin.zeroCells (Value.string ⟨#[]⟩).cells (G - (c + 1)) : Array Value);rw [<- hR];have A : V.toList.length = G := by
    rw [hR];simp [Builtin.zeroCells, Value.cells];omega
   have h6 : V.toList.take i = cs.take i := by
    rw [hR];simp only [Array.toList_append, List.append_assoc];rw [List.take_append_of_le_length (by rw [List.length_take]; omega), List.take_take, Nat.min_self]
   have kb : BoxN (w.alloc (.cells V 9)) w.heap.size 9 V.toList := BoxN.new _ _ _ _ rfl;obtain ⟨e0, k, a⟩ := igw (x := x) R h6 L (by omega);have hd : (cs.drop i).length = c - i := by rw [List.length_drop, R]
   have h := BoxN.setCells [x] i kb.drew (by rw [A]; simp; omega);have f := BoxN.setCells (cs.drop i) (i + 1) h.drew (by simp only [List.length_singleton]; rw [e0]; omega);simp only [List.length_singleton] at h f;have h8 : w.grownBy (((w.alloc (.cells V 9)).drew.setCells w.heap.size i [x]).drew.setCells w.heap.size (i + 1) (cs.drop i)) (some g) := by
    have m : (w.alloc (.cells V 9)).grownBy (((w.alloc (.cells V 9)).drew.setCells w.heap.size i [x]).drew.setCells w.heap.size (i + 1) (cs.drop i)) (some w.heap.size) := gsC _ _ (gdw (gsC _ _ (gdw (grl (w.alloc (.cells V 9)) _))));refine ⟨m.os, m.tape, m.output, Nat.le_trans (by simp) m.size, fun j hj hne' => ?_⟩;rw [m.block j (by simp; omega) (fun e => by cases e; omega)];exact ho0 _ _ _ hj
   exact ⟨_, rfl, oob f hB h4 h5 (by rw [k]; exact A) a, h8⟩
 ·obtain rfl : i = n := by omega
  obtain ⟨i0, t, r, o, q⟩ := info_parts (show ((Tryz.prog).info? 9).map (fun i => (i.zero, i.size, i.bytes)) = some (some (Value.string ⟨#[]⟩), 1, 16) by kernel_rfl);obtain ⟨p, c, rfl⟩ := oRs X;have HO := hid X;have HV := hid K;have HC := hid U;have hE : Hid (cs.take i ++ x :: cs.drop i = cs ++ [x]) := by unfold Hid; rw [List.take_of_length_le (by omega), List.drop_of_length_le (by omega)]
  have hh : c <= 9223372036854775807 := by
   rcases X.2 with ⟨H, h1⟩ | ⟨g, cap, b, H, hb, hg, C, Q, M, ht⟩
   ·cases H; omega
   ·cases H; exact Q
  have he : i <= c := by
   rcases X.2 with ⟨H, h1⟩ | ⟨g, cap, b, H, hb, hg, C, Q, M, ht⟩
   ·cases H; omega
   ·cases H; exact C
  clear X K U z R h9 ha E;rcases (Decidable.em (c = i)) with y | y
  ·subst y
   go_enter Tryz.func45, Tryz.ntmps45
   go_wp2_with (at_builtin; refine wpList_append_own _ rfl _ _ 42 rfl B 9 i0 (Value.string ⟨#[]⟩) 1 16 Tryz.underlying42 t r o q rfl (by decide) _ _ _ rfl HO.out ⟨J, 0, none⟩ 1 1 [x] rfl rfl (fun j u hu => by rw [Addr.add_lit]; exact HV.out j u hu) N (by unfold maxLen; omega) (by omega) hB ?_
                intro v7 w7 Z Y _)
   have D : w.grownBy w7 (Value.slice p c c).ownBlock := Y;rw [<- hE.out] at Z;have d := hid Z;clear Z Y;go_wp2_with fail;go_ret;exact ⟨_, rfl, d.out, D⟩
  ·go_enter Tryz.func45, Tryz.ntmps45
   go_wp2_with (at_builtin; refine wpList_append_own _ rfl _ _ 42 rfl B 9 i0 (Value.string ⟨#[]⟩) 1 16 Tryz.underlying42 t r o q rfl (by decide) _ _ _ rfl HO.out ⟨J, 0, none⟩ 1 1 [x] rfl rfl (fun j u hu => by rw [Addr.add_lit]; exact HV.out j u hu) N (by unfold maxLen; omega) (by omega) hB ?_
                intro v7 w7 Z Y _)
   have D : w.grownBy w7 (Value.slice p i c).ownBlock := Y;rw [<- hE.out] at Z;have d := hid Z;clear Z Y;go_wp2_with fail;go_ret;exact ⟨_, rfl, d.out, D⟩
theorem iFs (b n c i X : Nat) (cs : List Value) (x : Value) (w : World) (hi : i < n) (C : n + 1 <= c) (r : c <= 9223372036854775807) (O : X ≠ b)
 (K : cs.length = n) (J : ∀ j v, cs[j]? = some v -> w.cell? ⟨b, 0 + j, none⟩ = some v) (U : ∀ j, j < n + 1 -> (w.cell? ⟨b, 0 + j, none⟩).isSome = true) (S : ∀ j, j < n + 1 -> w.frozen? ⟨b, 0 + j, none⟩ = false)
 (z : ∀ j v, [x][j]? = some v -> w.cell? ⟨X, 0 + j, none⟩ = some v) (M : ∀ v ∈ cs, v.oneCell' = true) (L : ∀ v ∈ [x], v.oneCell' = true)
 (q p : TypeId) (y t : Nat) (B : w.shape? X = some (q, y)) (A : w.shape? b = some (p, t)) (E : t ≠ 0) (H : w.frozen? ⟨X, 0, none⟩ = false) (G : w.frozen? ⟨X, y, none⟩ = false) :
 Calls Tryz.prog 46 #[.slice (some ⟨b, 0, none⟩) n c, .int .i64 i, .slice (some ⟨X, 0, none⟩) 1 1] w fun e w' =>
  e = .returned (.slice (some ⟨b, 0, none⟩) (n + 1) c) /\ w' = (w.drew.setCells b (0 + (i + 1)) (cs.drop i)).setCells b (0 + i) [x] := by
 have s : (Tryz.prog).follows .mixedOrders = true := by kernel_rfl
 have h0 : ¬ ((i : Int) = (n : Int)) := by omega
 have Q : ((Tryz.prog).info? 33).map (·.size) = some 1 := by kernel_rfl
 have D : ∀ lb cb, (callFunc 85 #[.slice (some ⟨X, 0, none⟩) 1 1, .slice (some ⟨b, i + 1, none⟩) lb cb]).run Tryz.prog w = .ok (.value (.bool false)) w := fun lb cb => by
  rw [run_callFunc_extern Tryz.func85 (by kernel_rfl) (by kernel_rfl) (by kernel_rfl) (e := Extern.SlicesOverlaps.overlaps #[43, 43] #[4]) (by kernel_rfl),
   Lib.run_overlaps_apart w 43 4 33 Tryz.underlying43 1 Tryz.sizeOf33 ⟨X, 0, none⟩ ⟨b, i + 1, none⟩ 1 1 lb cb O q p y t B A E H G]
  rfl
 have I : (cs.drop i).length = n - i := by rw [List.length_drop, K]
 have a : IntKind.i64.wrap ((i : Int) + 1) = (i : Int) + 1 := by rw [IntKind.wrap_i64]; omega
 have o : (0 : Int) <= (i : Int) + 1 := by omega
 have f : i <= n := by omega
 have d : ((i : Int) + 1).toNat = i + 1 := by omega
 have m : ¬ (c = i + 1) := by omega
 have l : (i : Int) <= (n : Int) + 1 := by omega
 have g : ¬ (c = i) := by omega
 have Y : ∀ ty dc sc, (Builtin.copy_ #[43, 43] ty #[.slice (some ⟨b, 0 + (i + 1), none⟩) (n + 1 - (i + 1)) dc, .slice (some ⟨b, 0 + i, none⟩) (n + 1 - i) sc]).run Tryz.prog w.drew = .ok (goInt (cs.drop i).length) (w.drew.setCells b (0 + (i + 1)) (cs.drop i)) := fun ty dc sc =>
  run_copy_cells w.drew _ _ ty 33 b (0 + (i + 1)) (n + 1 - (i + 1)) dc ⟨b, 0 + i, none⟩ (n + 1 - i) sc (cs.drop i) Tryz.underlying43 Q (by rw [I]; simp only [Nat.min_def]; split <;> omega)
   (fun j v hj => by rw [Addr.add_lit, Nat.add_assoc]; exact J (i + j) v (by rwa [List.getElem?_drop] at hj))
   (fun j hj => by rw [Nat.add_assoc]; exact U _ (by omega)) (fun j hj => by rw [Nat.add_assoc]; exact S _ (by omega)) (fun v hv => M v (List.mem_of_mem_drop hv))
 obtain ⟨N, Z⟩ := zex (w.drew.setCells b (0 + (i + 1)) (cs.drop i));have R : ∀ k, k < n + 1 -> (N.cell? ⟨b, 0 + k, none⟩).isSome = true := fun k hk => by
  rw [Z];exact Go.Proofs.isSome_setCells b _ _ _ (fun j hj => by rw [Nat.add_assoc]; exact U _ (by omega)) _ (U k hk)
 have V : ∀ (W : World), (∀ x, W.cell? x = N.cell? x) -> (∀ x, W.frozen? x = N.frozen? x) -> ∀ ty dc, (Builtin.copy_ #[43, 43] ty #[.slice (some ⟨b, 0 + i, none⟩) (n + 1 - i) dc, .slice (some ⟨X, 0, none⟩) 1 1]).run Tryz.prog W = .ok (goInt [x].length) (W.setCells b (0 + i) [x]) := fun W hWc hWf ty dc =>
  run_copy_cells W _ _ ty 33 b (0 + i) (n + 1 - i) dc ⟨X, 0, none⟩ 1 1 [x] Tryz.underlying43 Q (by simp only [Nat.min_def, List.length_singleton]; split <;> omega)
   (fun j v hj => by
     rw [Addr.add_lit, hWc, Z, World.cell?_setCells_out b _ _ _ _ (fun h _ => absurd h O)];exact z j v hj)
   (fun j hj => by rw [hWc, Nat.add_assoc]; exact R _ (by simp at hj; omega)) (fun j hj => by rw [hWf, Z, World.frozen?_setCells, Nat.add_assoc]; exact S _ (by simp at hj; omega)) L
 rw [<- Z] at Y;simp only [Nat.zero_add] at Y V;go_enter Tryz.func46, Tryz.ntmps46;go_wp2_with (simp only [D])
 go_region_law_o (refine step_copy_runI rfl _ _ 43 43 rfl (.slice (some ⟨b, i + 1, none⟩) (n + 1 - (i + 1)) (c - (i + 1))) (.slice (some ⟨b, i, none⟩) (n + 1 - i) (c - i)) (by simp [Act.eval, Act.put]) (by simp [Act.eval, Act.put]) (Y _ _ _) ?_)
 go_wp2_with (at_builtin; refine wpList_copy_runI _ rfl _ _ 43 43 rfl _ _ rfl rfl (V _ (fun _ => rfl) (fun _ => rfl) _ _) ?_);go_ret;refine ⟨rfl, ?_⟩;first | simp only [Nat.zero_add] | (rw [Z]; simp only [Nat.zero_add])
theorem iFg (b n i Q : Nat) (cs : List Value) (x : Value) (w : World) (hi : i < n) (h3 : n <= 1000000)
 (f : cs.length = n) (O : ∀ j v, cs[j]? = some v -> w.cell? ⟨b, 0 + j, none⟩ = some v)
 (H : ∀ j v, [x][j]? = some v -> w.cell? ⟨Q, 0 + j, none⟩ = some v) (B : ∀ v ∈ cs, v.oneCell' = true) (A : ∀ v ∈ [x], v.oneCell' = true) :
 Calls Tryz.prog 46 #[.slice (some ⟨b, 0, none⟩) n n, .int .i64 i, .slice (some ⟨Q, 0, none⟩) 1 1] w fun e w' =>
  e = .returned (.slice (some ⟨w.heap.size, 0, none⟩) (n + 1) (grownCap w (n + 1) n 33)) /\
  w' = (((w.alloc (.cells ((cs.take i).toArray ++ Builtin.zeroCells (Value.slice none 0 0).cells (n + 1 - i) ++ Builtin.zeroCells (Value.slice none 0 0).cells (grownCap w (n + 1) n 33 - (n + 1))) 33)).drew.setCells w.heap.size i [x]).drew).setCells w.heap.size (i + 1) (cs.drop i) := by
 obtain ⟨i0, K, a, D, E⟩ := info_parts (show ((Tryz.prog).info? 33).map (fun i => (i.zero, i.size, i.bytes)) = some (some (Value.slice none 0 0), 1, 24) by kernel_rfl);have h0 : (Tryz.prog).follows .mixedOrders = true := by kernel_rfl
 have hc : ¬ ((i : Int) = (n : Int)) := by omega
 have hd : (n : Int) < (n : Int) + 1 := by omega
 have I : ((Tryz.prog).info? 33).map (·.size) = some 1 := by rw [K]; simp [D]
 have g : b < w.heap.size := block_lt_of_cell (O 0 _ (List.getElem?_eq_getElem (by omega)));have c : Q < w.heap.size := block_lt_of_cell (H 0 _ (List.getElem?_eq_getElem (by simp)));have J : (n : Int) + 1 - (i : Int) = ((n + 1 - i : Nat) : Int) := by omega
 have N : i + (n + 1 - i) = n + 1 := by omega
 have R : (Builtin.firstCells i0.size i (.slice (some ⟨b, 0, none⟩) i n)).run Tryz.prog w.drew = .ok (cs.take i).toArray w.drew := by
  rw [D];exact run_firstCells_some w.drew 1 i ⟨b, 0, none⟩ i n (cs.take i) (by rw [List.length_take]; omega) (fun j v hj => by
   rw [Addr.add_lit];rw [List.getElem?_take] at hj;split at hj
   ·exact O j v hj
   ·cases hj)
 have V : ∀ ty, (Builtin.append_ #[43, 3] ty #[.slice (some ⟨b, 0, none⟩) i n, .int .i64 ((n : Int) + 1 - (i : Int))]).run Tryz.prog w =
  .ok (.slice (some ⟨w.heap.size, 0, none⟩) (n + 1) (grownCap w (n + 1) n 33)) (w.drew.alloc (.cells ((cs.take i).toArray ++ Builtin.zeroCells (Value.slice none 0 0).cells (n + 1 - i) ++ Builtin.zeroCells (Value.slice none 0 0).cells (grownCap w (n + 1) n 33 - (n + 1))) 33)) := fun ty => by
  have h := Lib.run_append_grow_zeros w 43 3 ty 33 i0 _ .i64 .i64 Tryz.underlying43 Tryz.underlying3 K a (some ⟨b, 0, none⟩) i n (cs.take i) R (n + 1 - i) (by omega) (by omega) (by omega) (by omega) (by rw [E]; omega) (by rw [E, N]; exact growslice_fits (by omega) (by omega));rw [N] at h;rw [J];exact h
 obtain ⟨G, C⟩ := zex (grownCap w (n + 1) n 33);obtain ⟨Z, X⟩ := zex ((cs.take i).toArray ++ Builtin.zeroCells (Value.slice none 0 0).cells (n + 1 - i) ++ Builtin.zeroCells (Value.slice none 0 0).cells (G - (n + 1)) : Array Value);rw [<- C] at V ⊢;rw [<- X] at V ⊢;have l : n + 1 <= Z.size := by
  rw [X];simp [Builtin.zeroCells, Value.cells];omega
 obtain ⟨U, Y⟩ := zex (w.drew.alloc (.cells Z 33));rw [<- Y] at V;have p : ∀ j, j < n + 1 -> (U.cell? ⟨w.heap.size, j, none⟩).isSome = true := fun j hj => by
  rw [Y, World.cell?_alloc_at (w := w.drew) Z _ w.heap.size j rfl, Array.getElem?_eq_getElem (by omega)]; rfl
 have M : ∀ j, U.frozen? ⟨w.heap.size, j, none⟩ = false := fun j => by rw [Y]; exact World.frozen?_alloc_at (w := w.drew) Z _ w.heap.size j rfl
 have o : ∀ j v, w.cell? ⟨b, j, none⟩ = some v -> U.cell? ⟨b, j, none⟩ = some v := fun j v h => by rw [Y, World.cell?_alloc_past (w := w.drew) _ b j g]; exact h
 have m : ∀ j v, w.cell? ⟨Q, j, none⟩ = some v -> U.cell? ⟨Q, j, none⟩ = some v := fun j v h => by rw [Y, World.cell?_alloc_past (w := w.drew) _ Q j c]; exact h
 have L : ∀ (W : World), (∀ x, W.cell? x = U.cell? x) -> (∀ x, W.frozen? x = U.frozen? x) -> ∀ ty dc, (Builtin.copy_ #[43, 43] ty #[.slice (some ⟨w.heap.size, i, none⟩) (n + 1 - i) dc, .slice (some ⟨Q, 0, none⟩) 1 1]).run Tryz.prog W = .ok (goInt [x].length) (W.setCells w.heap.size i [x]) := fun W hWc hWf ty dc =>
  run_copy_cells W _ _ ty 33 w.heap.size i (n + 1 - i) dc ⟨Q, 0, none⟩ 1 1 [x] Tryz.underlying43 I (by simp only [Nat.min_def, List.length_singleton]; split <;> omega)
   (fun j v hj => by rw [Addr.add_lit, hWc]; exact m _ v (H j v hj))
   (fun j hj => by rw [hWc]; exact p _ (by simp at hj; omega)) (fun j hj => by rw [hWf]; exact M _) A
 have h5 : n + 1 <= G := by rw [C]; exact grownCap_ge w _ _ _
 have h1 : G <= 9223372036854775807 := by
  have := grownCap_le_maxLen w (n + 1) n 33 (by unfold maxLen; omega);rw [<- C] at this;unfold maxLen at this;omega
 have h4 : ¬ (G = i) := by omega
 have h2 : ¬ (G = i + 1) := by omega
 have h8 : ¬ (n = i) := by omega
 have k : b ≠ w.heap.size := by omega
 have d : (cs.drop i).length = n - i := by rw [List.length_drop, f]
 have S : ∀ (W : World), (∀ y, W.cell? y = (U.setCells w.heap.size i [x]).cell? y) -> (∀ y, W.frozen? y = (U.setCells w.heap.size i [x]).frozen? y) -> ∀ ty dc sc, (Builtin.copy_ #[43, 43] ty #[.slice (some ⟨w.heap.size, i + 1, none⟩) (n + 1 - (i + 1)) dc, .slice (some ⟨b, i, none⟩) (n - i) sc]).run Tryz.prog W = .ok (goInt (cs.drop i).length) (W.setCells w.heap.size (i + 1) (cs.drop i)) := fun W hWc hWf ty dc sc =>
  run_copy_cells W _ _ ty 33 w.heap.size (i + 1) (n + 1 - (i + 1)) dc ⟨b, i, none⟩ (n - i) sc (cs.drop i) Tryz.underlying43 I (by rw [d]; simp only [Nat.min_def]; split <;> omega)
   (fun j v hj => by
     rw [Addr.add_lit, hWc, World.cell?_setCells_out _ _ _ _ _ (fun h _ => absurd h k)];have h := O (i + j) v (by rwa [List.getElem?_drop] at hj);rw [Nat.zero_add] at h;exact o _ v h)
   (fun j hj => by rw [hWc]; exact Go.Proofs.isSome_setCells _ _ _ _ (fun t ht => p _ (by simp at ht; omega)) _ (p _ (by omega)))
   (fun j hj => by rw [hWf, World.frozen?_setCells]; exact M _) (fun v hv => B v (List.mem_of_mem_drop hv))
 subst Y;have z : ∀ x, ((w.alloc (.cells Z 33)).drew).cell? x = (w.drew.alloc (.cells Z 33)).cell? x := fun x => rfl;have s : ∀ x, ((w.alloc (.cells Z 33)).drew).frozen? x = (w.drew.alloc (.cells Z 33)).frozen? x := fun x => rfl;have r : ∀ y, (((w.alloc (.cells Z 33)).drew.setCells w.heap.size i [x]).drew).cell? y = ((w.drew.alloc (.cells Z 33)).setCells w.heap.size i [x]).cell? y := fun y => rfl;have q : ∀ y, (((w.alloc (.cells Z 33)).drew.setCells w.heap.size i [x]).drew).frozen? y = ((w.drew.alloc (.cells Z 33)).setCells w.heap.size i [x]).frozen? y := fun y => rfl;have hb : IntKind.i64.wrap ((i : Int) + 1) = (i : Int) + 1 := by rw [IntKind.wrap_i64]; omega
 have h6 : (0 : Int) <= (i : Int) + 1 := by omega
 have h9 : i <= n := by omega
 have ha : ((i : Int) + 1).toNat = i + 1 := by omega
 have h7 : (i : Int) <= (n : Int) := by omega
 clear J N R X C l;go_enter Tryz.func46, Tryz.ntmps46;go_wp2_with (first
  | (at_builtin; refine Lib.wpList_append_run _ rfl _ _ _ _ rfl _ _ rfl rfl _ _ (V _) ?_)
  | (at_builtin; refine wpList_copy_runI _ rfl _ _ 43 43 rfl _ _ rfl rfl (L _ z s _ _) ?_)
  | (at_builtin; refine wpList_copy_runI _ rfl _ _ 43 43 rfl _ _ rfl rfl (S _ (fun _ => rfl) (fun _ => rfl) _ _ _) ?_))
 go_region_law_o (refine step_copy_runI rfl _ _ 43 43 rfl (.slice (some ⟨w.heap.size, i + 1, none⟩) (n + 1 - (i + 1)) (G - (i + 1))) (.slice (some ⟨b, i, none⟩) (n - i) (n - i)) (by simp [Act.eval, Act.put]) (by simp [Act.eval, Act.put]) (S _ r q 3 (G - (i + 1)) (n - i)) ?_)
 go_wp2;go_ret;exact ⟨rfl, rfl⟩
theorem iFa (w : World) (B : Nat) (v : Value) (n i J : Nat) (cs : List Value) (x : Value) (X : w.ownsRow B 33 1 v n cs) (U : BoxN w J 33 [x]) (E : ∀ u ∈ cs, u.oneCell' = true) (h2 : x.oneCell' = true)
 (ha : i <= n) (hn : n <= 1000000) (hB : B <= w.heap.size) (z : v.ownBlock ≠ some J) :
 Calls Tryz.prog 46 #[v, .int .i64 i, .slice (some ⟨J, 0, none⟩) 1 1] w fun e w' => ∃ v', e = .returned v' /\ w'.ownsRow B 33 1 v' (n + 1) (cs.take i ++ x :: cs.drop i) /\ w.grownBy w' v.ownBlock := by
 have K : ∀ j u, [x][j]? = some u -> w.cell? ⟨J, 0 + j, none⟩ = some u := fun j u hj => by rw [Nat.zero_add]; exact U.cell j hj
 have N : ∀ u ∈ [x], u.oneCell' = true := fun u hu => by simp at hu; subst hu; exact h2
 have R : cs.length = n := by have := X.1; omega
 rcases Nat.lt_or_ge i n with L | h9
 ·obtain ⟨g, c, l, rfl, h3, S, C, Q, hf, s⟩ := boo X (by omega)
  have hc : J ≠ g := fun e => z (by subst e; rfl)
  have I := Q;unfold maxLen at I;have M : ∀ j u, cs[j]? = some u -> w.cell? ⟨g, 0 + j, none⟩ = some u := fun j u hj => by
   rw [Nat.zero_add];refine S.cell j ?_;rw [<- s, List.getElem?_take] at hj;split at hj
   ·exact hj
   ·cases hj
  rcases Nat.lt_or_ge n c with O | h7
  ·refine (iFs g n c i J cs x w L O I hc R M (fun j hj => ?_) (fun j _ => S.frozen _) K E N 33 33 1 l.length (by unfold BoxN at U; simp [World.shape?, U]) (by unfold BoxN at S; simp [World.shape?, S]) (by omega) (U.frozen 0) (U.frozen 1)).mono ?_
   ·rw [S.cell (0 + j) (List.getElem?_eq_getElem (by omega))]; rfl
   ·rintro e w' ⟨rfl, rfl⟩
    obtain ⟨k, a⟩ := ie0 (x := x) s L (by omega : n + 1 <= l.length);have hd : (cs.drop i).length = n - i := by rw [List.length_drop, R]
    have h := BoxN.setCells (cs.drop i) (i + 1) S.drew (by omega);have f := BoxN.setCells [x] i h (by rw [k]; simp; omega);rw [Nat.zero_add, Nat.zero_add];refine ⟨_, rfl, oob f h3 O Q ?_ a, gsC [x] i (gsC (cs.drop i) (i + 1) (gdw (grl w (some g))))⟩;simp only [List.length_append, List.length_take, List.length_drop, List.length_singleton] at k ⊢;omega
  ·obtain rfl : c = n := by omega
   refine (iFg g c i J cs x w L hn R M K E N).mono ?_;rintro e w' ⟨rfl, rfl⟩;have h4 := grownCap_ge w (c + 1) c 33;have h5 := grownCap_le_maxLen w (c + 1) c 33 (by unfold maxLen; omega);generalize grownCap w (c + 1) c 33 = G at *;obtain ⟨V, hR⟩ := zex ((cs.take i).toArray ++ Builtin.zeroCells (Value.slice none 0 0).cells (c + 1 - i) ++ Builtin.zeroCells (Value.slice none 0 0).cells (G - (c + 1)) : Array Value);rw [<- hR];have A : V.toList.length = G := by
    rw [hR];simp [Builtin.zeroCells, Value.cells];omega
   have h6 : V.toList.take i = cs.take i := by
    rw [hR];simp only [Array.toList_append, List.append_assoc];rw [List.take_append_of_le_length (by rw [List.length_take]; omega), List.take_take, Nat.min_self]
   have kb : BoxN (w.alloc (.cells V 33)) w.heap.size 33 V.toList := BoxN.new _ _ _ _ rfl;obtain ⟨e0, k, a⟩ := igw (x := x) R h6 L (by omega);have hd : (cs.drop i).length = c - i := by rw [List.length_drop, R]
   have h := BoxN.setCells [x] i kb.drew (by rw [A]; simp; omega);have f := BoxN.setCells (cs.drop i) (i + 1) h.drew (by simp only [List.length_singleton]; rw [e0]; omega);simp only [List.length_singleton] at h f;have h8 : w.grownBy (((w.alloc (.cells V 33)).drew.setCells w.heap.size i [x]).drew.setCells w.heap.size (i + 1) (cs.drop i)) (some g) := by
    have m : (w.alloc (.cells V 33)).grownBy (((w.alloc (.cells V 33)).drew.setCells w.heap.size i [x]).drew.setCells w.heap.size (i + 1) (cs.drop i)) (some w.heap.size) := gsC _ _ (gdw (gsC _ _ (gdw (grl (w.alloc (.cells V 33)) _))));refine ⟨m.os, m.tape, m.output, Nat.le_trans (by simp) m.size, fun j hj hne' => ?_⟩;rw [m.block j (by simp; omega) (fun e => by cases e; omega)];exact ho0 _ _ _ hj
   exact ⟨_, rfl, oob f hB h4 h5 (by rw [k]; exact A) a, h8⟩
 ·obtain rfl : i = n := by omega
  obtain ⟨i0, t, r, o, q⟩ := info_parts (show ((Tryz.prog).info? 33).map (fun i => (i.zero, i.size, i.bytes)) = some (some (Value.slice none 0 0), 1, 24) by kernel_rfl);obtain ⟨p, c, rfl⟩ := oRs X;have HO := hid X;have HV := hid K;have HC := hid U;have hE : Hid (cs.take i ++ x :: cs.drop i = cs ++ [x]) := by unfold Hid; rw [List.take_of_length_le (by omega), List.drop_of_length_le (by omega)]
  have hh : c <= 9223372036854775807 := by
   rcases X.2 with ⟨H, h1⟩ | ⟨g, cap, b, H, hb, hg, C, Q, M, ht⟩
   ·cases H; omega
   ·cases H; exact Q
  have he : i <= c := by
   rcases X.2 with ⟨H, h1⟩ | ⟨g, cap, b, H, hb, hg, C, Q, M, ht⟩
   ·cases H; omega
   ·cases H; exact C
  clear X K U z R h9 ha E;rcases (Decidable.em (c = i)) with y | y
  ·subst y
   go_enter Tryz.func46, Tryz.ntmps46
   go_wp2_with (at_builtin; refine wpList_append_own _ rfl _ _ 43 rfl B 33 i0 (Value.slice none 0 0) 1 24 Tryz.underlying43 t r o q rfl (by decide) _ _ _ rfl HO.out ⟨J, 0, none⟩ 1 1 [x] rfl rfl (fun j u hu => by rw [Addr.add_lit]; exact HV.out j u hu) N (by unfold maxLen; omega) (by omega) hB ?_
                intro v7 w7 Z Y _)
   have D : w.grownBy w7 (Value.slice p c c).ownBlock := Y;rw [<- hE.out] at Z;have d := hid Z;clear Z Y;go_wp2_with fail;go_ret;exact ⟨_, rfl, d.out, D⟩
  ·go_enter Tryz.func46, Tryz.ntmps46
   go_wp2_with (at_builtin; refine wpList_append_own _ rfl _ _ 43 rfl B 33 i0 (Value.slice none 0 0) 1 24 Tryz.underlying43 t r o q rfl (by decide) _ _ _ rfl HO.out ⟨J, 0, none⟩ 1 1 [x] rfl rfl (fun j u hu => by rw [Addr.add_lit]; exact HV.out j u hu) N (by unfold maxLen; omega) (by omega) hB ?_
                intro v7 w7 Z Y _)
   have D : w.grownBy w7 (Value.slice p i c).ownBlock := Y;rw [<- hE.out] at Z;have d := hid Z;clear Z Y;go_wp2_with fail;go_ret;exact ⟨_, rfl, d.out, D⟩
def SrcR (w : World) (x' : Value) (m size : Nat) (news : List Value) : Prop := (x' = .slice none 0 0 /\ m = 0 /\ news = []) \/ ∃ ad c, x' = .slice (some ad) m c /\ news.length = m * size /\ ∀ j u, news[j]? = some u -> w.cell? (ad.add j) = some u
theorem obk {w : World} {base e sz n : Nat} {v : Value} {xs : List Value} (h : w.ownsRow base e sz v n xs) (Q : 0 < n) : ∃ g c, v = .slice (some ⟨g, 0, none⟩) n c /\ base <= g /\ g < w.heap.size /\ n <= c /\ c <= maxLen := by
 rcases h.2 with ⟨_, R⟩ | ⟨g, cap, Z, S, V, U, Y, X, _⟩
 ·omega
 ·exact ⟨g, cap, S, V, (Array.getElem?_eq_some_iff.1 U).1, Y, X⟩
theorem on0 (w : World) (base t : Nat) (Z : base <= w.heap.size) : (w.alloc (.cells #[] t)).ownsRow base t 1 (.slice (some ⟨w.heap.size, 0, none⟩) 0 0) 0 ([] : List Value) := by
 have := World.ownsRow_lit (base := base) (e := t) (size := 1) w #[] 0 Z (by decide) rfl;simpa using this
theorem osc {w : World} {base e size n : Nat} {v : Value} {xs : List Value} (h : w.ownsRow base e size v n xs) : SrcR w v n size xs := by
 rcases h.2 with ⟨rfl, rfl⟩ | ⟨g, cap, Z, rfl, S, R, Y, X, V, U⟩
 ·exact .inl ⟨rfl, rfl, List.eq_nil_of_length_eq_zero (by rw [h.1]; omega)⟩
 ·exact .inr ⟨⟨g, 0, none⟩, cap, rfl, h.1, h.cells rfl⟩
theorem SrcR.below {w w' : World} {x' : Value} {m size : Nat} {news : List Value} (h : SrcR w x' m size news) (U : Below w.heap.size w w') : SrcR w' x' m size news := by
 rcases h with h | ⟨Z, c, X, V, Y⟩
 ·exact .inl h
 ·exact .inr ⟨Z, c, X, V, fun j u hu => (U.cell (p := Z.add j) (World.block_lt_of_cell? w _ (Y j u hu))).trans (Y j u hu)⟩
theorem was {P : Program} (w : World) {o : Oper} {a : Act} {K : Act -> World -> Prop} {Q : Exit -> Act -> World -> Prop} (s x : Operand) (t : TypeId)
 (G : o.op = .call { callee := .builtin .append, args := #[s, x], argTypes := #[t, t] })
 (base : Nat) (e : TypeId) (i : TypeInfo) (z : Value) (size bytes : Nat) (D : P.underlying t = some (.slice e)) (H : P.info? e = some i) (r : i.zero = some z)
 (R : i.size = size) (L : i.bytes = bytes) (I : z.cells.size = size) (J : 0 < size)
 (v : Value) (n : Nat) (xs : List Value) (E : a.eval s = v) (Y : w.ownsRow base e size v n xs)
 (C : Value) (m : Nat) (Z : List Value) (hx : a.eval x = C) (O : SrcR w C m size Z)
 (A : ∀ u ∈ Z, u.oneCell' = true) (M : n + m <= maxLen) (V : (n + m) * bytes <= 140737488355328) (U : base <= w.heap.size)
 (h : ∀ N w', w'.ownsRow base e size N (n + m) (xs ++ Z) -> w.grownBy w' v.ownBlock -> K (a.put o.dst N) w') : Oper.wp P o a w K Q := by
 rcases O with ⟨rfl, rfl, rfl⟩ | ⟨B, c, rfl, y, S⟩
 ·have X := run_append_owned_none (P := P) (w := w) base t o.type e i size D (by rw [H]) v n xs Y
  unfold Oper.wp;simp [execOp, G, resolve, invoke, builtin, E, hx, X, Result.andThen];exact h v w (by simpa using Y) (grl _ _)
 ·obtain ⟨N, w', X, q, p, _⟩ := run_append_own (P := P) w base t o.type e i z size bytes D H r R L I J v n xs Y B m c Z y S A M V U
  unfold Oper.wp;simp [execOp, G, resolve, invoke, builtin, E, hx, X, Result.andThen];exact h N w' q p
theorem wLa {P : Program} (w : World) {ops : Array Oper} {rest : List Oper} {o : Oper} {a : Act} {Q : Exit -> Act -> World -> Prop} (N : o.guard = none) (s x : Operand) (t : TypeId)
 (H : o.op = .call { callee := .builtin .append, args := #[s, x], argTypes := #[t, t] })
 (base : Nat) (e : TypeId) (i : TypeInfo) (z : Value) (size bytes : Nat) (E : P.underlying t = some (.slice e)) (I : P.info? e = some i) (D : i.zero = some z)
 (V : i.size = size) (O : i.bytes = bytes) (L : z.cells.size = size) (M : 0 < size)
 (v : Value) (n : Nat) (xs : List Value) (G : a.eval s = v) (U : w.ownsRow base e size v n xs)
 (K : Value) (m : Nat) (Z : List Value) (hx : a.eval x = K) (S : SrcR w K m size Z)
 (J : ∀ u ∈ Z, u.oneCell' = true) (R : n + m <= maxLen) (Y : (n + m) * bytes <= 140737488355328) (X : base <= w.heap.size)
 (h : ∀ v' w', w'.ownsRow base e size v' (n + m) (xs ++ Z) -> w.grownBy w' v.ownBlock -> wpList P ops Q rest (a.put o.dst v') w') : wpList P ops Q (o :: rest) a w :=
 wpList_plain N fun _ hK => was w s x t H base e i z size bytes E I D V O L M v n xs G U K m Z hx S J R Y X fun v' w' a b => hK _ _ (h v' w' a b)
theorem aps (b o j : Nat) : (⟨b, o, none⟩ : Addr).add j = ⟨b, o + j, none⟩ := by
 simp only [Addr.add];split
 ·rename_i h; subst h; rfl
 ·rfl
theorem spt {w : World} {b o c k m : Nat} {xs : List Value} (S : ∀ j u, xs[j]? = some u -> w.cell? ⟨b, o + j, none⟩ = some u) (R : k + m <= xs.length) (V : Value) (Z : V = .slice (if c = k then some ⟨b, o, none⟩ else some ⟨b, o + k, none⟩) m (c - k)) (Y : c = k -> m = 0) :
 SrcR w V m 1 ((xs.drop k).take m) := by
 have X : ((xs.drop k).take m).length = m * 1 := by rw [List.length_take, List.length_drop]; omega
 by_cases e : c = k
 ·rw [if_pos e] at Z
  refine .inr ⟨_, _, Z, X, fun j u hu => ?_⟩;have U := Y e;subst U;simp at hu
 ·rw [if_neg e] at Z
  refine .inr ⟨_, _, Z, X, fun j u hu => ?_⟩;rw [List.getElem?_take] at hu;split at hu
  ·rw [List.getElem?_drop] at hu
   have := S (k + j) u hu;rw [<- Nat.add_assoc] at this;rw [aps]; exact this
  ·cases hu
section
variable {P : Program} {ops : Array Oper} {Q : Exit -> Act -> World -> Prop} {md : Region.Mode} {S : World -> Prop}
end
theorem bAl {w0 w : World} (h : Below w0.heap.size w0 w) (o : Obj) : Below w0.heap.size w0 (w.alloc o) := h.alloc h.size o
def FlsU (w : World) (R : Nat) (v : Value) (n : Nat) (S : List (List Rat)) : Prop :=
 S.length = n /\ ∃ us : List Value, us.length = n /\ w.ownsRow R 33 1 v n us /\ ∀ (i : Nat) (u : Value) (F : List Rat), us[i]? = some u -> S[i]? = some F -> FldV w 0 u F
theorem FlsU.below {w w' : World} {R : Nat} {v : Value} {n : Nat} {S : List (List Rat)} (h : FlsU w R v n S) (Z : Below w.heap.size w w') : FlsU w' R v n S := by
 obtain ⟨Y, us, X, V, U⟩ := h;exact ⟨Y, us, X, WRA V Z, fun i u F a b => (U i u F a b).below Z⟩
theorem FlsU.kept {w w' : World} {R b t n : Nat} {v : Value} {l : List Value} {S : List (List Rat)} (h : FlsU w R v n S) (V : w.grownBy w' (some b)) (X : BoxN w b t l) (Q : 33 ≠ t) (O : 55 ≠ t) : FlsU w' R v n S := by
 obtain ⟨U, us, N, Z, Y⟩ := h;exact ⟨U, us, N, World.ownsRow.kept Z V (.inr fun e => obN Z X Q e.symm), fun i u F a c => World.ownsRow.kept (Y i u F a c) V (.inr fun e => obN (Y i u F a c) X O e.symm)⟩
theorem FlsU.rd {w : World} {R n : Nat} {v : Value} {S : List (List Rat)} (h : FlsU w R v n S) : RdF w v S := by
 obtain ⟨Z, us, V, Y, X⟩ := h;subst Z;exact ⟨us, RdC.of_owns Y, fun i u F a b => (X i u F a b).rd⟩
theorem FlsU.shape {w : World} {R n : Nat} {v : Value} {S : List (List Rat)} (h : FlsU w R v n S) : ∃ p c, v = .slice p n c := by
 obtain ⟨Y, us, X, Z, V⟩ := h;exact oRs Z
theorem FlsU.snoc {w w' : World} {R n : Nat} {v v' u : Value} {S : List (List Rat)} {us : List Value} {F : List Rat} (Y : S.length = n) (X : us.length = n) (U : w.ownsRow R 33 1 v n us) (Q : ∀ (i : Nat) (u : Value) (F : List Rat), us[i]? = some u -> S[i]? = some F -> FldV w 0 u F)
 (O : w.grownBy w' v.ownBlock) (Z : w'.ownsRow R 33 1 v' (n + 1) (us ++ [u])) (N : FldV w 0 u F) : FlsU w' R v' (n + 1) (S ++ [F]) := by
 have key : ∀ {x F}, FldV w 0 x F -> FldV w' 0 x F := fun h => World.ownsRow.kept h O (oat h U (by decide))
 refine ⟨by rw [List.length_append, Y]; rfl, us ++ [u], by rw [List.length_append, X]; rfl, Z, fun i x G a b => ?_⟩;rcases Nat.lt_or_ge i n with h | h
 ·rw [List.getElem?_append_left (by omega)] at a
  rw [List.getElem?_append_left (by omega)] at b;exact key (Q i x G a b)
 ·have V := (List.getElem?_eq_some_iff.1 b).1
  rw [List.length_append] at V;obtain rfl : i = n := by simp at V; omega
  rw [List.getElem?_append_right (by omega), Y, Nat.sub_self] at b;rw [List.getElem?_append_right (by omega), X, Nat.sub_self] at a;simp at a b;subst a; subst b;exact key N
end Go.Proofs.YtmcbeajdloaliaaGreatDoor
