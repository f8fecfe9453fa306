import Derived.Test.YtmcbeajdloaliaaGreatDoorUS71a
/- A deposit of numbers stack.Insert into a right deposit. stack.Insert into a right deposit slices.Backward over numbers The iterator stack.heights$1. stack.checkPlace. stack.At. -/
set_option maxHeartbeats 16000000
set_option maxRecDepth 100000
namespace Go.Proofs.YtmcbeajdloaliaaGreatDoor
open Go.RowKit Go.Lib
def OwnD (w : World) (base : Nat) (v1 v2 v3 : Value) (B : List Rat) (U : List ByteArray) (S : List (List Rat)) : Prop :=
 FldV w base v1 B /\ w.ownsRow base 9 1 v2 U.length (U.map fun x => Value.string x) /\ FlsV 33 w base v3 S
structure DepN (w : World) (vp vt vb vu vs : Value) (P : List PtQ) (T : List Tri) (k : Nat) (B : List Rat) (U : List ByteArray) (S : List (List Rat)) : Prop where
 p : RdP w vp (strP P)
 t : RdT w vt T
 m : MeshOK P T k
 base : RdQ w vb B
 unit : RdS w vu U
 surf : RdF w vs S
 fl : ∀ F ∈ B :: S, F.length = P.length
 fs : ∀ F ∈ B :: S, ∀ q ∈ F, Sz k q
 ul : U.length = S.length + 1
 u60 : U.length <= 60
 ok : depE P T (B.map RS) U (S.map fun F => F.map RS) = 0
theorem DepN.below {w w' : World} {vp vt vb vu vs : Value} {P : List PtQ} {T : List Tri} {k : Nat} {B : List Rat} {U : List ByteArray} {S : List (List Rat)} (h : DepN w vp vt vb vu vs P T k B U S) (Z : Below w.heap.size w w') : DepN w' vp vt vb vu vs P T k B U S :=
 ⟨RdC.below h.p Z, RdC.below h.t Z, h.m, RdC.below h.base Z, RdC.below h.unit Z, h.surf.below Z, h.fl, h.fs, h.ul, h.u60, h.ok⟩
theorem DepN.toT {w : World} {vp vt vb vu vs : Value} {P : List PtQ} {T : List Tri} {k : Nat} {B : List Rat} {U : List ByteArray} {S : List (List Rat)} (h : DepN w vp vt vb vu vs P T k B U S) : DepT w vp vt vb vu vs P T k (B.map RS) U (S.map fun F => F.map RS) := by
 have Z : ∀ F ∈ B.map RS :: S.map (fun F => F.map RS), ∃ R ∈ B :: S, F = R.map RS := fun F hF => by
  rcases List.mem_cons.1 hF with rfl | X
  ·exact ⟨B, by simp, rfl⟩
  ·obtain ⟨R, Y, rfl⟩ := List.mem_map.1 X
   exact ⟨R, List.mem_cons_of_mem _ Y, rfl⟩
 refine ⟨h.p, h.t, fun _ => h.m, h.base.toS, h.unit, h.surf.toTx, fun F hF => ?_, fun F hF _ => ?_⟩
 ·obtain ⟨R, Y, rfl⟩ := Z F hF
  refine ⟨sok h.m.kpos h.m.klim2 (h.fs R Y), ?_⟩;rw [List.length_map, h.fl R Y];have := h.m.plen;omega
 ·obtain ⟨R, Y, rfl⟩ := Z F hF
  exact ⟨R, rfl, h.fl R Y, h.fs R Y⟩
theorem DepN.open {w : World} {vp vt vb vu vs : Value} {P : List PtQ} {T : List Tri} {k : Nat} {B : List Rat} {U : List ByteArray} {S : List (List Rat)} (h : DepN w vp vt vb vu vs P T k B U S) :
 ∃ Q Y N X R Z M V O cs, vp = .slice Q P.length Y /\ vt = .slice N T.length X /\ vb = .slice R P.length Z /\ vu = .slice M U.length V /\ vs = .slice O S.length cs := by
 obtain ⟨Q, Y, L, -, -, -⟩ := h.p.open;obtain ⟨N, X, J, -, -, -⟩ := h.t.open;obtain ⟨R, Z, K, -, -, -⟩ := h.base.open;obtain ⟨M, V, I, -, -, -⟩ := h.unit.open;obtain ⟨O, cs, H, -, -⟩ := h.surf.shape;rw [sPl] at L;rw [h.fl B (by simp)] at K;exact ⟨Q, Y, N, X, R, Z, M, V, O, cs, L, J, K, I, H⟩
def fldN (B : List Rat) (S : List (List Rat)) (n : Nat) : List Rat := (B :: S)[n]?.getD []
theorem fNm (B : List Rat) (S : List (List Rat)) {i : Nat} (h : i <= S.length) : fldN B S i ∈ B :: S := by
 unfold fldN;rw [List.getElem?_eq_getElem (by simp; omega)];exact List.getElem_mem _
theorem fTm (B : List Rat) (S : List (List Rat)) (n : Nat) : fldT (B.map RS) (S.map fun F => F.map RS) n = (fldN B S n).map RS := by
 unfold fldT fldN;rw [<- List.map_cons (f := fun F : List Rat => F.map RS), List.getElem?_map];cases (B :: S)[n]? <;> rfl
theorem DepN.surface {w : World} {vp vt vb vu vs : Value} {P : List PtQ} {T : List Tri} {k : Nat} {B : List Rat} {U : List ByteArray} {S : List (List Rat)} (h : DepN w vp vt vb vu vs P T k B U S) (n : Nat) (X : n <= S.length) :
 ∃ p c, RdQ w (.slice p P.length c) (fldN B S n) /\ ∀ w', Below w.heap.size w w' -> Calls Tryz.prog 48 #[.agg #[vb, vu, vs], .int .i64 (n : Int)] w' (Ret (fun r _ => r = .slice p P.length c) w') := by
 obtain ⟨p, c, Z, Y⟩ := sh0 w vb vu vs _ U _ h.toT.base h.unit h.toT.surf n (by rw [List.length_map]; exact X);rw [fTm, List.length_map, h.fl _ (fNm B S X)] at Z Y;exact ⟨p, c, rSt Z, Y⟩
theorem ih0 (q : Rat) (w : World) :
 Calls Tryz.prog 43 #[.string (RS q)] w (Ret (fun r _ => r = .bool (decide (q < 0))) w) := by
 by_cases h : q < 0
 ·have Y : Hid (∀ w, _) := fun w => rSn q h w
  rw [decide_eq_true h];generalize RS q = s at *;clear h;go_enter Tryz.func43, Tryz.ntmps43;go_wp2_with fail;refine zR (Y.out w) fun X Z => ?_;go_wp2_with fail;go_ret;exact ⟨_, rfl, rfl, Z⟩
 ·have Y : Hid (∀ w, _) := fun w => rc0 q h w
  rw [decide_eq_false h];generalize RS q = s at *;clear h;go_enter Tryz.func43, Tryz.ntmps43;go_wp2_with fail;refine (Y.out w).mono ?_;rintro e X ⟨_, rfl, ⟨z, rfl, V, U⟩, Z⟩;have S : decide (z < 0) = false := decide_eq_false (by omega);go_wp2_with fail;go_ret;exact ⟨_, rfl, rfl, Z⟩
def negF (F : List Rat) : Bool := F.any fun q => decide (q < 0)
theorem if0 (w : World) (v : Value) (l : List Rat) (L : RdQ w v l) (D : l.length <= 1000) :
 Calls Tryz.prog 81 #[v, .func (.func 43) #[] #[]] w (Ret (fun r _ => ∃ z : Int, r = .int .i64 z /\ decide (0 <= z) = negF l) w) := by
 obtain ⟨p, c, rfl, -, -, U⟩ := L.open;have J := hid U;clear L U;go_enter Tryz.func81, Tryz.ntmps81;go_wp2_with fail;go_loopw [5, 8] (fun _ t8 wr => ∃ i : Nat, t8 = .int .i64 i /\ i <= l.length /\ Hid (negF (l.take i) = false) /\ Below w.heap.size w wr) (fun _ t8 _ => l.length - (RowKit.intOf t8).toNat)
 case atStart => exact ⟨0, rfl, Nat.zero_le _, rfl, Below.refl _ _⟩
 case round =>
  obtain ⟨i, rfl, E, O, Y⟩ := hrel;rcases Nat.lt_or_ge i l.length with h | h
  ·obtain ⟨b, off, rfl, Q, M⟩ := J.out (List.ne_nil_of_length_pos (by omega))
   have I := zcq Y Q (M i h);have G : (i : Int) < (l.length : Int) := by omega
   have R : Hid (decide (l[i] < 0) = true -> negF l = true) := fun X => by
    unfold negF;rw [List.any_eq_true];exact ⟨l[i], List.getElem_mem _, X⟩
   have S : Hid (decide (l[i] < 0) = false -> negF (l.take (i + 1)) = false) := fun X => by
    have N := O.out;unfold negF at N ⊢;rw [List.take_succ_eq_append_getElem h, List.any_append, N];simp only [List.any_cons, List.any_nil, Bool.or_false, Bool.false_or];exact X
   have K : Hid (∀ w, _) := fun w => ih0 l[i] w;generalize decide (l[i] < 0) = nb at *;generalize l[i] = x at *;clear M;go_wp2_with fail;refine zR (K.out wr) fun w1 hb1 => ?_;have Z := zbt Y hb1;clear I hb1;cases nb
   ·have V := hid (S.out rfl)
    clear S R;go_wp2_with fail;go_roundw
    case rel => exact ⟨i + 1, by go_num, by omega, V, Z⟩
    case measure =>
     show l.length - ((i : Int) + 1).toNat < l.length - (i : Int).toNat;omega
   ·have V := hid (R.out rfl)
    clear S R;go_wp2_with fail;go_ret;exact ⟨_, rfl, ⟨_, rfl, by rw [V.out]; exact decide_eq_true (by omega)⟩, Z⟩
  ·have H : (l.length : Int) <= (i : Int) := by omega
   have V : Hid (negF l = false) := by have X := O.out; rw [List.take_of_length_le h] at X; exact X
   go_wp2_with fail;go_ret;exact ⟨_, rfl, ⟨_, rfl, by rw [V.out]; rfl⟩, Y⟩
theorem cNa (w : World) (v : Value) (l : List Rat) (Y : RdQ w v l) (V : l.length <= 1000) :
 Calls Tryz.prog 42 #[v, .func (.func 43) #[] #[]] w (Ret (fun r _ => r = .bool (negF l)) w) := by
 have X := hid (if0 w v l Y V);obtain ⟨p, c, rfl, -, -, -⟩ := Y.open;generalize negF l = nb at *;clear Y;go_enter Tryz.func42, Tryz.ntmps42;go_wp2_with fail;refine X.out.mono ?_;rintro e S ⟨_, rfl, ⟨z, rfl, U⟩, Z⟩;go_wp2_with fail;go_ret;exact ⟨_, rfl, rfl, Z⟩
def addL (F X : List Rat) : List Rat := List.zipWith (· + ·) F X
def insS (B : List Rat) (S : List (List Rat)) (X : List Rat) (n : Nat) : List (List Rat) := S.take n ++ ((B :: S).drop n).map fun F => addL F X
noncomputable def unitE (n : Nat) (U : List ByteArray) (nm : ByteArray) (nz : Int) (X : List ByteArray) : Int :=
 if nameQ nm = false then 8 else if hasS U nm = true then 9 else if nz < 0 \/ (U.length : Int) <= nz then 3 else if errF n X ≠ 0 then errF n X else if negF (X.map numT) = true then 6 else if U.length = 60 then 4 else 0
def rowUp (F X : List Rat) (k : Nat) : List Rat := (addL F X).take k ++ F.drop k
theorem rUz (F X : List Rat) : rowUp F X 0 = F := by simp [rowUp]
theorem rUa {F X : List Rat} (h : F.length = X.length) {k : Nat} (Z : F.length <= k) : rowUp F X k = addL F X := by
 unfold rowUp;rw [List.drop_of_length_le Z, List.append_nil, List.take_of_length_le (by unfold addL; rw [List.length_zipWith]; omega)]
theorem aLl {F X : List Rat} (h : F.length = X.length) : (addL F X).length = F.length := by unfold addL; rw [List.length_zipWith]; omega
theorem rUl {F X : List Rat} (h : F.length = X.length) (k : Nat) : (rowUp F X k).length = F.length := by
 unfold rowUp;rw [List.length_append, List.length_take, List.length_drop, aLl h]; omega
theorem rh0 {F X : List Rat} (h : F.length = X.length) {k : Nat} (Z : k < F.length) : (rowUp F X k)[k]? = some F[k] := by
 unfold rowUp;rw [List.getElem?_append_right (by rw [List.length_take]; omega), List.length_take, aLl h, Nat.min_eq_left (by omega), Nat.sub_self, List.getElem?_drop, Nat.add_zero, List.getElem?_eq_getElem Z]
theorem rUs {F X : List Rat} (h : F.length = X.length) {k : Nat} (Z : k < F.length) : (rowUp F X k).set k (F[k] + X[k]) = rowUp F X (k + 1) := by
 have Y : k < (addL F X).length := by rw [aLl h]; exact Z
 have e : (addL F X)[k] = F[k] + X[k] := by simp [addL]
 have V : ((addL F X).take k).length = k := by rw [List.length_take]; omega
 unfold rowUp;rw [List.take_succ_eq_append_getElem Y, e, List.set_append_right _ _ (by omega), V, Nat.sub_self];rw [<- List.getElem_cons_drop (h := Z), List.set_cons_zero, List.append_assoc];rfl
theorem FldV.set {w : World} {B g c : Nat} {F : List Rat} (h : FldV w B (.slice (some ⟨g, 0, none⟩) F.length c) F) {k : Nat} (q : Rat) (O : k < F.length) : FldV (w.setCell ⟨g, k, none⟩ (.string (RS q))) B (.slice (some ⟨g, 0, none⟩) F.length c) (F.set k q) := by
 obtain ⟨Q, c', l, R, U, S, Z, Y, X, V⟩ := boo h (by omega);injection R with e1 e2 e3
 injection e1 with e1
 injection e1 with e1
 subst e1 e3;unfold FldV;rw [List.length_set];refine oob (S.set k (.string (RS q))) U Z Y (by rw [List.length_set]; exact X) ?_;rw [List.take_set, V];unfold cFd;rw [List.map_set]
theorem FlsD.set {E : Nat} (L : 55 ≠ E) {w : World} {B g c i k : Nat} {v : Value} {S : List (List Rat)} {F : List Rat} {us : List Value} (M : us.length = S.length) (X : w.ownsRow B E 1 v S.length us)
 (V : ∀ (i : Nat) (u : Value) (F : List Rat), us[i]? = some u -> S[i]? = some F -> FldV w B u F) (U : ∀ (i j : Nat) (u N : Value), i ≠ j -> us[i]? = some u -> us[j]? = some N -> u.ownBlock ≠ N.ownBlock)
 (Y : us[i]? = some (.slice (some ⟨g, 0, none⟩) F.length c)) (Q : S[i]? = some F) (q : Rat) (K : k < F.length) : FlsD E (w.setCell ⟨g, k, none⟩ (.string (RS q))) B v (S.set i (F.set k q)) := by
 have R := V i _ F Y Q;have O : w.grownBy (w.setCell ⟨g, k, none⟩ (.string (RS q))) (some g) := gst (grl w _) k _;have Z : v.ownBlock = none \/ v.ownBlock ≠ some g := oat X R (Ne.symm L);refine ⟨us, by rw [List.length_set]; exact M, by rw [List.length_set]; exact World.ownsRow.kept X O Z, fun j u G a b => ?_, U⟩;by_cases hji : j = i
 ·subst hji
  rw [Y] at a;cases a;rw [List.getElem?_set_self (List.getElem?_eq_some_iff.1 Q).1] at b;cases b;have := R.set q K;unfold FldV at this ⊢;rw [List.length_set] at this ⊢;exact this
 ·rw [List.getElem?_set_ne (fun e => hji e.symm)] at b
  exact World.ownsRow.kept (V j u G a b) O (.inr (fun e => U j i u _ hji a Y e))
theorem FlsD.row {E : Nat} (K : 55 ≠ E) {w : World} {B : Nat} {v : Value} {S : List (List Rat)} (h : FlsD E w B v S) {i : Nat} {F : List Rat} (O : S[i]? = some F) (G : F ≠ []) :
 ∃ Y U g c, v = .slice (some ⟨Y, 0, none⟩) S.length U /\ S.length <= U /\ U <= maxLen /\ w.cell? ⟨Y, i, none⟩ = some (.slice (some ⟨g, 0, none⟩) F.length c) /\ F.length <= c /\ c <= maxLen /\ B <= g /\ g < w.heap.size /\ Y < w.heap.size /\ Y ≠ g /\
  (∀ k (R : k < F.length), w.cell? ⟨g, k, none⟩ = some (.string (RS F[k]))) /\ (∀ k, w.frozen? ⟨g, k, none⟩ = false) /\ (∃ l, BoxN w g 55 l) /\
  ∀ w', Below w.heap.size w w' -> ∀ k q, k < F.length -> FlsD E (w'.setCell ⟨g, k, none⟩ (.string (RS q))) B v (S.set i (F.set k q)) := by
 have A := (List.getElem?_eq_some_iff.1 O).1;obtain ⟨us, I, N, M, H⟩ := h;obtain ⟨Y, U, n, rfl, C, Z, y, x, m, t⟩ := boo N (by omega);have Q : us[i]? = some us[i] := List.getElem?_eq_getElem (by omega);have z := M i us[i] F Q O;have o := List.length_pos_iff.2 G;obtain ⟨g, c, l, J, D, V, s, r, j, p⟩ := boo z (by omega);have X : w.cell? ⟨Y, i, none⟩ = some (.slice (some ⟨g, 0, none⟩) F.length c) := by
  refine Z.cell i ?_;rw [<- J, <- Q, <- t, List.getElem?_take, if_pos A]
 rw [J] at Q;refine ⟨Y, U, g, c, rfl, y, x, X, s, r, D, V.lt, Z.lt, fun e => ?_, fun k R => ?_, fun k => V.frozen k, ⟨l, V⟩, fun w' hw k q R => ?_⟩
 ·subst e
  unfold BoxN at V Z;rw [V] at Z;injection Z with Z
  injection Z with _ h5
  exact K h5
 ·refine V.cell k ?_
  have L : (l.take F.length)[k]? = (cFd F)[k]? := by rw [p]
  rw [List.getElem?_take, if_pos R] at L;rw [L];unfold cFd;rw [List.getElem?_map, List.getElem?_eq_getElem R]; rfl
 ·exact FlsD.set K I (WRA N hw) (fun i u F a b => (M i u F a b).below hw) H Q O q R
theorem iat {α : Type} (l : List α) (x : α) {n : Nat} (Y : n <= l.length) (i : Nat) : (l.take n ++ x :: l.drop n)[i]? = if i < n then l[i]? else if i = n then some x else l[i - 1]? := by
 have Z : (l.take n).length = n := by rw [List.length_take]; omega
 by_cases h : i < n
 ·rw [if_pos h, List.getElem?_append_left (by omega), List.getElem?_take, if_pos h]
 ·rw [if_neg h, List.getElem?_append_right (by omega), Z]
  by_cases h2 : i = n
  ·rw [if_pos h2, h2, Nat.sub_self]; rfl
  ·rw [if_neg h2]
   obtain ⟨m, rfl⟩ : ∃ m, i = n + 1 + m := ⟨i - (n + 1), by omega⟩;rw [show n + 1 + m - n = m + 1 by omega, List.getElem?_cons_succ, List.getElem?_drop];congr 1;omega
theorem FlsD.one {w : World} {B : Nat} {us : List Value} {S : List (List Rat)} (X : us.length = S.length) (Z : ∀ (i : Nat) (u : Value) (F : List Rat), us[i]? = some u -> S[i]? = some F -> FldV w B u F) : ∀ u ∈ us, u.oneCell' = true := fun u hu => by
 obtain ⟨i, Y, rfl⟩ := List.getElem_of_mem hu;obtain ⟨p, c, e⟩ := (Z i us[i] S[i] (List.getElem?_eq_getElem Y) (List.getElem?_eq_getElem (by omega))).shape;rw [e]; rfl
theorem FlsD.ins {E : Nat} {w : World} {B M n : Nat} {v' u : Value} {S : List (List Rat)} {us : List Value} {F : List Rat} (t : us.length = S.length) (v : n <= S.length)
 (N : ∀ (i : Nat) (u : Value) (F : List Rat), us[i]? = some u -> S[i]? = some F -> FldV w B u F) (X : ∀ (i j : Nat) (u J : Value), i ≠ j -> us[i]? = some u -> us[j]? = some J -> u.ownBlock ≠ J.ownBlock)
 (D : ∀ (i : Nat) (u : Value) (b : Nat), us[i]? = some u -> u.ownBlock = some b -> b < M)
 (Y : w.ownsRow B E 1 v' (S.length + 1) (us.take n ++ u :: us.drop n)) (K : FldV w M u F) (O : F ≠ []) (Q : B <= M) : FlsD E w B v' (S.take n ++ F :: S.drop n) := by
 have Z : ∃ b, u.ownBlock = some b /\ M <= b := by
  obtain ⟨H, V⟩ := K;rcases V with ⟨rfl, U⟩ | ⟨g, cap, I, rfl, A, _⟩
  ·exact absurd (List.length_eq_zero_iff.1 U) O
  ·exact ⟨g, rfl, A⟩
 obtain ⟨b, Z, C⟩ := Z;have L : (S.take n ++ F :: S.drop n).length = S.length + 1 := by
  rw [List.length_append, List.length_take, List.length_cons, List.length_drop]; omega
 refine ⟨us.take n ++ u :: us.drop n, ?_, by rw [L]; exact Y, fun i x G a c => ?_, fun i j x y hij a c => ?_⟩
 ·rw [L, List.length_append, List.length_take, List.length_cons, List.length_drop]; omega
 ·rw [iat us u (by omega)] at a
  rw [iat S F v] at c;split at a <;> rename_i hh
  ·rw [if_pos hh] at c
   exact N i x G a c
  ·rw [if_neg hh] at c
   split at a <;> rename_i hh2
   ·rw [if_pos hh2] at c
    cases a; cases c;exact K.base Q
   ·rw [if_neg hh2] at c
    exact N _ x G a c
 ·rw [iat us u (by omega)] at a c
  have R : ∀ {k : Nat} {z : Value}, us[k]? = some z -> z.ownBlock ≠ u.ownBlock := fun hz e => by
   have := D _ _ b hz (e.trans Z);omega
  split at a <;> rename_i H
  ·split at c <;> rename_i V
   ·exact X i j x y hij a c
   ·split at c <;> rename_i U
    ·cases c; exact R a
    ·exact X i (j - 1) x y (by omega) a c
  ·split at a <;> rename_i h5'
   ·cases a
    split at c <;> rename_i V
    ·exact fun e => R c e.symm
    ·split at c <;> rename_i U
     ·omega
     ·exact fun e => R c e.symm
   ·split at c <;> rename_i V
    ·exact X (i - 1) j x y (by omega) a c
    ·split at c <;> rename_i U
     ·cases c; exact R a
     ·exact X (i - 1) (j - 1) x y (by omega) a c
def midR (Z : List (List Rat)) (X : List Rat) (n i k : Nat) : List (List Rat) := Z.mapIdx fun j F => if n <= j /\ j < i then addL F X else if j = i then rowUp F X k else F
theorem mRa (Z : List (List Rat)) (X : List Rat) (n i k j : Nat) : (midR Z X n i k)[j]? = (Z[j]?).map fun F => if n <= j /\ j < i then addL F X else if j = i then rowUp F X k else F := by
 unfold midR;rw [List.getElem?_mapIdx]
theorem mRl (Z : List (List Rat)) (X : List Rat) (n i k : Nat) : (midR Z X n i k).length = Z.length := by unfold midR; rw [List.length_mapIdx]
theorem mRs (Z : List (List Rat)) (X : List Rat) (n : Nat) : midR Z X n n 0 = Z := by
 refine List.ext_getElem? fun j => ?_;rw [mRa];cases Z[j]? with
 | none => rfl
 | some F =>
   simp only [Option.map_some];rw [if_neg (by omega)];split
   ·rw [rUz]
   ·rfl
theorem mRh {Z : List (List Rat)} {X : List Rat} {n i k : Nat} {F : List Rat} (h : Z[i]? = some F) : (midR Z X n i k)[i]? = some (rowUp F X k) := by
 rw [mRa, h, Option.map_some, if_neg (by omega), if_pos rfl]
theorem mf0 {Z : List (List Rat)} {X : List Rat} {n i k : Nat} {F : List Rat} (h : Z[i]? = some F) (Y : F.length = X.length) (V : k < F.length) : (midR Z X n i k).set i ((rowUp F X k).set k (F[k] + X[k])) = midR Z X n i (k + 1) := by
 refine List.ext_getElem? fun j => ?_;by_cases hj : j = i
 ·subst hj
  rw [List.getElem?_set_self (by rw [mRl]; exact (List.getElem?_eq_some_iff.1 h).1), mRh h, rUs Y V]
 ·rw [List.getElem?_set_ne (fun e => hj e.symm), mRa, mRa]
  cases Z[j]? with
  | none => rfl
  | some G =>
    simp only [Option.map_some];rw [if_neg hj, if_neg hj]
theorem mRn {Z : List (List Rat)} {X : List Rat} {n i : Nat} (U : n <= i) (Y : ∀ F ∈ Z, F.length = X.length) : midR Z X n i X.length = midR Z X n (i + 1) 0 := by
 refine List.ext_getElem? fun j => ?_;rw [mRa, mRa];cases hz : Z[j]? with
 | none => rfl
 | some F =>
   have V := Y F (List.mem_of_getElem? hz);simp only [Option.map_some];congr 1;by_cases h1 : n <= j /\ j < i
   ·rw [if_pos h1, if_pos (by omega)]
   ·rw [if_neg h1]
    by_cases h2 : j = i
    ·rw [if_pos h2, if_pos (by omega), rUa V (by omega)]
    ·rw [if_neg h2, if_neg (by omega)]
     split
     ·rw [rUz]
     ·rfl
theorem mRe {B : List Rat} {S : List (List Rat)} {X : List Rat} {n : Nat} (V : n <= S.length) : midR (S.take n ++ fldN B S n :: S.drop n) X n (S.length + 1) 0 = insS B S X n := by
 have e : (B :: S).drop n = fldN B S n :: S.drop n := by
  have Z : n < (B :: S).length := by simp; omega
  rw [<- List.getElem_cons_drop (h := Z)];congr 1;unfold fldN;rw [List.getElem?_eq_getElem Z]; rfl
 unfold insS;rw [e];refine List.ext_getElem? fun j => ?_;have Y : (S.take n).length = n := by rw [List.length_take]; omega
 rw [mRa];by_cases h : j < n
 ·rw [List.getElem?_append_left (by omega), List.getElem?_append_left (by omega)]
  cases (S.take n)[j]? with
  | none => rfl
  | some F =>
    simp only [Option.map_some];rw [if_neg (by omega), if_neg (by omega)]
 ·rw [List.getElem?_append_right (by omega), List.getElem?_append_right (by omega), List.getElem?_map]
  cases hz : (fldN B S n :: S.drop n)[j - (S.take n).length]? with
  | none => rfl
  | some F =>
    have := (List.getElem?_eq_some_iff.1 hz).1;simp only [List.length_cons, List.length_drop] at this;simp only [Option.map_some];rw [if_pos (by omega)]
theorem sq0 (w : World) (vp vt vb vu vs : Value) (P : List PtQ) (T : List Tri) (k : Nat) (B : List Rat) (U : List ByteArray) (S : List (List Rat)) (h : DepN w vp vt vb vu vs P T k B U S) (hk : k <= 90)
 (N : ByteArray) (nz : Int) (vx : Value) (X : List ByteArray) (hx : RdS w vx X) (hX : TxtOK X) (yq : errF P.length X = 0 -> ∃ R : List Rat, X = R.map RS /\ R.length = P.length /\ ∀ q ∈ R, Sz k q) (hg : Good w) :
 Calls Tryz.prog 11 #[.agg #[vp, vt], .agg #[vb, vu, vs], .agg #[.string N, .int .i64 nz, vx]] w (Ret (fun r w' => (unitE P.length U N nz X ≠ 0 /\ r = .tuple #[.agg #[.slice none 0 0, .slice none 0 0, .slice none 0 0], .int .i64 (unitE P.length U N nz X)]) \/
  (unitE P.length U N nz X = 0 /\ ∃ v1 v2 v3, r = .tuple #[.agg #[v1, v2, v3], .int .i64 0] /\ RdQ w' v1 B /\ RdS w' v2 (U.take nz.toNat ++ N :: U.drop nz.toNat) /\ RdF w' v3 (insS B S (X.map numT) nz.toNat) /\ OwnD w' w.heap.size v1 v2 v3 B (U.take nz.toNat ++ N :: U.drop nz.toNat) (insS B S (X.map numT) nz.toNat))) w) := by
 have HD := hid h;have HX := hid hx;have xO := h.m.plen;obtain ⟨pp, cp, pt, ct, pb, cb, pu, cu, ps, cs, rfl, rfl, rfl, rfl, rfl⟩ := h.open;obtain ⟨px, cx, rfl, -, -, -⟩ := hx.open;have zh : Hid (∀ w', Below w.heap.size w w' -> Good w' -> _) := fun w' hb hg' => sa0 w' _ _ _ _ _ P T k _ U _ (h.below hb).toT hg';rw [h.ok] at zh;have zX : Hid (∀ w', _) := fun w' => iNa N w';have zW : Hid (∀ w', Below w.heap.size w w' -> _) := fun w' hb => cSa _ U N w' (h.below hb).unit;have zU : Hid (∀ w', Below w.heap.size w w' -> Good w' -> _) := fun w' hb hg' => fay w' _ _ _ P T k X (h.below hb).p (h.below hb).t h.m (RdC.below hx hb) hX.1 hX.2 hg';obtain ⟨d, hJ⟩ : ∃ r, r = unitE P.length U N nz X := ⟨_, rfl⟩;rw [<- hJ];have hQ : Hid (d = _) := hJ;unfold unitE at hQ;clear hJ h hx;have xv : U.length <= S.length + 1 := by have := HD.out.ul; omega
 have zg : S.length + 1 <= U.length := by have := HD.out.ul; omega
 have xQ := HD.out.u60;generalize xh : nameQ N = nb at *;generalize xg : hasS U N = hb' at *;clear xh xg;have H : Hid (∀ wX : World, BoxN wX (w.heap.size + 3) 45 [.slice none 0 0, .slice none 0 0, .slice none 0 0] -> Below w.heap.size w wX ->
  (((wX.setCell ⟨w.heap.size + 3, 0, none⟩ (.slice none 0 0)).setCell ⟨w.heap.size + 3, 1, none⟩ (.slice none 0 0)).setCell ⟨w.heap.size + 3, 2, none⟩ (.slice none 0 0)).cell? ⟨w.heap.size + 3, 0, none⟩ = some (.slice none 0 0) /\
  (((wX.setCell ⟨w.heap.size + 3, 0, none⟩ (.slice none 0 0)).setCell ⟨w.heap.size + 3, 1, none⟩ (.slice none 0 0)).setCell ⟨w.heap.size + 3, 2, none⟩ (.slice none 0 0)).cell? ⟨w.heap.size + 3, 1, none⟩ = some (.slice none 0 0) /\
  (((wX.setCell ⟨w.heap.size + 3, 0, none⟩ (.slice none 0 0)).setCell ⟨w.heap.size + 3, 1, none⟩ (.slice none 0 0)).setCell ⟨w.heap.size + 3, 2, none⟩ (.slice none 0 0)).cell? ⟨w.heap.size + 3, 2, none⟩ = some (.slice none 0 0) /\
  Below w.heap.size w (((wX.setCell ⟨w.heap.size + 3, 0, none⟩ (.slice none 0 0)).setCell ⟨w.heap.size + 3, 1, none⟩ (.slice none 0 0)).setCell ⟨w.heap.size + 3, 2, none⟩ (.slice none 0 0))) := fun wX hb hB => by
  have k := b3s hb (v0 := .slice none 0 0) (v1 := .slice none 0 0) (v2 := .slice none 0 0);have hi : w.heap.size <= w.heap.size + 3 := by omega
  exact ⟨k.cell 0 rfl, k.cell 1 rfl, k.cell 2 rfl, ((hB.setCell (p := ⟨w.heap.size + 3, 0, none⟩) hi _).setCell (p := ⟨w.heap.size + 3, 1, none⟩) hi _).setCell (p := ⟨w.heap.size + 3, 2, none⟩) hi _⟩
 go_enter Tryz.func11, Tryz.ntmps11;go_wp2_with fail;obtain ⟨W, hW⟩ := zex ((((w.alloc (.cells #[.slice pp P.length cp, .slice pt T.length ct] 41)).alloc (.cells #[.slice pb P.length cb, .slice pu U.length cu, .slice ps S.length cs] 45)).alloc (.cells #[.string N, .int .i64 nz, .slice px X.length cx] 35)).alloc (.cells #[.slice none 0 0, .slice none 0 0, .slice none 0 0] 45));have hB : Below w.heap.size w W := by rw [hW]; exact ((((Below.refl _ _).alloc (Nat.le_refl _) _).alloc (by simp) _).alloc (by simp; omega) _).alloc (by simp; omega) _
 have b3 : BoxN W w.heap.size 41 [.slice pp P.length cp, .slice pt T.length ct] := by rw [hW]; exact (((BoxN.new w #[.slice pp P.length cp, .slice pt T.length ct] 41 _ rfl).alloc _).alloc _).alloc _
 have b4 : BoxN W (w.heap.size + 1) 45 [.slice pb P.length cb, .slice pu U.length cu, .slice ps S.length cs] := by rw [hW]; exact ((BoxN.new _ #[.slice pb P.length cb, .slice pu U.length cu, .slice ps S.length cs] _ _ (by simp)).alloc _).alloc _
 have m : BoxN W (w.heap.size + 2) 35 [.string N, .int .i64 nz, .slice px X.length cx] := by rw [hW]; exact (BoxN.new _ #[.string N, .int .i64 nz, .slice px X.length cx] _ _ (by simp)).alloc _
 have V : BoxN W (w.heap.size + 3) 45 [.slice none 0 0, .slice none 0 0, .slice none 0 0] := by rw [hW]; exact BoxN.new _ #[.slice none 0 0, .slice none 0 0, .slice none 0 0] _ _ (by simp)
 rw [<- hW];clear hW;refine zR (zh.out W hB (hg.below hB)) fun w1 hb1 => ?_;have yi := zbt hB hb1;replace b3 := b3.bl hb1;replace b4 := b4.bl hb1;replace m := m.bl hb1;replace V := V.bl hb1;clear hb1 hB;have d0 := m.cell 0 rfl;go_wp2_with fail;refine zR (zX.out w1) fun w2 hb2 => ?_;have hT := zbt yi hb2;replace b3 := b3.bl hb2;replace b4 := b4.bl hb2;replace m := m.bl hb2;replace V := V.bl hb2;clear hb2 yi d0;obtain ⟨f0, f1, f2⟩ := zk3 V;have hn := V.frozen 0;have h7 := V.frozen 1;have ho := V.frozen 2;cases nb
 case' false =>
  have A : Hid (d = 8) := by unfold Hid; rw [hQ.out, if_pos rfl]
  go_wp2_with fail;obtain ⟨t0, t1, t2, O⟩ := H.out w2 V hT;refine bodyPost_ret (v := .tuple #[.agg #[.slice none 0 0, .slice none 0 0, .slice none 0 0], .int .i64 8]) (by simp [results, Tryz.results11, go_sem, t0, t1, t2]) rfl ⟨_, rfl, .inl ⟨by rw [A.out]; decide, by rw [A.out]⟩, O⟩
 have zj := hid (hQ.out.trans (if_neg (by decide)));clear hQ;have d0 := m.cell 0 rfl;have c1 := b4.cell 1 rfl;clear f0 f1 f2 hn h7 ho;go_wp2_with fail;refine zR (zW.out w2 hT) fun w3 hb3 => ?_;have hd := zbt hT hb3;replace b3 := b3.bl hb3;replace b4 := b4.bl hb3;replace m := m.bl hb3;replace V := V.bl hb3;clear hb3 hT d0 c1;obtain ⟨f0, f1, f2⟩ := zk3 V;have hn := V.frozen 0;have h7 := V.frozen 1;have ho := V.frozen 2;cases hb'
 case' true =>
  have A : Hid (d = 9) := by unfold Hid; rw [zj.out, if_pos rfl]
  go_wp2_with fail;obtain ⟨t0, t1, t2, O⟩ := H.out w3 V hd;refine bodyPost_ret (v := .tuple #[.agg #[.slice none 0 0, .slice none 0 0, .slice none 0 0], .int .i64 9]) (by simp [results, Tryz.results11, go_sem, t0, t1, t2]) rfl ⟨_, rfl, .inl ⟨by rw [A.out]; decide, by rw [A.out]⟩, O⟩
 have hO := hid (zj.out.trans (if_neg (by decide)));clear zj;have d1 := m.cell 1 rfl;have c1 := b4.cell 1 rfl;by_cases zz : nz < 0
 ·have A : Hid (d = 3) := by unfold Hid; rw [hO.out, if_pos (.inl zz)]
  go_wp2_with fail;obtain ⟨t0, t1, t2, O⟩ := H.out w3 V hd;refine bodyPost_ret (v := .tuple #[.agg #[.slice none 0 0, .slice none 0 0, .slice none 0 0], .int .i64 3]) (by simp [results, Tryz.results11, go_sem, t0, t1, t2]) rfl ⟨_, rfl, .inl ⟨by rw [A.out]; decide, by rw [A.out]⟩, O⟩
 by_cases zA : (U.length : Int) <= nz
 ·have A : Hid (d = 3) := by unfold Hid; rw [hO.out, if_pos (.inr zA)]
  go_wp2_with fail;obtain ⟨t0, t1, t2, O⟩ := H.out w3 V hd;refine bodyPost_ret (v := .tuple #[.agg #[.slice none 0 0, .slice none 0 0, .slice none 0 0], .int .i64 3]) (by simp [results, Tryz.results11, go_sem, t0, t1, t2]) rfl ⟨_, rfl, .inl ⟨by rw [A.out]; decide, by rw [A.out]⟩, O⟩
 have zk := hid (hO.out.trans (if_neg (by omega)));clear hO;obtain ⟨m0, m1⟩ := zk2 b3;have d2 := m.cell 2 rfl;clear f0 f1 f2 hn h7 ho;go_wp2_with fail;refine zR (zU.out w3 hd (hg.below hd)) fun w4 hb4 => ?_;have hU := zbt hd hb4;replace b3 := b3.bl hb4;replace b4 := b4.bl hb4;replace m := m.bl hb4;replace V := V.bl hb4;clear hb4 hd d1 c1 m0 m1 d2;by_cases hE : errF P.length X = 0
 case' neg =>
  have A : Hid (d = errF P.length X) := by unfold Hid; rw [zk.out, if_pos hE]
  have yZ := hid hE;have xC : (errF P.length X != 0) = true := by rw [bne_iff_ne]; exact hE
  obtain ⟨f0, f1, f2⟩ := zk3 V;have hn := V.frozen 0;have h7 := V.frozen 1;have ho := V.frozen 2;generalize errF P.length X = ez at *;clear hE;go_wp2_with fail;obtain ⟨t0, t1, t2, O⟩ := H.out w4 V hU;refine bodyPost_ret (v := .tuple #[.agg #[.slice none 0 0, .slice none 0 0, .slice none 0 0], .int .i64 ez]) (by simp [results, Tryz.results11, go_sem, t0, t1, t2]) rfl ⟨_, rfl, .inl ⟨by rw [A.out]; exact yZ.out, by rw [A.out]⟩, O⟩
 have hP := hid (zk.out.trans (if_neg (by rw [hE]; simp)));obtain ⟨R, z1, z0, ym⟩ := yq hE;have zi : Hid (X.map numT = R) := by unfold Hid; rw [z1, nTm]
 have y9 : Hid (RdQ w (.slice px X.length cx) R) := rSt (by rw [<- z1]; exact HX.out);have yp : X.length = P.length := by rw [z1, List.length_map, z0]
 rw [hE];have x4 := hid yp;rw [zi.out] at hP;have zQ : Hid (∀ w', Below w.heap.size w w' -> _) := fun w' hb => cNa w' (.slice px X.length cx) R (RdC.below y9.out hb) (by omega)
 generalize xi : negF R = ng at *;clear zk hE z1 HX hX yp yq zU zW zX zh xi;have d2 := m.cell 2 rfl;go_wp2_with fail;refine zR (zQ.out w4 hU) fun w5 hb5 => ?_;have hf := zbt hU hb5;replace b3 := b3.bl hb5;replace b4 := b4.bl hb5;replace m := m.bl hb5;replace V := V.bl hb5;clear hb5 hU d2 zQ;obtain ⟨f0, f1, f2⟩ := zk3 V;have hn := V.frozen 0;have h7 := V.frozen 1;have ho := V.frozen 2;cases ng
 case' true =>
  have A : Hid (d = 6) := by unfold Hid; rw [hP.out, if_pos rfl]
  go_wp2_with fail;obtain ⟨t0, t1, t2, O⟩ := H.out w5 V hf;refine bodyPost_ret (v := .tuple #[.agg #[.slice none 0 0, .slice none 0 0, .slice none 0 0], .int .i64 6]) (by simp [results, Tryz.results11, go_sem, t0, t1, t2]) rfl ⟨_, rfl, .inl ⟨by rw [A.out]; decide, by rw [A.out]⟩, O⟩
 have zl := hid (hP.out.trans (if_neg (by decide)));clear hP;have c1 := b4.cell 1 rfl;by_cases h60 : U.length = 60
 ·have A : Hid (d = 4) := by unfold Hid; rw [zl.out, if_pos h60]
  have yh : ((U.length : Int) == 60) = true := by rw [beq_iff_eq]; omega
  clear h60;go_wp2_with fail;obtain ⟨t0, t1, t2, O⟩ := H.out w5 V hf;refine bodyPost_ret (v := .tuple #[.agg #[.slice none 0 0, .slice none 0 0, .slice none 0 0], .int .i64 4]) (by simp [results, Tryz.results11, go_sem, t0, t1, t2]) rfl ⟨_, rfl, .inl ⟨by rw [A.out]; decide, by rw [A.out]⟩, O⟩
 have yh : ((U.length : Int) == 60) = false := by rw [beq_eq_false_iff_ne]; omega
 have x3 : Hid (d = 0) := by unfold Hid; rw [zl.out, if_neg h60]
 clear zl h60 f0 f1 f2 hn h7 ho;obtain ⟨n, rfl⟩ : ∃ n : Nat, nz = n := ⟨nz.toNat, by omega⟩;have xN : n < U.length := by omega
 have hq : n <= S.length := by omega
 have xD : 0 < P.length := by
  obtain ⟨tr, xl⟩ := List.exists_mem_of_ne_nil _ HD.out.m.some;obtain ⟨h0, h1⟩ := HD.out.m.idx tr xl tr.1 (by simp [idxOf]);omega
 have y6 : Hid (∀ w', Below w.heap.size w w' -> _) := fun w' hb => sv0 w' _ _ _ B U S (HD.out.below hb).base (HD.out.below hb).unit (HD.out.below hb).surf (fun e => by have h1 := HD.out.fl B (by simp); rw [e] at h1; simp at h1; omega) (fun e => by rw [e] at zg; simp at zg)
  (fun F hF e => by have h1 := HD.out.fl F (List.mem_cons_of_mem _ hF); rw [e] at h1; simp at h1; omega) (by have h1 := HD.out.fl B (by simp); omega) (by omega) (by omega) (fun F hF => by have h1 := HD.out.fl F (List.mem_cons_of_mem _ hF); omega)
 obtain ⟨m0, m1, m2⟩ := zk3 b4;go_wp2_with fail;have xR : w.heap.size + 4 <= w5.heap.size := by have := V.lt; omega
 refine (y6.out w5 hf).mono ?_;rintro e w6 ⟨_, rfl, ⟨v1, v2, v3, rfl, o1, o2, M, yl, x9, x8, o3⟩, z3⟩;obtain ⟨q1, k1, rfl⟩ := FldV.shape o1;obtain ⟨q2, k2, rfl⟩ := oRs o2;obtain ⟨q3, k3, rfl⟩ := o3.v.shape;clear m0 m1 m2 y6 c1;go_upto_region 18 with fail;obtain ⟨W7, h8⟩ := zex (w6.alloc (.cells #[.slice q1 B.length k1, .slice q2 U.length k2, .slice q3 S.length k3] 45));obtain ⟨z, hz⟩ := zex (w6.heap.size);have ht : BoxN W7 z 45 [.slice q1 B.length k1, .slice q2 U.length k2, .slice q3 S.length k3] := by rw [h8]; exact BoxN.new _ #[.slice q1 B.length k1, .slice q2 U.length k2, .slice q3 S.length k3] _ _ hz.symm
 have hV : Below w5.heap.size w5 W7 := by rw [h8]; exact z3.alloc z3.size _
 have zD : W7.ownsRow w5.heap.size 55 1 (.slice q1 B.length k1) B.length (cFd B) := by rw [h8]; exact World.ownsRow.alloc o1 _
 have hc := World.ownsRow.alloc o2 (.cells #[.slice q1 B.length k1, .slice q2 U.length k2, .slice q3 S.length k3] 45);rw [<- h8] at hc;have yE : FlsD 33 W7 M (.slice q3 S.length k3) S := by rw [h8]; exact o3.below ((Below.refl _ _).alloc (Nat.le_refl _) _)
 have hL : w5.heap.size <= z := by rw [hz]; exact z3.size
 rw [<- hz] at x9;have xw : z + 1 <= W7.heap.size := by rw [h8, hz]; simp
 rw [<- h8, <- hz];clear h8 o1 o2 o3 z3 hz;have zo := m.bl hV;have x1 := ht.cell 1 rfl;have xq := ht.frozen 1;have e1 := zo.cell 1 rfl;have e0 := zo.cell 0 rfl;have xn := ht.lt;have yA := hV.size;go_wp2_with fail;have ze := im0 (W7.alloc (.cells #[.string N] 9)) w5.heap.size (.slice q2 U.length k2) U.length n W7.heap.size _ (.string N) (hc.alloc _) (BoxN.new _ _ _ _ rfl) (fun u hu => by obtain ⟨y, _, rfl⟩ := List.mem_map.1 hu; rfl) rfl (by omega) (by omega) (by simp; omega) (fun e => by have := (hc.lt _ e).2; omega);refine ze.mono ?_;rintro e w8 ⟨v8, rfl, z9, hp⟩;obtain ⟨q8, k8, rfl⟩ := oRs z9;have hy := ht.alloc (.cells #[.string N] 9);have D := hy.gb hp (fun e => obN (hc.alloc (.cells #[.string N] 9)) hy (by decide) e.symm);have zE := World.ownsRow.kept (zD.alloc (.cells #[.string N] 9)) hp (oat (zD.alloc (.cells #[.string N] 9)) (hc.alloc (.cells #[.string N] 9)) (by decide));have yF : FlsD 33 w8 M (.slice q3 S.length k3) S := (yE.below ((Below.refl _ _).alloc (Nat.le_refl _) (.cells #[.string N] 9))).kept hp (fun x e s n xs he h => oat h (hc.alloc (.cells #[.string N] 9)) (by rcases he with rfl | rfl <;> decide));have yj : Below w5.heap.size w5 w8 := (hV.alloc yA (.cells #[.string N] 9)).grown hp (by simp; omega) (fun j hj => (hc.lt j hj).1);have xp := D.cell 1 rfl;have yU := D.frozen 1;clear ze x1 xq e1 e0 zo hy;go_upto_region 19 with fail;obtain ⟨W9, hC⟩ := zex (w8.setCell ⟨z, 1, none⟩ (.slice q8 (U.length + 1) k8));have hH : w8.grownBy W9 (some z) := by rw [hC]; exact gst (grl w8 _) 1 _
 have zd : BoxN W9 z 45 [.slice q1 B.length k1, .slice q8 (U.length + 1) k8, .slice q3 S.length k3] := by rw [hC]; exact D.set 1 _
 have yD := World.ownsRow.kept zE hH (.inr (fun e => obN zE D (by decide) e.symm));have za := World.ownsRow.kept z9 hH (.inr (fun e => obN z9 D (by decide) e.symm));have yG := yF.kept hH (fun x e s n xs he h => .inr (fun e' => obN h D (by rcases he with rfl | rfl <;> decide) e'.symm));have zt : Below w5.heap.size w5 W9 := by rw [hC]; exact yj.setCell (p := ⟨z, 1, none⟩) hL _
 rw [<- hC];have yB : W7.heap.size <= W9.heap.size := by have h1 := hp.size; have h2 := hH.size; simp at h1; omega
 clear hC hH zE z9 yF D xp yU zD hc yE ht hV yj yA xn hp;have y0 : Hid ((U.map fun x => Value.string x).take n ++ Value.string N :: (U.map fun x => Value.string x).drop n = (U.take n ++ N :: U.drop n).map fun x => Value.string x) := by unfold Hid; simp
 rw [y0.out] at za;have yo : (U.take n ++ N :: U.drop n).length = U.length + 1 := by simp; omega
 have zm := hid yo;clear yo y0;obtain ⟨U1, zv⟩ := zex (U.take n ++ N :: U.drop n);rw [<- zv] at za zm;have y8 := hid zv;clear zv;obtain ⟨pf, cf, hD, yn⟩ := (HD.out).surface n hq;have hr : Hid ((fldN B S n).length = P.length) := HD.out.fl _ (fNm B S hq);have zP : Hid (∀ w', Below w.heap.size w w' -> Calls Tryz.prog 47 #[.slice pf P.length cf] w' (Ret (fun r w2 => FldV w2 w'.heap.size r (fldN B S n)) w')) := fun w' hb =>
  cf0 w' _ _ (RdC.below hD hb) (fun e => by have := hr.out; rw [e] at this; simp at this; omega) (by have := hr.out; omega)
 have y7 := hid yn;have h4 : Hid (∀ w', Below w5.heap.size w5 w' -> Below w.heap.size w w') := fun w' hb => (zbt hf hb);have L : Hid (∀ w', Below w5.heap.size w5 w' -> (w'.cell? ⟨w.heap.size + 1, 0, none⟩ = some (.slice pb P.length cb) /\ w'.cell? ⟨w.heap.size + 1, 1, none⟩ = some (.slice pu U.length cu) /\ w'.cell? ⟨w.heap.size + 1, 2, none⟩ = some (.slice ps S.length cs)) /\ w'.cell? ⟨w.heap.size + 2, 1, none⟩ = some (.int .i64 n)) := fun w' hb => by
  have y4 := b4.bl hb;have y5 := m.bl hb;exact ⟨⟨y4.cell 0 rfl, y4.cell 1 rfl, y4.cell 2 rfl⟩, y5.cell 1 rfl⟩
 clear yn hD;have g0 : Below w5.heap.size w5 W9.drew := zt.trans ((bdN W9 1).mono zt.size);have c0 : BoxN W9.drew z 45 [.slice q1 B.length k1, .slice q8 (U.length + 1) k8, .slice q3 S.length k3] := zd.drew;have yN := odw yD;have yQ := odw za;have yT := yG.below (bdN W9 1);have yV := c0.cell 2 rfl;have xS := zt.size;have xx : W7.heap.size <= W9.heap.size := yB;clear yD za yG zd;go_upto_region 19 with fail;refine AnyL.region (S := Till 12 (fun w' => (w'.cell? ⟨w.heap.size + 1, 0, none⟩ = some (.slice pb P.length cb) /\ w'.cell? ⟨w.heap.size + 1, 1, none⟩ = some (.slice pu U.length cu) /\ w'.cell? ⟨w.heap.size + 1, 2, none⟩ = some (.slice ps S.length cs)) /\ w'.cell? ⟨w.heap.size + 2, 1, none⟩ = some (.int .i64 n)) (fun w' => w'.cell? ⟨z, 2, none⟩ = some (.slice q3 S.length k3))) (by kernel_rfl) ?_;have Y : Till 12 (fun w' => (w'.cell? ⟨w.heap.size + 1, 0, none⟩ = some (.slice pb P.length cb) /\ w'.cell? ⟨w.heap.size + 1, 1, none⟩ = some (.slice pu U.length cu) /\ w'.cell? ⟨w.heap.size + 1, 2, none⟩ = some (.slice ps S.length cs)) /\ w'.cell? ⟨w.heap.size + 2, 1, none⟩ = some (.int .i64 n)) (fun w' => w'.cell? ⟨z, 2, none⟩ = some (.slice q3 S.length k3)) (Array.replicate 13 false) _ := ⟨L.out _ g0, fun _ => yV⟩;refine zlk 0 Y ?_;try simp only [Act.put]
 refine AnyL.take2 (i := 1) (oi := _) (v := ?_) rfl (by kernel_rfl) (by kernel_rfl) (by kernel_rfl) (by decide) (ok := _) rfl (by kernel_rfl) (by kernel_rfl) (fun _ _ _ h => h) (Or.inl ⟨by rfl, ?_⟩) ⟨Y.1, fun _ => Y.2 (by rfl)⟩ ?_;rotate_left
 ·intro w zu; (try dsimp only at zu); first | (go_simp; done) | (go_simp; with_reducible rfl)
 try simp only [Act.put]
 refine zlk 2 Y ?_;try simp only [Act.put]
 refine zlk 3 Y ?_;try simp only [Act.put]
 refine zlk 4 Y ?_;try simp only [Act.put]
 refine zlk 5 Y ?_;try simp only [Act.put]
 refine zlk 6 Y ?_;try simp only [Act.put]
 refine AnyL.one (i := 7) (o := _) (by kernel_rfl) rfl (fun K hK => ?_);go_simp
 (refine (y7.out _ (h4.out _ g0)).mono ?_; rintro e y1 ⟨_, rfl, rfl, J⟩; have g1 := zbt g0 J; have c1 := c0.bl J; have yO := WRA yN J; have yR := WRA yQ J; obtain ⟨us, h0, h1, h2, h3⟩ := yT.below J; have zY := hid (FlsD.lt h0 h2); have yW := c1.cell 2 rfl; have s1 := J.size)
 refine hK.out _ _ ⟨L.out _ g1, fun hk => yW⟩ (fun Y => ?_);clear hK K;try simp only [Act.put]
 refine AnyL.one (i := 8) (o := _) (by kernel_rfl) rfl (fun K hK => ?_);go_simp
 (refine (zP.out _ (h4.out _ g1)).mono ?_; rintro e y2 ⟨vF, rfl, hF, h9⟩; obtain ⟨pF, cF, rfl⟩ := FldV.shape hF; have g2 := zbt g1 h9; have c2 := c1.bl h9; have zH := WRA yO h9; have zJ := WRA yR h9; have hR := WRA h1 h9; have hS : ∀ (i : Nat) (u : Value) (F : List Rat), us[i]? = some u -> S[i]? = some F -> FldV y2 M u F := fun i u F a b => (h2 i u F a b).below h9; have zL := c2.cell 2 rfl; have s2 := h9.size)
 refine hK.out _ _ ⟨L.out _ g2, fun hk => zL⟩ (fun Y => ?_);clear hK K;try simp only [Act.put]
 refine AnyL.one (i := 9) (o := _) (by kernel_rfl) rfl (fun K hK => ?_);go_simp;refine hK.out _ _ ⟨L.out _ (g2.alloc g2.size _), fun hk => (cal _ zL)⟩ (fun Y => ?_);clear hK K;try simp only [Act.put]
 refine AnyL.one (i := 10) (o := _) (by kernel_rfl) rfl (fun K hK => ?_);go_simp
 (have hI := iFa (y2.alloc (.cells #[.slice pF (fldN B S n).length cF] 33)) M (.slice q3 S.length k3) S.length n y2.heap.size us (.slice pF (fldN B S n).length cF) (hR.alloc _) (BoxN.new _ _ _ _ rfl) (FlsD.one h0 hS) rfl hq (by omega) (by have : W9.heap.size <= y1.heap.size := s1; simp; omega) (fun e => by have := (hR.lt _ e).2; omega); refine hI.mono ?_; rintro e y3 ⟨vR, rfl, Q, l⟩; obtain ⟨pR, t, rfl⟩ := oRs Q; have zp := c2.alloc (.cells #[.slice pF (fldN B S n).length cF] 33); have C := hR.alloc (.cells #[.slice pF (fldN B S n).length cF] 33); have c3 := zp.gb l (fun e => obN C zp (by decide) e.symm); have zI := World.ownsRow.kept (zH.alloc (.cells #[.slice pF (fldN B S n).length cF] 33)) l (oat (zH.alloc (.cells #[.slice pF (fldN B S n).length cF] 33)) C (by decide)); have zK := World.ownsRow.kept (zJ.alloc (.cells #[.slice pF (fldN B S n).length cF] 33)) l (oat (zJ.alloc (.cells #[.slice pF (fldN B S n).length cF] 33)) C (by decide)); have g3 := (g2.alloc g2.size (.cells #[.slice pF (fldN B S n).length cF] 33)).grown l (by have := g2.size; simp; omega) (fun j hj => Nat.le_trans yl (C.lt j hj).1); have zS := hid (FlsD.ins (E := 33) (M := y1.heap.size) h0 hq (fun i u F a b => World.ownsRow.kept (World.ownsRow.alloc (hS i u F a b) (.cells #[.slice pF (fldN B S n).length cF] 33)) l (oat (World.ownsRow.alloc (hS i u F a b) (.cells #[.slice pF (fldN B S n).length cF] 33)) C (by decide))) h3 zY.out Q (World.ownsRow.kept (World.ownsRow.alloc hF (.cells #[.slice pF (fldN B S n).length cF] 33)) l (oat (World.ownsRow.alloc hF (.cells #[.slice pF (fldN B S n).length cF] 33)) C (by decide))) (fun e => by have := hr.out; rw [e] at this; simp at this; omega) (by have : W9.heap.size <= y1.heap.size := s1; omega)); have yX := c3.cell 2 rfl; have yY := c3.frozen 2; clear hI zp C)
 refine hK.out _ _ ⟨L.out _ g3, fun hk => yX⟩ (fun Y => ?_);clear hK K;try simp only [Act.put]
 refine zlk 11 Y ?_;try simp only [Act.put]
 refine AnyL.one (i := 12) (o := _) (by kernel_rfl) rfl (fun K hK => ?_);go_simp;refine hK.out _ _ ⟨L.out _ (g3.setCell (p := ⟨z, 2, none⟩) hL _), fun hk => (by simp at hk)⟩ (fun Y => ?_);clear hK K;try simp only [Act.put]
 refine AnyL.done (by kernel_rfl) ?_ _;obtain ⟨W4, hA⟩ := zex (y3.setCell ⟨z, 2, none⟩ (.slice pR (S.length + 1) t));have z5 : y3.grownBy W4 (some z) := by rw [hA]; exact gst (grl y3 _) 2 _
 have c4 : BoxN W4 z 45 [.slice q1 B.length k1, .slice q8 (U.length + 1) k8, .slice pR (S.length + 1) t] := by rw [hA]; exact c3.set 2 _
 have yP := World.ownsRow.kept zI z5 (.inr (fun e => obN zI c3 (by decide) e.symm));have yS := World.ownsRow.kept zK z5 (.inr (fun e => obN zK c3 (by decide) e.symm));have d4 := zS.out.kept z5 (fun x e s n xs he h => .inr (fun e' => obN h c3 (by rcases he with rfl | rfl <;> decide) e'.symm));have g4 : Below w5.heap.size w5 W4 := by rw [hA]; exact g3.setCell (p := ⟨z, 2, none⟩) hL _
 rw [<- hA];clear hA z5 zI zK zS c3 g3 yX yY l Q zH zJ hR hS zL c2 g2 hF h9 yO yR h1 h2 h3 zY yW c1 g1 J yN yQ yT c0 yV g0 zP y7 L;obtain ⟨Z, hZ⟩ := zex (S.take n ++ fldN B S n :: S.drop n);have ys : Z.length = S.length + 1 := by rw [hZ]; simp; omega
 have yr : ∀ F ∈ Z, F.length = R.length /\ ∀ q ∈ F, Sz k q := fun F hF => by
  have hm : F ∈ B :: S := by
   rw [hZ] at hF;rcases List.mem_append.1 hF with h1 | h1
   ·exact List.mem_cons_of_mem _ (List.mem_of_mem_take h1)
   ·rcases List.mem_cons.1 h1 with rfl | h2
    ·exact fNm B S hq
    ·exact List.mem_cons_of_mem _ (List.mem_of_mem_drop h2)
  exact ⟨(HD.out.fl F hm).trans z0.symm, HD.out.fs F hm⟩
 have zT : Hid (midR Z R n (S.length + 1) 0 = insS B S R n) := by unfold Hid; rw [hZ]; exact mRe hq
 rw [<- hZ] at d4;have yd : FlsD 33 W4 M (.slice pR (S.length + 1) t) (midR Z R n n 0) := by rw [mRs]; exact d4
 have ya := hid yr;have zn := hid ys;have hN := hid z0;have zZ := hid ym;have zy := HD.out.m.kpos;clear d4 hZ yr ys z0 ym h0 us;have e1 := (m.bl g4).cell 1 rfl;obtain ⟨bx, ox, xA, xm, yu, yz⟩ := y9.out.cells (by have := hN.out; omega);injection xm with hv1 hv2 hv3
 clear hv2;subst hv1 hv3;go_wp2_with fail;go_loopw [11] (fun t11 wr => ∃ i : Nat, t11 = .int .i64 i /\ n <= i /\ i <= S.length + 1 /\ BoxN wr z 45 [.slice q1 B.length k1, .slice q8 (U.length + 1) k8, .slice pR (S.length + 1) t] /\
  FlsD 33 wr M (.slice pR (S.length + 1) t) (midR Z R n i 0) /\ FldV wr w5.heap.size (.slice q1 B.length k1) B /\ wr.ownsRow w5.heap.size 9 1 (.slice q8 (U.length + 1) k8) (U.length + 1) (U1.map fun x => Value.string x) /\ Below w5.heap.size w5 wr) (fun t11 _ => S.length + 1 - (RowKit.intOf t11).toNat)
 case atStart => exact ⟨n, rfl, Nat.le_refl _, by omega, c4, yd, yP, yS, g4⟩
 case round =>
  obtain ⟨i, rfl, xk, xI, cr, dr, p1, p2, gr⟩ := hrel;have x2 := cr.cell 2 rfl;clear c4 yd yP yS g4 e1;rcases Nat.lt_or_ge i (S.length + 1) with xM | xH
  ·have xJ : (i : Int) < (S.length : Int) + 1 := by omega
   obtain ⟨F, hF⟩ : ∃ F, Z[i]? = some F := ⟨_, List.getElem?_eq_getElem (by have := zn.out; omega)⟩;obtain ⟨hY, yk⟩ := ya.out F (List.mem_of_getElem? hF);have x7 : F ≠ [] := fun e => by rw [e] at hY; simp at hY; have := hN.out; omega
   have Q := mRh (X := R) (n := n) (k := 0) hF;rw [rUz] at Q;obtain ⟨gR, xz, g, c, hv, zz, zA, xc, -, -, -, -, -, -, -, -, -, -⟩ := dr.row (by decide) Q x7;rw [mRl, zn.out] at hv zz;injection hv with hv1 hv2 hv3
   clear hv2;subst hv1 hv3;have xP : ((S.length + 1 : Nat) : Int) <= (t : Int) := by omega
   unfold maxLen at zA;have HF := hid hF;have hs := hid hY;have zV := hid yk;have xE : F.length <= 1000000 := by have := hN.out; omega
   clear hY yk Q hF;go_wp2_with fail;go_loopw [103] (fun t103 wi => ∃ j : Nat, t103 = .int .i64 j /\ j <= F.length /\ BoxN wi z 45 [.slice q1 B.length k1, .slice q8 (U.length + 1) k8, .slice (some ⟨gR, 0, none⟩) (S.length + 1) t] /\
    FlsD 33 wi M (.slice (some ⟨gR, 0, none⟩) (S.length + 1) t) (midR Z R n i j) /\ FldV wi w5.heap.size (.slice q1 B.length k1) B /\ wi.ownsRow w5.heap.size 9 1 (.slice q8 (U.length + 1) k8) (U.length + 1) (U1.map fun x => Value.string x) /\ Below w5.heap.size w5 wi) (fun t103 _ => F.length - (RowKit.intOf t103).toNat)
   case atStart => exact ⟨0, rfl, Nat.zero_le _, cr, dr, p1, p2, gr⟩
   case round =>
    obtain ⟨j, rfl, hj, ci, di, zG, zb, gi⟩ := hrel;rcases Nat.lt_or_ge j F.length with z7 | xK
    ·have xL : (j : Int) < (F.length : Int) := by omega
     have z6 : j < R.length := by have := hs.out; omega
     have Q := mRh (X := R) (n := n) (k := j) HF.out;have zB : (rowUp F R j).length = F.length := rUl (hs.out) j;obtain ⟨xB, xy, I, c', hv, -, -, zx, xa, xb, xG, yw, xt, yx, hl, yv, ⟨lg, z4⟩, zf⟩ := di.row (by decide) Q (fun e => by rw [e] at zB; simp at zB; omega);rw [mRl, zn.out] at hv;injection hv with hv1 hv2 hv3
     injection hv1 with hv1
     injection hv1 with hv1
     clear hv2;subst hv1 hv3;have hD := yv j;have zw := hl j (by omega);have yt : (rowUp F R j)[j]'(by omega) = F[j] := by
      have h5 := rh0 (X := R) (hs.out) z7;rw [List.getElem?_eq_getElem (by omega)] at h5;exact Option.some.inj h5
     rw [yt] at zw;rw [zB] at zx xa;have xF : (F.length : Int) <= (c' : Int) := by omega
     unfold maxLen at xb;have zc : Hid (∀ w', Below wr.heap.size wr w' -> FlsD 33 (w'.setCell ⟨I, j, none⟩ (.string (RS (F[j] + R[j])))) M (.slice (some ⟨gR, 0, none⟩) (S.length + 1) t) (midR Z R n i (j + 1))) := fun w' hw => by
      have h5 := zf w' hw j (F[j] + R[j]) (by omega);rw [mf0 HF.out (hs.out) z7] at h5;exact h5
     have xj := (gi.cell (p := ⟨bx, ox + j, none⟩) (Nat.lt_of_lt_of_le yu (h4.out _ (Below.refl _ _)).size)).trans (((h4.out _ (Below.refl _ _)).cell (p := ⟨bx, ox + j, none⟩) yu).trans (yz j z6));rw [hh0 R j z6] at xj;have zM := hid fun w hg => rAa F[j] R[j] k zy (by omega) (zV.out _ (List.getElem_mem z7)) (zZ.out _ (List.getElem_mem z6)) w hg
     have zO := hid fun w hg => rCo (F[j] + R[j]) ((Sz.add (zV.out _ (List.getElem_mem z7)) (zZ.out _ (List.getElem_mem z6))).mono (by omega)) w hg
     generalize F[j] = f at *;generalize R[j] = x at *;have yy : I ≠ z := fun e => by
      subst e;unfold BoxN at z4 ci;rw [z4] at ci;injection ci with ci
      injection ci with _ h5
      exact absurd h5 (by decide)
     have xd : w5.heap.size <= I := by omega
     have xe : I ≠ bx := by have := (h4.out _ (Below.refl _ _)).size; omega
     have y2 := (m.bl gi).cell 2 rfl;have z2 := ci.cell 2 rfl;have L : Hid (∀ w', wr.grownBy w' (some I) -> (w'.cell? ⟨z, 2, none⟩ = some (.slice (some ⟨gR, 0, none⟩) (S.length + 1) t) /\ w'.cell? ⟨gR, i, none⟩ = some (.slice (some ⟨I, 0, none⟩) F.length c')) /\ w'.cell? ⟨w.heap.size + 2, 2, none⟩ = some (.slice (some ⟨bx, ox, none⟩) R.length cx) /\ w'.cell? ⟨bx, ox + j, none⟩ = some (.string (RS x))) := fun w' hb => by
      have key : ∀ {a : Addr} {v : Value}, wr.cell? a = some v -> a.block ≠ I -> w'.cell? a = some v := fun {a v} ha hne => by
       have h6 := hb.block a.block (World.block_lt_of_cell? wr a ha) (fun e => hne (Option.some.inj e));unfold World.cell? at ha ⊢;rw [h6];exact ha
      exact ⟨⟨key z2 (Ne.symm yy), key zx yx⟩, key (by rw [<- x4.out.trans hN.out.symm]; exact y2) (by show w.heap.size + 2 ≠ I; omega), key xj (Ne.symm xe)⟩
     have xu : (j : Int) < (R.length : Int) := by omega
     have l : Good wr := hg.below (h4.out _ gi);have k0 : wr.grownBy wr.drew (some I) := gdw (grl wr _);have yC : Below wr.heap.size wr wr.drew := bdN wr 1;have zq : wr.drew.cell? ⟨I, j, none⟩ = some (.string (RS f)) := zw;have xT := gi.size;have zN := hid z4;clear zf hl yv zx xj y2 z2 z4 Q yt yz;go_upto_region 26 with fail;refine AnyL.region (S := Till 21 (fun w' => (w'.cell? ⟨z, 2, none⟩ = some (.slice (some ⟨gR, 0, none⟩) (S.length + 1) t) /\ w'.cell? ⟨gR, i, none⟩ = some (.slice (some ⟨I, 0, none⟩) F.length c')) /\ w'.cell? ⟨w.heap.size + 2, 2, none⟩ = some (.slice (some ⟨bx, ox, none⟩) R.length cx) /\ w'.cell? ⟨bx, ox + j, none⟩ = some (.string (RS x))) (fun w' => w'.cell? ⟨I, j, none⟩ = some (.string (RS f)))) (by kernel_rfl) ?_;have Y : Till 21 (fun w' => (w'.cell? ⟨z, 2, none⟩ = some (.slice (some ⟨gR, 0, none⟩) (S.length + 1) t) /\ w'.cell? ⟨gR, i, none⟩ = some (.slice (some ⟨I, 0, none⟩) F.length c')) /\ w'.cell? ⟨w.heap.size + 2, 2, none⟩ = some (.slice (some ⟨bx, ox, none⟩) R.length cx) /\ w'.cell? ⟨bx, ox + j, none⟩ = some (.string (RS x))) (fun w' => w'.cell? ⟨I, j, none⟩ = some (.string (RS f))) (Array.replicate 22 false) _ := ⟨L.out _ k0, fun _ => zq⟩;refine zlk 0 Y ?_;try simp only [Act.put]
     refine zlk 1 Y ?_;try simp only [Act.put]
     refine zlk 2 Y ?_;try simp only [Act.put]
     refine zlk 3 Y ?_;try simp only [Act.put]
     refine zlk 4 Y ?_;try simp only [Act.put]
     refine zlk 5 Y ?_;try simp only [Act.put]
     refine zlk 6 Y ?_;try simp only [Act.put]
     refine zlk 7 Y ?_;try simp only [Act.put]
     refine zlk 8 Y ?_;try simp only [Act.put]
     refine zlk 9 Y ?_;try simp only [Act.put]
     refine zlk 10 Y ?_;try simp only [Act.put]
     refine zlk 11 Y ?_;try simp only [Act.put]
     refine zlk 12 Y ?_;try simp only [Act.put]
     refine AnyL.take2 (i := 13) (oi := _) (v := ?_) rfl (by kernel_rfl) (by kernel_rfl) (by kernel_rfl) (by decide) (ok := _) rfl (by kernel_rfl) (by kernel_rfl) (fun _ _ _ h => h) (Or.inl ⟨by rfl, ?_⟩) ⟨Y.1, fun _ => Y.2 (by rfl)⟩ ?_;rotate_left
     ·intro w zu; (try dsimp only at zu); first | (go_simp; done) | (go_simp; with_reducible rfl)
     try simp only [Act.put]
     refine zlk 14 Y ?_;try simp only [Act.put]
     refine zlk 15 Y ?_;try simp only [Act.put]
     refine zlk 16 Y ?_;try simp only [Act.put]
     refine zlk 17 Y ?_;try simp only [Act.put]
     refine zlk 18 Y ?_;try simp only [Act.put]
     refine AnyL.one (i := 19) (o := _) (by kernel_rfl) rfl (fun K hK => ?_);go_simp
     (refine (zM.out _ (l.drewN 1)).mono ?_; rintro e y1 ⟨_, rfl, rfl, J⟩; have zC := zbt yC J; have z8 : wr.grownBy y1 (some I) := gbw k0 J; have zr : y1.cell? ⟨I, j, none⟩ = some (.string (RS f)) := (zcq J (by show I < wr.heap.size; exact yw) zq :); have h7 : y1.frozen? ⟨I, j, none⟩ = false := (J.frozen (p := ⟨I, j, none⟩) (by show I < wr.heap.size; exact yw)).trans hD)
     refine hK.out _ _ ⟨L.out _ z8, fun hk => zr⟩ (fun Y => ?_);clear hK K;try simp only [Act.put]
     refine zlk 20 Y ?_;try simp only [Act.put]
     refine AnyL.one (i := 21) (o := _) (by kernel_rfl) rfl (fun K hK => ?_);go_simp;refine hK.out _ _ ⟨L.out _ (gst z8 _ _), fun hk => (by simp at hk)⟩ (fun Y => ?_);clear hK K;try simp only [Act.put]
     refine AnyL.done (by kernel_rfl) ?_ _;obtain ⟨W8, hh⟩ := zex (y1.setCell ⟨I, j, none⟩ (.string (RS (f + x))));have hM : wr.grownBy W8 (some I) := by rw [hh]; exact gst z8 _ _
     have xf : y1.grownBy W8 (some I) := by rw [hh]; exact gst (grl y1 _) _ _
     have yf : FlsD 33 W8 M (.slice (some ⟨gR, 0, none⟩) (S.length + 1) t) (midR Z R n i (j + 1)) := by rw [hh]; exact zc.out y1 zC
     have yc := ci.gb hM (fun e => yy (Option.some.inj e));have yK := World.ownsRow.kept zG hM (.inr (fun e => by have := x8 _ e; omega));have yM := World.ownsRow.kept zb hM (.inr (fun e => obN zb zN.out (by decide) e.symm));have zs : Below w5.heap.size w5 W8 := by rw [hh]; exact ((zbt gi zC)).setCell (p := ⟨I, j, none⟩) xd _
     have x5 : W8.cell? ⟨I, j, none⟩ = some (.string (RS (f + x))) := by rw [hh]; exact World.cell?_setCell_same' _ _ _ (by rw [zr]; rfl)
     obtain ⟨⟨xr, xo⟩, -, -⟩ := L.out W8 hM;rw [<- hh];clear hh hM xf zc L zM z8 zC J zr h7 zq k0 yC zw hD zG zb ci di zN;go_wp2_with fail;refine zR (zO.out W8 (hg.below (h4.out _ zs))) fun W10 hb10 => ?_;have yg := zbt zs hb10;have yb := yc.bl hb10;have yJ := WRA yK hb10;have yL := WRA yM hb10;have ye := yf.below hb10;clear hb10 zs yc yK yM yf x5 xr xo zO;go_wp2_with fail;go_roundw
     case rel => exact ⟨j + 1, by go_num, by omega, yb, ye, yJ, yL, yg⟩
     case measure =>
      show F.length - ((j : Int) + 1).toNat < F.length - ((j : Int)).toNat;omega
    ·obtain rfl : j = F.length := by omega
     have dn : FlsD 33 wr M (.slice (some ⟨gR, 0, none⟩) (S.length + 1) t) (midR Z R n (i + 1) 0) := by
      rw [hs.out, mRn xk (fun G hG => (ya.out G hG).1)] at di;exact di
     go_wp2_with fail;go_roundw
     case rel => exact ⟨i + 1, by go_num, by omega, by omega, ci, dn, zG, zb, gi⟩
     case measure =>
      show S.length + 1 - ((i : Int) + 1).toNat < S.length + 1 - ((i : Int)).toNat;omega
  ·obtain rfl : i = S.length + 1 := by omega
   have c6 := V.bl gr;obtain ⟨t0, t1, t2⟩ := zk3 c6;have f0 := c6.frozen 0;have f1 := c6.frozen 1;have f2 := c6.frozen 2;obtain ⟨x0, x1⟩ := zk2 cr;go_wp2_with fail;have kk := b3s c6 (v0 := .slice q1 B.length k1) (v1 := .slice q8 (U.length + 1) k8) (v2 := .slice pR (S.length + 1) t);have hi : w.heap.size <= w.heap.size + 3 := by omega
   have x6 := h4.out _ gr;have O := ((x6.setCell (p := ⟨w.heap.size + 3, 0, none⟩) hi (.slice q1 B.length k1)).setCell (p := ⟨w.heap.size + 3, 1, none⟩) hi (.slice q8 (U.length + 1) k8)).setCell (p := ⟨w.heap.size + 3, 2, none⟩) hi (.slice pR (S.length + 1) t);have yH := os3 p1 (by decide) c6 (x0 := .slice q1 B.length k1) (x1 := .slice q8 (U.length + 1) k8) (x2 := .slice pR (S.length + 1) t);have yI := os3 p2 (by decide) c6 (x0 := .slice q1 B.length k1) (x1 := .slice q8 (U.length + 1) k8) (x2 := .slice pR (S.length + 1) t);have zF := dr.kept (gst (gst (gst (grl wr (some (w.heap.size + 3))) 0 (.slice q1 B.length k1)) 1 (.slice q8 (U.length + 1) k8)) 2 (.slice pR (S.length + 1) t)) (fun x e s n xs he h => .inr (fun e' => obN h c6 (by rcases he with rfl | rfl <;> decide) e'.symm));obtain ⟨a0, a1, a2⟩ := zk3 kk;rw [zT.out] at zF;refine bodyPost_ret (v := .tuple #[.agg #[.slice q1 B.length k1, .slice q8 (U.length + 1) k8, .slice pR (S.length + 1) t], .int .i64 0]) (by simp [results, Tryz.results11, go_sem, a0, a1, a2]) rfl ⟨_, rfl, .inr ⟨x3.out, _, _, _, rfl, FldV.rd yH, ?_, ?_, ?_⟩, O⟩
   ·have h5 := RdC.of_owns yI
    unfold RdS;rw [Int.toNat_natCast, <- y8.out, zm.out];exact h5
   ·rw [zi.out]
    exact zF.v.rd
   ·refine ⟨FldV.base yH hf.size, ?_, ?_⟩
    ·rw [Int.toNat_natCast, <- y8.out, zm.out]
     exact oRb yI hf.size
    ·rw [zi.out]
     exact zF.v.base (Nat.le_trans hf.size yl)
open Go.Shelf
def eBR (xs : List Rat) (i : Nat) : Array Value := #[.int .i64 (i : Int), .string (RS ((xs[i]?).getD 0))]
abbrev IxR (xs : List Rat) := { i : Nat // i < xs.length }
theorem bb0 (a : Option Addr) (len cap : Nat) (w : World) :
 Calls Tryz.prog 66 #[.slice a len cap] w fun e w' => e = .returned (.func (.func 115) #[] #[.pointer (some ⟨w.heap.size, 0, none⟩)]) /\ w.alloc (.cells #[.slice a len cap] 32) = w' := by
 go_enter Tryz.func66, Tryz.ntmps66;go_wp2;go_ret;exact ⟨rfl, rfl⟩
def Keep3 (n₀ Bm : Nat) (A B : World) : Prop := Below n₀ A B /\ B.heap[Bm]? = A.heap[Bm]? /\ B.heap[Bm + 1]? = A.heap[Bm + 1]? /\ B.heap[Bm + 2]? = A.heap[Bm + 2]?
theorem Keep3.refl (n₀ Bm : Nat) (A : World) : Keep3 n₀ Bm A A := ⟨Below.refl _ _, rfl, rfl, rfl⟩
theorem Keep3.trans {n₀ Bm : Nat} {A B C : World} (h : Keep3 n₀ Bm A B) (k : Keep3 n₀ Bm B C) : Keep3 n₀ Bm A C := ⟨h.1.trans k.1, k.2.1.trans h.2.1, k.2.2.1.trans h.2.2.1, k.2.2.2.trans h.2.2.2⟩
theorem Keep3.of_below {n₀ Bm : Nat} {A B : World} (h : Below A.heap.size A B) (Y : n₀ <= A.heap.size) (Z : Bm + 2 < A.heap.size) : Keep3 n₀ Bm A B := ⟨h.mono Y, h.block _ (by omega), h.block _ (by omega), h.block _ Z⟩
theorem k3b {n₀ Bm : Nat} {w : World} (U : n₀ <= w.heap.size) (S : Bm + 2 < w.heap.size) (W : World) (l : Nat) (o Z : Obj) (V : w.heap.size <= l) (h : W.heap[l]? = some o) (Y : o.isCells = false) (X : o.isWalk = false) : Keep3 n₀ Bm W (W.putObj l Z) :=
 ⟨belowK_b U W l o Z V h Y X, World.putObj_heap_other (by omega), World.putObj_heap_other (by omega), World.putObj_heap_other (by omega)⟩
def encH (H : List Rat) (i : Nat) : Array Value := #[.int .i64 (i : Int), .string (RS ((H[i]?).getD 0))]
theorem hay (m d p : Value) (w : World) (M K N J L : Option Addr) (S Q U O R Y X Z V cs : Nat) (x y : ByteArray) (H : m = .agg #[.slice M S Y, .slice K Q X]) (I : d = .agg #[.slice N U Z, .slice J O V, .slice L R cs]) (G : p = .agg #[.string x, .string y]) :
 Calls Tryz.prog 65 #[m, d, p] w fun e w' => e = .returned (.func (.func 113) #[] #[.pointer (some ⟨w.heap.size + 1, 0, none⟩), .pointer (some ⟨w.heap.size, 0, none⟩), .pointer (some ⟨w.heap.size + 2, 0, none⟩)]) /\
  ((w.alloc (.cells #[.slice M S Y, .slice K Q X] 41)).alloc (.cells #[.slice N U Z, .slice J O V, .slice L R cs] 45)).alloc (.cells #[.string x, .string y] 73) = w' := by
 subst H I G;go_enter Tryz.func65, Tryz.ntmps65;go_wp2;go_ret;exact ⟨rfl, rfl⟩
theorem hJ0 (n : Nat) (hn : 1 <= n) (l Bm : Nat) (U : World) (hg : Good U) (d b f a c : Option Addr) (Q g X h p o q m cs : Nat) (x y : ByteArray) (H : List Rat) (hH : H.length = X) (hd : X <= 1000) (fp : Nat -> Option Addr) (fc : Nat -> Nat)
 (h2 : Hid (∀ i, i < X -> ∀ w', Below U.heap.size U w' -> Calls Tryz.prog 48 #[.agg #[.slice f Q q, .slice a X m, .slice c h cs], .int .i64 (i : Int)] w' (Ret (fun r _ => r = .slice (fp i) Q (fc i)) w')))
 (h3 : Hid (∀ i, i < X -> ∀ w', Below U.heap.size U w' -> Good w' -> Calls Tryz.prog 114 #[.agg #[.slice d Q p, .slice b g o], .slice (fp i) Q (fc i), .agg #[.string x, .string y]] w' (Ret (fun r _ => r = .tuple #[.string (RS ((H[i]?).getD 0)), .int .i64 0]) w')))
 (J Jx : List (IxR H) -> World -> Prop) (W : World) (hJ : AbidesFrom W.heap.size J) (h6 : Below U.heap.size U W)
 (bm : BoxN W Bm 41 [.slice d Q p, .slice b g o]) (bd : BoxN W (Bm + 1) 45 [.slice f Q q, .slice a X m, .slice c h cs]) (bp : BoxN W (Bm + 2) 73 [.string x, .string y])
 (hY : ∀ pre x W, J pre W -> pre.length < X -> YieldAt Fence.wide (n - 1) Tryz.prog l (encH H x.1) W fun e W' =>
   (e = .returned (.bool true) /\ J (pre ++ [x]) W' /\ Keep3 U.heap.size Bm W W') \/ (e = .returned (.bool false) /\ Jx (pre ++ [x]) W'))
 (h0 : J [] W) :
 CallsIn Fence.wide n Tryz.prog 113 #[.func (.yield l) #[] #[], .pointer (some ⟨Bm + 1, 0, none⟩), .pointer (some ⟨Bm, 0, none⟩), .pointer (some ⟨Bm + 2, 0, none⟩)] W fun e W' => (∃ v, e = .returned v) /\
  ((∃ ys : List (IxR H), ys.map Subtype.val = List.range X /\ J ys W') \/ (∃ pre : List (IxR H), pre.map Subtype.val = List.range pre.length /\ Jx pre W')) := by
 have k1 := bd.cell 1 rfl;have HH := hid hH;clear hH;refine callsIn_of_wp Tryz.func113 rfl trivial ?_ rfl;simp only [Tryz.ntmps113, List.size_toArray, List.length_cons, List.length_nil, Nat.reduceAdd, Nat.reduceSub, Array.replicate_succ, Array.replicate_zero, List.push_toArray, List.append_toArray, List.nil_append, List.cons_append]
 gi_wp2
 gi_loopw [11] (fun i wr => ∃ k : Nat, k <= X /\ i = .int .i64 (k : Int) /\ (∃ pre : List (IxR H), pre.map Subtype.val = List.range k /\ J pre wr) /\ Keep3 U.heap.size Bm W wr)
  (fun i _ => (X - RowKit.intOf i).toNat)
 case atStart => exact ⟨0, Nat.zero_le _, rfl, ⟨[], rfl, h0⟩, Keep3.refl _ _ _⟩
 case round =>
  obtain ⟨k, hk, rfl, ⟨pre, V, K⟩, S⟩ := hrel;by_cases hlt : k < X
  ·have hc : (k : Int) < (X : Int) := by omega
   have cm : BoxN wr Bm 41 [.slice d Q p, .slice b g o] := S.2.1.trans bm;have cd : BoxN wr (Bm + 1) 45 [.slice f Q q, .slice a X m, .slice c h cs] := S.2.2.1.trans bd;have cq : BoxN wr (Bm + 2) 73 [.string x, .string y] := S.2.2.2.trans bp;have O : Below U.heap.size U wr := h6.trans S.1;obtain ⟨m0, m1⟩ := zk2 cm;obtain ⟨d0, d1, d2⟩ := zk3 cd;obtain ⟨p0, p1⟩ := zk2 cq;have hz := cq.lt;have he := cd.lt;have hf := cm.lt;have z : Good wr.drew := (hg.below O).drewN 1;have L : Below U.heap.size U wr.drew := O.trans ((bdN wr 1).mono O.size);have D := hid (h2.out k hlt);have C := hid (h3.out k hlt);have t : k < H.length := by have := HH.out; omega
   have M : Hid (∀ W, J pre W -> _) := fun W hj => hY pre ⟨k, t⟩ W hj (by have := congrArg List.length V; rw [List.length_map, List.length_range] at this; omega)
   have R : (pre ++ [(⟨k, t⟩ : IxR H)]).map Subtype.val = List.range (k + 1) := by rw [List.range_succ, List.map_append, V]; rfl
   have N := hid R;have h1 := hid K;dsimp only [encH] at M;generalize RS ((H[k]?).getD 0) = zs at *;clear V R K hY
   gi_wp2
   refine wpIn_wide.2 ?_;go_region_held3 (fun w' => w'.cell? ⟨Bm, 0, none⟩ = some (.slice d Q p) /\ w'.cell? ⟨Bm, 1, none⟩ = some (.slice b g o) /\ w'.cell? ⟨Bm + 1, 0, none⟩ = some (.slice f Q q) /\ w'.cell? ⟨Bm + 1, 1, none⟩ = some (.slice a X m) /\ w'.cell? ⟨Bm + 1, 2, none⟩ = some (.slice c h cs) /\ w'.cell? ⟨Bm + 2, 0, none⟩ = some (.string x) /\ w'.cell? ⟨Bm + 2, 1, none⟩ = some (.string y))
    (first | exact ⟨m0, m1, d0, d1, d2, p0, p1⟩ | exact ⟨p_1_0, p_1_1, p_1_2, p_1_3, p_1_4, p_1_5, p_1_6⟩ | exact ⟨p_2_0, p_2_1, p_2_2, p_2_3, p_2_4, p_2_5, p_2_6⟩)
    (first
    | (go_at_call 114; refine (C.out _ ((zbt L Z)) G).mono ?_; rintro e E ⟨_, rfl, rfl, Y⟩
       have p_2_0 := zct Y p_1_0;have p_2_1 := zct Y p_1_1;have p_2_2 := zct Y p_1_2;have p_2_3 := zct Y p_1_3;have p_2_4 := zct Y p_1_4;have p_2_5 := zct Y p_1_5;have p_2_6 := zct Y p_1_6;have ha := Y.size;have h8 := G.below Y)
    | (go_at_call 48; refine (D.out _ L).mono ?_; rintro e hb ⟨_, rfl, rfl, Z⟩
       have p_1_0 := zct Z m0;have p_1_1 := zct Z m1;have p_1_2 := zct Z d0;have p_1_3 := zct Z d1;have p_1_4 := zct Z d2;have p_1_5 := zct Z p0;have p_1_6 := zct Z p1;have h9 : wr.heap.size <= hb.heap.size := Z.size;have G := z.below Z))
   have I : Below wr.heap.size wr E := zbt (zbt (bdN wr 1) Z) Y;have A : wr.grownBy E none := ⟨I.os, I.tape, I.output, I.size, fun j hj _ => I.block j hj⟩;have h4 := hJ _ _ _ _ h1.out A (fun r e => by cases e);have s := S.trans (Keep3.of_below (Bm := Bm) I O.size hz);obtain ⟨fn, tmps, assign, body, hy, hR⟩ := M.out E h4;clear I Z Y h9 ha G h8 z L D C m0 m1 d0 d1 d2 p0 p1 M A
   gi_wp2
   refine hR.mono ?_;rintro e W3 (⟨rfl, h5, h7⟩ | ⟨rfl, B⟩)
   ·gi_wp2
    go_roundw
    case rel => exact ⟨k + 1, by omega, by go_num, ⟨_, N.out, h5⟩, s.trans h7⟩
    case measure => simp [RowKit.intOf]; omega
   ·gi_wp2
    refine bodyPost_ret (results_none rfl _ _ _) rfl ?_;have hl := congrArg List.length N.out;rw [List.length_map, List.length_range] at hl;exact ⟨⟨_, rfl⟩, .inr ⟨_, by rw [N.out, hl], B⟩⟩
  ·obtain rfl : k = X := by omega
   gi_wp2
   go_end0;exact ⟨⟨_, rfl⟩, .inl ⟨_, V, K⟩⟩
theorem ht0 (n : Nat) (q : 1 <= n) (Bm : Nat) (Y : World) (s : Good Y) (E C G B D : Option Addr) (X I Z K R Q S O cs : Nat) (x y : ByteArray) (H : List Rat) (t : H.length = Z) (L : Z <= 1000) (M : Nat -> Option Addr) (N : Nat -> Nat)
 (V : Hid (∀ i, i < Z -> ∀ w', Below Y.heap.size Y w' -> Calls Tryz.prog 48 #[.agg #[.slice G X S, .slice B Z O, .slice D K cs], .int .i64 (i : Int)] w' (Ret (fun r _ => r = .slice (M i) X (N i)) w')))
 (U : Hid (∀ i, i < Z -> ∀ w', Below Y.heap.size Y w' -> Good w' -> Calls Tryz.prog 114 #[.agg #[.slice E X R, .slice C I Q], .slice (M i) X (N i), .agg #[.string x, .string y]] w' (Ret (fun r _ => r = .tuple #[.string (RS ((H[i]?).getD 0)), .int .i64 0]) w')))
 (w : World) (hw : Below Y.heap.size Y w) (z : BoxN w Bm 41 [.slice E X R, .slice C I Q]) (A : BoxN w (Bm + 1) 45 [.slice G X S, .slice B Z O, .slice D K cs]) (v : BoxN w (Bm + 2) 73 [.string x, .string y]) :
 SeqStopsK Fence.wide n Tryz.prog 113 #[.pointer (some ⟨Bm + 1, 0, none⟩), .pointer (some ⟨Bm, 0, none⟩), .pointer (some ⟨Bm + 2, 0, none⟩)] (fun x : IxR H => encH H x.1) (Keep3 Y.heap.size Bm) (fun ys => ys.map Subtype.val = List.range Z) (fun pre => pre.map Subtype.val = List.range pre.length) Z w := fun l J Jx W hW hJ _ hY h0' =>
 hJ0 n q l Bm Y s E C G B D X I Z K R Q S O cs x y H t L M N V U J Jx W hJ ((zbt hw hW)) (z.bl hW) (A.bl hW) (v.bl hW) hY h0'
theorem cPe (w : World) (Q N R M O : Value) (P : List PtQ) (T : List Tri) (k : Nat) (b U : List ByteArray) (S : List (List ByteArray)) (h : DepT w Q N R M O P T k b U S) (x y z : ByteArray) (V : depE P T b U S ≠ 0) (G : Good w) :
 Calls Tryz.prog 64 #[.agg #[Q, N], .agg #[R, M, O], .agg #[.string x, .string y, .string z]] w (Ret (fun r _ => r = .int .i64 (depE P T b U S)) w) := by
 have Z : Hid (∀ w', Below w.heap.size w w' -> Good w' -> _) := fun w' hb hg' => sa0 w' _ _ _ _ _ P T k b U S (h.below hb) hg';have L : (depE P T b U S != 0) = true := by rw [bne_iff_ne]; exact V
 generalize depE P T b U S = ez at *;obtain ⟨D, J, rfl, -, -, -⟩ := h.p.open;obtain ⟨B, I, rfl, -, -, -⟩ := h.t.open;obtain ⟨E, K, rfl, -, -, -⟩ := h.base.open;obtain ⟨A, H, rfl, -, -, -⟩ := h.unit.open;obtain ⟨C, cs, rfl, -, -⟩ := h.surf.shape;clear h V;go_enter Tryz.func64, Tryz.ntmps64;go_wp2_with fail;have Y : ∀ o1 o2 o3 : Obj, Below w.heap.size w (((w.alloc o1).alloc o2).alloc o3) := fun o1 o2 o3 => (((Below.refl _ _).alloc (Nat.le_refl _) _).alloc (by simp) _).alloc (by simp; omega) _
 refine zR (Z.out _ (Y _ _ _) (G.below (Y _ _ _))) fun w1 hb1 => ?_;have X := (Y (.cells #[.slice D (strP P).length J, .slice B T.length I] 41) (.cells #[.slice E b.length K, .slice A U.length H, .slice C S.length cs] 45) (.cells #[.string x, .string y, .string z] 83)).trans (hb1.mono (by simp; omega));go_wp2_with fail;go_ret;exact ⟨_, rfl, rfl, X⟩
theorem cPo (w : World) (s o t n q : Value) (P : List PtQ) (T : List Tri) (k : Nat) (B : List Rat) (U : List ByteArray) (S : List (List Rat)) (h : DepN w s o t n q P T k B U S) (p : PtQ) (z : Rat) (R : SzP 200 p) (E : Sz 200 z) (G : Good w) :
 Calls Tryz.prog 64 #[.agg #[s, o], .agg #[t, n, q], .agg #[.string (RS p.1), .string (RS p.2), .string (RS z)]] w (Ret (fun r _ => r = .int .i64 (if locN P T p T.length = [] then 28 else 0)) w) := by
 have Q : Hid (∀ w', Below w.heap.size w w' -> Good w' -> _) := fun w' hb hg' => sa0 w' _ _ _ _ _ P T k _ U _ (h.below hb).toT hg';rw [h.ok] at Q;have N : Hid (∀ w', Good w' -> _) := fun w' hg' => cVa (RS p.1) (RS p.2) (RS z) (by have := R.1.size (by omega); omega) (by have := R.2.size (by omega); omega) (by have := E.size (by omega); omega) w' hg'
 have v : eNm (allQ [RS p.1, RS p.2, RS z]) = 0 := by
  unfold allQ;simp only [List.all_cons, List.all_nil, Bool.and_true];rw [Rlt, Rlt, Rlt, rQR R.1, rQR R.2, rQR E];rfl
 rw [v] at N;have O : Hid (∀ w', Below w.heap.size w w' -> Good w' -> _) := fun w' hb hg' => cok w' _ _ P T k (h.below hb).p (h.below hb).t h.m p R hg';have A : decide ((0 : Int) < ((locN P T p T.length).length : Int)) = !decide (locN P T p T.length = []) := by
  cases locN P T p T.length with
  | nil => rfl
  | cons a l => simp
 rw [A] at O;have Z : Hid ((if locN P T p T.length = [] then (28 : Int) else 0) = if decide (locN P T p T.length = []) = true then 28 else 0) := by
  unfold Hid;by_cases hl : locN P T p T.length = [] <;> simp [hl]
 rw [Z.out];obtain ⟨D, I, C, H, f, m, d, j, e, cs, rfl, rfl, rfl, rfl, rfl⟩ := h.open;generalize decide (locN P T p T.length = []) = lb at *;generalize RS p.1 = x at *;generalize RS p.2 = y at *;generalize RS z = zz at *;clear h v A Z R E;go_enter Tryz.func64, Tryz.ntmps64;go_wp2_with fail;obtain ⟨W, K⟩ := zex (((w.alloc (.cells #[.slice D P.length I, .slice C T.length H] 41)).alloc (.cells #[.slice f P.length m, .slice d U.length j, .slice e S.length cs] 45)).alloc (.cells #[.string x, .string y, .string zz] 83));have J : Below w.heap.size w W := by rw [K]; exact (((Below.refl _ _).alloc (Nat.le_refl _) _).alloc (by simp) _).alloc (by simp; omega) _
 have M : BoxN W w.heap.size 41 [.slice D P.length I, .slice C T.length H] := by rw [K]; exact ((BoxN.new w #[.slice D P.length I, .slice C T.length H] 41 _ rfl).alloc _).alloc _
 have V : BoxN W (w.heap.size + 2) 83 [.string x, .string y, .string zz] := by rw [K]; exact BoxN.new _ #[.string x, .string y, .string zz] _ _ (by simp)
 rw [<- K];clear K;refine zR (Q.out _ J (G.below J)) fun w1 hb1 => ?_;have Y := zbt J hb1;replace M := M.bl hb1;replace V := V.bl hb1;obtain ⟨v0, v1, v2⟩ := zk3 V;clear hb1 J;go_wp2_with fail;refine zR (N.out _ (G.below Y)) fun w2 hb2 => ?_;have X := zbt Y hb2;replace M := M.bl hb2;replace V := V.bl hb2;clear v0 v1 v2 hb2 Y;obtain ⟨v0, v1⟩ := zk2 V;obtain ⟨i, g⟩ := zk2 M;go_wp2_with fail;refine zR (O.out _ X (G.below X)) fun w3 hb3 => ?_;have L := zbt X hb3;clear v0 v1 i g;cases lb
 ·go_wp2_with fail
  go_ret;exact ⟨_, rfl, rfl, L⟩
 ·go_wp2_with fail
  go_ret;exact ⟨_, rfl, rfl, L⟩
attribute [local go_sem] Oper.semAt_some
def unitL (U : List ByteArray) {H : List Rat} (pre : List (IxR H)) : ByteArray := match pre.getLast? with | some x => U[x.1]?.getD ⟨#[]⟩ | none => ⟨#[]⟩
theorem ub0 (U : List ByteArray) {H : List Rat} (pre : List (IxR H)) (x : IxR H) : unitL U (pre ++ [x]) = U[x.1]?.getD ⟨#[]⟩ := by unfold unitL; simp
def cHH (H : List Rat) (z : Rat) : Nat := (H.takeWhile fun q => decide (q <= z)).length
def uAt (U : List ByteArray) (H : List Rat) (z : Rat) : ByteArray := if cHH H z = 0 then ⟨#[]⟩ else U[cHH H z - 1]?.getD ⟨#[]⟩
theorem cHl (H : List Rat) (z : Rat) : cHH H z <= H.length := (List.takeWhile_prefix _).length_le
theorem cHa {H : List Rat} {z : Rat} (h : ∀ q ∈ H, q <= z) : cHH H z = H.length := by
 unfold cHH
 induction H with
 | nil => rfl
 | cons q H ih =>
   rw [List.takeWhile_cons_of_pos (by simpa using h q (by simp)), List.length_cons, ih (fun x hx => h x (List.mem_cons_of_mem _ hx)), List.length_cons]
theorem cn0 {H : List Rat} {z : Rat} {k : Nat} (V : k < H.length) (h : ∀ i (X : i < k), H[i] <= z) (Y : ¬ H[k] <= z) : cHH H z = k := by
 unfold cHH;have e : H = H.take k ++ H[k] :: H.drop (k + 1) := by rw [<- List.drop_eq_getElem_cons V, List.take_append_drop]
 have U : (H.take k).length = k := by rw [List.length_take]; omega
 have Z : (H.take k ++ H[k] :: H.drop (k + 1)).takeWhile (fun q => decide (q <= z)) = H.take k := by
  rw [List.takeWhile_append_of_pos (fun q hq => by
   obtain ⟨i, X, rfl⟩ := List.getElem_of_mem hq;rw [List.getElem_take];exact decide_eq_true (h i (by omega)))]
  rw [List.takeWhile_cons_of_neg (by simpa using Y), List.append_nil]
 rw [<- e] at Z;rw [Z, U]
theorem uLr {U : List ByteArray} {H : List Rat} {z : Rat} {pre : List (IxR H)} {k : Nat} (X : pre.map Subtype.val = List.range k) (V : cHH H z = k) : unitL U pre = uAt U H z := by
 have S : pre.length = k := by have := congrArg List.length X; rwa [List.length_map, List.length_range] at this
 unfold uAt unitL;rw [V];rcases Nat.eq_zero_or_pos k with Y | Y
 ·subst Y
  rw [List.length_eq_zero_iff.1 S]; rfl
 ·rw [if_neg (by omega)]
  obtain ⟨m, rfl⟩ : ∃ m, k = m + 1 := ⟨k - 1, by omega⟩;have Z : (pre.map Subtype.val).getLast? = some m := by rw [X, List.range_succ]; simp
  rw [List.getLast?_map] at Z;cases hg : pre.getLast? with
  | none => rw [hg] at Z; simp at Z
  | some x => rw [hg] at Z; simp at Z; simp [Z]
theorem bNk {W W' : World} {row : Option Nat} {b t : Nat} {l : List Value} (h : BoxN W b t l) (Z : W.grownBy W' row) (Y : ∀ r, row = some r -> ∃ o : Obj, W.heap[r]? = some o /\ o.isCells = false) : BoxN W' b t l := (grownBy_keeps_cells Z Y h rfl).trans h
theorem aer (w : World) (Q N R M O : Value) (t q A o s : Option Addr) (E C G B D K J L I cs : Nat) (m : Q = .slice t E K) (l : N = .slice q C J) (k : R = .slice A G L) (j : M = .slice o B I) (i : O = .slice s D cs) (x y z : ByteArray) (Y : Int) (H : Y ≠ 0)
 (V : Hid (∀ w', Below w.heap.size w w' -> Good w' -> Calls Tryz.prog 64 #[.agg #[Q, N], .agg #[R, M, O], .agg #[.string x, .string y, .string z]] w' (Ret (fun r _ => r = .int .i64 Y) w'))) (h : Good w) :
 Calls Tryz.prog 30 #[.agg #[Q, N], .agg #[R, M, O], .agg #[.string x, .string y, .string z]] w (Ret (fun r _ => r = .tuple #[.string ⟨#[]⟩, .bool false, .int .i64 Y]) w) := by
 subst m l k j i;have n : (Y != 0) = true := by rw [bne_iff_ne]; exact H
 clear H;go_enter Tryz.func30, Tryz.ntmps30;go_wp2_with fail;obtain ⟨W, X⟩ := zex ((((w.alloc (.cells #[.slice t E K, .slice q C J] 41)).alloc (.cells #[.slice A G L, .slice o B I, .slice s D cs] 45)).alloc (.cells #[.string x, .string y, .string z] 83)).alloc (.cells #[.string ⟨#[]⟩] 9));have U : Below w.heap.size w W := by rw [X]; exact ((((Below.refl _ _).alloc (Nat.le_refl _) _).alloc (by simp) _).alloc (by simp; omega) _).alloc (by simp; omega) _
 have Z : BoxN W (w.heap.size + 3) 9 [.string ⟨#[]⟩] := by rw [X]; exact BoxN.new _ #[.string ⟨#[]⟩] _ _ (by simp)
 rw [<- X];clear X;refine zR (V.out _ U (h.below U)) fun w1 hb1 => ?_;have S := zbt U hb1;replace Z := Z.bl hb1;have x0 := Z.cell 0 rfl;have f0 := Z.frozen 0;go_wp2_with fail;have g := (Z.set 0 (.string ⟨#[]⟩)).cell 0 rfl;refine bodyPost_ret (v := .tuple #[.string ⟨#[]⟩, .bool false, .int .i64 Y]) (by simp [results, Tryz.results30, go_sem, g]) rfl ⟨_, rfl, rfl, S.setCell (p := ⟨w.heap.size + 3, 0, none⟩) (by show w.heap.size <= w.heap.size + 3; omega) _⟩
end Go.Proofs.YtmcbeajdloaliaaGreatDoor
