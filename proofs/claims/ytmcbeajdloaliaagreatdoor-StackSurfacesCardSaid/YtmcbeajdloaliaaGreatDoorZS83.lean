import Derived.Test.YtmcbeajdloaliaaGreatDoorZS44
import Derived.Lib.SlicesDelete
/- stack.Insert into a right deposit. stack.Insert into a right deposit stack.Remove of a right deposit. stack.Surface, Thickness, Pinched of a right deposit. stack.Thickness, Pinched of a right deposit stack.Pinched of a right deposit. Plain -/
set_option maxHeartbeats 16000000
set_option maxRecDepth 100000
namespace Go.Proofs.YtmcbeajdloaliaaGreatDoor
open Go.RowKit Go.Lib
def addL (F X : List Rat) : List Rat := List.zipWith (· + ·) F X
def insS (B : List Rat) (S : List (List Rat)) (X : List Rat) (n : Nat) : List (List Rat) := S.take n ++ ((B :: S).drop n).map fun F => addL F X
noncomputable def unitE (n : Nat) (U : List ByteArray) (nm : ByteArray) (nz : Int) (X : List ByteArray) : Int :=
 if nameQ nm = false then 8 else if hasS U nm = true then 9 else if nz < 0 \/ (U.length : Int) <= nz then 3 else if errF n X ≠ 0 then errF n X else if negF (X.map numT) = true then 6 else if U.length = 60 then 4 else 0
def rowUp (F X : List Rat) (k : Nat) : List Rat := (addL F X).take k ++ F.drop k
theorem rUz (F X : List Rat) : rowUp F X 0 = F := by simp [rowUp]
theorem rUa {F X : List Rat} (h : F.length = X.length) {k : Nat} (Z : F.length <= k) : rowUp F X k = addL F X := by
 unfold rowUp;rw [List.drop_of_length_le Z, List.append_nil, List.take_of_length_le (by unfold addL; rw [List.length_zipWith]; omega)]
theorem aLl {F X : List Rat} (h : F.length = X.length) : (addL F X).length = F.length := by unfold addL; rw [List.length_zipWith]; omega
theorem rUl {F X : List Rat} (h : F.length = X.length) (k : Nat) : (rowUp F X k).length = F.length := by
 unfold rowUp;rw [List.length_append, List.length_take, List.length_drop, aLl h]; omega
theorem rg0 {F X : List Rat} (h : F.length = X.length) {k : Nat} (Z : k < F.length) : (rowUp F X k)[k]? = some F[k] := by
 unfold rowUp;rw [List.getElem?_append_right (by rw [List.length_take]; omega), List.length_take, aLl h, Nat.min_eq_left (by omega), Nat.sub_self, List.getElem?_drop, Nat.add_zero, List.getElem?_eq_getElem Z]
theorem rUs {F X : List Rat} (h : F.length = X.length) {k : Nat} (Z : k < F.length) : (rowUp F X k).set k (F[k] + X[k]) = rowUp F X (k + 1) := by
 have Y : k < (addL F X).length := by rw [aLl h]; exact Z
 have e : (addL F X)[k] = F[k] + X[k] := by simp [addL]
 have V : ((addL F X).take k).length = k := by rw [List.length_take]; omega
 unfold rowUp;rw [List.take_succ_eq_append_getElem Y, e, List.set_append_right _ _ (by omega), V, Nat.sub_self];rw [<- List.getElem_cons_drop (h := Z), List.set_cons_zero, List.append_assoc];rfl
theorem FldV.set {w : World} {B g c : Nat} {F : List Rat} (h : FldV w B (.slice (some ⟨g, 0, none⟩) F.length c) F) {k : Nat} (q : Rat) (O : k < F.length) : FldV (w.setCell ⟨g, k, none⟩ (.string (RS q))) B (.slice (some ⟨g, 0, none⟩) F.length c) (F.set k q) := by
 obtain ⟨Q, c', l, R, U, S, Z, Y, X, V⟩ := boo h (by omega);injection R with e1 e2 e3
 injection e1 with e1
 injection e1 with e1
 subst e1 e3;unfold FldV;rw [List.length_set];refine oob (S.set k (.string (RS q))) U Z Y (by rw [List.length_set]; exact X) ?_;rw [List.take_set, V];unfold cFd;rw [List.map_set]
theorem FlsD.set {E : Nat} (L : 55 ≠ E) {w : World} {B g c i k : Nat} {v : Value} {S : List (List Rat)} {F : List Rat} {us : List Value} (M : us.length = S.length) (X : w.ownsRow B E 1 v S.length us)
 (V : ∀ (i : Nat) (u : Value) (F : List Rat), us[i]? = some u -> S[i]? = some F -> FldV w B u F) (U : ∀ (i j : Nat) (u N : Value), i ≠ j -> us[i]? = some u -> us[j]? = some N -> u.ownBlock ≠ N.ownBlock)
 (Y : us[i]? = some (.slice (some ⟨g, 0, none⟩) F.length c)) (Q : S[i]? = some F) (q : Rat) (K : k < F.length) : FlsD E (w.setCell ⟨g, k, none⟩ (.string (RS q))) B v (S.set i (F.set k q)) := by
 have R := V i _ F Y Q;have O : w.grownBy (w.setCell ⟨g, k, none⟩ (.string (RS q))) (some g) := gst (grl w _) k _;have Z : v.ownBlock = none \/ v.ownBlock ≠ some g := oat X R (Ne.symm L);refine ⟨us, by rw [List.length_set]; exact M, by rw [List.length_set]; exact World.ownsRow.kept X O Z, fun j u G a b => ?_, U⟩;by_cases hji : j = i
 ·subst hji
  rw [Y] at a;cases a;rw [List.getElem?_set_self (List.getElem?_eq_some_iff.1 Q).1] at b;cases b;have := R.set q K;unfold FldV at this ⊢;rw [List.length_set] at this ⊢;exact this
 ·rw [List.getElem?_set_ne (fun e => hji e.symm)] at b
  exact World.ownsRow.kept (V j u G a b) O (.inr (fun e => U j i u _ hji a Y e))
theorem FlsD.row {E : Nat} (K : 55 ≠ E) {w : World} {B : Nat} {v : Value} {S : List (List Rat)} (h : FlsD E w B v S) {i : Nat} {F : List Rat} (O : S[i]? = some F) (G : F ≠ []) :
 ∃ Y U g c, v = .slice (some ⟨Y, 0, none⟩) S.length U /\ S.length <= U /\ U <= maxLen /\ w.cell? ⟨Y, i, none⟩ = some (.slice (some ⟨g, 0, none⟩) F.length c) /\ F.length <= c /\ c <= maxLen /\ B <= g /\ g < w.heap.size /\ Y < w.heap.size /\ Y ≠ g /\
  (∀ k (R : k < F.length), w.cell? ⟨g, k, none⟩ = some (.string (RS F[k]))) /\ (∀ k, w.frozen? ⟨g, k, none⟩ = false) /\ (∃ l, BoxN w g 55 l) /\
  ∀ w', Below w.heap.size w w' -> ∀ k q, k < F.length -> FlsD E (w'.setCell ⟨g, k, none⟩ (.string (RS q))) B v (S.set i (F.set k q)) := by
 have A := (List.getElem?_eq_some_iff.1 O).1;obtain ⟨us, I, N, M, H⟩ := h;obtain ⟨Y, U, n, rfl, C, Z, y, x, m, t⟩ := boo N (by omega);have Q : us[i]? = some us[i] := List.getElem?_eq_getElem (by omega);have z := M i us[i] F Q O;have o := List.length_pos_iff.2 G;obtain ⟨g, c, l, J, D, V, s, r, j, p⟩ := boo z (by omega);have X : w.cell? ⟨Y, i, none⟩ = some (.slice (some ⟨g, 0, none⟩) F.length c) := by
  refine Z.cell i ?_;rw [<- J, <- Q, <- t, List.getElem?_take, if_pos A]
 rw [J] at Q;refine ⟨Y, U, g, c, rfl, y, x, X, s, r, D, V.lt, Z.lt, fun e => ?_, fun k R => ?_, fun k => V.frozen k, ⟨l, V⟩, fun w' hw k q R => ?_⟩
 ·subst e
  unfold BoxN at V Z;rw [V] at Z;injection Z with Z
  injection Z with _ h5
  exact K h5
 ·refine V.cell k ?_
  have L : (l.take F.length)[k]? = (cFd F)[k]? := by rw [p]
  rw [List.getElem?_take, if_pos R] at L;rw [L];unfold cFd;rw [List.getElem?_map, List.getElem?_eq_getElem R]; rfl
 ·exact FlsD.set K I (WRA N hw) (fun i u F a b => (M i u F a b).below hw) H Q O q R
theorem iat {α : Type} (l : List α) (x : α) {n : Nat} (Y : n <= l.length) (i : Nat) : (l.take n ++ x :: l.drop n)[i]? = if i < n then l[i]? else if i = n then some x else l[i - 1]? := by
 have Z : (l.take n).length = n := by rw [List.length_take]; omega
 by_cases h : i < n
 ·rw [if_pos h, List.getElem?_append_left (by omega), List.getElem?_take, if_pos h]
 ·rw [if_neg h, List.getElem?_append_right (by omega), Z]
  by_cases h2 : i = n
  ·rw [if_pos h2, h2, Nat.sub_self]; rfl
  ·rw [if_neg h2]
   obtain ⟨m, rfl⟩ : ∃ m, i = n + 1 + m := ⟨i - (n + 1), by omega⟩;rw [show n + 1 + m - n = m + 1 by omega, List.getElem?_cons_succ, List.getElem?_drop];congr 1;omega
theorem FlsD.one {w : World} {B : Nat} {us : List Value} {S : List (List Rat)} (X : us.length = S.length) (Z : ∀ (i : Nat) (u : Value) (F : List Rat), us[i]? = some u -> S[i]? = some F -> FldV w B u F) : ∀ u ∈ us, u.oneCell' = true := fun u hu => by
 obtain ⟨i, Y, rfl⟩ := List.getElem_of_mem hu;obtain ⟨p, c, e⟩ := (Z i us[i] S[i] (List.getElem?_eq_getElem Y) (List.getElem?_eq_getElem (by omega))).shape;rw [e]; rfl
theorem FlsD.ins {E : Nat} {w : World} {B M n : Nat} {v' u : Value} {S : List (List Rat)} {us : List Value} {F : List Rat} (t : us.length = S.length) (v : n <= S.length)
 (N : ∀ (i : Nat) (u : Value) (F : List Rat), us[i]? = some u -> S[i]? = some F -> FldV w B u F) (X : ∀ (i j : Nat) (u J : Value), i ≠ j -> us[i]? = some u -> us[j]? = some J -> u.ownBlock ≠ J.ownBlock)
 (D : ∀ (i : Nat) (u : Value) (b : Nat), us[i]? = some u -> u.ownBlock = some b -> b < M)
 (Y : w.ownsRow B E 1 v' (S.length + 1) (us.take n ++ u :: us.drop n)) (K : FldV w M u F) (O : F ≠ []) (Q : B <= M) : FlsD E w B v' (S.take n ++ F :: S.drop n) := by
 have Z : ∃ b, u.ownBlock = some b /\ M <= b := by
  obtain ⟨H, V⟩ := K;rcases V with ⟨rfl, U⟩ | ⟨g, cap, I, rfl, A, _⟩
  ·exact absurd (List.length_eq_zero_iff.1 U) O
  ·exact ⟨g, rfl, A⟩
 obtain ⟨b, Z, C⟩ := Z;have L : (S.take n ++ F :: S.drop n).length = S.length + 1 := by
  rw [List.length_append, List.length_take, List.length_cons, List.length_drop]; omega
 refine ⟨us.take n ++ u :: us.drop n, ?_, by rw [L]; exact Y, fun i x G a c => ?_, fun i j x y hij a c => ?_⟩
 ·rw [L, List.length_append, List.length_take, List.length_cons, List.length_drop]; omega
 ·rw [iat us u (by omega)] at a
  rw [iat S F v] at c;split at a <;> rename_i hh
  ·rw [if_pos hh] at c
   exact N i x G a c
  ·rw [if_neg hh] at c
   split at a <;> rename_i hh2
   ·rw [if_pos hh2] at c
    cases a; cases c;exact K.base Q
   ·rw [if_neg hh2] at c
    exact N _ x G a c
 ·rw [iat us u (by omega)] at a c
  have R : ∀ {k : Nat} {z : Value}, us[k]? = some z -> z.ownBlock ≠ u.ownBlock := fun hz e => by
   have := D _ _ b hz (e.trans Z);omega
  split at a <;> rename_i H
  ·split at c <;> rename_i V
   ·exact X i j x y hij a c
   ·split at c <;> rename_i U
    ·cases c; exact R a
    ·exact X i (j - 1) x y (by omega) a c
  ·split at a <;> rename_i h5'
   ·cases a
    split at c <;> rename_i V
    ·exact fun e => R c e.symm
    ·split at c <;> rename_i U
     ·omega
     ·exact fun e => R c e.symm
   ·split at c <;> rename_i V
    ·exact X (i - 1) j x y (by omega) a c
    ·split at c <;> rename_i U
     ·cases c; exact R a
     ·exact X (i - 1) (j - 1) x y (by omega) a c
def midR (Z : List (List Rat)) (X : List Rat) (n i k : Nat) : List (List Rat) := Z.mapIdx fun j F => if n <= j /\ j < i then addL F X else if j = i then rowUp F X k else F
theorem mRa (Z : List (List Rat)) (X : List Rat) (n i k j : Nat) : (midR Z X n i k)[j]? = (Z[j]?).map fun F => if n <= j /\ j < i then addL F X else if j = i then rowUp F X k else F := by
 unfold midR;rw [List.getElem?_mapIdx]
theorem mRl (Z : List (List Rat)) (X : List Rat) (n i k : Nat) : (midR Z X n i k).length = Z.length := by unfold midR; rw [List.length_mapIdx]
theorem mRs (Z : List (List Rat)) (X : List Rat) (n : Nat) : midR Z X n n 0 = Z := by
 refine List.ext_getElem? fun j => ?_;rw [mRa];cases Z[j]? with
 | none => rfl
 | some F =>
   simp only [Option.map_some];rw [if_neg (by omega)];split
   ·rw [rUz]
   ·rfl
theorem mRh {Z : List (List Rat)} {X : List Rat} {n i k : Nat} {F : List Rat} (h : Z[i]? = some F) : (midR Z X n i k)[i]? = some (rowUp F X k) := by
 rw [mRa, h, Option.map_some, if_neg (by omega), if_pos rfl]
theorem mf0 {Z : List (List Rat)} {X : List Rat} {n i k : Nat} {F : List Rat} (h : Z[i]? = some F) (Y : F.length = X.length) (V : k < F.length) : (midR Z X n i k).set i ((rowUp F X k).set k (F[k] + X[k])) = midR Z X n i (k + 1) := by
 refine List.ext_getElem? fun j => ?_;by_cases hj : j = i
 ·subst hj
  rw [List.getElem?_set_self (by rw [mRl]; exact (List.getElem?_eq_some_iff.1 h).1), mRh h, rUs Y V]
 ·rw [List.getElem?_set_ne (fun e => hj e.symm), mRa, mRa]
  cases Z[j]? with
  | none => rfl
  | some G =>
    simp only [Option.map_some];rw [if_neg hj, if_neg hj]
theorem mRn {Z : List (List Rat)} {X : List Rat} {n i : Nat} (U : n <= i) (Y : ∀ F ∈ Z, F.length = X.length) : midR Z X n i X.length = midR Z X n (i + 1) 0 := by
 refine List.ext_getElem? fun j => ?_;rw [mRa, mRa];cases hz : Z[j]? with
 | none => rfl
 | some F =>
   have V := Y F (List.mem_of_getElem? hz);simp only [Option.map_some];congr 1;by_cases h1 : n <= j /\ j < i
   ·rw [if_pos h1, if_pos (by omega)]
   ·rw [if_neg h1]
    by_cases h2 : j = i
    ·rw [if_pos h2, if_pos (by omega), rUa V (by omega)]
    ·rw [if_neg h2, if_neg (by omega)]
     split
     ·rw [rUz]
     ·rfl
theorem mRe {B : List Rat} {S : List (List Rat)} {X : List Rat} {n : Nat} (V : n <= S.length) : midR (S.take n ++ fldN B S n :: S.drop n) X n (S.length + 1) 0 = insS B S X n := by
 have e : (B :: S).drop n = fldN B S n :: S.drop n := by
  have Z : n < (B :: S).length := by simp; omega
  rw [<- List.getElem_cons_drop (h := Z)];congr 1;unfold fldN;rw [List.getElem?_eq_getElem Z]; rfl
 unfold insS;rw [e];refine List.ext_getElem? fun j => ?_;have Y : (S.take n).length = n := by rw [List.length_take]; omega
 rw [mRa];by_cases h : j < n
 ·rw [List.getElem?_append_left (by omega), List.getElem?_append_left (by omega)]
  cases (S.take n)[j]? with
  | none => rfl
  | some F =>
    simp only [Option.map_some];rw [if_neg (by omega), if_neg (by omega)]
 ·rw [List.getElem?_append_right (by omega), List.getElem?_append_right (by omega), List.getElem?_map]
  cases hz : (fldN B S n :: S.drop n)[j - (S.take n).length]? with
  | none => rfl
  | some F =>
    have := (List.getElem?_eq_some_iff.1 hz).1;simp only [List.length_cons, List.length_drop] at this;simp only [Option.map_some];rw [if_pos (by omega)]
theorem sr0 (w : World) (vp vt vb vu vs : Value) (P : List PtQ) (T : List Tri) (k : Nat) (B : List Rat) (U : List ByteArray) (S : List (List Rat)) (h : DepN w vp vt vb vu vs P T k B U S) (hk : k <= 90)
 (N : ByteArray) (nz : Int) (vx : Value) (X : List ByteArray) (hx : RdS w vx X) (hX : TxtOK X) (yq : errF P.length X = 0 -> ∃ R : List Rat, X = R.map RS /\ R.length = P.length /\ ∀ q ∈ R, Sz k q) (hg : Good w) :
 Calls Tryz.prog 11 #[.agg #[vp, vt], .agg #[vb, vu, vs], .agg #[.string N, .int .i64 nz, vx]] w (Ret (fun r w' => (unitE P.length U N nz X ≠ 0 /\ r = .tuple #[.agg #[.slice none 0 0, .slice none 0 0, .slice none 0 0], .int .i64 (unitE P.length U N nz X)]) \/
  (unitE P.length U N nz X = 0 /\ ∃ v1 v2 v3, r = .tuple #[.agg #[v1, v2, v3], .int .i64 0] /\ RdQ w' v1 B /\ RdS w' v2 (U.take nz.toNat ++ N :: U.drop nz.toNat) /\ RdF w' v3 (insS B S (X.map numT) nz.toNat) /\ OwnD w' w.heap.size v1 v2 v3 B (U.take nz.toNat ++ N :: U.drop nz.toNat) (insS B S (X.map numT) nz.toNat))) w) := by
 have HD := hid h;have HX := hid hx;have xO := h.m.plen;obtain ⟨pp, cp, pt, ct, pb, cb, pu, cu, ps, cs, rfl, rfl, rfl, rfl, rfl⟩ := h.open;obtain ⟨px, cx, rfl, -, -, -⟩ := hx.open;have zh : Hid (∀ w', Below w.heap.size w w' -> Good w' -> _) := fun w' hb hg' => sg0 w' _ _ _ _ _ P T k _ U _ (h.below hb).toT hg';rw [h.ok] at zh;have zX : Hid (∀ w', _) := fun w' => iNa N w';have zW : Hid (∀ w', Below w.heap.size w w' -> _) := fun w' hb => cSa _ U N w' (h.below hb).unit;have zU : Hid (∀ w', Below w.heap.size w w' -> Good w' -> _) := fun w' hb hg' => fc0 w' _ _ _ P T k X (h.below hb).p (h.below hb).t h.m (RdC.below hx hb) hX.1 hX.2 hg';obtain ⟨d, hJ⟩ : ∃ r, r = unitE P.length U N nz X := ⟨_, rfl⟩;rw [<- hJ];have hQ : Hid (d = _) := hJ;unfold unitE at hQ;clear hJ h hx;have xv : U.length <= S.length + 1 := by have := HD.out.ul; omega
 have zg : S.length + 1 <= U.length := by have := HD.out.ul; omega
 have xQ := HD.out.u60;generalize xh : nameQ N = nb at *;generalize xg : hasS U N = hb' at *;clear xh xg;have H : Hid (∀ wX : World, BoxN wX (w.heap.size + 3) 45 [.slice none 0 0, .slice none 0 0, .slice none 0 0] -> Below w.heap.size w wX ->
  (((wX.setCell ⟨w.heap.size + 3, 0, none⟩ (.slice none 0 0)).setCell ⟨w.heap.size + 3, 1, none⟩ (.slice none 0 0)).setCell ⟨w.heap.size + 3, 2, none⟩ (.slice none 0 0)).cell? ⟨w.heap.size + 3, 0, none⟩ = some (.slice none 0 0) /\
  (((wX.setCell ⟨w.heap.size + 3, 0, none⟩ (.slice none 0 0)).setCell ⟨w.heap.size + 3, 1, none⟩ (.slice none 0 0)).setCell ⟨w.heap.size + 3, 2, none⟩ (.slice none 0 0)).cell? ⟨w.heap.size + 3, 1, none⟩ = some (.slice none 0 0) /\
  (((wX.setCell ⟨w.heap.size + 3, 0, none⟩ (.slice none 0 0)).setCell ⟨w.heap.size + 3, 1, none⟩ (.slice none 0 0)).setCell ⟨w.heap.size + 3, 2, none⟩ (.slice none 0 0)).cell? ⟨w.heap.size + 3, 2, none⟩ = some (.slice none 0 0) /\
  Below w.heap.size w (((wX.setCell ⟨w.heap.size + 3, 0, none⟩ (.slice none 0 0)).setCell ⟨w.heap.size + 3, 1, none⟩ (.slice none 0 0)).setCell ⟨w.heap.size + 3, 2, none⟩ (.slice none 0 0))) := fun wX hb hB => by
  have k := b3s hb (v0 := .slice none 0 0) (v1 := .slice none 0 0) (v2 := .slice none 0 0);have hi : w.heap.size <= w.heap.size + 3 := by omega
  exact ⟨k.cell 0 rfl, k.cell 1 rfl, k.cell 2 rfl, ((hB.setCell (p := ⟨w.heap.size + 3, 0, none⟩) hi _).setCell (p := ⟨w.heap.size + 3, 1, none⟩) hi _).setCell (p := ⟨w.heap.size + 3, 2, none⟩) hi _⟩
 go_enter Tryz.func11, Tryz.ntmps11;go_wp2_with fail;obtain ⟨W, hW⟩ := zex ((((w.alloc (.cells #[.slice pp P.length cp, .slice pt T.length ct] 41)).alloc (.cells #[.slice pb P.length cb, .slice pu U.length cu, .slice ps S.length cs] 45)).alloc (.cells #[.string N, .int .i64 nz, .slice px X.length cx] 35)).alloc (.cells #[.slice none 0 0, .slice none 0 0, .slice none 0 0] 45));have hB : Below w.heap.size w W := by rw [hW]; exact ((((Below.refl _ _).alloc (Nat.le_refl _) _).alloc (by simp) _).alloc (by simp; omega) _).alloc (by simp; omega) _
 have b3 : BoxN W w.heap.size 41 [.slice pp P.length cp, .slice pt T.length ct] := by rw [hW]; exact (((BoxN.new w #[.slice pp P.length cp, .slice pt T.length ct] 41 _ rfl).alloc _).alloc _).alloc _
 have b4 : BoxN W (w.heap.size + 1) 45 [.slice pb P.length cb, .slice pu U.length cu, .slice ps S.length cs] := by rw [hW]; exact ((BoxN.new _ #[.slice pb P.length cb, .slice pu U.length cu, .slice ps S.length cs] _ _ (by simp)).alloc _).alloc _
 have m : BoxN W (w.heap.size + 2) 35 [.string N, .int .i64 nz, .slice px X.length cx] := by rw [hW]; exact (BoxN.new _ #[.string N, .int .i64 nz, .slice px X.length cx] _ _ (by simp)).alloc _
 have V : BoxN W (w.heap.size + 3) 45 [.slice none 0 0, .slice none 0 0, .slice none 0 0] := by rw [hW]; exact BoxN.new _ #[.slice none 0 0, .slice none 0 0, .slice none 0 0] _ _ (by simp)
 rw [<- hW];clear hW;refine zR (zh.out W hB (hg.below hB)) fun w1 hb1 => ?_;have yi := zbt hB hb1;replace b3 := b3.bl hb1;replace b4 := b4.bl hb1;replace m := m.bl hb1;replace V := V.bl hb1;clear hb1 hB;have d0 := m.cell 0 rfl;go_wp2_with fail;refine zR (zX.out w1) fun w2 hb2 => ?_;have hT := zbt yi hb2;replace b3 := b3.bl hb2;replace b4 := b4.bl hb2;replace m := m.bl hb2;replace V := V.bl hb2;clear hb2 yi d0;obtain ⟨f0, f1, f2⟩ := zk3 V;have hn := V.frozen 0;have h7 := V.frozen 1;have ho := V.frozen 2;cases nb
 case' false =>
  have A : Hid (d = 8) := by unfold Hid; rw [hQ.out, if_pos rfl]
  go_wp2_with fail;obtain ⟨t0, t1, t2, O⟩ := H.out w2 V hT;refine bodyPost_ret (v := .tuple #[.agg #[.slice none 0 0, .slice none 0 0, .slice none 0 0], .int .i64 8]) (by simp [results, Tryz.results11, go_sem, t0, t1, t2]) rfl ⟨_, rfl, .inl ⟨by rw [A.out]; decide, by rw [A.out]⟩, O⟩
 have zj := hid (hQ.out.trans (if_neg (by decide)));clear hQ;have d0 := m.cell 0 rfl;have c1 := b4.cell 1 rfl;clear f0 f1 f2 hn h7 ho;go_wp2_with fail;refine zR (zW.out w2 hT) fun w3 hb3 => ?_;have hd := zbt hT hb3;replace b3 := b3.bl hb3;replace b4 := b4.bl hb3;replace m := m.bl hb3;replace V := V.bl hb3;clear hb3 hT d0 c1;obtain ⟨f0, f1, f2⟩ := zk3 V;have hn := V.frozen 0;have h7 := V.frozen 1;have ho := V.frozen 2;cases hb'
 case' true =>
  have A : Hid (d = 9) := by unfold Hid; rw [zj.out, if_pos rfl]
  go_wp2_with fail;obtain ⟨t0, t1, t2, O⟩ := H.out w3 V hd;refine bodyPost_ret (v := .tuple #[.agg #[.slice none 0 0, .slice none 0 0, .slice none 0 0], .int .i64 9]) (by simp [results, Tryz.results11, go_sem, t0, t1, t2]) rfl ⟨_, rfl, .inl ⟨by rw [A.out]; decide, by rw [A.out]⟩, O⟩
 have hO := hid (zj.out.trans (if_neg (by decide)));clear zj;have d1 := m.cell 1 rfl;have c1 := b4.cell 1 rfl;by_cases zz : nz < 0
 ·have A : Hid (d = 3) := by unfold Hid; rw [hO.out, if_pos (.inl zz)]
  go_wp2_with fail;obtain ⟨t0, t1, t2, O⟩ := H.out w3 V hd;refine bodyPost_ret (v := .tuple #[.agg #[.slice none 0 0, .slice none 0 0, .slice none 0 0], .int .i64 3]) (by simp [results, Tryz.results11, go_sem, t0, t1, t2]) rfl ⟨_, rfl, .inl ⟨by rw [A.out]; decide, by rw [A.out]⟩, O⟩
 by_cases zA : (U.length : Int) <= nz
 ·have A : Hid (d = 3) := by unfold Hid; rw [hO.out, if_pos (.inr zA)]
  go_wp2_with fail;obtain ⟨t0, t1, t2, O⟩ := H.out w3 V hd;refine bodyPost_ret (v := .tuple #[.agg #[.slice none 0 0, .slice none 0 0, .slice none 0 0], .int .i64 3]) (by simp [results, Tryz.results11, go_sem, t0, t1, t2]) rfl ⟨_, rfl, .inl ⟨by rw [A.out]; decide, by rw [A.out]⟩, O⟩
 have zk := hid (hO.out.trans (if_neg (by omega)));clear hO;obtain ⟨m0, m1⟩ := zk2 b3;have d2 := m.cell 2 rfl;clear f0 f1 f2 hn h7 ho;go_wp2_with fail;refine zR (zU.out w3 hd (hg.below hd)) fun w4 hb4 => ?_;have hU := zbt hd hb4;replace b3 := b3.bl hb4;replace b4 := b4.bl hb4;replace m := m.bl hb4;replace V := V.bl hb4;clear hb4 hd d1 c1 m0 m1 d2;by_cases hE : errF P.length X = 0
 case' neg =>
  have A : Hid (d = errF P.length X) := by unfold Hid; rw [zk.out, if_pos hE]
  have yZ := hid hE;have xC : (errF P.length X != 0) = true := by rw [bne_iff_ne]; exact hE
  obtain ⟨f0, f1, f2⟩ := zk3 V;have hn := V.frozen 0;have h7 := V.frozen 1;have ho := V.frozen 2;generalize errF P.length X = ez at *;clear hE;go_wp2_with fail;obtain ⟨t0, t1, t2, O⟩ := H.out w4 V hU;refine bodyPost_ret (v := .tuple #[.agg #[.slice none 0 0, .slice none 0 0, .slice none 0 0], .int .i64 ez]) (by simp [results, Tryz.results11, go_sem, t0, t1, t2]) rfl ⟨_, rfl, .inl ⟨by rw [A.out]; exact yZ.out, by rw [A.out]⟩, O⟩
 have hP := hid (zk.out.trans (if_neg (by rw [hE]; simp)));obtain ⟨R, z1, z0, ym⟩ := yq hE;have zi : Hid (X.map numT = R) := by unfold Hid; rw [z1, nTm]
 have y9 : Hid (RdQ w (.slice px X.length cx) R) := rSt (by rw [<- z1]; exact HX.out);have yp : X.length = P.length := by rw [z1, List.length_map, z0]
 rw [hE];have x4 := hid yp;rw [zi.out] at hP;have zQ : Hid (∀ w', Below w.heap.size w w' -> _) := fun w' hb => cNa w' (.slice px X.length cx) R (RdC.below y9.out hb) (by omega)
 generalize xi : negF R = ng at *;clear zk hE z1 HX hX yp yq zU zW zX zh xi;have d2 := m.cell 2 rfl;go_wp2_with fail;refine zR (zQ.out w4 hU) fun w5 hb5 => ?_;have hf := zbt hU hb5;replace b3 := b3.bl hb5;replace b4 := b4.bl hb5;replace m := m.bl hb5;replace V := V.bl hb5;clear hb5 hU d2 zQ;obtain ⟨f0, f1, f2⟩ := zk3 V;have hn := V.frozen 0;have h7 := V.frozen 1;have ho := V.frozen 2;cases ng
 case' true =>
  have A : Hid (d = 6) := by unfold Hid; rw [hP.out, if_pos rfl]
  go_wp2_with fail;obtain ⟨t0, t1, t2, O⟩ := H.out w5 V hf;refine bodyPost_ret (v := .tuple #[.agg #[.slice none 0 0, .slice none 0 0, .slice none 0 0], .int .i64 6]) (by simp [results, Tryz.results11, go_sem, t0, t1, t2]) rfl ⟨_, rfl, .inl ⟨by rw [A.out]; decide, by rw [A.out]⟩, O⟩
 have zl := hid (hP.out.trans (if_neg (by decide)));clear hP;have c1 := b4.cell 1 rfl;by_cases h60 : U.length = 60
 ·have A : Hid (d = 4) := by unfold Hid; rw [zl.out, if_pos h60]
  have yh : ((U.length : Int) == 60) = true := by rw [beq_iff_eq]; omega
  clear h60;go_wp2_with fail;obtain ⟨t0, t1, t2, O⟩ := H.out w5 V hf;refine bodyPost_ret (v := .tuple #[.agg #[.slice none 0 0, .slice none 0 0, .slice none 0 0], .int .i64 4]) (by simp [results, Tryz.results11, go_sem, t0, t1, t2]) rfl ⟨_, rfl, .inl ⟨by rw [A.out]; decide, by rw [A.out]⟩, O⟩
 have yh : ((U.length : Int) == 60) = false := by rw [beq_eq_false_iff_ne]; omega
 have x3 : Hid (d = 0) := by unfold Hid; rw [zl.out, if_neg h60]
 clear zl h60 f0 f1 f2 hn h7 ho;obtain ⟨n, rfl⟩ : ∃ n : Nat, nz = n := ⟨nz.toNat, by omega⟩;have xN : n < U.length := by omega
 have hq : n <= S.length := by omega
 have xD : 0 < P.length := by
  obtain ⟨tr, xl⟩ := List.exists_mem_of_ne_nil _ HD.out.m.some;obtain ⟨h0, h1⟩ := HD.out.m.idx tr xl tr.1 (by simp [idxOf]);omega
 have y6 : Hid (∀ w', Below w.heap.size w w' -> _) := fun w' hb => su0 w' _ _ _ B U S (HD.out.below hb).base (HD.out.below hb).unit (HD.out.below hb).surf (fun e => by have h1 := HD.out.fl B (by simp); rw [e] at h1; simp at h1; omega) (fun e => by rw [e] at zg; simp at zg)
  (fun F hF e => by have h1 := HD.out.fl F (List.mem_cons_of_mem _ hF); rw [e] at h1; simp at h1; omega) (by have h1 := HD.out.fl B (by simp); omega) (by omega) (by omega) (fun F hF => by have h1 := HD.out.fl F (List.mem_cons_of_mem _ hF); omega)
 obtain ⟨m0, m1, m2⟩ := zk3 b4;go_wp2_with fail;have xR : w.heap.size + 4 <= w5.heap.size := by have := V.lt; omega
 refine (y6.out w5 hf).mono ?_;rintro e w6 ⟨_, rfl, ⟨v1, v2, v3, rfl, o1, o2, M, yl, x9, x8, o3⟩, z3⟩;obtain ⟨q1, k1, rfl⟩ := FldV.shape o1;obtain ⟨q2, k2, rfl⟩ := oRs o2;obtain ⟨q3, k3, rfl⟩ := o3.v.shape;clear m0 m1 m2 y6 c1;go_upto_region 18 with fail;obtain ⟨W7, h8⟩ := zex (w6.alloc (.cells #[.slice q1 B.length k1, .slice q2 U.length k2, .slice q3 S.length k3] 45));obtain ⟨z, hz⟩ := zex (w6.heap.size);have ht : BoxN W7 z 45 [.slice q1 B.length k1, .slice q2 U.length k2, .slice q3 S.length k3] := by rw [h8]; exact BoxN.new _ #[.slice q1 B.length k1, .slice q2 U.length k2, .slice q3 S.length k3] _ _ hz.symm
 have hV : Below w5.heap.size w5 W7 := by rw [h8]; exact z3.alloc z3.size _
 have zD : W7.ownsRow w5.heap.size 55 1 (.slice q1 B.length k1) B.length (cFd B) := by rw [h8]; exact World.ownsRow.alloc o1 _
 have hc := World.ownsRow.alloc o2 (.cells #[.slice q1 B.length k1, .slice q2 U.length k2, .slice q3 S.length k3] 45);rw [<- h8] at hc;have yE : FlsD 33 W7 M (.slice q3 S.length k3) S := by rw [h8]; exact o3.below ((Below.refl _ _).alloc (Nat.le_refl _) _)
 have hL : w5.heap.size <= z := by rw [hz]; exact z3.size
 rw [<- hz] at x9;have xw : z + 1 <= W7.heap.size := by rw [h8, hz]; simp
 rw [<- h8, <- hz];clear h8 o1 o2 o3 z3 hz;have zo := m.bl hV;have x1 := ht.cell 1 rfl;have xq := ht.frozen 1;have e1 := zo.cell 1 rfl;have e0 := zo.cell 0 rfl;have xn := ht.lt;have yA := hV.size;go_wp2_with fail;have ze := im0 (W7.alloc (.cells #[.string N] 9)) w5.heap.size (.slice q2 U.length k2) U.length n W7.heap.size _ (.string N) (hc.alloc _) (BoxN.new _ _ _ _ rfl) (fun u hu => by obtain ⟨y, _, rfl⟩ := List.mem_map.1 hu; rfl) rfl (by omega) (by omega) (by simp; omega) (fun e => by have := (hc.lt _ e).2; omega);refine ze.mono ?_;rintro e w8 ⟨v8, rfl, z9, hp⟩;obtain ⟨q8, k8, rfl⟩ := oRs z9;have hy := ht.alloc (.cells #[.string N] 9);have D := hy.gb hp (fun e => obN (hc.alloc (.cells #[.string N] 9)) hy (by decide) e.symm);have zE := World.ownsRow.kept (zD.alloc (.cells #[.string N] 9)) hp (oat (zD.alloc (.cells #[.string N] 9)) (hc.alloc (.cells #[.string N] 9)) (by decide));have yF : FlsD 33 w8 M (.slice q3 S.length k3) S := (yE.below ((Below.refl _ _).alloc (Nat.le_refl _) (.cells #[.string N] 9))).kept hp (fun x e s n xs he h => oat h (hc.alloc (.cells #[.string N] 9)) (by rcases he with rfl | rfl <;> decide));have yj : Below w5.heap.size w5 w8 := (hV.alloc yA (.cells #[.string N] 9)).grown hp (by simp; omega) (fun j hj => (hc.lt j hj).1);have xp := D.cell 1 rfl;have yU := D.frozen 1;clear ze x1 xq e1 e0 zo hy;go_upto_region 19 with fail;obtain ⟨W9, hC⟩ := zex (w8.setCell ⟨z, 1, none⟩ (.slice q8 (U.length + 1) k8));have hH : w8.grownBy W9 (some z) := by rw [hC]; exact gst (grl w8 _) 1 _
 have zd : BoxN W9 z 45 [.slice q1 B.length k1, .slice q8 (U.length + 1) k8, .slice q3 S.length k3] := by rw [hC]; exact D.set 1 _
 have yD := World.ownsRow.kept zE hH (.inr (fun e => obN zE D (by decide) e.symm));have za := World.ownsRow.kept z9 hH (.inr (fun e => obN z9 D (by decide) e.symm));have yG := yF.kept hH (fun x e s n xs he h => .inr (fun e' => obN h D (by rcases he with rfl | rfl <;> decide) e'.symm));have zt : Below w5.heap.size w5 W9 := by rw [hC]; exact yj.setCell (p := ⟨z, 1, none⟩) hL _
 rw [<- hC];have yB : W7.heap.size <= W9.heap.size := by have h1 := hp.size; have h2 := hH.size; simp at h1; omega
 clear hC hH zE z9 yF D xp yU zD hc yE ht hV yj yA xn hp;have y0 : Hid ((U.map fun x => Value.string x).take n ++ Value.string N :: (U.map fun x => Value.string x).drop n = (U.take n ++ N :: U.drop n).map fun x => Value.string x) := by unfold Hid; simp
 rw [y0.out] at za;have yo : (U.take n ++ N :: U.drop n).length = U.length + 1 := by simp; omega
 have zm := hid yo;clear yo y0;obtain ⟨U1, zv⟩ := zex (U.take n ++ N :: U.drop n);rw [<- zv] at za zm;have y8 := hid zv;clear zv;obtain ⟨pf, cf, hD, yn⟩ := (HD.out).surface n hq;have hr : Hid ((fldN B S n).length = P.length) := HD.out.fl _ (fNm B S hq);have zP : Hid (∀ w', Below w.heap.size w w' -> Calls Tryz.prog 47 #[.slice pf P.length cf] w' (Ret (fun r w2 => FldV w2 w'.heap.size r (fldN B S n)) w')) := fun w' hb =>
  ca0 w' _ _ (RdC.below hD hb) (fun e => by have := hr.out; rw [e] at this; simp at this; omega) (by have := hr.out; omega)
 have y7 := hid yn;have h4 : Hid (∀ w', Below w5.heap.size w5 w' -> Below w.heap.size w w') := fun w' hb => (zbt hf hb);have L : Hid (∀ w', Below w5.heap.size w5 w' -> (w'.cell? ⟨w.heap.size + 1, 0, none⟩ = some (.slice pb P.length cb) /\ w'.cell? ⟨w.heap.size + 1, 1, none⟩ = some (.slice pu U.length cu) /\ w'.cell? ⟨w.heap.size + 1, 2, none⟩ = some (.slice ps S.length cs)) /\ w'.cell? ⟨w.heap.size + 2, 1, none⟩ = some (.int .i64 n)) := fun w' hb => by
  have y4 := b4.bl hb;have y5 := m.bl hb;exact ⟨⟨y4.cell 0 rfl, y4.cell 1 rfl, y4.cell 2 rfl⟩, y5.cell 1 rfl⟩
 clear yn hD;have g0 : Below w5.heap.size w5 W9.drew := zt.trans ((bdN W9 1).mono zt.size);have c0 : BoxN W9.drew z 45 [.slice q1 B.length k1, .slice q8 (U.length + 1) k8, .slice q3 S.length k3] := zd.drew;have yN := odw yD;have yQ := odw za;have yT := yG.below (bdN W9 1);have yV := c0.cell 2 rfl;have xS := zt.size;have xx : W7.heap.size <= W9.heap.size := yB;clear yD za yG zd;go_upto_region 19 with fail;refine AnyL.region (S := Till 12 (fun w' => (w'.cell? ⟨w.heap.size + 1, 0, none⟩ = some (.slice pb P.length cb) /\ w'.cell? ⟨w.heap.size + 1, 1, none⟩ = some (.slice pu U.length cu) /\ w'.cell? ⟨w.heap.size + 1, 2, none⟩ = some (.slice ps S.length cs)) /\ w'.cell? ⟨w.heap.size + 2, 1, none⟩ = some (.int .i64 n)) (fun w' => w'.cell? ⟨z, 2, none⟩ = some (.slice q3 S.length k3))) (by kernel_rfl) ?_;have Y : Till 12 (fun w' => (w'.cell? ⟨w.heap.size + 1, 0, none⟩ = some (.slice pb P.length cb) /\ w'.cell? ⟨w.heap.size + 1, 1, none⟩ = some (.slice pu U.length cu) /\ w'.cell? ⟨w.heap.size + 1, 2, none⟩ = some (.slice ps S.length cs)) /\ w'.cell? ⟨w.heap.size + 2, 1, none⟩ = some (.int .i64 n)) (fun w' => w'.cell? ⟨z, 2, none⟩ = some (.slice q3 S.length k3)) (Array.replicate 13 false) _ := ⟨L.out _ g0, fun _ => yV⟩;refine zlk 0 Y ?_;try simp only [Act.put]
 refine AnyL.take2 (i := 1) (oi := _) (v := ?_) rfl (by kernel_rfl) (by kernel_rfl) (by kernel_rfl) (by decide) (ok := _) rfl (by kernel_rfl) (by kernel_rfl) (fun _ _ _ h => h) (Or.inl ⟨by rfl, ?_⟩) ⟨Y.1, fun _ => Y.2 (by rfl)⟩ ?_;rotate_left
 ·intro w zu; (try dsimp only at zu); first | (go_simp; done) | (go_simp; with_reducible rfl)
 try simp only [Act.put]
 refine zlk 2 Y ?_;try simp only [Act.put]
 refine zlk 3 Y ?_;try simp only [Act.put]
 refine zlk 4 Y ?_;try simp only [Act.put]
 refine zlk 5 Y ?_;try simp only [Act.put]
 refine zlk 6 Y ?_;try simp only [Act.put]
 refine AnyL.one (i := 7) (o := _) (by kernel_rfl) rfl (fun K hK => ?_);go_simp
 (refine (y7.out _ (h4.out _ g0)).mono ?_; rintro e y1 ⟨_, rfl, rfl, J⟩; have g1 := zbt g0 J; have c1 := c0.bl J; have yO := WRA yN J; have yR := WRA yQ J; obtain ⟨us, h0, h1, h2, h3⟩ := yT.below J; have zY := hid (FlsD.lt h0 h2); have yW := c1.cell 2 rfl; have s1 := J.size)
 refine hK.out _ _ ⟨L.out _ g1, fun hk => yW⟩ (fun Y => ?_);clear hK K;try simp only [Act.put]
 refine AnyL.one (i := 8) (o := _) (by kernel_rfl) rfl (fun K hK => ?_);go_simp
 (refine (zP.out _ (h4.out _ g1)).mono ?_; rintro e y2 ⟨vF, rfl, hF, h9⟩; obtain ⟨pF, cF, rfl⟩ := FldV.shape hF; have g2 := zbt g1 h9; have c2 := c1.bl h9; have zH := WRA yO h9; have zJ := WRA yR h9; have hR := WRA h1 h9; have hS : ∀ (i : Nat) (u : Value) (F : List Rat), us[i]? = some u -> S[i]? = some F -> FldV y2 M u F := fun i u F a b => (h2 i u F a b).below h9; have zL := c2.cell 2 rfl; have s2 := h9.size)
 refine hK.out _ _ ⟨L.out _ g2, fun hk => zL⟩ (fun Y => ?_);clear hK K;try simp only [Act.put]
 refine AnyL.one (i := 9) (o := _) (by kernel_rfl) rfl (fun K hK => ?_);go_simp;refine hK.out _ _ ⟨L.out _ (g2.alloc g2.size _), fun hk => (cal _ zL)⟩ (fun Y => ?_);clear hK K;try simp only [Act.put]
 refine AnyL.one (i := 10) (o := _) (by kernel_rfl) rfl (fun K hK => ?_);go_simp
 (have hI := iFa (y2.alloc (.cells #[.slice pF (fldN B S n).length cF] 33)) M (.slice q3 S.length k3) S.length n y2.heap.size us (.slice pF (fldN B S n).length cF) (hR.alloc _) (BoxN.new _ _ _ _ rfl) (FlsD.one h0 hS) rfl hq (by omega) (by have : W9.heap.size <= y1.heap.size := s1; simp; omega) (fun e => by have := (hR.lt _ e).2; omega); refine hI.mono ?_; rintro e y3 ⟨vR, rfl, Q, l⟩; obtain ⟨pR, t, rfl⟩ := oRs Q; have zp := c2.alloc (.cells #[.slice pF (fldN B S n).length cF] 33); have C := hR.alloc (.cells #[.slice pF (fldN B S n).length cF] 33); have c3 := zp.gb l (fun e => obN C zp (by decide) e.symm); have zI := World.ownsRow.kept (zH.alloc (.cells #[.slice pF (fldN B S n).length cF] 33)) l (oat (zH.alloc (.cells #[.slice pF (fldN B S n).length cF] 33)) C (by decide)); have zK := World.ownsRow.kept (zJ.alloc (.cells #[.slice pF (fldN B S n).length cF] 33)) l (oat (zJ.alloc (.cells #[.slice pF (fldN B S n).length cF] 33)) C (by decide)); have g3 := (g2.alloc g2.size (.cells #[.slice pF (fldN B S n).length cF] 33)).grown l (by have := g2.size; simp; omega) (fun j hj => Nat.le_trans yl (C.lt j hj).1); have zS := hid (FlsD.ins (E := 33) (M := y1.heap.size) h0 hq (fun i u F a b => World.ownsRow.kept (World.ownsRow.alloc (hS i u F a b) (.cells #[.slice pF (fldN B S n).length cF] 33)) l (oat (World.ownsRow.alloc (hS i u F a b) (.cells #[.slice pF (fldN B S n).length cF] 33)) C (by decide))) h3 zY.out Q (World.ownsRow.kept (World.ownsRow.alloc hF (.cells #[.slice pF (fldN B S n).length cF] 33)) l (oat (World.ownsRow.alloc hF (.cells #[.slice pF (fldN B S n).length cF] 33)) C (by decide))) (fun e => by have := hr.out; rw [e] at this; simp at this; omega) (by have : W9.heap.size <= y1.heap.size := s1; omega)); have yX := c3.cell 2 rfl; have yY := c3.frozen 2; clear hI zp C)
 refine hK.out _ _ ⟨L.out _ g3, fun hk => yX⟩ (fun Y => ?_);clear hK K;try simp only [Act.put]
 refine zlk 11 Y ?_;try simp only [Act.put]
 refine AnyL.one (i := 12) (o := _) (by kernel_rfl) rfl (fun K hK => ?_);go_simp;refine hK.out _ _ ⟨L.out _ (g3.setCell (p := ⟨z, 2, none⟩) hL _), fun hk => (by simp at hk)⟩ (fun Y => ?_);clear hK K;try simp only [Act.put]
 refine AnyL.done (by kernel_rfl) ?_ _;obtain ⟨W4, hA⟩ := zex (y3.setCell ⟨z, 2, none⟩ (.slice pR (S.length + 1) t));have z5 : y3.grownBy W4 (some z) := by rw [hA]; exact gst (grl y3 _) 2 _
 have c4 : BoxN W4 z 45 [.slice q1 B.length k1, .slice q8 (U.length + 1) k8, .slice pR (S.length + 1) t] := by rw [hA]; exact c3.set 2 _
 have yP := World.ownsRow.kept zI z5 (.inr (fun e => obN zI c3 (by decide) e.symm));have yS := World.ownsRow.kept zK z5 (.inr (fun e => obN zK c3 (by decide) e.symm));have d4 := zS.out.kept z5 (fun x e s n xs he h => .inr (fun e' => obN h c3 (by rcases he with rfl | rfl <;> decide) e'.symm));have g4 : Below w5.heap.size w5 W4 := by rw [hA]; exact g3.setCell (p := ⟨z, 2, none⟩) hL _
 rw [<- hA];clear hA z5 zI zK zS c3 g3 yX yY l Q zH zJ hR hS zL c2 g2 hF h9 yO yR h1 h2 h3 zY yW c1 g1 J yN yQ yT c0 yV g0 zP y7 L;obtain ⟨Z, hZ⟩ := zex (S.take n ++ fldN B S n :: S.drop n);have ys : Z.length = S.length + 1 := by rw [hZ]; simp; omega
 have yr : ∀ F ∈ Z, F.length = R.length /\ ∀ q ∈ F, Sz k q := fun F hF => by
  have hm : F ∈ B :: S := by
   rw [hZ] at hF;rcases List.mem_append.1 hF with h1 | h1
   ·exact List.mem_cons_of_mem _ (List.mem_of_mem_take h1)
   ·rcases List.mem_cons.1 h1 with rfl | h2
    ·exact fNm B S hq
    ·exact List.mem_cons_of_mem _ (List.mem_of_mem_drop h2)
  exact ⟨(HD.out.fl F hm).trans z0.symm, HD.out.fs F hm⟩
 have zT : Hid (midR Z R n (S.length + 1) 0 = insS B S R n) := by unfold Hid; rw [hZ]; exact mRe hq
 rw [<- hZ] at d4;have yd : FlsD 33 W4 M (.slice pR (S.length + 1) t) (midR Z R n n 0) := by rw [mRs]; exact d4
 have ya := hid yr;have zn := hid ys;have hN := hid z0;have zZ := hid ym;have zy := HD.out.m.kpos;clear d4 hZ yr ys z0 ym h0 us;have e1 := (m.bl g4).cell 1 rfl;obtain ⟨bx, ox, xA, xm, yu, yz⟩ := y9.out.cells (by have := hN.out; omega);injection xm with hv1 hv2 hv3
 clear hv2;subst hv1 hv3;go_wp2_with fail;go_loopw [11] (fun t11 wr => ∃ i : Nat, t11 = .int .i64 i /\ n <= i /\ i <= S.length + 1 /\ BoxN wr z 45 [.slice q1 B.length k1, .slice q8 (U.length + 1) k8, .slice pR (S.length + 1) t] /\
  FlsD 33 wr M (.slice pR (S.length + 1) t) (midR Z R n i 0) /\ FldV wr w5.heap.size (.slice q1 B.length k1) B /\ wr.ownsRow w5.heap.size 9 1 (.slice q8 (U.length + 1) k8) (U.length + 1) (U1.map fun x => Value.string x) /\ Below w5.heap.size w5 wr) (fun t11 _ => S.length + 1 - (RowKit.intOf t11).toNat)
 case atStart => exact ⟨n, rfl, Nat.le_refl _, by omega, c4, yd, yP, yS, g4⟩
 case round =>
  obtain ⟨i, rfl, xk, xI, cr, dr, p1, p2, gr⟩ := hrel;have x2 := cr.cell 2 rfl;clear c4 yd yP yS g4 e1;rcases Nat.lt_or_ge i (S.length + 1) with xM | xH
  ·have xJ : (i : Int) < (S.length : Int) + 1 := by omega
   obtain ⟨F, hF⟩ : ∃ F, Z[i]? = some F := ⟨_, List.getElem?_eq_getElem (by have := zn.out; omega)⟩;obtain ⟨hY, yk⟩ := ya.out F (List.mem_of_getElem? hF);have x7 : F ≠ [] := fun e => by rw [e] at hY; simp at hY; have := hN.out; omega
   have Q := mRh (X := R) (n := n) (k := 0) hF;rw [rUz] at Q;obtain ⟨gR, xz, g, c, hv, zz, zA, xc, -, -, -, -, -, -, -, -, -, -⟩ := dr.row (by decide) Q x7;rw [mRl, zn.out] at hv zz;injection hv with hv1 hv2 hv3
   clear hv2;subst hv1 hv3;have xP : ((S.length + 1 : Nat) : Int) <= (t : Int) := by omega
   unfold maxLen at zA;have HF := hid hF;have hs := hid hY;have zV := hid yk;have xE : F.length <= 1000000 := by have := hN.out; omega
   clear hY yk Q hF;go_wp2_with fail;go_loopw [103] (fun t103 wi => ∃ j : Nat, t103 = .int .i64 j /\ j <= F.length /\ BoxN wi z 45 [.slice q1 B.length k1, .slice q8 (U.length + 1) k8, .slice (some ⟨gR, 0, none⟩) (S.length + 1) t] /\
    FlsD 33 wi M (.slice (some ⟨gR, 0, none⟩) (S.length + 1) t) (midR Z R n i j) /\ FldV wi w5.heap.size (.slice q1 B.length k1) B /\ wi.ownsRow w5.heap.size 9 1 (.slice q8 (U.length + 1) k8) (U.length + 1) (U1.map fun x => Value.string x) /\ Below w5.heap.size w5 wi) (fun t103 _ => F.length - (RowKit.intOf t103).toNat)
   case atStart => exact ⟨0, rfl, Nat.zero_le _, cr, dr, p1, p2, gr⟩
   case round =>
    obtain ⟨j, rfl, hj, ci, di, zG, zb, gi⟩ := hrel;rcases Nat.lt_or_ge j F.length with z7 | xK
    ·have xL : (j : Int) < (F.length : Int) := by omega
     have z6 : j < R.length := by have := hs.out; omega
     have Q := mRh (X := R) (n := n) (k := j) HF.out;have zB : (rowUp F R j).length = F.length := rUl (hs.out) j;obtain ⟨xB, xy, I, c', hv, -, -, zx, xa, xb, xG, yw, xt, yx, hl, yv, ⟨lg, z4⟩, zf⟩ := di.row (by decide) Q (fun e => by rw [e] at zB; simp at zB; omega);rw [mRl, zn.out] at hv;injection hv with hv1 hv2 hv3
     injection hv1 with hv1
     injection hv1 with hv1
     clear hv2;subst hv1 hv3;have hD := yv j;have zw := hl j (by omega);have yt : (rowUp F R j)[j]'(by omega) = F[j] := by
      have h5 := rg0 (X := R) (hs.out) z7;rw [List.getElem?_eq_getElem (by omega)] at h5;exact Option.some.inj h5
     rw [yt] at zw;rw [zB] at zx xa;have xF : (F.length : Int) <= (c' : Int) := by omega
     unfold maxLen at xb;have zc : Hid (∀ w', Below wr.heap.size wr w' -> FlsD 33 (w'.setCell ⟨I, j, none⟩ (.string (RS (F[j] + R[j])))) M (.slice (some ⟨gR, 0, none⟩) (S.length + 1) t) (midR Z R n i (j + 1))) := fun w' hw => by
      have h5 := zf w' hw j (F[j] + R[j]) (by omega);rw [mf0 HF.out (hs.out) z7] at h5;exact h5
     have xj := (gi.cell (p := ⟨bx, ox + j, none⟩) (Nat.lt_of_lt_of_le yu (h4.out _ (Below.refl _ _)).size)).trans (((h4.out _ (Below.refl _ _)).cell (p := ⟨bx, ox + j, none⟩) yu).trans (yz j z6));rw [hh0 R j z6] at xj;have zM := hid fun w hg => rAa F[j] R[j] k zy (by omega) (zV.out _ (List.getElem_mem z7)) (zZ.out _ (List.getElem_mem z6)) w hg
     have zO := hid fun w hg => rCo (F[j] + R[j]) ((Sz.add (zV.out _ (List.getElem_mem z7)) (zZ.out _ (List.getElem_mem z6))).mono (by omega)) w hg
     generalize F[j] = f at *;generalize R[j] = x at *;have yy : I ≠ z := fun e => by
      subst e;unfold BoxN at z4 ci;rw [z4] at ci;injection ci with ci
      injection ci with _ h5
      exact absurd h5 (by decide)
     have xd : w5.heap.size <= I := by omega
     have xe : I ≠ bx := by have := (h4.out _ (Below.refl _ _)).size; omega
     have y2 := (m.bl gi).cell 2 rfl;have z2 := ci.cell 2 rfl;have L : Hid (∀ w', wr.grownBy w' (some I) -> (w'.cell? ⟨z, 2, none⟩ = some (.slice (some ⟨gR, 0, none⟩) (S.length + 1) t) /\ w'.cell? ⟨gR, i, none⟩ = some (.slice (some ⟨I, 0, none⟩) F.length c')) /\ w'.cell? ⟨w.heap.size + 2, 2, none⟩ = some (.slice (some ⟨bx, ox, none⟩) R.length cx) /\ w'.cell? ⟨bx, ox + j, none⟩ = some (.string (RS x))) := fun w' hb => by
      have key : ∀ {a : Addr} {v : Value}, wr.cell? a = some v -> a.block ≠ I -> w'.cell? a = some v := fun {a v} ha hne => by
       have h6 := hb.block a.block (World.block_lt_of_cell? wr a ha) (fun e => hne (Option.some.inj e));unfold World.cell? at ha ⊢;rw [h6];exact ha
      exact ⟨⟨key z2 (Ne.symm yy), key zx yx⟩, key (by rw [<- x4.out.trans hN.out.symm]; exact y2) (by show w.heap.size + 2 ≠ I; omega), key xj (Ne.symm xe)⟩
     have xu : (j : Int) < (R.length : Int) := by omega
     have l : Good wr := hg.below (h4.out _ gi);have k0 : wr.grownBy wr.drew (some I) := gdw (grl wr _);have yC : Below wr.heap.size wr wr.drew := bdN wr 1;have zq : wr.drew.cell? ⟨I, j, none⟩ = some (.string (RS f)) := zw;have xT := gi.size;have zN := hid z4;clear zf hl yv zx xj y2 z2 z4 Q yt yz;go_upto_region 26 with fail;refine AnyL.region (S := Till 21 (fun w' => (w'.cell? ⟨z, 2, none⟩ = some (.slice (some ⟨gR, 0, none⟩) (S.length + 1) t) /\ w'.cell? ⟨gR, i, none⟩ = some (.slice (some ⟨I, 0, none⟩) F.length c')) /\ w'.cell? ⟨w.heap.size + 2, 2, none⟩ = some (.slice (some ⟨bx, ox, none⟩) R.length cx) /\ w'.cell? ⟨bx, ox + j, none⟩ = some (.string (RS x))) (fun w' => w'.cell? ⟨I, j, none⟩ = some (.string (RS f)))) (by kernel_rfl) ?_;have Y : Till 21 (fun w' => (w'.cell? ⟨z, 2, none⟩ = some (.slice (some ⟨gR, 0, none⟩) (S.length + 1) t) /\ w'.cell? ⟨gR, i, none⟩ = some (.slice (some ⟨I, 0, none⟩) F.length c')) /\ w'.cell? ⟨w.heap.size + 2, 2, none⟩ = some (.slice (some ⟨bx, ox, none⟩) R.length cx) /\ w'.cell? ⟨bx, ox + j, none⟩ = some (.string (RS x))) (fun w' => w'.cell? ⟨I, j, none⟩ = some (.string (RS f))) (Array.replicate 22 false) _ := ⟨L.out _ k0, fun _ => zq⟩;refine zlk 0 Y ?_;try simp only [Act.put]
     refine zlk 1 Y ?_;try simp only [Act.put]
     refine zlk 2 Y ?_;try simp only [Act.put]
     refine zlk 3 Y ?_;try simp only [Act.put]
     refine zlk 4 Y ?_;try simp only [Act.put]
     refine zlk 5 Y ?_;try simp only [Act.put]
     refine zlk 6 Y ?_;try simp only [Act.put]
     refine zlk 7 Y ?_;try simp only [Act.put]
     refine zlk 8 Y ?_;try simp only [Act.put]
     refine zlk 9 Y ?_;try simp only [Act.put]
     refine zlk 10 Y ?_;try simp only [Act.put]
     refine zlk 11 Y ?_;try simp only [Act.put]
     refine zlk 12 Y ?_;try simp only [Act.put]
     refine AnyL.take2 (i := 13) (oi := _) (v := ?_) rfl (by kernel_rfl) (by kernel_rfl) (by kernel_rfl) (by decide) (ok := _) rfl (by kernel_rfl) (by kernel_rfl) (fun _ _ _ h => h) (Or.inl ⟨by rfl, ?_⟩) ⟨Y.1, fun _ => Y.2 (by rfl)⟩ ?_;rotate_left
     ·intro w zu; (try dsimp only at zu); first | (go_simp; done) | (go_simp; with_reducible rfl)
     try simp only [Act.put]
     refine zlk 14 Y ?_;try simp only [Act.put]
     refine zlk 15 Y ?_;try simp only [Act.put]
     refine zlk 16 Y ?_;try simp only [Act.put]
     refine zlk 17 Y ?_;try simp only [Act.put]
     refine zlk 18 Y ?_;try simp only [Act.put]
     refine AnyL.one (i := 19) (o := _) (by kernel_rfl) rfl (fun K hK => ?_);go_simp
     (refine (zM.out _ (l.drewN 1)).mono ?_; rintro e y1 ⟨_, rfl, rfl, J⟩; have zC := zbt yC J; have z8 : wr.grownBy y1 (some I) := gbw k0 J; have zr : y1.cell? ⟨I, j, none⟩ = some (.string (RS f)) := (zcq J (by show I < wr.heap.size; exact yw) zq :); have h7 : y1.frozen? ⟨I, j, none⟩ = false := (J.frozen (p := ⟨I, j, none⟩) (by show I < wr.heap.size; exact yw)).trans hD)
     refine hK.out _ _ ⟨L.out _ z8, fun hk => zr⟩ (fun Y => ?_);clear hK K;try simp only [Act.put]
     refine zlk 20 Y ?_;try simp only [Act.put]
     refine AnyL.one (i := 21) (o := _) (by kernel_rfl) rfl (fun K hK => ?_);go_simp;refine hK.out _ _ ⟨L.out _ (gst z8 _ _), fun hk => (by simp at hk)⟩ (fun Y => ?_);clear hK K;try simp only [Act.put]
     refine AnyL.done (by kernel_rfl) ?_ _;obtain ⟨W8, hh⟩ := zex (y1.setCell ⟨I, j, none⟩ (.string (RS (f + x))));have hM : wr.grownBy W8 (some I) := by rw [hh]; exact gst z8 _ _
     have xf : y1.grownBy W8 (some I) := by rw [hh]; exact gst (grl y1 _) _ _
     have yf : FlsD 33 W8 M (.slice (some ⟨gR, 0, none⟩) (S.length + 1) t) (midR Z R n i (j + 1)) := by rw [hh]; exact zc.out y1 zC
     have yc := ci.gb hM (fun e => yy (Option.some.inj e));have yK := World.ownsRow.kept zG hM (.inr (fun e => by have := x8 _ e; omega));have yM := World.ownsRow.kept zb hM (.inr (fun e => obN zb zN.out (by decide) e.symm));have zs : Below w5.heap.size w5 W8 := by rw [hh]; exact ((zbt gi zC)).setCell (p := ⟨I, j, none⟩) xd _
     have x5 : W8.cell? ⟨I, j, none⟩ = some (.string (RS (f + x))) := by rw [hh]; exact World.cell?_setCell_same' _ _ _ (by rw [zr]; rfl)
     obtain ⟨⟨xr, xo⟩, -, -⟩ := L.out W8 hM;rw [<- hh];clear hh hM xf zc L zM z8 zC J zr h7 zq k0 yC zw hD zG zb ci di zN;go_wp2_with fail;refine zR (zO.out W8 (hg.below (h4.out _ zs))) fun W10 hb10 => ?_;have yg := zbt zs hb10;have yb := yc.bl hb10;have yJ := WRA yK hb10;have yL := WRA yM hb10;have ye := yf.below hb10;clear hb10 zs yc yK yM yf x5 xr xo zO;go_wp2_with fail;go_roundw
     case rel => exact ⟨j + 1, by go_num, by omega, yb, ye, yJ, yL, yg⟩
     case measure =>
      show F.length - ((j : Int) + 1).toNat < F.length - ((j : Int)).toNat;omega
    ·obtain rfl : j = F.length := by omega
     have dn : FlsD 33 wr M (.slice (some ⟨gR, 0, none⟩) (S.length + 1) t) (midR Z R n (i + 1) 0) := by
      rw [hs.out, mRn xk (fun G hG => (ya.out G hG).1)] at di;exact di
     go_wp2_with fail;go_roundw
     case rel => exact ⟨i + 1, by go_num, by omega, by omega, ci, dn, zG, zb, gi⟩
     case measure =>
      show S.length + 1 - ((i : Int) + 1).toNat < S.length + 1 - ((i : Int)).toNat;omega
  ·obtain rfl : i = S.length + 1 := by omega
   have c6 := V.bl gr;obtain ⟨t0, t1, t2⟩ := zk3 c6;have f0 := c6.frozen 0;have f1 := c6.frozen 1;have f2 := c6.frozen 2;obtain ⟨x0, x1⟩ := zk2 cr;go_wp2_with fail;have kk := b3s c6 (v0 := .slice q1 B.length k1) (v1 := .slice q8 (U.length + 1) k8) (v2 := .slice pR (S.length + 1) t);have hi : w.heap.size <= w.heap.size + 3 := by omega
   have x6 := h4.out _ gr;have O := ((x6.setCell (p := ⟨w.heap.size + 3, 0, none⟩) hi (.slice q1 B.length k1)).setCell (p := ⟨w.heap.size + 3, 1, none⟩) hi (.slice q8 (U.length + 1) k8)).setCell (p := ⟨w.heap.size + 3, 2, none⟩) hi (.slice pR (S.length + 1) t);have yH := os3 p1 (by decide) c6 (x0 := .slice q1 B.length k1) (x1 := .slice q8 (U.length + 1) k8) (x2 := .slice pR (S.length + 1) t);have yI := os3 p2 (by decide) c6 (x0 := .slice q1 B.length k1) (x1 := .slice q8 (U.length + 1) k8) (x2 := .slice pR (S.length + 1) t);have zF := dr.kept (gst (gst (gst (grl wr (some (w.heap.size + 3))) 0 (.slice q1 B.length k1)) 1 (.slice q8 (U.length + 1) k8)) 2 (.slice pR (S.length + 1) t)) (fun x e s n xs he h => .inr (fun e' => obN h c6 (by rcases he with rfl | rfl <;> decide) e'.symm));obtain ⟨a0, a1, a2⟩ := zk3 kk;rw [zT.out] at zF;refine bodyPost_ret (v := .tuple #[.agg #[.slice q1 B.length k1, .slice q8 (U.length + 1) k8, .slice pR (S.length + 1) t], .int .i64 0]) (by simp [results, Tryz.results11, go_sem, a0, a1, a2]) rfl ⟨_, rfl, .inr ⟨x3.out, _, _, _, rfl, FldV.rd yH, ?_, ?_, ?_⟩, O⟩
   ·have h5 := RdC.of_owns yI
    unfold RdS;rw [Int.toNat_natCast, <- y8.out, zm.out];exact h5
   ·rw [zi.out]
    exact zF.v.rd
   ·refine ⟨FldV.base yH hf.size, ?_, ?_⟩
    ·rw [Int.toNat_natCast, <- y8.out, zm.out]
     exact oRb yI hf.size
    ·rw [zi.out]
     exact zF.v.base (Nat.le_trans hf.size yl)
open Go.Shelf
theorem OwnD.kept {w w' : World} {base g : Nat} {v1 v2 v3 : Value} {B : List Rat} {U : List ByteArray} {S : List (List Rat)} (h : OwnD w base v1 v2 v3 B U S) (Y : w.grownBy w' (some g)) (X : g < base) : OwnD w' base v1 v2 v3 B U S := by
 have Z : ∀ (x : Value) (e s n : Nat) (xs : List Value), w.ownsRow base e s x n xs -> x.ownBlock = none \/ x.ownBlock ≠ some g := fun x e s n xs hx => .inr fun e' => by have := (hx.lt g e').1; omega
 exact ⟨World.ownsRow.kept h.1 Y (Z _ _ _ _ _ h.1), World.ownsRow.kept h.2.1 Y (Z _ _ _ _ _ h.2.1), h.2.2.kept Y (fun x e s n xs _ hx => Z x e s n xs hx)⟩
theorem OwnD.unit {w : World} {base : Nat} {v1 v2 v3 : Value} {B : List Rat} {U : List ByteArray} {S : List (List Rat)} (h : OwnD w base v1 v2 v3 B U S) : RdS w v2 U := RdC.of_owns h.2.1
theorem fNn (B : List Rat) (S : List (List Rat)) {i : Nat} (h : i < S.length) : fldN B S (i + 1) = S[i] := by
 unfold fldN;rw [List.getElem?_cons_succ, List.getElem?_eq_getElem h];rfl
theorem sn0 (w : World) (vp vt a vu vs : Value) (P : List PtQ) (T : List Tri) (k : Nat) (B : List Rat) (U : List ByteArray) (S : List (List Rat)) (h : DepN w vp vt a vu vs P T k B U S) (V : Int) (hP : P ≠ []) (i : Good w) :
 Calls Tryz.prog 18 #[.agg #[vp, vt], .agg #[a, vu, vs], .int .i64 V] w (Ret (fun r w2 => (¬ (0 <= V /\ V <= (S.length : Int)) /\ r = .tuple #[.slice none 0 0, .int .i64 3]) \/ (∃ n : Nat, V = (n : Int) /\ n <= S.length /\ ∃ v, r = .tuple #[v, .int .i64 0] /\ FldV w2 w.heap.size v (fldN B S n))) w) := by
 have R : Hid (∀ w', Below w.heap.size w w' -> Good w' -> _) := fun w' hb hg' => sg0 w' _ _ _ _ _ P T k _ U _ (h.below hb).toT hg';rw [h.ok] at R;have X := h.ul;have x := hid h;obtain ⟨d, m, c, l, E, H, C, G, D, cs, rfl, rfl, rfl, rfl, rfl⟩ := h.open;rw [X] at R ⊢;have f := h.u60;have h3 := h.m.plen;clear h;obtain ⟨Z, I⟩ : ∃ n, n = S.length := ⟨_, rfl⟩;have z := hid I;by_cases hr : 0 <= V /\ V <= (S.length : Int)
 ·obtain ⟨n, rfl⟩ : ∃ n : Nat, V = (n : Int) := ⟨V.toNat, by omega⟩
  have g : n <= S.length := by omega
  obtain ⟨pf, cf, y, J⟩ := x.out.surface n g;rw [X] at J;have O := x.out.fl _ (fNm B S g);have q : Hid (∀ w', Below w.heap.size w w' -> _) := fun w' hb => J w' hb;have A : Hid (∀ w', Below w.heap.size w w' -> Calls Tryz.prog 47 #[.slice pf P.length cf] w' (Ret (fun r w2 => FldV w2 w'.heap.size r (fldN B S n)) w')) := fun w' hb => ca0 w' _ _ (RdC.below y hb) (by intro e; rw [e] at O; exact hP (List.eq_nil_of_length_eq_zero O.symm)) (by rw [O]; omega)
  have t : (n : Int) < (S.length : Int) + 1 := by omega
  have h0 : Hid (U.length = S.length + 1) := X;clear J y O hr X x z I Z;obtain ⟨FN, K⟩ : ∃ F, F = fldN B S n := ⟨_, rfl⟩;rw [<- K] at A;have s : Hid (∀ w b v, FldV w b v FN -> FldV w b v (fldN B S n)) := fun w b v h => by rw [<- K]; exact h
  clear K;generalize S.length = Z at *;go_enter Tryz.func18, Tryz.ntmps18;go_wp2_with fail;obtain ⟨W, Q⟩ := zex ((w.alloc (.cells #[.slice d P.length m, .slice c T.length l] 41)).alloc (.cells #[.slice E P.length H, .slice C (Z + 1) G, .slice D Z cs] 45));have N : Below w.heap.size w W := by rw [Q]; exact zal2 _ _ _
  have M : BoxN W (w.heap.size + 1) 45 [.slice E P.length H, .slice C (Z + 1) G, .slice D Z cs] := by rw [Q]; exact BoxN.new _ #[.slice E P.length H, .slice C (Z + 1) G, .slice D Z cs] _ _ (by simp)
  rw [<- Q];clear Q;refine zR (R.out W N (i.below N)) fun w1 hb1 => ?_;have Y := zbt N hb1;replace M := M.bl hb1;obtain ⟨d0, j, d2⟩ := zk3 M;clear hb1 N;go_wp2_with fail;refine zR (q.out w1 Y) fun w2 hb2 => ?_;have L := zbt Y hb2;clear hb2 Y d0 j d2;go_wp2_with fail;refine (A.out w2 L).mono ?_;rintro e w3 ⟨v, rfl, hv, o⟩;have p := zbt L o;go_wp2_with fail;go_ret2;exact ⟨_, rfl, .inr ⟨n, rfl, by omega, v, rfl, s.out _ _ _ (hv.base L.size)⟩, p⟩
 ·have HR := hid hr
  have t : V < 0 \/ (¬ V < 0 /\ ¬ V < (S.length : Int) + 1) := by omega
  clear hr x z I Z X;generalize S.length = Z at *;rcases t with t | ⟨t, h2⟩
  all_goals
   go_enter Tryz.func18, Tryz.ntmps18;go_wp2_with fail;obtain ⟨W, Q⟩ := zex ((w.alloc (.cells #[.slice d P.length m, .slice c T.length l] 41)).alloc (.cells #[.slice E P.length H, .slice C (Z + 1) G, .slice D Z cs] 45));have N : Below w.heap.size w W := by rw [Q]; exact zal2 _ _ _
   have M : BoxN W (w.heap.size + 1) 45 [.slice E P.length H, .slice C (Z + 1) G, .slice D Z cs] := by rw [Q]; exact BoxN.new _ #[.slice E P.length H, .slice C (Z + 1) G, .slice D Z cs] _ _ (by simp)
   rw [<- Q];clear Q;refine zR (R.out W N (i.below N)) fun w1 hb1 => ?_;have Y := zbt N hb1;replace M := M.bl hb1;have j := M.cell 1 rfl;go_wp2_with fail;go_ret2;exact ⟨_, rfl, .inl ⟨HR.out, rfl⟩, Y⟩
theorem sQt {F G : List Rat} (h : F.length = G.length) {j : Nat} (Z : j < G.length) : (subQ F G).take (j + 1) = (subQ F G).take j ++ [hI F j - hI G j] := by
 have Y : j < (subQ F G).length := by rw [sQl _ _ h]; exact Z
 rw [List.take_succ_eq_append_getElem Y, hh0 F j (by omega), hh0 G j Z];congr 2;have := sQg F G j (by omega) Z;rw [List.getElem?_eq_getElem Y] at this;exact Option.some.inj this
def pinL (F G : List Rat) : Nat -> List Nat
 | 0 => []
 | i + 1 => if hI F i = hI G i then pinL F G i ++ [i] else pinL F G i
theorem pLl (F G : List Rat) : ∀ i, (pinL F G i).length <= i
 | 0 => Nat.le_refl _
 | i + 1 => by
   have := pLl F G i;unfold pinL;split
   ·rw [List.length_append]; simp; omega
   ·omega
theorem sk0 (w : World) (O M Q L N : Value) (P : List PtQ) (T : List Tri) (k : Nat) (B : List Rat) (U : List ByteArray) (S : List (List Rat)) (h : DepN w O M Q L N P T k B U S) (u : ByteArray) (R : findE U S.length u ≠ 0) (G : Good w) :
 Calls Tryz.prog 20 #[.agg #[O, M], .agg #[Q, L, N], .string u] w (Ret (fun r _ => r = .tuple #[.slice none 0 0, .int .i64 (findE U S.length u)]) w) := by
 have Z : Hid (∀ w', Below w.heap.size w w' -> Good w' -> _) := fun w' hb hg' => sc0 w' _ _ _ _ _ P T k B U S (h.below hb) u hg';rw [if_neg R] at Z;obtain ⟨D, J, A, I, E, K, z, H, C, cs, rfl, rfl, rfl, rfl, rfl⟩ := h.open;generalize findE U S.length u = fe at *;have y : (fe != 0) = true := by rw [bne_iff_ne]; exact R
 clear h;go_enter Tryz.func20, Tryz.ntmps20;go_wp2_with fail;obtain ⟨W, V⟩ := zex ((w.alloc (.cells #[.slice D P.length J, .slice A T.length I] 41)).alloc (.cells #[.slice E P.length K, .slice z U.length H, .slice C S.length cs] 45));have Y : Below w.heap.size w W := by rw [V]; exact zal2 _ _ _
 rw [<- V];clear V;refine zR (Z.out W Y (G.below Y)) fun w1 hb1 => ?_;have X := zbt Y hb1;go_wp2_with fail;go_ret2;exact ⟨_, rfl, rfl, X⟩
theorem sv0 (w : World) (vp vt vb vu vs : Value) (P : List PtQ) (T : List Tri) (k : Nat) (B : List Rat) (U : List ByteArray) (S : List (List Rat)) (h : DepN w vp vt vb vu vs P T k B U S) (hk : k <= 90) (hP : 0 < P.length) (u : ByteArray) (i : Nat) (hi : i < S.length) (y : idxS U u = (i : Int)) (z : Good w) :
 Calls Tryz.prog 20 #[.agg #[vp, vt], .agg #[vb, vu, vs], .string u] w (Ret (fun r w2 => ∃ v, r = .tuple #[v, .int .i64 0] /\ FldV w2 w.heap.size v (subQ (fldN B S (i + 1)) (fldN B S i))) w) := by
 have h6 : findE U S.length u = 0 := by
  unfold findE;rw [y, if_neg (by omega), if_neg (by omega)]
 have I : Hid (∀ w', Below w.heap.size w w' -> Good w' -> _) := fun w' hb hg' => sc0 w' _ _ _ _ _ P T k B U S (h.below hb) u hg';rw [h6, if_pos rfl, y] at I;obtain ⟨i0, hC, hH, hJ, hK⟩ := info_parts isr;obtain ⟨pf, cf, h7, h1⟩ := h.surface i (by omega);obtain ⟨l, os, Q, hE, hA, X⟩ := h.surf.cells (by omega);obtain ⟨pg, cg, h5, q⟩ := X i hi;have s : S[i] ∈ B :: S := List.mem_cons_of_mem _ (List.getElem_mem hi);have t := fNm B S (i := i) (by omega);have x := h.fl _ s;have h8 := h.fl _ t;rw [x] at h5 q;have L : Hid (S[i].length = P.length) := x;have V : Hid ((fldN B S i).length = P.length) := h8;have hs : Hid (∀ j : Nat, j < P.length -> Sz k (hI S[i] j) /\ Sz k (hI (fldN B S i) j)) := fun j hj => by
  rw [hh0 _ j (by omega), hh0 _ j (by omega)];exact ⟨h.fs _ s _ (List.getElem_mem _), h.fs _ t _ (List.getElem_mem _)⟩
 have hq := hid h1;have hD := h.m.kpos;have hU := h.m.plen;have ho := hid q;have hn := hid h7;rw [fNn B S hi];obtain ⟨pp, cp, pt, ct, pb, f, pu, d, ps, cs, rfl, rfl, rfl, rfl, hG⟩ := h.open;subst hE;injection hG with hv1 hv2 hv3
 clear hv2 hv1 ps hv3 cs;have hr : Hid (∀ j : Nat, j < P.length -> (subQ S[i] (fldN B S i)).take (j + 1) = (subQ S[i] (fldN B S i)).take j ++ [hI S[i] j - hI (fldN B S i) j]) := fun j hj => sQt (by rw [L.out, V.out]) (by rw [V.out]; exact hj)
 have o : Hid ((subQ S[i] (fldN B S i)).length = P.length) := by unfold Hid; rw [sQl _ _ (by rw [L.out, V.out]), V.out]
 generalize subQ S[i] (fldN B S i) = D at *;generalize S[i] = FU at *;generalize fldN B S i = FL at *;clear h X q h7 h1 s t x h8 h6 y;generalize S.length = n at *;have hR : (i : Int) < (n : Int) := by omega
 go_enter Tryz.func20, Tryz.ntmps20;go_wp2_with fail;obtain ⟨W, hW⟩ := zex ((w.alloc (.cells #[.slice pp P.length cp, .slice pt T.length ct] 41)).alloc (.cells #[.slice pb P.length f, .slice pu U.length d, .slice (some ⟨l, os, none⟩) n Q] 45));have hB : Below w.heap.size w W := by rw [hW]; exact zal2 _ _ _
 have b4 : BoxN W (w.heap.size + 1) 45 [.slice pb P.length f, .slice pu U.length d, .slice (some ⟨l, os, none⟩) n Q] := by rw [hW]; exact BoxN.new _ #[.slice pb P.length f, .slice pu U.length d, .slice (some ⟨l, os, none⟩) n Q] _ _ (by simp)
 rw [<- hW];clear hW;refine zR (I.out W hB (z.below hB)) fun w1 hb1 => ?_;have c := zbt hB hb1;replace b4 := b4.bl hb1;clear hb1 hB I;have H := b4.alloc (.cells #[] 55);obtain ⟨d0, d1, d2⟩ := zk3 H;go_wp2_with fail;obtain ⟨W2, O⟩ : ∃ W, W = w1.alloc (.cells #[] 55) := ⟨_, rfl⟩;have N : Below w1.heap.size w1 W2 := by rw [O]; exact zal _ _
 have G := zbt c N;have J : W2.ownsRow w1.heap.size 55 1 (.slice (some ⟨w1.heap.size, 0, none⟩) 0 0) 0 ([] : List Value) := by
  rw [O];have := World.ownsRow_lit (base := w1.heap.size) (e := 55) (size := 1) w1 #[] 0 (by simp) (by decide) rfl;simpa using this
 have m : BoxN W2 (w.heap.size + 1) 45 [.slice pb P.length f, .slice pu U.length d, .slice (some ⟨l, os, none⟩) n Q] := by rw [O]; exact H
 rw [<- O];clear O b4 d0 d1 d2 H;refine zR (hq.out W2 G) fun w2 hb2 => ?_;have hw := zbt G hb2;have b5 := m.bl hb2;have hd := WRA J hb2;have hv := c.size;have hu : w1.heap.size <= w2.heap.size := Nat.le_trans N.size hb2.size;have hX := b5.lt;clear m J hb2 G N;obtain ⟨bf, of, hN, ef, hy, A⟩ := hn.out.cells (by have := V.out; omega);obtain ⟨bg, og, hO, eg, hz, M⟩ := ho.out.cells (by have := L.out; omega);rw [V.out] at ef A;rw [L.out] at eg M;injection ef with ef1 ef2 ef3
 injection eg with eg1 eg2 eg3
 clear ef2 eg2;subst ef1 ef3 eg1 eg3;have hh := hid A;have hl := hid M;clear A M;go_wp2_with fail;go_loopw [10, 29] (fun t10 t29 wr => ∃ j : Nat, t29 = .int .i64 j /\ j <= P.length /\ wr.ownsRow w1.heap.size 55 1 t10 j (cFd (D.take j)) /\ BoxN wr (w.heap.size + 1) 45 [.slice pb P.length f, .slice pu U.length d, .slice (some ⟨l, os, none⟩) n Q] /\ Below w.heap.size w wr /\ w1.heap.size <= wr.heap.size) (fun _ t29 _ => P.length - (RowKit.intOf t29).toNat)
 case atStart => exact ⟨0, rfl, Nat.zero_le _, hd, b5, hw, hu⟩
 case round =>
  obtain ⟨j, rfl, hS, Z, C, R, ha⟩ := hrel;obtain ⟨hf, g, rfl⟩ := oRs Z;rcases Nat.lt_or_ge j P.length with h | h
  ·have hT : (j : Int) < (P.length : Int) := by omega
   have x1 := zcq R hy (hh.out j h);have x2 := zcq R hA h5;have x3 := zcq R hz (hl.out j h);have d2 := C.cell 2 rfl;obtain ⟨s1, s2⟩ := hs.out j h;have ht := hid (hr.out j h);have hp := hid fun w z => rSa (hI FU j) (hI FL j) k hD (by omega) s1 s2 w z
   have hm := hid fun w z => rCo (hI FU j - hI FL j) ((s1.sub s2).mono (by omega)) w z
   generalize hI FU (j : Int) = qu at *;generalize hI FL (j : Int) = ql at *;generalize qu - ql = df at *;clear s1 s2;go_wp2_with fail;refine zR (hp.out wr (z.below R)) fun y1 hy1 => ?_;have a := zbt R hy1;have he := WRA Z hy1;have h3 := C.bl hy1;have hc := Nat.le_trans ha hy1.size;clear hy1 Z C ha x1 x2 x3 d2;go_wp2_with fail;refine zR (hm.out y1 (z.below a)) fun y2 hy2 => ?_;have E := zbt a hy2;have p := (WRA he hy2).alloc (.cells #[.string (RS df)] 55);have h4 := (h3.bl hy2).alloc (.cells #[.string (RS df)] 55);have hV := Nat.le_trans hc hy2.size;have h0 := E.alloc E.size (.cells #[.string (RS df)] 55);have hM := obN p h4 (by decide);clear hy2 he h3 hc
   go_wp2_with (at_builtin; refine wpList_append_own _ rfl _ _ 33 rfl w1.heap.size 55 i0 (.string ⟨#[]⟩) 1 16 Tryz.underlying33 hC hH hJ hK rfl (by decide) _ _ _ rfl p ⟨y2.heap.size, 0, none⟩ 1 1 [.string (RS df)] rfl rfl (cos _ _ _) (ocs _) (by unfold maxLen; omega) (by omega) (by simp; omega) ?_
                intro v3 w3 K Y _;have hx := h4.gb Y (fun e => hM e.symm);have b : Below w.heap.size w w3 := h0.grown Y (by have := E.size; simp; omega) (fun k hk => by have := (p.lt k hk).1; omega);have hL : w1.heap.size <= w3.heap.size := by have := Y.size; simp at this; omega)
   have h9 : w3.ownsRow w1.heap.size 55 1 v3 (j + 1) (cFd (D.take (j + 1))) := by
    rw [ht.out];unfold cFd at K ⊢;rw [List.map_append];exact K
   go_roundw
   case rel => exact ⟨j + 1, by go_num, by omega, h9, hx, b, hL⟩
   case measure =>
    show P.length - ((j : Int) + 1).toNat < P.length - (j : Int).toNat;omega
  ·obtain rfl : j = P.length := by omega
   have hQ : ¬ (P.length : Int) < (P.length : Int) := by omega
   rw [List.take_of_length_le (by rw [o.out]; exact Nat.le_refl _)] at Z;have hF : FldV wr w.heap.size (.slice hf P.length g) D := by
    have h2 : FldV wr w1.heap.size (.slice hf P.length g) D := by unfold FldV; rw [o.out]; exact Z
    exact h2.base hv
   clear Z;go_wp2_with fail;go_ret2;exact ⟨_, rfl, ⟨_, rfl, hF⟩, R⟩
theorem ii2 : (Tryz.prog.info? 3).map (fun i => (i.zero, i.size, i.bytes)) = some (some (.int .i64 0), 1, 8) := by kernel_rfl
theorem sl0 (w : World) (O M Q L N : Value) (P : List PtQ) (T : List Tri) (k : Nat) (B : List Rat) (U : List ByteArray) (S : List (List Rat)) (h : DepN w O M Q L N P T k B U S) (u : ByteArray) (R : findE U S.length u ≠ 0) (G : Good w) :
 Calls Tryz.prog 22 #[.agg #[O, M], .agg #[Q, L, N], .string u] w (Ret (fun r _ => r = .tuple #[.slice none 0 0, .int .i64 (findE U S.length u)]) w) := by
 have Z : Hid (∀ w', Below w.heap.size w w' -> Good w' -> _) := fun w' hb hg' => sc0 w' _ _ _ _ _ P T k B U S (h.below hb) u hg';rw [if_neg R] at Z;obtain ⟨D, J, A, I, E, K, z, H, C, cs, rfl, rfl, rfl, rfl, rfl⟩ := h.open;generalize findE U S.length u = fe at *;have y : (fe != 0) = true := by rw [bne_iff_ne]; exact R
 clear h;go_enter Tryz.func22, Tryz.ntmps22;go_wp2_with fail;obtain ⟨W, V⟩ := zex ((w.alloc (.cells #[.slice D P.length J, .slice A T.length I] 41)).alloc (.cells #[.slice E P.length K, .slice z U.length H, .slice C S.length cs] 45));have Y : Below w.heap.size w W := by rw [V]; exact zal2 _ _ _
 rw [<- V];clear V;refine zR (Z.out W Y (G.below Y)) fun w1 hb1 => ?_;have X := zbt Y hb1;go_wp2_with fail;go_ret2;exact ⟨_, rfl, rfl, X⟩
theorem sx0 (w : World) (vp vt vb vu vs : Value) (P : List PtQ) (T : List Tri) (k : Nat) (B : List Rat) (U : List ByteArray) (S : List (List Rat)) (h : DepN w vp vt vb vu vs P T k B U S) (hr : 0 < P.length) (u : ByteArray) (i : Nat) (hi : i < S.length) (J : idxS U u = (i : Int)) (hg : Good w) :
 Calls Tryz.prog 22 #[.agg #[vp, vt], .agg #[vb, vu, vs], .string u] w (Ret (fun r w2 => ∃ v, r = .tuple #[v, .int .i64 0] /\ w2.ownsRow w.heap.size 3 1 v (pinL (fldN B S (i + 1)) (fldN B S i) P.length).length ((pinL (fldN B S (i + 1)) (fldN B S i) P.length).map fun x : Nat => Value.int .i64 (x : Int))) w) := by
 have q : findE U S.length u = 0 := by
  unfold findE;rw [J, if_neg (by omega), if_neg (by omega)]
 have N : Hid (∀ w', Below w.heap.size w w' -> Good w' -> _) := fun w' hb hg' => sc0 w' _ _ _ _ _ P T k B U S (h.below hb) u hg';rw [q, if_pos rfl, J] at N;obtain ⟨i0, ha, hh, hj, hl⟩ := info_parts ii2;obtain ⟨pf, cf, p, y⟩ := h.surface i (by omega);obtain ⟨b, os, O, hd, h9, X⟩ := h.surf.cells (by omega);obtain ⟨pg, cg, s, H⟩ := X i hi;have g : S[i] ∈ B :: S := List.mem_cons_of_mem _ (List.getElem_mem hi);have l := fNm B S (i := i) (by omega);have I := h.fl _ g;have o := h.fl _ l;rw [I] at s H;have D : Hid (S[i].length = P.length) := I;have E : Hid ((fldN B S i).length = P.length) := o;have h4 := hid y;have hy := h.m.plen;have h3 := hid H;have h2 := hid p;rw [fNn B S hi];obtain ⟨pp, cp, pt, ct, pb, a, pu, cu, ps, cs, rfl, rfl, rfl, rfl, hf⟩ := h.open;subst hd;injection hf with hv1 hv2 hv3
 clear hv2 hv1 ps hv3 cs;generalize S[i] = FU at *;generalize fldN B S i = FL at *;clear h X H p y g l I o q J;generalize S.length = n at *;have ht : (i : Int) < (n : Int) := by omega
 go_enter Tryz.func22, Tryz.ntmps22;go_wp2_with fail;obtain ⟨W, hW⟩ := zex ((w.alloc (.cells #[.slice pp P.length cp, .slice pt T.length ct] 41)).alloc (.cells #[.slice pb P.length a, .slice pu U.length cu, .slice (some ⟨b, os, none⟩) n O] 45));have hB : Below w.heap.size w W := by rw [hW]; exact zal2 _ _ _
 have C : BoxN W (w.heap.size + 1) 45 [.slice pb P.length a, .slice pu U.length cu, .slice (some ⟨b, os, none⟩) n O] := by rw [hW]; exact BoxN.new _ #[.slice pb P.length a, .slice pu U.length cu, .slice (some ⟨b, os, none⟩) n O] _ _ (by simp)
 rw [<- hW];clear hW;refine zR (N.out W hB (hg.below hB)) fun w1 hb1 => ?_;have M := zbt hB hb1;replace C := C.bl hb1;clear hb1 hB N;obtain ⟨d0, d1, d2⟩ := zk3 C;go_wp2_with fail;refine zR (h4.out w1 M) fun w2 hb2 => ?_;have h5 := zbt M hb2;have b5 := C.bl hb2;have hz := b5.lt;clear C hb2 M d0 d1 d2;obtain ⟨bf, of, hp, ef, h7, K⟩ := h2.out.cells (by have := E.out; omega);obtain ⟨bg, og, hq, eg, h8, Q⟩ := h3.out.cells (by have := D.out; omega);rw [E.out] at ef K;rw [D.out] at eg Q;injection ef with ef1 ef2 ef3
 injection eg with eg1 eg2 eg3
 clear ef2 eg2;subst ef1 ef3 eg1 eg3;have h0 := hid K;have h1 := hid Q;clear K Q;go_wp2_with fail;go_loopw [10, 27] (fun t10 t27 wr => ∃ (j m : Nat), t27 = .int .i64 j /\ j <= P.length /\ Hid ((pinL FU FL j).length = m) /\ wr.ownsRow w.heap.size 3 1 t10 m ((pinL FU FL j).map fun x : Nat => Value.int .i64 (x : Int)) /\ BoxN wr (w.heap.size + 1) 45 [.slice pb P.length a, .slice pu U.length cu, .slice (some ⟨b, os, none⟩) n O] /\ Below w.heap.size w wr) (fun _ t27 _ => P.length - (RowKit.intOf t27).toNat)
 case atStart => exact ⟨0, 0, rfl, Nat.zero_le _, rfl, World.ownsRow_nil _ _ _ _, b5, h5⟩
 case round =>
  obtain ⟨j, m, rfl, hv, c, Y, L, Z⟩ := hrel;obtain ⟨hA, ho, rfl⟩ := oRs Y;rcases Nat.lt_or_ge j P.length with h | h
  ·have hw : (j : Int) < (P.length : Int) := by omega
   have hx : m <= j := by have := pLl FU FL j; have := c.out; omega
   have x1 := zcq Z h7 (h0.out j h);have x2 := zcq Z h9 s;have x3 := zcq Z h8 (h1.out j h);have d2 := L.cell 2 rfl;by_cases he : hI FU j = hI FL j
   ·have R : Hid (pinL FU FL (j + 1) = pinL FU FL j ++ [j]) := by unfold Hid; rw [pinL, if_pos he]
    rw [he] at x3;generalize RS (hI FL (j : Int)) = sl at *;have G := Y.alloc (.cells #[.int .i64 j] 3);have t := L.alloc (.cells #[.int .i64 j] 3);have z := Z.alloc Z.size (.cells #[.int .i64 j] 3);have hm := obN G t (by decide);have hn := Z.size;clear he
    go_wp2_with (at_builtin; refine wpList_append_own _ rfl _ _ 66 rfl w.heap.size 3 i0 (.int .i64 0) 1 8 Tryz.underlying66 ha hh hj hl rfl (by decide) _ _ _ rfl G ⟨wr.heap.size, 0, none⟩ 1 1 [.int .i64 j] rfl rfl (cell_one_new _ _ _) (by intro u hu; simp at hu; subst hu; rfl) (by unfold maxLen; omega) (by omega) (by simp; omega) ?_
                 intro v3 w3 f V _;have h6 := t.gb V (fun e => hm e.symm);have A : Below w.heap.size w w3 := z.grown V (by simp; omega) (fun k hk => (G.lt k hk).1))
    have d : w3.ownsRow w.heap.size 3 1 v3 (m + 1) ((pinL FU FL (j + 1)).map fun x : Nat => Value.int .i64 (x : Int)) := by
     rw [R.out, List.map_append];exact f
    go_roundw
    case rel => exact ⟨j + 1, m + 1, by go_num, by omega, by unfold Hid; rw [R.out, List.length_append, c.out]; rfl, d, h6, A⟩
    case measure =>
     show P.length - ((j : Int) + 1).toNat < P.length - (j : Int).toNat;omega
   ·have R : Hid (pinL FU FL (j + 1) = pinL FU FL j) := by unfold Hid; rw [pinL, if_neg he]
    have hc : ¬ RS (hI FU j) = RS (hI FL j) := fun e => he (Rij e);rcases bse (RS (hI FU j)) (RS (hI FL j)) with ⟨e1, -⟩ | ⟨-, e2, e3⟩
    ·exact absurd e1 hc
    generalize RS (hI FL (j : Int)) = sl at *;generalize RS (hI FU (j : Int)) = su at *;clear he;go_wp2_with fail;go_roundw
    case rel => exact ⟨j + 1, m, by go_num, by omega, by unfold Hid; rw [R.out, c.out], by rw [R.out]; exact Y, L, Z⟩
    case measure =>
     show P.length - ((j : Int) + 1).toNat < P.length - (j : Int).toNat;omega
  ·obtain rfl : j = P.length := by omega
   have hs : ¬ (P.length : Int) < (P.length : Int) := by omega
   have HF := hid Y;clear Y;go_wp2_with fail;go_ret2;exact ⟨_, rfl, ⟨_, rfl, by rw [c.out]; exact HF.out⟩, Z⟩
theorem aQf {a b c : PtQ} {N B : Nat} (Z : FrP N B a) (Y : FrP N B b) (X : FrP N B c) : Fr (N * N) (8 * (B * B)) (areaQ a b c) := by
 have := ((Y.1.sub Z.1).mul (X.2.sub Z.2)).sub ((Y.2.sub Z.2).mul (X.1.sub Z.1));refine this.mono ?_;rw [show B + B = 2 * B by omega, show 2 * B * (2 * B) = 4 * (B * B) by rw [Nat.mul_mul_mul_comm]];omega
def sumD (P : List PtQ) (T : List Tri) (D : List Rat) : Nat -> Rat
 | 0 => 0
 | t + 1 => sumD P T D t + areaQ (ptI P (triI T t).1) (ptI P (triI T t).2.1) (ptI P (triI T t).2.2) * tSm D (triI T t)
theorem tSe (D : List Rat) (Z : Tri) : tSm D Z = hI D Z.1 + hI D Z.2.1 + hI D Z.2.2 := by
 show 0 + hI D Z.1 + hI D Z.2.1 + hI D Z.2.2 = _;rw [Rat.zero_add]
theorem vup {P : List PtQ} {T : List Tri} {D : List Rat} (h : ∀ z : Int, 0 <= hI D z) : ∀ t, volTo P T D 0 t = sumD P T D t * (1 / 6)
 | 0 => by show (0 : Rat) = 0 * (1 / 6); grind
 | t + 1 => by
   have U := vup (P := P) (T := T) h t;have v1 := ifs (corP P D (triI T t).1) (corP P D (triI T t).2.1) (corP P D (triI T t).2.2) 0;show volTo P T D 0 t + integ (partT P D 0 (triI T t)) 0 = (sumD P T D t + areaQ (ptI P (triI T t).1) (ptI P (triI T t).2.1) (ptI P (triI T t).2.2) * tSm D (triI T t)) * (1 / 6);rw [tSe, U];unfold partT;generalize integ (cutL (corP P D (triI T t).1) (corP P D (triI T t).2.1) (corP P D (triI T t).2.2) 0) 0 = V at *;unfold corP at v1;dsimp only at v1;have Q := h (triI T t).1;have O := h (triI T t).2.1;have N := h (triI T t).2.2;generalize areaQ (ptI P (triI T t).1) (ptI P (triI T t).2.1) (ptI P (triI T t).2.2) = A at *;generalize hI D (triI T t).1 = x at *;generalize hI D (triI T t).2.1 = y at *;generalize hI D (triI T t).2.2 = w at *;have Z : x - 0 = x := by grind
   have Y : y - 0 = y := by grind
   have X : w - 0 = w := by grind
   rw [Z, Y, X] at v1;rcases v1 with ⟨a, b, c, d⟩ | ⟨a, b, c, d⟩ | (⟨a, b, c, d, -⟩ | ⟨a, b, -⟩) | (⟨a, b, c, d, -⟩ | ⟨a, b, -⟩) | (⟨a, b, c, d, -⟩ | ⟨a, b, -⟩)
   ·have x0 : x = 0 := by grind
    have R : y = 0 := by grind
    have S : w = 0 := by grind
    subst x0 R S d;grind
   ·grind
   all_goals (exfalso; grind)
theorem sDf {P : List PtQ} {T : List Tri} {D : List Rat} (Y : ∀ z : Int, FrP 2 26 (ptI P z)) (Z : ∀ z : Int, Fr 2 304 (hI D z)) : ∀ t, Fr 8 (t * 4932096) (sumD P T D t)
 | 0 => Fr.zero _ _
 | t + 1 => by
   have X := sDf (T := T) Y Z t;have a := aQf (Y (triI T t).1) (Y (triI T t).2.1) (Y (triI T t).2.2);unfold sumD;rw [tSe];exact (X.add (a.mul (((Z (triI T t).1).add (Z (triI T t).2.1)).add (Z (triI T t).2.2)))).mono (by omega)
theorem sDS {P : List PtQ} {T : List Tri} {D : List Rat} (X : ∀ z : Int, FrP 2 26 (ptI P z)) (Y : ∀ z : Int, Fr 2 304 (hI D z)) {t : Nat} (U : t <= 8) : Sz 10 (sumD P T D t) := by
 obtain ⟨n, Z, V⟩ := sDf (T := T) X Y t;exact sod (n := 8) (m := n) (by decide) (by omega) (by decide) (by rw [<- Z]; rfl)
theorem sixth_Sz : Sz 1 (1 / 6 : Rat) := ⟨by decide +kernel, by decide +kernel⟩
theorem Rsh : RS (1 / 6) = ⟨#[49, 47, 54]⟩ := by decide +kernel
theorem f55 (w : World) (U S vf vg : Value) (P : List PtQ) (T : List Tri) (k : Nat) (F G : List Rat) (h : FieldIn w U S vf P T k F) (L : FieldIn w U S vg P T k G) (hk : k <= 5) (O : ∀ q ∈ subQ F G, Sz 5 q) (hT : T.length <= 8) (J : Sz 200 (volTo P T (subQ F G) 0 T.length)) (A : Good w) :
 Calls Tryz.prog 59 #[.agg #[U, S], vf, vg] w (Ret (fun r _ => r = .tuple #[.string (RS (volTo P T (subQ F G) 0 T.length)), .int .i64 0]) w) := by
 have HF := hid h;have HG := hid L;have i := h.m.kpos;have j := h.fl;have E := L.fl;have h4 := h.m.plen;have Q : (subQ F G).length = P.length := by rw [sQl _ _ (by omega), E]
 have h3 := hid Q;have y : Hid (∀ w' v, RdP w' U (strP P) -> RdT w' S T -> RdQ w' v (subQ F G) -> FieldIn w' U S v P T (5) (subQ F G)) := fun w' v hp ht g => ⟨hp, ht, h.m.up (by omega) (by omega), g, O, Q⟩
 have D : ∀ tr ∈ T, ∀ x ∈ idxOf tr, SzP (5) (ptI P x) /\ Sz (5) (hI (subQ F G) x) := fun tr htr x hx => by
  obtain ⟨h0, h1⟩ := h.m.idx tr htr x hx;obtain ⟨q, rfl⟩ : ∃ q : Nat, x = (q : Int) := ⟨x.toNat, by omega⟩;rw [pIn P q (by omega), hh0 (subQ F G) q (by omega)];exact ⟨⟨(h.m.sz _ (List.getElem_mem _)).1.mono (by omega), (h.m.sz _ (List.getElem_mem _)).2.mono (by omega)⟩, O _ (List.getElem_mem _)⟩
 have hV : ∀ t, t <= T.length -> Sz 20000 (volTo P T (subQ F G) 0 t) := fun t ht => (vTS (k := 5) (m := 1) (c := 2017) (by omega) D (Sz.zero _ (by omega)) (by omega) t ht).mono (by
  have : t <= 8 := by omega
  rcases (by omega : t = 0 \/ t = 1 \/ t = 2 \/ t = 3 \/ t = 4 \/ t = 5 \/ t = 6 \/ t = 7 \/ t = 8) with e | e | e | e | e | e | e | e | e <;> rw [e] <;> omega)
 have M : Hid (∀ w' v, FieldIn w' U S v P T (5) (subQ F G) -> Good w' -> _) := fun w' v h A => fa0 w' U S v P T (5) (subQ F G) h 0 1 20000 (Sz.zero _ (by omega)) (by omega) (Nat.le_refl _) (by omega) hV A
 have s : Hid (∀ w', Good w' -> _) := fun w' hg' => fok (volTo P T (subQ F G) 0 T.length) J w' hg';have z : Hid (∀ w', Below w.heap.size w w' -> Good w' -> _) := fun w' hb hg' => csb w' vf vg k F G i (by omega) (HF.out.below hb).f (HG.out.below hb).f (by omega) (by omega) h.fs L.fs hg'
 have N : Hid (∀ w', Below w.heap.size w w' -> RdP w' U (strP P) /\ RdT w' S T) := fun w' hb => ⟨RdC.below h.p hb, RdC.below h.t hb⟩;rw [RS_zero] at M;obtain ⟨f, o, d, n, pf, cf, rfl, rfl, rfl⟩ := h.open;obtain ⟨_, _, _, _, pg, cg, -, -, rfl⟩ := L.open;generalize volTo P T (subQ F G) 0 T.length = res at *;clear h L J hV D O Q j E;go_enter Tryz.func59, Tryz.ntmps59;go_wp2_with fail;obtain ⟨W, I⟩ := zex ((w.alloc (.cells #[.slice f P.length o, .slice d T.length n] 41)).alloc (.cells #[.slice pf F.length cf, .slice pg G.length cg] 33));have K : Below w.heap.size w W := by rw [I]; exact zal2 _ _ _
 have b0 : BoxN W w.heap.size 41 [.slice f P.length o, .slice d T.length n] := by rw [I]; exact (BoxN.new _ _ _ _ rfl).alloc _
 have p : BoxN W (w.heap.size + 1) 33 [.slice pf F.length cf, .slice pg G.length cg] := by rw [I]; exact BoxN.new _ _ _ _ (by simp)
 rw [<- I];clear I;refine zR (cto W _ _ _ _ P T k F G (HF.out.below K) (HG.out.below K) (w.heap.size + 1) (p.cell 0 rfl) (p.cell 1 rfl) (A.below K)) fun w1 hb1 => ?_;have V := zbt K hb1;have b1 := b0.bl hb1;clear hb1 p K b0;obtain ⟨x0, x1⟩ := zk2 b1;have lm := b1.lt;go_upto_region 4 with fail;go_cut [6, 7] (fun s6 s7 wx => s6 = .string (RS res) /\ s7 = .int .i64 0 /\ Below w1.heap.size w1 wx)
 case first =>
  have H : Good w1.drew := (A.below V).drewN 1;have R : Below w.heap.size w w1.drew := V.trans ((bdN w1 1).mono V.size);go_region_held3 (fun w' => w'.cell? ⟨w.heap.size, 0, none⟩ = some (.slice f P.length o) /\ w'.cell? ⟨w.heap.size, 1, none⟩ = some (.slice d T.length n))
   (first | exact ⟨x0, x1⟩ | exact ⟨p_1_0, p_1_1⟩ | exact ⟨p_2_0, p_2_1⟩ | exact ⟨p_3_0, p_3_1⟩)
   (first
   | (go_at_call 104; refine (s.out _ B).mono ?_; rintro e a ⟨_, rfl, rfl, X⟩
      have p_3_0 := zct X p_2_0;have p_3_1 := zct X p_2_1;have h8 := X.size;have h5 := B.below X)
   | (go_at_call 105; refine (M.out _ _ (y.out _ _ (N.out _ ((zbt R Z))).1 (N.out _ ((zbt R Z))).2 HV.out) C).mono ?_; rintro e h9 ⟨_, rfl, rfl, Y⟩
      have p_2_0 := zct Y p_1_0;have p_2_1 := zct Y p_1_1;have h7 := Y.size;have B := C.below Y)
   | (go_at_call 106; refine (z.out _ R H).mono ?_; rintro e b ⟨v, rfl, ⟨g, -⟩, Z⟩
      have p_1_0 := zct Z x0;have p_1_1 := zct Z x1;have h6 : w1.heap.size <= b.heap.size := Z.size;have C := H.below Z;have HV := hid g))
  have pB : Below w1.heap.size w1 a := zbt (zbt (zbt (bdN w1 1) Z) Y) X;go_wp2_with fail;go_meet;exact ⟨rfl, rfl, pB⟩
 case rest =>
 obtain ⟨rfl, rfl, l⟩ := hcut;go_wp2_with fail;go_ret2;exact ⟨_, rfl, rfl, (zbt V l)⟩
theorem ser (w : World) (O M Q L N : Value) (P : List PtQ) (T : List Tri) (k : Nat) (B : List Rat) (U : List ByteArray) (S : List (List Rat)) (h : DepN w O M Q L N P T k B U S) (u : ByteArray) (R : findE U S.length u ≠ 0) (G : Good w) :
 Calls Tryz.prog 21 #[.agg #[O, M], .agg #[Q, L, N], .string u] w (Ret (fun r _ => r = .tuple #[.string ⟨#[]⟩, .int .i64 (findE U S.length u)]) w) := by
 have Z : Hid (∀ w', Below w.heap.size w w' -> Good w' -> _) := fun w' hb hg' => sc0 w' _ _ _ _ _ P T k B U S (h.below hb) u hg';rw [if_neg R] at Z;obtain ⟨D, J, A, I, E, K, z, H, C, cs, rfl, rfl, rfl, rfl, rfl⟩ := h.open;generalize findE U S.length u = fe at *;have y : (fe != 0) = true := by rw [bne_iff_ne]; exact R
 clear h;go_enter Tryz.func21, Tryz.ntmps21;go_wp2_with fail;obtain ⟨W, V⟩ := zex ((w.alloc (.cells #[.slice D P.length J, .slice A T.length I] 41)).alloc (.cells #[.slice E P.length K, .slice z U.length H, .slice C S.length cs] 45));have Y : Below w.heap.size w W := by rw [V]; exact zal2 _ _ _
 rw [<- V];clear V;refine zR (Z.out W Y (G.below Y)) fun w1 hb1 => ?_;have X := zbt Y hb1;go_wp2_with fail;go_ret2;exact ⟨_, rfl, rfl, X⟩
end Go.Proofs.YtmcbeajdloaliaaGreatDoor
