import Derived.Test.YtgdpoankaojklaaGreatDoorVS34
/- stack.Insert into a right deposit. stack.Insert into a right deposit slices.Backward over numbers The iterator stack.heights$1. stack.checkPlace. stack.At. -/
set_option maxHeartbeats 16000000
set_option maxRecDepth 100000
namespace Go.Proofs.YtgdpoankaojklaaGreatDoor
open Go.RowKit Go.Lib
def addL (F X : List Rat) : List Rat := List.zipWith (· + ·) F X
def insS (B : List Rat) (S : List (List Rat)) (X : List Rat) (n : Nat) : List (List Rat) := S.take n ++ ((B :: S).drop n).map fun F => addL F X
noncomputable def unitE (n : Nat) (U : List ByteArray) (nm : ByteArray) (nz : Int) (X : List ByteArray) : Int :=
 if nameQ nm = false then 8 else if hasS U nm = true then 9 else if nz < 0 \/ (U.length : Int) <= nz then 3 else if errF n X ≠ 0 then errF n X else if negF (X.map numT) = true then 6 else if U.length = 60 then 4 else 0
def rowUp (F X : List Rat) (k : Nat) : List Rat := (addL F X).take k ++ F.drop k
theorem rowUp_zero (F X : List Rat) : rowUp F X 0 = F := by simp [rowUp]
theorem rowUp_all {F X : List Rat} (h : F.length = X.length) {k : Nat} (hk : F.length <= k) : rowUp F X k = addL F X := by
 unfold rowUp;rw [List.drop_of_length_le hk, List.append_nil, List.take_of_length_le (by unfold addL; rw [List.length_zipWith]; omega)]
theorem addL_length {F X : List Rat} (h : F.length = X.length) : (addL F X).length = F.length := by unfold addL; rw [List.length_zipWith]; omega
theorem rowUp_length {F X : List Rat} (h : F.length = X.length) (k : Nat) : (rowUp F X k).length = F.length := by
 unfold rowUp;rw [List.length_append, List.length_take, List.length_drop, addL_length h]; omega
theorem rowUp_at {F X : List Rat} (h : F.length = X.length) {k : Nat} (hk : k < F.length) : (rowUp F X k)[k]? = some F[k] := by
 unfold rowUp;rw [List.getElem?_append_right (by rw [List.length_take]; omega), List.length_take, addL_length h, Nat.min_eq_left (by omega), Nat.sub_self, List.getElem?_drop, Nat.add_zero, List.getElem?_eq_getElem hk]
theorem rowUp_set {F X : List Rat} (h : F.length = X.length) {k : Nat} (hk : k < F.length) : (rowUp F X k).set k (F[k] + X[k]) = rowUp F X (k + 1) := by
 have h1 : k < (addL F X).length := by rw [addL_length h]; exact hk
 have e : (addL F X)[k] = F[k] + X[k] := by simp [addL]
 have h2 : ((addL F X).take k).length = k := by rw [List.length_take]; omega
 unfold rowUp;rw [List.take_succ_eq_append_getElem h1, e, List.set_append_right _ _ (by omega), h2, Nat.sub_self];rw [<- List.getElem_cons_drop (h := hk), List.set_cons_zero, List.append_assoc];rfl
theorem FldV.set {w : World} {B g c : Nat} {F : List Rat} (h : FldV w B (.slice (some ⟨g, 0, none⟩) F.length c) F) {k : Nat} (q : Rat) (hk : k < F.length) : FldV (w.setCell ⟨g, k, none⟩ (.string (RS q))) B (.slice (some ⟨g, 0, none⟩) F.length c) (F.set k q) := by
 obtain ⟨g', c', l, hv, hB, hb, h1, h2, h3, h4⟩ := box_of_owns h (by omega);injection hv with e1 e2 e3
 injection e1 with e1
 injection e1 with e1
 subst e1 e3;unfold FldV;rw [List.length_set];refine owns_of_box (hb.set k (.string (RS q))) hB h1 h2 (by rw [List.length_set]; exact h3) ?_;rw [List.take_set, h4];unfold cellsFd;rw [List.map_set]
theorem FlsD.set {E : Nat} (hE : 57 ≠ E) {w : World} {B g c i k : Nat} {v : Value} {S : List (List Rat)} {F : List Rat} {us : List Value} (h0 : us.length = S.length) (h1 : w.ownsRow B E 1 v S.length us)
 (h2 : ∀ (i : Nat) (u : Value) (F : List Rat), us[i]? = some u -> S[i]? = some F -> FldV w B u F) (h3 : ∀ (i j : Nat) (u u' : Value), i ≠ j -> us[i]? = some u -> us[j]? = some u' -> u.ownBlock ≠ u'.ownBlock)
 (hi : us[i]? = some (.slice (some ⟨g, 0, none⟩) F.length c)) (hS : S[i]? = some F) (q : Rat) (hk : k < F.length) : FlsD E (w.setCell ⟨g, k, none⟩ (.string (RS q))) B v (S.set i (F.set k q)) := by
 have hF := h2 i _ F hi hS;have hg : w.grownBy (w.setCell ⟨g, k, none⟩ (.string (RS q))) (some g) := gb_set (gb_refl w _) k _;have hap : v.ownBlock = none \/ v.ownBlock ≠ some g := owns_apart h1 hF (Ne.symm hE);refine ⟨us, by rw [List.length_set]; exact h0, by rw [List.length_set]; exact World.ownsRow.kept h1 hg hap, fun j u G a b => ?_, h3⟩;by_cases hji : j = i
 ·subst hji
  rw [hi] at a;cases a;rw [List.getElem?_set_self (List.getElem?_eq_some_iff.1 hS).1] at b;cases b;have := hF.set q hk;unfold FldV at this ⊢;rw [List.length_set] at this ⊢;exact this
 ·rw [List.getElem?_set_ne (fun e => hji e.symm)] at b
  exact World.ownsRow.kept (h2 j u G a b) hg (.inr (fun e => h3 j i u _ hji a hi e))
theorem FlsD.row {E : Nat} (hE : 57 ≠ E) {w : World} {B : Nat} {v : Value} {S : List (List Rat)} (h : FlsD E w B v S) {i : Nat} {F : List Rat} (hF : S[i]? = some F) (h0 : F ≠ []) :
 ∃ gR cR g c, v = .slice (some ⟨gR, 0, none⟩) S.length cR /\ S.length <= cR /\ cR <= maxLen /\ w.cell? ⟨gR, i, none⟩ = some (.slice (some ⟨g, 0, none⟩) F.length c) /\ F.length <= c /\ c <= maxLen /\ B <= g /\ g < w.heap.size /\ gR < w.heap.size /\ gR ≠ g /\
  (∀ k (hk : k < F.length), w.cell? ⟨g, k, none⟩ = some (.string (RS F[k]))) /\ (∀ k, w.frozen? ⟨g, k, none⟩ = false) /\ (∃ l, BoxN w g 57 l) /\
  ∀ w', Below w.heap.size w w' -> ∀ k q, k < F.length -> FlsD E (w'.setCell ⟨g, k, none⟩ (.string (RS q))) B v (S.set i (F.set k q)) := by
 have hi := (List.getElem?_eq_some_iff.1 hF).1;obtain ⟨us, e0, e1, e2, e3⟩ := h;obtain ⟨gR, cR, lR, rfl, hgR, hbR, r1, r2, r3, r4⟩ := box_of_owns e1 (by omega);have hu : us[i]? = some us[i] := List.getElem?_eq_getElem (by omega);have hr := e2 i us[i] F hu hF;have hl := List.length_pos_iff.2 h0;obtain ⟨g, c, l, hv, hg, hb, s1, s2, s3, s4⟩ := box_of_owns hr (by omega);have hcell : w.cell? ⟨gR, i, none⟩ = some (.slice (some ⟨g, 0, none⟩) F.length c) := by
  refine hbR.cell i ?_;rw [<- hv, <- hu, <- r4, List.getElem?_take, if_pos hi]
 rw [hv] at hu;refine ⟨gR, cR, g, c, rfl, r1, r2, hcell, s1, s2, hg, hb.lt, hbR.lt, fun e => ?_, fun k hk => ?_, fun k => hb.frozen k, ⟨l, hb⟩, fun w' hw k q hk => ?_⟩
 ·subst e
  unfold BoxN at hb hbR;rw [hb] at hbR;injection hbR with hbR
  injection hbR with _ h5
  exact hE h5
 ·refine hb.cell k ?_
  have h6 : (l.take F.length)[k]? = (cellsFd F)[k]? := by rw [s4]
  rw [List.getElem?_take, if_pos hk] at h6;rw [h6];unfold cellsFd;rw [List.getElem?_map, List.getElem?_eq_getElem hk]; rfl
 ·exact FlsD.set hE e0 (World.ownsRow.belowAll e1 hw) (fun i u F a b => (e2 i u F a b).below hw) e3 hu hF q hk
theorem ins_at {α : Type} (l : List α) (x : α) {n : Nat} (hn : n <= l.length) (i : Nat) : (l.take n ++ x :: l.drop n)[i]? = if i < n then l[i]? else if i = n then some x else l[i - 1]? := by
 have h1 : (l.take n).length = n := by rw [List.length_take]; omega
 by_cases h : i < n
 ·rw [if_pos h, List.getElem?_append_left (by omega), List.getElem?_take, if_pos h]
 ·rw [if_neg h, List.getElem?_append_right (by omega), h1]
  by_cases h2 : i = n
  ·rw [if_pos h2, h2, Nat.sub_self]; rfl
  ·rw [if_neg h2]
   obtain ⟨m, rfl⟩ : ∃ m, i = n + 1 + m := ⟨i - (n + 1), by omega⟩;rw [show n + 1 + m - n = m + 1 by omega, List.getElem?_cons_succ, List.getElem?_drop];congr 1;omega
theorem FlsD.one {w : World} {B : Nat} {us : List Value} {S : List (List Rat)} (h0 : us.length = S.length) (h2 : ∀ (i : Nat) (u : Value) (F : List Rat), us[i]? = some u -> S[i]? = some F -> FldV w B u F) : ∀ u ∈ us, u.oneCell' = true := fun u hu => by
 obtain ⟨i, hi, rfl⟩ := List.getElem_of_mem hu;obtain ⟨p, c, e⟩ := (h2 i us[i] S[i] (List.getElem?_eq_getElem hi) (List.getElem?_eq_getElem (by omega))).shape;rw [e]; rfl
theorem FlsD.ins {E : Nat} {w : World} {B M n : Nat} {v' u : Value} {S : List (List Rat)} {us : List Value} {F : List Rat} (h0 : us.length = S.length) (hn : n <= S.length)
 (h2 : ∀ (i : Nat) (u : Value) (F : List Rat), us[i]? = some u -> S[i]? = some F -> FldV w B u F) (h3 : ∀ (i j : Nat) (u u' : Value), i ≠ j -> us[i]? = some u -> us[j]? = some u' -> u.ownBlock ≠ u'.ownBlock)
 (hM : ∀ (i : Nat) (u : Value) (b : Nat), us[i]? = some u -> u.ownBlock = some b -> b < M)
 (hown : w.ownsRow B E 1 v' (S.length + 1) (us.take n ++ u :: us.drop n)) (hu : FldV w M u F) (hu0 : F ≠ []) (hBM : B <= M) : FlsD E w B v' (S.take n ++ F :: S.drop n) := by
 have hub : ∃ b, u.ownBlock = some b /\ M <= b := by
  obtain ⟨h5, h6⟩ := hu;rcases h6 with ⟨rfl, h7⟩ | ⟨g, cap, cur, rfl, hb, _⟩
  ·exact absurd (List.length_eq_zero_iff.1 h7) hu0
  ·exact ⟨g, rfl, hb⟩
 obtain ⟨b, hub, hMb⟩ := hub;have hl : (S.take n ++ F :: S.drop n).length = S.length + 1 := by
  rw [List.length_append, List.length_take, List.length_cons, List.length_drop]; omega
 refine ⟨us.take n ++ u :: us.drop n, ?_, by rw [hl]; exact hown, fun i x G a c => ?_, fun i j x y hij a c => ?_⟩
 ·rw [hl, List.length_append, List.length_take, List.length_cons, List.length_drop]; omega
 ·rw [ins_at us u (by omega)] at a
  rw [ins_at S F hn] at c;split at a <;> rename_i hh
  ·rw [if_pos hh] at c
   exact h2 i x G a c
  ·rw [if_neg hh] at c
   split at a <;> rename_i hh2
   ·rw [if_pos hh2] at c
    cases a; cases c;exact hu.base hBM
   ·rw [if_neg hh2] at c
    exact h2 _ x G a c
 ·rw [ins_at us u (by omega)] at a c
  have lo : ∀ {k : Nat} {z : Value}, us[k]? = some z -> z.ownBlock ≠ u.ownBlock := fun hz e => by
   have := hM _ _ b hz (e.trans hub);omega
  split at a <;> rename_i h5
  ·split at c <;> rename_i h6
   ·exact h3 i j x y hij a c
   ·split at c <;> rename_i h7
    ·cases c; exact lo a
    ·exact h3 i (j - 1) x y (by omega) a c
  ·split at a <;> rename_i h5'
   ·cases a
    split at c <;> rename_i h6
    ·exact fun e => lo c e.symm
    ·split at c <;> rename_i h7
     ·omega
     ·exact fun e => lo c e.symm
   ·split at c <;> rename_i h6
    ·exact h3 (i - 1) j x y (by omega) a c
    ·split at c <;> rename_i h7
     ·cases c; exact lo a
     ·exact h3 (i - 1) (j - 1) x y (by omega) a c
def midR (Z : List (List Rat)) (X : List Rat) (n i k : Nat) : List (List Rat) := Z.mapIdx fun j F => if n <= j /\ j < i then addL F X else if j = i then rowUp F X k else F
theorem midR_at (Z : List (List Rat)) (X : List Rat) (n i k j : Nat) : (midR Z X n i k)[j]? = (Z[j]?).map fun F => if n <= j /\ j < i then addL F X else if j = i then rowUp F X k else F := by
 unfold midR;rw [List.getElem?_mapIdx]
theorem midR_length (Z : List (List Rat)) (X : List Rat) (n i k : Nat) : (midR Z X n i k).length = Z.length := by unfold midR; rw [List.length_mapIdx]
theorem midR_start (Z : List (List Rat)) (X : List Rat) (n : Nat) : midR Z X n n 0 = Z := by
 refine List.ext_getElem? fun j => ?_;rw [midR_at];cases Z[j]? with
 | none => rfl
 | some F =>
   simp only [Option.map_some];rw [if_neg (by omega)];split
   ·rw [rowUp_zero]
   ·rfl
theorem midR_here {Z : List (List Rat)} {X : List Rat} {n i k : Nat} {F : List Rat} (h : Z[i]? = some F) : (midR Z X n i k)[i]? = some (rowUp F X k) := by
 rw [midR_at, h, Option.map_some, if_neg (by omega), if_pos rfl]
theorem midR_set {Z : List (List Rat)} {X : List Rat} {n i k : Nat} {F : List Rat} (h : Z[i]? = some F) (hFX : F.length = X.length) (hk : k < F.length) : (midR Z X n i k).set i ((rowUp F X k).set k (F[k] + X[k])) = midR Z X n i (k + 1) := by
 refine List.ext_getElem? fun j => ?_;by_cases hj : j = i
 ·subst hj
  rw [List.getElem?_set_self (by rw [midR_length]; exact (List.getElem?_eq_some_iff.1 h).1), midR_here h, rowUp_set hFX hk]
 ·rw [List.getElem?_set_ne (fun e => hj e.symm), midR_at, midR_at]
  cases Z[j]? with
  | none => rfl
  | some G =>
    simp only [Option.map_some];rw [if_neg hj, if_neg hj]
theorem midR_next {Z : List (List Rat)} {X : List Rat} {n i : Nat} (hni : n <= i) (hZ : ∀ F ∈ Z, F.length = X.length) : midR Z X n i X.length = midR Z X n (i + 1) 0 := by
 refine List.ext_getElem? fun j => ?_;rw [midR_at, midR_at];cases hz : Z[j]? with
 | none => rfl
 | some F =>
   have hl := hZ F (List.mem_of_getElem? hz);simp only [Option.map_some];congr 1;by_cases h1 : n <= j /\ j < i
   ·rw [if_pos h1, if_pos (by omega)]
   ·rw [if_neg h1]
    by_cases h2 : j = i
    ·rw [if_pos h2, if_pos (by omega), rowUp_all hl (by omega)]
    ·rw [if_neg h2, if_neg (by omega)]
     split
     ·rw [rowUp_zero]
     ·rfl
theorem midR_end {B : List Rat} {S : List (List Rat)} {X : List Rat} {n : Nat} (hn : n <= S.length) : midR (S.take n ++ fldN B S n :: S.drop n) X n (S.length + 1) 0 = insS B S X n := by
 have e : (B :: S).drop n = fldN B S n :: S.drop n := by
  have hn' : n < (B :: S).length := by simp; omega
  rw [<- List.getElem_cons_drop (h := hn')];congr 1;unfold fldN;rw [List.getElem?_eq_getElem hn']; rfl
 unfold insS;rw [e];refine List.ext_getElem? fun j => ?_;have h1 : (S.take n).length = n := by rw [List.length_take]; omega
 rw [midR_at];by_cases h : j < n
 ·rw [List.getElem?_append_left (by omega), List.getElem?_append_left (by omega)]
  cases (S.take n)[j]? with
  | none => rfl
  | some F =>
    simp only [Option.map_some];rw [if_neg (by omega), if_neg (by omega)]
 ·rw [List.getElem?_append_right (by omega), List.getElem?_append_right (by omega), List.getElem?_map]
  cases hz : (fldN B S n :: S.drop n)[j - (S.take n).length]? with
  | none => rfl
  | some F =>
    have := (List.getElem?_eq_some_iff.1 hz).1;simp only [List.length_cons, List.length_drop] at this;simp only [Option.map_some];rw [if_pos (by omega)]
theorem sinsert_any (w : World) (vp vt vb vu vs : Value) (P : List PtQ) (T : List Tri) (k : Nat) (B : List Rat) (U : List ByteArray) (S : List (List Rat)) (h : DepN w vp vt vb vu vs P T k B U S) (hk : k <= 90)
 (nm : ByteArray) (nz : Int) (vx : Value) (X : List ByteArray) (hx : RdS w vx X) (hX : TxtOK X) (hXn : errF P.length X = 0 -> ∃ R : List Rat, X = R.map RS /\ R.length = P.length /\ ∀ q ∈ R, Sz k q) (hg : Good w) :
 Calls Tryz.prog 19 #[.agg #[vp, vt], .agg #[vb, vu, vs], .agg #[.string nm, .int .i64 nz, vx]] w (Ret (fun r w' => (unitE P.length U nm nz X ≠ 0 /\ r = .tuple #[.agg #[.slice none 0 0, .slice none 0 0, .slice none 0 0], .int .i64 (unitE P.length U nm nz X)]) \/
  (unitE P.length U nm nz X = 0 /\ ∃ v1 v2 v3, r = .tuple #[.agg #[v1, v2, v3], .int .i64 0] /\ RdQ w' v1 B /\ RdS w' v2 (U.take nz.toNat ++ nm :: U.drop nz.toNat) /\ RdF w' v3 (insS B S (X.map numT) nz.toNat))) w) := by
 have HD := hid h;have HX := hid hx;have hpl := h.m.plen;obtain ⟨pp, cp, pt, ct, pb, cb, pu, cu, ps, cs, rfl, rfl, rfl, rfl, rfl⟩ := h.open;obtain ⟨px, cx, rfl, -, -, -⟩ := hx.open;have HCK : Hid (∀ w', Below w.heap.size w w' -> Good w' -> _) := fun w' hb hg' => scheck_any w' _ _ _ _ _ P T k _ U _ (h.below hb).toT hg';rw [h.ok] at HCK;have HIN : Hid (∀ w', _) := fun w' => isName_any nm w';have HHS : Hid (∀ w', Below w.heap.size w w' -> _) := fun w' hb => containsS_any _ U nm w' (h.below hb).unit;have HFC : Hid (∀ w', Below w.heap.size w w' -> Good w' -> _) := fun w' hb hg' => fcheck_any w' _ _ _ P T k X (h.below hb).p (h.below hb).t h.m (RdC.below hx hb) hX.1 hX.2 hg';obtain ⟨res, hres⟩ : ∃ r, r = unitE P.length U nm nz X := ⟨_, rfl⟩;rw [<- hres];have HUE : Hid (res = _) := hres;unfold unitE at HUE;clear hres h hx;have hul1 : U.length <= S.length + 1 := by have := HD.out.ul; omega
 have hul2 : S.length + 1 <= U.length := by have := HD.out.ul; omega
 have hu6 := HD.out.u60;generalize hnb : nameQ nm = nb at *;generalize hhb : hasS U nm = hb' at *;clear hnb hhb;have HERR : Hid (∀ wX : World, BoxN wX (w.heap.size + 3) 43 [.slice none 0 0, .slice none 0 0, .slice none 0 0] -> Below w.heap.size w wX ->
  (((wX.setCell ⟨w.heap.size + 3, 0, none⟩ (.slice none 0 0)).setCell ⟨w.heap.size + 3, 1, none⟩ (.slice none 0 0)).setCell ⟨w.heap.size + 3, 2, none⟩ (.slice none 0 0)).cell? ⟨w.heap.size + 3, 0, none⟩ = some (.slice none 0 0) /\
  (((wX.setCell ⟨w.heap.size + 3, 0, none⟩ (.slice none 0 0)).setCell ⟨w.heap.size + 3, 1, none⟩ (.slice none 0 0)).setCell ⟨w.heap.size + 3, 2, none⟩ (.slice none 0 0)).cell? ⟨w.heap.size + 3, 1, none⟩ = some (.slice none 0 0) /\
  (((wX.setCell ⟨w.heap.size + 3, 0, none⟩ (.slice none 0 0)).setCell ⟨w.heap.size + 3, 1, none⟩ (.slice none 0 0)).setCell ⟨w.heap.size + 3, 2, none⟩ (.slice none 0 0)).cell? ⟨w.heap.size + 3, 2, none⟩ = some (.slice none 0 0) /\
  Below w.heap.size w (((wX.setCell ⟨w.heap.size + 3, 0, none⟩ (.slice none 0 0)).setCell ⟨w.heap.size + 3, 1, none⟩ (.slice none 0 0)).setCell ⟨w.heap.size + 3, 2, none⟩ (.slice none 0 0))) := fun wX hb hB => by
  have k := box3_set hb (v0 := .slice none 0 0) (v1 := .slice none 0 0) (v2 := .slice none 0 0);have hle : w.heap.size <= w.heap.size + 3 := by omega
  exact ⟨k.cell 0 rfl, k.cell 1 rfl, k.cell 2 rfl, ((hB.setCell (p := ⟨w.heap.size + 3, 0, none⟩) hle _).setCell (p := ⟨w.heap.size + 3, 1, none⟩) hle _).setCell (p := ⟨w.heap.size + 3, 2, none⟩) hle _⟩
 go_enter Tryz.func19, Tryz.ntmps19;go_wp2_with fail;obtain ⟨W, hW⟩ : ∃ W, W = (((w.alloc (.cells #[.slice pp P.length cp, .slice pt T.length ct] 37)).alloc (.cells #[.slice pb P.length cb, .slice pu U.length cu, .slice ps S.length cs] 43)).alloc (.cells #[.string nm, .int .i64 nz, .slice px X.length cx] 49)).alloc (.cells #[.slice none 0 0, .slice none 0 0, .slice none 0 0] 43) := ⟨_, rfl⟩;have hB : Below w.heap.size w W := by rw [hW]; exact ((((Below.refl _ _).alloc (Nat.le_refl _) _).alloc (by simp) _).alloc (by simp; omega) _).alloc (by simp; omega) _
 have b3 : BoxN W w.heap.size 37 [.slice pp P.length cp, .slice pt T.length ct] := by rw [hW]; exact (((BoxN.new w #[.slice pp P.length cp, .slice pt T.length ct] 37 _ rfl).alloc _).alloc _).alloc _
 have b4 : BoxN W (w.heap.size + 1) 43 [.slice pb P.length cb, .slice pu U.length cu, .slice ps S.length cs] := by rw [hW]; exact ((BoxN.new _ #[.slice pb P.length cb, .slice pu U.length cu, .slice ps S.length cs] _ _ (by simp)).alloc _).alloc _
 have b5 : BoxN W (w.heap.size + 2) 49 [.string nm, .int .i64 nz, .slice px X.length cx] := by rw [hW]; exact (BoxN.new _ #[.string nm, .int .i64 nz, .slice px X.length cx] _ _ (by simp)).alloc _
 have b6 : BoxN W (w.heap.size + 3) 43 [.slice none 0 0, .slice none 0 0, .slice none 0 0] := by rw [hW]; exact BoxN.new _ #[.slice none 0 0, .slice none 0 0, .slice none 0 0] _ _ (by simp)
 rw [<- hW];clear hW;refine (HCK.out W hB (hg.below hB)).mono ?_;rintro e w1 ⟨_, rfl, rfl, hb1⟩;have hB1 := hB.trans (hb1.mono hB.size);replace b3 := b3.below hb1 b3.lt;replace b4 := b4.below hb1 b4.lt;replace b5 := b5.below hb1 b5.lt;replace b6 := b6.below hb1 b6.lt;clear hb1 hB;have d0 := b5.cell 0 rfl;go_wp2_with fail;refine (HIN.out w1).mono ?_;rintro e w2 ⟨_, rfl, rfl, hb2⟩;have hB2 := hB1.trans (hb2.mono hB1.size);replace b3 := b3.below hb2 b3.lt;replace b4 := b4.below hb2 b4.lt;replace b5 := b5.below hb2 b5.lt;replace b6 := b6.below hb2 b6.lt;clear hb2 hB1 d0;have f0 := b6.cell 0 rfl;have f1 := b6.cell 1 rfl;have f2 := b6.cell 2 rfl;have ff0 := b6.frozen 0;have ff1 := b6.frozen 1;have ff2 := b6.frozen 2;cases nb
 case' false =>
  have HR : Hid (res = 8) := by unfold Hid; rw [HUE.out, if_pos rfl]
  go_wp2_with fail;obtain ⟨t0, t1, t2, hBe⟩ := HERR.out w2 b6 hB2;refine bodyPost_ret (v := .tuple #[.agg #[.slice none 0 0, .slice none 0 0, .slice none 0 0], .int .i64 8]) (by simp [results, Tryz.results19, go_sem, t0, t1, t2]) rfl ⟨_, rfl, .inl ⟨by rw [HR.out]; decide, by rw [HR.out]⟩, hBe⟩
 have HU2 := hid (HUE.out.trans (if_neg (by decide)));clear HUE;have d0 := b5.cell 0 rfl;have c1 := b4.cell 1 rfl;clear f0 f1 f2 ff0 ff1 ff2;go_wp2_with fail;refine (HHS.out w2 hB2).mono ?_;rintro e w3 ⟨_, rfl, rfl, hb3⟩;have hB3 := hB2.trans (hb3.mono hB2.size);replace b3 := b3.below hb3 b3.lt;replace b4 := b4.below hb3 b4.lt;replace b5 := b5.below hb3 b5.lt;replace b6 := b6.below hb3 b6.lt;clear hb3 hB2 d0 c1;have f0 := b6.cell 0 rfl;have f1 := b6.cell 1 rfl;have f2 := b6.cell 2 rfl;have ff0 := b6.frozen 0;have ff1 := b6.frozen 1;have ff2 := b6.frozen 2;cases hb'
 case' true =>
  have HR : Hid (res = 9) := by unfold Hid; rw [HU2.out, if_pos rfl]
  go_wp2_with fail;obtain ⟨t0, t1, t2, hBe⟩ := HERR.out w3 b6 hB3;refine bodyPost_ret (v := .tuple #[.agg #[.slice none 0 0, .slice none 0 0, .slice none 0 0], .int .i64 9]) (by simp [results, Tryz.results19, go_sem, t0, t1, t2]) rfl ⟨_, rfl, .inl ⟨by rw [HR.out]; decide, by rw [HR.out]⟩, hBe⟩
 have HU3 := hid (HU2.out.trans (if_neg (by decide)));clear HU2;have d1 := b5.cell 1 rfl;have c1 := b4.cell 1 rfl;by_cases hr1 : nz < 0
 ·have HR : Hid (res = 3) := by unfold Hid; rw [HU3.out, if_pos (.inl hr1)]
  go_wp2_with fail;obtain ⟨t0, t1, t2, hBe⟩ := HERR.out w3 b6 hB3;refine bodyPost_ret (v := .tuple #[.agg #[.slice none 0 0, .slice none 0 0, .slice none 0 0], .int .i64 3]) (by simp [results, Tryz.results19, go_sem, t0, t1, t2]) rfl ⟨_, rfl, .inl ⟨by rw [HR.out]; decide, by rw [HR.out]⟩, hBe⟩
 by_cases hr2 : (U.length : Int) <= nz
 ·have HR : Hid (res = 3) := by unfold Hid; rw [HU3.out, if_pos (.inr hr2)]
  go_wp2_with fail;obtain ⟨t0, t1, t2, hBe⟩ := HERR.out w3 b6 hB3;refine bodyPost_ret (v := .tuple #[.agg #[.slice none 0 0, .slice none 0 0, .slice none 0 0], .int .i64 3]) (by simp [results, Tryz.results19, go_sem, t0, t1, t2]) rfl ⟨_, rfl, .inl ⟨by rw [HR.out]; decide, by rw [HR.out]⟩, hBe⟩
 have HU4 := hid (HU3.out.trans (if_neg (by omega)));clear HU3;have m0 := b3.cell 0 rfl;have m1 := b3.cell 1 rfl;have d2 := b5.cell 2 rfl;clear f0 f1 f2 ff0 ff1 ff2;go_wp2_with fail;refine (HFC.out w3 hB3 (hg.below hB3)).mono ?_;rintro e w4 ⟨_, rfl, rfl, hb4⟩;have hB4 := hB3.trans (hb4.mono hB3.size);replace b3 := b3.below hb4 b3.lt;replace b4 := b4.below hb4 b4.lt;replace b5 := b5.below hb4 b5.lt;replace b6 := b6.below hb4 b6.lt;clear hb4 hB3 d1 c1 m0 m1 d2;by_cases hE : errF P.length X = 0
 case' neg =>
  have HR : Hid (res = errF P.length X) := by unfold Hid; rw [HU4.out, if_pos hE]
  have HNE := hid hE;have hE2 : (errF P.length X != 0) = true := by rw [bne_iff_ne]; exact hE
  have f0 := b6.cell 0 rfl;have f1 := b6.cell 1 rfl;have f2 := b6.cell 2 rfl;have ff0 := b6.frozen 0;have ff1 := b6.frozen 1;have ff2 := b6.frozen 2;generalize errF P.length X = ez at *;clear hE;go_wp2_with fail;obtain ⟨t0, t1, t2, hBe⟩ := HERR.out w4 b6 hB4;refine bodyPost_ret (v := .tuple #[.agg #[.slice none 0 0, .slice none 0 0, .slice none 0 0], .int .i64 ez]) (by simp [results, Tryz.results19, go_sem, t0, t1, t2]) rfl ⟨_, rfl, .inl ⟨by rw [HR.out]; exact HNE.out, by rw [HR.out]⟩, hBe⟩
 have HU5 := hid (HU4.out.trans (if_neg (by rw [hE]; simp)));obtain ⟨R, hXR, hRl, hRs⟩ := hXn hE;have HNT : Hid (X.map numT = R) := by unfold Hid; rw [hXR, numT_map]
 have HXQ : Hid (RdQ w (.slice px X.length cx) R) := rdS_toQ (by rw [<- hXR]; exact HX.out);have hXl : X.length = P.length := by rw [hXR, List.length_map, hRl]
 rw [hE];have HXL := hid hXl;rw [HNT.out] at HU5;have HCN : Hid (∀ w', Below w.heap.size w w' -> _) := fun w' hb => containsNeg_any w' (.slice px X.length cx) R (RdC.below HXQ.out hb) (by omega)
 generalize hng : negF R = ng at *;clear HU4 hE hXR HX hX hXl hXn HFC HHS HIN HCK hng;have d2 := b5.cell 2 rfl;go_wp2_with fail;refine (HCN.out w4 hB4).mono ?_;rintro e w5 ⟨_, rfl, rfl, hb5⟩;have hB5 := hB4.trans (hb5.mono hB4.size);replace b3 := b3.below hb5 b3.lt;replace b4 := b4.below hb5 b4.lt;replace b5 := b5.below hb5 b5.lt;replace b6 := b6.below hb5 b6.lt;clear hb5 hB4 d2 HCN;have f0 := b6.cell 0 rfl;have f1 := b6.cell 1 rfl;have f2 := b6.cell 2 rfl;have ff0 := b6.frozen 0;have ff1 := b6.frozen 1;have ff2 := b6.frozen 2;cases ng
 case' true =>
  have HR : Hid (res = 6) := by unfold Hid; rw [HU5.out, if_pos rfl]
  go_wp2_with fail;obtain ⟨t0, t1, t2, hBe⟩ := HERR.out w5 b6 hB5;refine bodyPost_ret (v := .tuple #[.agg #[.slice none 0 0, .slice none 0 0, .slice none 0 0], .int .i64 6]) (by simp [results, Tryz.results19, go_sem, t0, t1, t2]) rfl ⟨_, rfl, .inl ⟨by rw [HR.out]; decide, by rw [HR.out]⟩, hBe⟩
 have HU6 := hid (HU5.out.trans (if_neg (by decide)));clear HU5;have c1 := b4.cell 1 rfl;by_cases h60 : U.length = 60
 ·have HR : Hid (res = 4) := by unfold Hid; rw [HU6.out, if_pos h60]
  have h60' : ((U.length : Int) == 60) = true := by rw [beq_iff_eq]; omega
  clear h60;go_wp2_with fail;obtain ⟨t0, t1, t2, hBe⟩ := HERR.out w5 b6 hB5;refine bodyPost_ret (v := .tuple #[.agg #[.slice none 0 0, .slice none 0 0, .slice none 0 0], .int .i64 4]) (by simp [results, Tryz.results19, go_sem, t0, t1, t2]) rfl ⟨_, rfl, .inl ⟨by rw [HR.out]; decide, by rw [HR.out]⟩, hBe⟩
 have h60' : ((U.length : Int) == 60) = false := by rw [beq_eq_false_iff_ne]; omega
 have HR0 : Hid (res = 0) := by unfold Hid; rw [HU6.out, if_neg h60]
 clear HU6 h60 f0 f1 f2 ff0 ff1 ff2;obtain ⟨n, rfl⟩ : ∃ n : Nat, nz = n := ⟨nz.toNat, by omega⟩;have hnU : n < U.length := by omega
 have hnS : n <= S.length := by omega
 have hP0 : 0 < P.length := by
  obtain ⟨tr, htr⟩ := List.exists_mem_of_ne_nil _ HD.out.m.some;obtain ⟨h0, h1⟩ := HD.out.m.idx tr htr tr.1 (by simp [idxOf]);omega
 have HSC : Hid (∀ w', Below w.heap.size w w' -> _) := fun w' hb => sclone_any w' _ _ _ B U S (HD.out.below hb).base (HD.out.below hb).unit (HD.out.below hb).surf (fun e => by have h1 := HD.out.fl B (by simp); rw [e] at h1; simp at h1; omega) (fun e => by rw [e] at hul2; simp at hul2)
  (fun F hF e => by have h1 := HD.out.fl F (List.mem_cons_of_mem _ hF); rw [e] at h1; simp at h1; omega) (by have h1 := HD.out.fl B (by simp); omega) (by omega) (by omega) (fun F hF => by have h1 := HD.out.fl F (List.mem_cons_of_mem _ hF); omega)
 have m0 := b4.cell 0 rfl;have m1 := b4.cell 1 rfl;have m2 := b4.cell 2 rfl;go_wp2_with fail;have hz5 : w.heap.size + 4 <= w5.heap.size := by have := b6.lt; omega
 refine (HSC.out w5 hB5).mono ?_;rintro e w6 ⟨_, rfl, ⟨v1, v2, v3, rfl, o1, o2, M, hM5, hM6, hM1, o3⟩, hb6⟩;obtain ⟨q1, k1, rfl⟩ := FldV.shape o1;obtain ⟨q2, k2, rfl⟩ := ownsRow_shape o2;obtain ⟨q3, k3, rfl⟩ := o3.v.shape;clear m0 m1 m2 HSC c1;go_upto_region 18 with fail;obtain ⟨W7, hW7⟩ : ∃ W7, W7 = w6.alloc (.cells #[.slice q1 B.length k1, .slice q2 U.length k2, .slice q3 S.length k3] 43) := ⟨_, rfl⟩;obtain ⟨z, hz⟩ : ∃ z, z = w6.heap.size := ⟨_, rfl⟩;have b10 : BoxN W7 z 43 [.slice q1 B.length k1, .slice q2 U.length k2, .slice q3 S.length k3] := by rw [hW7]; exact BoxN.new _ #[.slice q1 B.length k1, .slice q2 U.length k2, .slice q3 S.length k3] _ _ hz.symm
 have hC7 : Below w5.heap.size w5 W7 := by rw [hW7]; exact hb6.alloc hb6.size _
 have o17 : W7.ownsRow w5.heap.size 57 1 (.slice q1 B.length k1) B.length (cellsFd B) := by rw [hW7]; exact World.ownsRow.alloc o1 _
 have o27 := World.ownsRow.alloc o2 (.cells #[.slice q1 B.length k1, .slice q2 U.length k2, .slice q3 S.length k3] 43);rw [<- hW7] at o27;have o37 : FlsD 39 W7 M (.slice q3 S.length k3) S := by rw [hW7]; exact o3.below ((Below.refl _ _).alloc (Nat.le_refl _) _)
 have hz65 : w5.heap.size <= z := by rw [hz]; exact hb6.size
 rw [<- hz] at hM6;have hz77 : z + 1 <= W7.heap.size := by rw [hW7, hz]; simp
 rw [<- hW7, <- hz];clear hW7 o1 o2 o3 hb6 hz;have b57 := b5.below hC7 b5.lt;have x1 := b10.cell 1 rfl;have x1f := b10.frozen 1;have e1 := b57.cell 1 rfl;have e0 := b57.cell 0 rfl;have hzl := b10.lt;have hz7 := hC7.size;go_wp2_with fail;have hI18 := insS_any (W7.alloc (.cells #[.string nm] 9)) w5.heap.size (.slice q2 U.length k2) U.length n W7.heap.size _ (.string nm) (o27.alloc _) (BoxN.new _ _ _ _ rfl) (fun u hu => by obtain ⟨y, _, rfl⟩ := List.mem_map.1 hu; rfl) rfl (by omega) (by omega) (by simp; omega) (fun e => by have := (o27.lt _ e).2; omega);refine hI18.mono ?_;rintro e w8 ⟨v8, rfl, o28, hg8⟩;obtain ⟨q8, k8, rfl⟩ := ownsRow_shape o28;have b10a := b10.alloc (.cells #[.string nm] 9);have b108 := b10a.gb hg8 (fun e => owns_boxN (o27.alloc (.cells #[.string nm] 9)) b10a (by decide) e.symm);have o18 := World.ownsRow.kept (o17.alloc (.cells #[.string nm] 9)) hg8 (owns_apart (o17.alloc (.cells #[.string nm] 9)) (o27.alloc (.cells #[.string nm] 9)) (by decide));have o38 : FlsD 39 w8 M (.slice q3 S.length k3) S := (o37.below ((Below.refl _ _).alloc (Nat.le_refl _) (.cells #[.string nm] 9))).kept hg8 (fun x e s n xs he h => owns_apart h (o27.alloc (.cells #[.string nm] 9)) (by rcases he with rfl | rfl <;> decide));have hC8 : Below w5.heap.size w5 w8 := (hC7.alloc hz7 (.cells #[.string nm] 9)).grown hg8 (by simp; omega) (fun j hj => (o27.lt j hj).1);have x1' := b108.cell 1 rfl;have x1f' := b108.frozen 1;clear hI18 x1 x1f e1 e0 b57 b10a;go_upto_region 19 with fail;obtain ⟨W9, hW9⟩ : ∃ W9, W9 = w8.setCell ⟨z, 1, none⟩ (.slice q8 (U.length + 1) k8) := ⟨_, rfl⟩;have hg9 : w8.grownBy W9 (some z) := by rw [hW9]; exact gb_set (gb_refl w8 _) 1 _
 have b109 : BoxN W9 z 43 [.slice q1 B.length k1, .slice q8 (U.length + 1) k8, .slice q3 S.length k3] := by rw [hW9]; exact b108.set 1 _
 have o19 := World.ownsRow.kept o18 hg9 (.inr (fun e => owns_boxN o18 b108 (by decide) e.symm));have o29 := World.ownsRow.kept o28 hg9 (.inr (fun e => owns_boxN o28 b108 (by decide) e.symm));have o39 := o38.kept hg9 (fun x e s n xs he h => .inr (fun e' => owns_boxN h b108 (by rcases he with rfl | rfl <;> decide) e'.symm));have hC9 : Below w5.heap.size w5 W9 := by rw [hW9]; exact hC8.setCell (p := ⟨z, 1, none⟩) hz65 _
 rw [<- hW9];have hz79 : W7.heap.size <= W9.heap.size := by have h1 := hg8.size; have h2 := hg9.size; simp at h1; omega
 clear hW9 hg9 o18 o28 o38 b108 x1' x1f' o17 o27 o37 b10 hC7 hC8 hz7 hzl hg8;have HRU : Hid ((U.map fun x => Value.string x).take n ++ Value.string nm :: (U.map fun x => Value.string x).drop n = (U.take n ++ nm :: U.drop n).map fun x => Value.string x) := by unfold Hid; simp
 rw [HRU.out] at o29;have hUl : (U.take n ++ nm :: U.drop n).length = U.length + 1 := by simp; omega
 have HUL := hid hUl;clear hUl HRU;obtain ⟨U1, hU1⟩ : ∃ U1, U1 = U.take n ++ nm :: U.drop n := ⟨_, rfl⟩;rw [<- hU1] at o29 HUL;have HU1 := hid hU1;clear hU1;obtain ⟨pf, cf, hfr, hSF⟩ := (HD.out).surface n hnS;have HF0l : Hid ((fldN B S n).length = P.length) := HD.out.fl _ (fldN_mem B S hnS);have HCL : Hid (∀ w', Below w.heap.size w w' -> Calls Tryz.prog 64 #[.slice pf P.length cf] w' (Ret (fun r w2 => FldV w2 w'.heap.size r (fldN B S n)) w')) := fun w' hb =>
  clone_any w' _ _ (RdC.below hfr hb) (fun e => by have := HF0l.out; rw [e] at this; simp at this; omega) (by have := HF0l.out; omega)
 have HSF := hid hSF;have HBw : Hid (∀ w', Below w5.heap.size w5 w' -> Below w.heap.size w w') := fun w' hb => hB5.trans (hb.mono hB5.size);have HKA : Hid (∀ w', Below w5.heap.size w5 w' -> (w'.cell? ⟨w.heap.size + 1, 0, none⟩ = some (.slice pb P.length cb) /\ w'.cell? ⟨w.heap.size + 1, 1, none⟩ = some (.slice pu U.length cu) /\ w'.cell? ⟨w.heap.size + 1, 2, none⟩ = some (.slice ps S.length cs)) /\ w'.cell? ⟨w.heap.size + 2, 1, none⟩ = some (.int .i64 n)) := fun w' hb => by
  have y4 := b4.below hb b4.lt;have y5 := b5.below hb b5.lt;exact ⟨⟨y4.cell 0 rfl, y4.cell 1 rfl, y4.cell 2 rfl⟩, y5.cell 1 rfl⟩
 clear hSF hfr;have g0 : Below w5.heap.size w5 W9.drew := hC9.trans ((below_drewN W9 1).mono hC9.size);have c0 : BoxN W9.drew z 43 [.slice q1 B.length k1, .slice q8 (U.length + 1) k8, .slice q3 S.length k3] := b109.drew;have r10 := own_drew o19;have r20 := own_drew o29;have r30 := o39.below (below_drewN W9 1);have x20 := c0.cell 2 rfl;have hz9 := hC9.size;have hz99 : W7.heap.size <= W9.heap.size := hz79;clear o19 o29 o39 b109;go_upto_region 19 with fail;refine AnyL.region (S := Till 12 (fun w' => (w'.cell? ⟨w.heap.size + 1, 0, none⟩ = some (.slice pb P.length cb) /\ w'.cell? ⟨w.heap.size + 1, 1, none⟩ = some (.slice pu U.length cu) /\ w'.cell? ⟨w.heap.size + 1, 2, none⟩ = some (.slice ps S.length cs)) /\ w'.cell? ⟨w.heap.size + 2, 1, none⟩ = some (.int .i64 n)) (fun w' => w'.cell? ⟨z, 2, none⟩ = some (.slice q3 S.length k3))) (by kernel_rfl) ?_;have hHeld : Till 12 (fun w' => (w'.cell? ⟨w.heap.size + 1, 0, none⟩ = some (.slice pb P.length cb) /\ w'.cell? ⟨w.heap.size + 1, 1, none⟩ = some (.slice pu U.length cu) /\ w'.cell? ⟨w.heap.size + 1, 2, none⟩ = some (.slice ps S.length cs)) /\ w'.cell? ⟨w.heap.size + 2, 1, none⟩ = some (.int .i64 n)) (fun w' => w'.cell? ⟨z, 2, none⟩ = some (.slice q3 S.length k3)) (Array.replicate 13 false) _ := ⟨HKA.out _ g0, fun _ => x20⟩;refine AnyL.take (i := 0) (oi := _) (v := ?_) rfl (by kernel_rfl) (by kernel_rfl) (by kernel_rfl) (by decide) (fun _ _ _ h => h) (Or.inl ⟨by rfl, ?_⟩) ⟨hHeld.1, fun _ => hHeld.2 (by rfl)⟩ ?_;rotate_left
 ·intro w hSw; (try dsimp only at hSw); first | (go_simp; done) | (go_simp; with_reducible rfl)
 try simp only [Act.put]
 refine AnyL.take2 (i := 1) (oi := _) (v := ?_) rfl (by kernel_rfl) (by kernel_rfl) (by kernel_rfl) (by decide) (ok := _) rfl (by kernel_rfl) (by kernel_rfl) (fun _ _ _ h => h) (Or.inl ⟨by rfl, ?_⟩) ⟨hHeld.1, fun _ => hHeld.2 (by rfl)⟩ ?_;rotate_left
 ·intro w hSw; (try dsimp only at hSw); first | (go_simp; done) | (go_simp; with_reducible rfl)
 try simp only [Act.put]
 refine AnyL.take (i := 2) (oi := _) (v := ?_) rfl (by kernel_rfl) (by kernel_rfl) (by kernel_rfl) (by decide) (fun _ _ _ h => h) (Or.inl ⟨by rfl, ?_⟩) ⟨hHeld.1, fun _ => hHeld.2 (by rfl)⟩ ?_;rotate_left
 ·intro w hSw; (try dsimp only at hSw); first | (go_simp; done) | (go_simp; with_reducible rfl)
 try simp only [Act.put]
 refine AnyL.take (i := 3) (oi := _) (v := ?_) rfl (by kernel_rfl) (by kernel_rfl) (by kernel_rfl) (by decide) (fun _ _ _ h => h) (Or.inl ⟨by rfl, ?_⟩) ⟨hHeld.1, fun _ => hHeld.2 (by rfl)⟩ ?_;rotate_left
 ·intro w hSw; (try dsimp only at hSw); first | (go_simp; done) | (go_simp; with_reducible rfl)
 try simp only [Act.put]
 refine AnyL.take (i := 4) (oi := _) (v := ?_) rfl (by kernel_rfl) (by kernel_rfl) (by kernel_rfl) (by decide) (fun _ _ _ h => h) (Or.inl ⟨by rfl, ?_⟩) ⟨hHeld.1, fun _ => hHeld.2 (by rfl)⟩ ?_;rotate_left
 ·intro w hSw; (try dsimp only at hSw); first | (go_simp; done) | (go_simp; with_reducible rfl)
 try simp only [Act.put]
 refine AnyL.take (i := 5) (oi := _) (v := ?_) rfl (by kernel_rfl) (by kernel_rfl) (by kernel_rfl) (by decide) (fun _ _ _ h => h) (Or.inl ⟨by rfl, ?_⟩) ⟨hHeld.1, fun _ => hHeld.2 (by rfl)⟩ ?_;rotate_left
 ·intro w hSw; (try dsimp only at hSw); first | (go_simp; done) | (go_simp; with_reducible rfl)
 try simp only [Act.put]
 refine AnyL.take (i := 6) (oi := _) (v := ?_) rfl (by kernel_rfl) (by kernel_rfl) (by kernel_rfl) (by decide) (fun _ _ _ h => h) (Or.inl ⟨by rfl, ?_⟩) ⟨hHeld.1, fun _ => hHeld.2 (by rfl)⟩ ?_;rotate_left
 ·intro w hSw; (try dsimp only at hSw); first | (go_simp; done) | (go_simp; with_reducible rfl)
 try simp only [Act.put]
 refine AnyL.one (i := 7) (o := _) (by kernel_rfl) rfl (fun K hK => ?_);go_simp
 (refine (HSF.out _ (HBw.out _ g0)).mono ?_; rintro e y1 ⟨_, rfl, rfl, hy1⟩; have g1 := g0.trans (hy1.mono g0.size); have c1 := c0.below hy1 c0.lt; have r11 := World.ownsRow.belowAll r10 hy1; have r21 := World.ownsRow.belowAll r20 hy1; obtain ⟨us, h0, h1, h2, h3⟩ := r30.below hy1; have HLT := hid (FlsD.lt h0 h2); have x21 := c1.cell 2 rfl; have s1 := hy1.size)
 refine hK.out _ _ ⟨HKA.out _ g1, fun hk => x21⟩ (fun hHeld => ?_);clear hK K;try simp only [Act.put]
 refine AnyL.one (i := 8) (o := _) (by kernel_rfl) rfl (fun K hK => ?_);go_simp
 (refine (HCL.out _ (HBw.out _ g1)).mono ?_; rintro e y2 ⟨vF, rfl, hF, hy2⟩; obtain ⟨pF, cF, rfl⟩ := FldV.shape hF; have g2 := g1.trans (hy2.mono g1.size); have c2 := c1.below hy2 c1.lt; have r12 := World.ownsRow.belowAll r11 hy2; have r22 := World.ownsRow.belowAll r21 hy2; have h12 := World.ownsRow.belowAll h1 hy2; have h22 : ∀ (i : Nat) (u : Value) (F : List Rat), us[i]? = some u -> S[i]? = some F -> FldV y2 M u F := fun i u F a b => (h2 i u F a b).below hy2; have x22 := c2.cell 2 rfl; have s2 := hy2.size)
 refine hK.out _ _ ⟨HKA.out _ g2, fun hk => x22⟩ (fun hHeld => ?_);clear hK K;try simp only [Act.put]
 refine AnyL.one (i := 9) (o := _) (by kernel_rfl) rfl (fun K hK => ?_);go_simp;refine hK.out _ _ ⟨HKA.out _ (g2.alloc g2.size _), fun hk => (cell_alloc_l _ x22)⟩ (fun hHeld => ?_);clear hK K;try simp only [Act.put]
 refine AnyL.one (i := 10) (o := _) (by kernel_rfl) rfl (fun K hK => ?_);go_simp
 (have hI := insF_any (y2.alloc (.cells #[.slice pF (fldN B S n).length cF] 39)) M (.slice q3 S.length k3) S.length n y2.heap.size us (.slice pF (fldN B S n).length cF) (h12.alloc _) (BoxN.new _ _ _ _ rfl) (FlsD.one h0 h22) rfl hnS (by omega) (by have : W9.heap.size <= y1.heap.size := s1; simp; omega) (fun e => by have := (h12.lt _ e).2; omega); refine hI.mono ?_; rintro e y3 ⟨vR, rfl, hrow, hgr⟩; obtain ⟨pR, cR, rfl⟩ := ownsRow_shape hrow; have c2a := c2.alloc (.cells #[.slice pF (fldN B S n).length cF] 39); have h12a := h12.alloc (.cells #[.slice pF (fldN B S n).length cF] 39); have c3 := c2a.gb hgr (fun e => owns_boxN h12a c2a (by decide) e.symm); have r13 := World.ownsRow.kept (r12.alloc (.cells #[.slice pF (fldN B S n).length cF] 39)) hgr (owns_apart (r12.alloc (.cells #[.slice pF (fldN B S n).length cF] 39)) h12a (by decide)); have r23 := World.ownsRow.kept (r22.alloc (.cells #[.slice pF (fldN B S n).length cF] 39)) hgr (owns_apart (r22.alloc (.cells #[.slice pF (fldN B S n).length cF] 39)) h12a (by decide)); have g3 := (g2.alloc g2.size (.cells #[.slice pF (fldN B S n).length cF] 39)).grown hgr (by have := g2.size; simp; omega) (fun j hj => Nat.le_trans hM5 (h12a.lt j hj).1); have HD3 := hid (FlsD.ins (E := 39) (M := y1.heap.size) h0 hnS (fun i u F a b => World.ownsRow.kept (World.ownsRow.alloc (h22 i u F a b) (.cells #[.slice pF (fldN B S n).length cF] 39)) hgr (owns_apart (World.ownsRow.alloc (h22 i u F a b) (.cells #[.slice pF (fldN B S n).length cF] 39)) h12a (by decide))) h3 HLT.out hrow (World.ownsRow.kept (World.ownsRow.alloc hF (.cells #[.slice pF (fldN B S n).length cF] 39)) hgr (owns_apart (World.ownsRow.alloc hF (.cells #[.slice pF (fldN B S n).length cF] 39)) h12a (by decide))) (fun e => by have := HF0l.out; rw [e] at this; simp at this; omega) (by have : W9.heap.size <= y1.heap.size := s1; omega)); have x23 := c3.cell 2 rfl; have x23f := c3.frozen 2; clear hI c2a h12a)
 refine hK.out _ _ ⟨HKA.out _ g3, fun hk => x23⟩ (fun hHeld => ?_);clear hK K;try simp only [Act.put]
 refine AnyL.take (i := 11) (oi := _) (v := ?_) rfl (by kernel_rfl) (by kernel_rfl) (by kernel_rfl) (by decide) (fun _ _ _ h => h) (Or.inl ⟨by rfl, ?_⟩) ⟨hHeld.1, fun _ => hHeld.2 (by rfl)⟩ ?_;rotate_left
 ·intro w hSw; (try dsimp only at hSw); first | (go_simp; done) | (go_simp; with_reducible rfl)
 try simp only [Act.put]
 refine AnyL.one (i := 12) (o := _) (by kernel_rfl) rfl (fun K hK => ?_);go_simp;refine hK.out _ _ ⟨HKA.out _ (g3.setCell (p := ⟨z, 2, none⟩) hz65 _), fun hk => (by simp at hk)⟩ (fun hHeld => ?_);clear hK K;try simp only [Act.put]
 refine AnyL.done (by kernel_rfl) ?_ _;obtain ⟨W4, hW4⟩ : ∃ W4, W4 = y3.setCell ⟨z, 2, none⟩ (.slice pR (S.length + 1) cR) := ⟨_, rfl⟩;have hg4 : y3.grownBy W4 (some z) := by rw [hW4]; exact gb_set (gb_refl y3 _) 2 _
 have c4 : BoxN W4 z 43 [.slice q1 B.length k1, .slice q8 (U.length + 1) k8, .slice pR (S.length + 1) cR] := by rw [hW4]; exact c3.set 2 _
 have r14 := World.ownsRow.kept r13 hg4 (.inr (fun e => owns_boxN r13 c3 (by decide) e.symm));have r24 := World.ownsRow.kept r23 hg4 (.inr (fun e => owns_boxN r23 c3 (by decide) e.symm));have d4 := HD3.out.kept hg4 (fun x e s n xs he h => .inr (fun e' => owns_boxN h c3 (by rcases he with rfl | rfl <;> decide) e'.symm));have g4 : Below w5.heap.size w5 W4 := by rw [hW4]; exact g3.setCell (p := ⟨z, 2, none⟩) hz65 _
 rw [<- hW4];clear hW4 hg4 r13 r23 HD3 c3 g3 x23 x23f hgr hrow r12 r22 h12 h22 x22 c2 g2 hF hy2 r11 r21 h1 h2 h3 HLT x21 c1 g1 hy1 r10 r20 r30 c0 x20 g0 HCL HSF HKA;obtain ⟨Z, hZ⟩ : ∃ Z, Z = S.take n ++ fldN B S n :: S.drop n := ⟨_, rfl⟩;have hZl : Z.length = S.length + 1 := by rw [hZ]; simp; omega
 have hZR : ∀ F ∈ Z, F.length = R.length /\ ∀ q ∈ F, Sz k q := fun F hF => by
  have hm : F ∈ B :: S := by
   rw [hZ] at hF;rcases List.mem_append.1 hF with h1 | h1
   ·exact List.mem_cons_of_mem _ (List.mem_of_mem_take h1)
   ·rcases List.mem_cons.1 h1 with rfl | h2
    ·exact fldN_mem B S hnS
    ·exact List.mem_cons_of_mem _ (List.mem_of_mem_drop h2)
  exact ⟨(HD.out.fl F hm).trans hRl.symm, HD.out.fs F hm⟩
 have HEND : Hid (midR Z R n (S.length + 1) 0 = insS B S R n) := by unfold Hid; rw [hZ]; exact midR_end hnS
 rw [<- hZ] at d4;have d4' : FlsD 39 W4 M (.slice pR (S.length + 1) cR) (midR Z R n n 0) := by rw [midR_start]; exact d4
 have HZR := hid hZR;have HZL := hid hZl;have HRL := hid hRl;have HRS := hid hRs;have hkpos := HD.out.m.kpos;clear d4 hZ hZR hZl hRl hRs h0 us;have e1 := (b5.below g4 b5.lt).cell 1 rfl;obtain ⟨bx, ox, cx', hve, hbx, hxc⟩ := HXQ.out.cells (by have := HRL.out; omega);injection hve with hv1 hv2 hv3
 clear hv2;subst hv1 hv3;go_wp2_with fail;go_loopw [11] (fun t11 wr => ∃ i : Nat, t11 = .int .i64 i /\ n <= i /\ i <= S.length + 1 /\ BoxN wr z 43 [.slice q1 B.length k1, .slice q8 (U.length + 1) k8, .slice pR (S.length + 1) cR] /\
  FlsD 39 wr M (.slice pR (S.length + 1) cR) (midR Z R n i 0) /\ FldV wr w5.heap.size (.slice q1 B.length k1) B /\ wr.ownsRow w5.heap.size 9 1 (.slice q8 (U.length + 1) k8) (U.length + 1) (U1.map fun x => Value.string x) /\ Below w5.heap.size w5 wr) (fun t11 _ => S.length + 1 - (RowKit.intOf t11).toNat)
 case atStart => exact ⟨n, rfl, Nat.le_refl _, by omega, c4, d4', r14, r24, g4⟩
 case round =>
  obtain ⟨i, rfl, hni, hiS, cr, dr, p1, p2, gr⟩ := hrel;have x2 := cr.cell 2 rfl;clear c4 d4' r14 r24 g4 e1;rcases Nat.lt_or_ge i (S.length + 1) with hlt | hge
  ·have hiz : (i : Int) < (S.length : Int) + 1 := by omega
   obtain ⟨F, hF⟩ : ∃ F, Z[i]? = some F := ⟨_, List.getElem?_eq_getElem (by have := HZL.out; omega)⟩;obtain ⟨hFl, hFs⟩ := HZR.out F (List.mem_of_getElem? hF);have hFn : F ≠ [] := fun e => by rw [e] at hFl; simp at hFl; have := HRL.out; omega
   have hrow := midR_here (X := R) (n := n) (k := 0) hF;rw [rowUp_zero] at hrow;obtain ⟨gR, cR2, g, c, hv, hr1, hr2, hcell, -, -, -, -, -, -, -, -, -, -⟩ := dr.row (by decide) hrow hFn;rw [midR_length, HZL.out] at hv hr1;injection hv with hv1 hv2 hv3
   clear hv2;subst hv1 hv3;have hr3 : ((S.length + 1 : Nat) : Int) <= (cR : Int) := by omega
   unfold maxLen at hr2;have HF := hid hF;have HFL := hid hFl;have HFS := hid hFs;have hPl : F.length <= 1000000 := by have := HRL.out; omega
   clear hFl hFs hrow hF;go_wp2_with fail;go_loopw [103] (fun t103 wi => ∃ j : Nat, t103 = .int .i64 j /\ j <= F.length /\ BoxN wi z 43 [.slice q1 B.length k1, .slice q8 (U.length + 1) k8, .slice (some ⟨gR, 0, none⟩) (S.length + 1) cR] /\
    FlsD 39 wi M (.slice (some ⟨gR, 0, none⟩) (S.length + 1) cR) (midR Z R n i j) /\ FldV wi w5.heap.size (.slice q1 B.length k1) B /\ wi.ownsRow w5.heap.size 9 1 (.slice q8 (U.length + 1) k8) (U.length + 1) (U1.map fun x => Value.string x) /\ Below w5.heap.size w5 wi) (fun t103 _ => F.length - (RowKit.intOf t103).toNat)
   case atStart => exact ⟨0, rfl, Nat.zero_le _, cr, dr, p1, p2, gr⟩
   case round =>
    obtain ⟨j, rfl, hj, ci, di, p1i, p2i, gi⟩ := hrel;rcases Nat.lt_or_ge j F.length with hjl | hjg
    ·have hjz : (j : Int) < (F.length : Int) := by omega
     have hjR : j < R.length := by have := HFL.out; omega
     have hrow := midR_here (X := R) (n := n) (k := j) HF.out;have hrl : (rowUp F R j).length = F.length := rowUp_length (HFL.out) j;obtain ⟨gR', cR', g', c', hv, -, -, hcl, hc1, hc2, hgM, hgl, hgRl, hgne, hcells, hfz, ⟨lg, hbg⟩, hset⟩ := di.row (by decide) hrow (fun e => by rw [e] at hrl; simp at hrl; omega);rw [midR_length, HZL.out] at hv;injection hv with hv1 hv2 hv3
     injection hv1 with hv1
     injection hv1 with hv1
     clear hv2;subst hv1 hv3;have hfr := hfz j;have hcj := hcells j (by omega);have hat : (rowUp F R j)[j]'(by omega) = F[j] := by
      have h5 := rowUp_at (X := R) (HFL.out) hjl;rw [List.getElem?_eq_getElem (by omega)] at h5;exact Option.some.inj h5
     rw [hat] at hcj;rw [hrl] at hcl hc1;have hc3 : (F.length : Int) <= (c' : Int) := by omega
     unfold maxLen at hc2;have HSET : Hid (∀ w', Below wr.heap.size wr w' -> FlsD 39 (w'.setCell ⟨g', j, none⟩ (.string (RS (F[j] + R[j])))) M (.slice (some ⟨gR, 0, none⟩) (S.length + 1) cR) (midR Z R n i (j + 1))) := fun w' hw => by
      have h5 := hset w' hw j (F[j] + R[j]) (by omega);rw [midR_set HF.out (HFL.out) hjl] at h5;exact h5
     have xj := (gi.cell (p := ⟨bx, ox + j, none⟩) (Nat.lt_of_lt_of_le hbx (HBw.out _ (Below.refl _ _)).size)).trans (((HBw.out _ (Below.refl _ _)).cell (p := ⟨bx, ox + j, none⟩) hbx).trans (hxc j hjR));rw [hI_nat R j hjR] at xj;have HAD := hid fun w hg => ratAdd_any F[j] R[j] k hkpos (by omega) (HFS.out _ (List.getElem_mem hjl)) (HRS.out _ (List.getElem_mem hjR)) w hg
     have HCH := hid fun w hg => ratChk_ok (F[j] + R[j]) ((Sz.add (HFS.out _ (List.getElem_mem hjl)) (HRS.out _ (List.getElem_mem hjR))).mono (by omega)) w hg
     generalize F[j] = f at *;generalize R[j] = x at *;have hgz : g' ≠ z := fun e => by
      subst e;unfold BoxN at hbg ci;rw [hbg] at ci;injection ci with ci
      injection ci with _ h5
      exact absurd h5 (by decide)
     have hg5 : w5.heap.size <= g' := by omega
     have hgb : g' ≠ bx := by have := (HBw.out _ (Below.refl _ _)).size; omega
     have y2 := (b5.below gi b5.lt).cell 2 rfl;have z2 := ci.cell 2 rfl;have HKA : Hid (∀ w', wr.grownBy w' (some g') -> (w'.cell? ⟨z, 2, none⟩ = some (.slice (some ⟨gR, 0, none⟩) (S.length + 1) cR) /\ w'.cell? ⟨gR, i, none⟩ = some (.slice (some ⟨g', 0, none⟩) F.length c')) /\ w'.cell? ⟨w.heap.size + 2, 2, none⟩ = some (.slice (some ⟨bx, ox, none⟩) R.length cx) /\ w'.cell? ⟨bx, ox + j, none⟩ = some (.string (RS x))) := fun w' hb => by
      have key : ∀ {a : Addr} {v : Value}, wr.cell? a = some v -> a.block ≠ g' -> w'.cell? a = some v := fun {a v} ha hne => by
       have h6 := hb.block a.block (World.block_lt_of_cell? wr a ha) (fun e => hne (Option.some.inj e));unfold World.cell? at ha ⊢;rw [h6];exact ha
      exact ⟨⟨key z2 (Ne.symm hgz), key hcl hgne⟩, key (by rw [<- HXL.out.trans HRL.out.symm]; exact y2) (by show w.heap.size + 2 ≠ g'; omega), key xj (Ne.symm hgb)⟩
     have hjRz : (j : Int) < (R.length : Int) := by omega
     have hgr : Good wr := hg.below (HBw.out _ gi);have k0 : wr.grownBy wr.drew (some g') := gb_drew (gb_refl wr _);have kb0 : Below wr.heap.size wr wr.drew := below_drewN wr 1;have fj0 : wr.drew.cell? ⟨g', j, none⟩ = some (.string (RS f)) := hcj;have hzi := gi.size;have HBG := hid hbg;clear hset hcells hfz hcl xj y2 z2 hbg hrow hat hxc;go_upto_region 26 with fail;refine AnyL.region (S := Till 21 (fun w' => (w'.cell? ⟨z, 2, none⟩ = some (.slice (some ⟨gR, 0, none⟩) (S.length + 1) cR) /\ w'.cell? ⟨gR, i, none⟩ = some (.slice (some ⟨g', 0, none⟩) F.length c')) /\ w'.cell? ⟨w.heap.size + 2, 2, none⟩ = some (.slice (some ⟨bx, ox, none⟩) R.length cx) /\ w'.cell? ⟨bx, ox + j, none⟩ = some (.string (RS x))) (fun w' => w'.cell? ⟨g', j, none⟩ = some (.string (RS f)))) (by kernel_rfl) ?_;have hHeld : Till 21 (fun w' => (w'.cell? ⟨z, 2, none⟩ = some (.slice (some ⟨gR, 0, none⟩) (S.length + 1) cR) /\ w'.cell? ⟨gR, i, none⟩ = some (.slice (some ⟨g', 0, none⟩) F.length c')) /\ w'.cell? ⟨w.heap.size + 2, 2, none⟩ = some (.slice (some ⟨bx, ox, none⟩) R.length cx) /\ w'.cell? ⟨bx, ox + j, none⟩ = some (.string (RS x))) (fun w' => w'.cell? ⟨g', j, none⟩ = some (.string (RS f))) (Array.replicate 22 false) _ := ⟨HKA.out _ k0, fun _ => fj0⟩;refine AnyL.take (i := 0) (oi := _) (v := ?_) rfl (by kernel_rfl) (by kernel_rfl) (by kernel_rfl) (by decide) (fun _ _ _ h => h) (Or.inl ⟨by rfl, ?_⟩) ⟨hHeld.1, fun _ => hHeld.2 (by rfl)⟩ ?_;rotate_left
     ·intro w hSw; (try dsimp only at hSw); first | (go_simp; done) | (go_simp; with_reducible rfl)
     try simp only [Act.put]
     refine AnyL.take (i := 1) (oi := _) (v := ?_) rfl (by kernel_rfl) (by kernel_rfl) (by kernel_rfl) (by decide) (fun _ _ _ h => h) (Or.inl ⟨by rfl, ?_⟩) ⟨hHeld.1, fun _ => hHeld.2 (by rfl)⟩ ?_;rotate_left
     ·intro w hSw; (try dsimp only at hSw); first | (go_simp; done) | (go_simp; with_reducible rfl)
     try simp only [Act.put]
     refine AnyL.take (i := 2) (oi := _) (v := ?_) rfl (by kernel_rfl) (by kernel_rfl) (by kernel_rfl) (by decide) (fun _ _ _ h => h) (Or.inl ⟨by rfl, ?_⟩) ⟨hHeld.1, fun _ => hHeld.2 (by rfl)⟩ ?_;rotate_left
     ·intro w hSw; (try dsimp only at hSw); first | (go_simp; done) | (go_simp; with_reducible rfl)
     try simp only [Act.put]
     refine AnyL.take (i := 3) (oi := _) (v := ?_) rfl (by kernel_rfl) (by kernel_rfl) (by kernel_rfl) (by decide) (fun _ _ _ h => h) (Or.inl ⟨by rfl, ?_⟩) ⟨hHeld.1, fun _ => hHeld.2 (by rfl)⟩ ?_;rotate_left
     ·intro w hSw; (try dsimp only at hSw); first | (go_simp; done) | (go_simp; with_reducible rfl)
     try simp only [Act.put]
     refine AnyL.take (i := 4) (oi := _) (v := ?_) rfl (by kernel_rfl) (by kernel_rfl) (by kernel_rfl) (by decide) (fun _ _ _ h => h) (Or.inl ⟨by rfl, ?_⟩) ⟨hHeld.1, fun _ => hHeld.2 (by rfl)⟩ ?_;rotate_left
     ·intro w hSw; (try dsimp only at hSw); first | (go_simp; done) | (go_simp; with_reducible rfl)
     try simp only [Act.put]
     refine AnyL.take (i := 5) (oi := _) (v := ?_) rfl (by kernel_rfl) (by kernel_rfl) (by kernel_rfl) (by decide) (fun _ _ _ h => h) (Or.inl ⟨by rfl, ?_⟩) ⟨hHeld.1, fun _ => hHeld.2 (by rfl)⟩ ?_;rotate_left
     ·intro w hSw; (try dsimp only at hSw); first | (go_simp; done) | (go_simp; with_reducible rfl)
     try simp only [Act.put]
     refine AnyL.take (i := 6) (oi := _) (v := ?_) rfl (by kernel_rfl) (by kernel_rfl) (by kernel_rfl) (by decide) (fun _ _ _ h => h) (Or.inl ⟨by rfl, ?_⟩) ⟨hHeld.1, fun _ => hHeld.2 (by rfl)⟩ ?_;rotate_left
     ·intro w hSw; (try dsimp only at hSw); first | (go_simp; done) | (go_simp; with_reducible rfl)
     try simp only [Act.put]
     refine AnyL.take (i := 7) (oi := _) (v := ?_) rfl (by kernel_rfl) (by kernel_rfl) (by kernel_rfl) (by decide) (fun _ _ _ h => h) (Or.inl ⟨by rfl, ?_⟩) ⟨hHeld.1, fun _ => hHeld.2 (by rfl)⟩ ?_;rotate_left
     ·intro w hSw; (try dsimp only at hSw); first | (go_simp; done) | (go_simp; with_reducible rfl)
     try simp only [Act.put]
     refine AnyL.take (i := 8) (oi := _) (v := ?_) rfl (by kernel_rfl) (by kernel_rfl) (by kernel_rfl) (by decide) (fun _ _ _ h => h) (Or.inl ⟨by rfl, ?_⟩) ⟨hHeld.1, fun _ => hHeld.2 (by rfl)⟩ ?_;rotate_left
     ·intro w hSw; (try dsimp only at hSw); first | (go_simp; done) | (go_simp; with_reducible rfl)
     try simp only [Act.put]
     refine AnyL.take (i := 9) (oi := _) (v := ?_) rfl (by kernel_rfl) (by kernel_rfl) (by kernel_rfl) (by decide) (fun _ _ _ h => h) (Or.inl ⟨by rfl, ?_⟩) ⟨hHeld.1, fun _ => hHeld.2 (by rfl)⟩ ?_;rotate_left
     ·intro w hSw; (try dsimp only at hSw); first | (go_simp; done) | (go_simp; with_reducible rfl)
     try simp only [Act.put]
     refine AnyL.take (i := 10) (oi := _) (v := ?_) rfl (by kernel_rfl) (by kernel_rfl) (by kernel_rfl) (by decide) (fun _ _ _ h => h) (Or.inl ⟨by rfl, ?_⟩) ⟨hHeld.1, fun _ => hHeld.2 (by rfl)⟩ ?_;rotate_left
     ·intro w hSw; (try dsimp only at hSw); first | (go_simp; done) | (go_simp; with_reducible rfl)
     try simp only [Act.put]
     refine AnyL.take (i := 11) (oi := _) (v := ?_) rfl (by kernel_rfl) (by kernel_rfl) (by kernel_rfl) (by decide) (fun _ _ _ h => h) (Or.inl ⟨by rfl, ?_⟩) ⟨hHeld.1, fun _ => hHeld.2 (by rfl)⟩ ?_;rotate_left
     ·intro w hSw; (try dsimp only at hSw); first | (go_simp; done) | (go_simp; with_reducible rfl)
     try simp only [Act.put]
     refine AnyL.take (i := 12) (oi := _) (v := ?_) rfl (by kernel_rfl) (by kernel_rfl) (by kernel_rfl) (by decide) (fun _ _ _ h => h) (Or.inl ⟨by rfl, ?_⟩) ⟨hHeld.1, fun _ => hHeld.2 (by rfl)⟩ ?_;rotate_left
     ·intro w hSw; (try dsimp only at hSw); first | (go_simp; done) | (go_simp; with_reducible rfl)
     try simp only [Act.put]
     refine AnyL.take2 (i := 13) (oi := _) (v := ?_) rfl (by kernel_rfl) (by kernel_rfl) (by kernel_rfl) (by decide) (ok := _) rfl (by kernel_rfl) (by kernel_rfl) (fun _ _ _ h => h) (Or.inl ⟨by rfl, ?_⟩) ⟨hHeld.1, fun _ => hHeld.2 (by rfl)⟩ ?_;rotate_left
     ·intro w hSw; (try dsimp only at hSw); first | (go_simp; done) | (go_simp; with_reducible rfl)
     try simp only [Act.put]
     refine AnyL.take (i := 14) (oi := _) (v := ?_) rfl (by kernel_rfl) (by kernel_rfl) (by kernel_rfl) (by decide) (fun _ _ _ h => h) (Or.inl ⟨by rfl, ?_⟩) ⟨hHeld.1, fun _ => hHeld.2 (by rfl)⟩ ?_;rotate_left
     ·intro w hSw; (try dsimp only at hSw); first | (go_simp; done) | (go_simp; with_reducible rfl)
     try simp only [Act.put]
     refine AnyL.take (i := 15) (oi := _) (v := ?_) rfl (by kernel_rfl) (by kernel_rfl) (by kernel_rfl) (by decide) (fun _ _ _ h => h) (Or.inl ⟨by rfl, ?_⟩) ⟨hHeld.1, fun _ => hHeld.2 (by rfl)⟩ ?_;rotate_left
     ·intro w hSw; (try dsimp only at hSw); first | (go_simp; done) | (go_simp; with_reducible rfl)
     try simp only [Act.put]
     refine AnyL.take (i := 16) (oi := _) (v := ?_) rfl (by kernel_rfl) (by kernel_rfl) (by kernel_rfl) (by decide) (fun _ _ _ h => h) (Or.inl ⟨by rfl, ?_⟩) ⟨hHeld.1, fun _ => hHeld.2 (by rfl)⟩ ?_;rotate_left
     ·intro w hSw; (try dsimp only at hSw); first | (go_simp; done) | (go_simp; with_reducible rfl)
     try simp only [Act.put]
     refine AnyL.take (i := 17) (oi := _) (v := ?_) rfl (by kernel_rfl) (by kernel_rfl) (by kernel_rfl) (by decide) (fun _ _ _ h => h) (Or.inl ⟨by rfl, ?_⟩) ⟨hHeld.1, fun _ => hHeld.2 (by rfl)⟩ ?_;rotate_left
     ·intro w hSw; (try dsimp only at hSw); first | (go_simp; done) | (go_simp; with_reducible rfl)
     try simp only [Act.put]
     refine AnyL.take (i := 18) (oi := _) (v := ?_) rfl (by kernel_rfl) (by kernel_rfl) (by kernel_rfl) (by decide) (fun _ _ _ h => h) (Or.inl ⟨by rfl, ?_⟩) ⟨hHeld.1, fun _ => hHeld.2 (by rfl)⟩ ?_;rotate_left
     ·intro w hSw; (try dsimp only at hSw); first | (go_simp; done) | (go_simp; with_reducible rfl)
     try simp only [Act.put]
     refine AnyL.one (i := 19) (o := _) (by kernel_rfl) rfl (fun K hK => ?_);go_simp
     (refine (HAD.out _ (hgr.drewN 1)).mono ?_; rintro e y1 ⟨_, rfl, rfl, hy1⟩; have kb1 := kb0.trans (hy1.mono kb0.size); have k1' : wr.grownBy y1 (some g') := gb_below k0 hy1; have fj1 : y1.cell? ⟨g', j, none⟩ = some (.string (RS f)) := (zcq hy1 (by show g' < wr.heap.size; exact hgl) fj0 :); have ff1 : y1.frozen? ⟨g', j, none⟩ = false := (hy1.frozen (p := ⟨g', j, none⟩) (by show g' < wr.heap.size; exact hgl)).trans hfr)
     refine hK.out _ _ ⟨HKA.out _ k1', fun hk => fj1⟩ (fun hHeld => ?_);clear hK K;try simp only [Act.put]
     refine AnyL.take (i := 20) (oi := _) (v := ?_) rfl (by kernel_rfl) (by kernel_rfl) (by kernel_rfl) (by decide) (fun _ _ _ h => h) (Or.inl ⟨by rfl, ?_⟩) ⟨hHeld.1, fun _ => hHeld.2 (by rfl)⟩ ?_;rotate_left
     ·intro w hSw; (try dsimp only at hSw); first | (go_simp; done) | (go_simp; with_reducible rfl)
     try simp only [Act.put]
     refine AnyL.one (i := 21) (o := _) (by kernel_rfl) rfl (fun K hK => ?_);go_simp;refine hK.out _ _ ⟨HKA.out _ (gb_set k1' _ _), fun hk => (by simp at hk)⟩ (fun hHeld => ?_);clear hK K;try simp only [Act.put]
     refine AnyL.done (by kernel_rfl) ?_ _;obtain ⟨W8, hW8⟩ : ∃ W8, W8 = y1.setCell ⟨g', j, none⟩ (.string (RS (f + x))) := ⟨_, rfl⟩;have k8' : wr.grownBy W8 (some g') := by rw [hW8]; exact gb_set k1' _ _
     have hgs : y1.grownBy W8 (some g') := by rw [hW8]; exact gb_set (gb_refl y1 _) _ _
     have ds8 : FlsD 39 W8 M (.slice (some ⟨gR, 0, none⟩) (S.length + 1) cR) (midR Z R n i (j + 1)) := by rw [hW8]; exact HSET.out y1 kb1
     have ci8 := ci.gb k8' (fun e => hgz (Option.some.inj e));have p18 := World.ownsRow.kept p1i k8' (.inr (fun e => by have := hM1 _ e; omega));have p28 := World.ownsRow.kept p2i k8' (.inr (fun e => owns_boxN p2i HBG.out (by decide) e.symm));have gi8 : Below w5.heap.size w5 W8 := by rw [hW8]; exact (gi.trans (kb1.mono gi.size)).setCell (p := ⟨g', j, none⟩) hg5 _
     have fj8 : W8.cell? ⟨g', j, none⟩ = some (.string (RS (f + x))) := by rw [hW8]; exact World.cell?_setCell_same' _ _ _ (by rw [fj1]; rfl)
     obtain ⟨⟨z28, r28⟩, -, -⟩ := HKA.out W8 k8';rw [<- hW8];clear hW8 k8' hgs HSET HKA HAD k1' kb1 hy1 fj1 ff1 fj0 k0 kb0 hcj hfr p1i p2i ci di HBG;go_wp2_with fail;refine (HCH.out W8 (hg.below (HBw.out _ gi8))).mono ?_;rintro e W10 ⟨_, rfl, rfl, hb10⟩;have gi10 := gi8.trans (hb10.mono gi8.size);have ci10 := ci8.below hb10 ci8.lt;have p110 := World.ownsRow.belowAll p18 hb10;have p210 := World.ownsRow.belowAll p28 hb10;have ds10 := ds8.below hb10;clear hb10 gi8 ci8 p18 p28 ds8 fj8 z28 r28 HCH;go_wp2_with fail;go_roundw
     case rel => exact ⟨j + 1, by go_num, by omega, ci10, ds10, p110, p210, gi10⟩
     case measure =>
      show F.length - ((j : Int) + 1).toNat < F.length - ((j : Int)).toNat;omega
    ·obtain rfl : j = F.length := by omega
     have dn : FlsD 39 wr M (.slice (some ⟨gR, 0, none⟩) (S.length + 1) cR) (midR Z R n (i + 1) 0) := by
      rw [HFL.out, midR_next hni (fun G hG => (HZR.out G hG).1)] at di;exact di
     go_wp2_with fail;go_roundw
     case rel => exact ⟨i + 1, by go_num, by omega, by omega, ci, dn, p1i, p2i, gi⟩
     case measure =>
      show S.length + 1 - ((i : Int) + 1).toNat < S.length + 1 - ((i : Int)).toNat;omega
  ·obtain rfl : i = S.length + 1 := by omega
   have c6 := b6.below gr b6.lt;have t0 := c6.cell 0 rfl;have t1 := c6.cell 1 rfl;have t2 := c6.cell 2 rfl;have f0 := c6.frozen 0;have f1 := c6.frozen 1;have f2 := c6.frozen 2;have x0 := cr.cell 0 rfl;have x1 := cr.cell 1 rfl;go_wp2_with fail;have kk := box3_set c6 (v0 := .slice q1 B.length k1) (v1 := .slice q8 (U.length + 1) k8) (v2 := .slice pR (S.length + 1) cR);have hle : w.heap.size <= w.heap.size + 3 := by omega
   have hBr := HBw.out _ gr;have hBe := ((hBr.setCell (p := ⟨w.heap.size + 3, 0, none⟩) hle (.slice q1 B.length k1)).setCell (p := ⟨w.heap.size + 3, 1, none⟩) hle (.slice q8 (U.length + 1) k8)).setCell (p := ⟨w.heap.size + 3, 2, none⟩) hle (.slice pR (S.length + 1) cR);have oe1 := own_set3 p1 (by decide) c6 (x0 := .slice q1 B.length k1) (x1 := .slice q8 (U.length + 1) k8) (x2 := .slice pR (S.length + 1) cR);have oe2 := own_set3 p2 (by decide) c6 (x0 := .slice q1 B.length k1) (x1 := .slice q8 (U.length + 1) k8) (x2 := .slice pR (S.length + 1) cR);have oe3 := dr.kept (gb_set (gb_set (gb_set (gb_refl wr (some (w.heap.size + 3))) 0 (.slice q1 B.length k1)) 1 (.slice q8 (U.length + 1) k8)) 2 (.slice pR (S.length + 1) cR)) (fun x e s n xs he h => .inr (fun e' => owns_boxN h c6 (by rcases he with rfl | rfl <;> decide) e'.symm));have a0 := kk.cell 0 rfl;have a1 := kk.cell 1 rfl;have a2 := kk.cell 2 rfl;rw [HEND.out] at oe3;refine bodyPost_ret (v := .tuple #[.agg #[.slice q1 B.length k1, .slice q8 (U.length + 1) k8, .slice pR (S.length + 1) cR], .int .i64 0]) (by simp [results, Tryz.results19, go_sem, a0, a1, a2]) rfl ⟨_, rfl, .inr ⟨HR0.out, _, _, _, rfl, FldV.rd oe1, ?_, ?_⟩, hBe⟩
   ·have h5 := RdC.of_owns oe2
    unfold RdS;rw [Int.toNat_natCast, <- HU1.out, HUL.out];exact h5
   ·rw [HNT.out]
    exact oe3.v.rd
open Go.Shelf
def encBwR (xs : List Rat) (i : Nat) : Array Value := #[.int .i64 (i : Int), .string (RS ((xs[i]?).getD 0))]
abbrev IxR (xs : List Rat) := { i : Nat // i < xs.length }
theorem backwardR_any (a : Option Addr) (len cap : Nat) (w : World) :
 Calls Tryz.prog 80 #[.slice a len cap] w fun e w' => e = .returned (.func (.func 128) #[] #[.pointer (some ⟨w.heap.size, 0, none⟩)]) /\ w.alloc (.cells #[.slice a len cap] 38) = w' := by
 go_enter Tryz.func80, Tryz.ntmps80;go_wp2;go_ret;exact ⟨rfl, rfl⟩
def Keep3 (n₀ Bm : Nat) (A B : World) : Prop := Below n₀ A B /\ B.heap[Bm]? = A.heap[Bm]? /\ B.heap[Bm + 1]? = A.heap[Bm + 1]? /\ B.heap[Bm + 2]? = A.heap[Bm + 2]?
theorem Keep3.refl (n₀ Bm : Nat) (A : World) : Keep3 n₀ Bm A A := ⟨Below.refl _ _, rfl, rfl, rfl⟩
theorem Keep3.trans {n₀ Bm : Nat} {A B C : World} (h : Keep3 n₀ Bm A B) (k : Keep3 n₀ Bm B C) : Keep3 n₀ Bm A C := ⟨h.1.trans k.1, k.2.1.trans h.2.1, k.2.2.1.trans h.2.2.1, k.2.2.2.trans h.2.2.2⟩
theorem Keep3.of_below {n₀ Bm : Nat} {A B : World} (h : Below A.heap.size A B) (hn : n₀ <= A.heap.size) (hB : Bm + 2 < A.heap.size) : Keep3 n₀ Bm A B := ⟨h.mono hn, h.block _ (by omega), h.block _ (by omega), h.block _ hB⟩
theorem keep3_b {n₀ Bm : Nat} {w : World} (hn : n₀ <= w.heap.size) (hB : Bm + 2 < w.heap.size) (W : World) (l : Nat) (o o' : Obj) (hl : w.heap.size <= l) (h : W.heap[l]? = some o) (h1 : o.isCells = false) (h2 : o.isWalk = false) : Keep3 n₀ Bm W (W.putObj l o') :=
 ⟨belowK_b hn W l o o' hl h h1 h2, World.putObj_heap_other (by omega), World.putObj_heap_other (by omega), World.putObj_heap_other (by omega)⟩
def encH (H : List Rat) (i : Nat) : Array Value := #[.int .i64 (i : Int), .string (RS ((H[i]?).getD 0))]
theorem heights_any (m d p : Value) (w : World) (pp pt pb pu ps : Option Addr) (np nt nb nu ns cp ct cb cu cs : Nat) (x y : ByteArray) (hm : m = .agg #[.slice pp np cp, .slice pt nt ct]) (hd : d = .agg #[.slice pb nb cb, .slice pu nu cu, .slice ps ns cs]) (hp : p = .agg #[.string x, .string y]) :
 Calls Tryz.prog 79 #[m, d, p] w fun e w' => e = .returned (.func (.func 127) #[] #[.pointer (some ⟨w.heap.size + 1, 0, none⟩), .pointer (some ⟨w.heap.size, 0, none⟩), .pointer (some ⟨w.heap.size + 2, 0, none⟩)]) /\
  ((w.alloc (.cells #[.slice pp np cp, .slice pt nt ct] 37)).alloc (.cells #[.slice pb nb cb, .slice pu nu cu, .slice ps ns cs] 43)).alloc (.cells #[.string x, .string y] 63) = w' := by
 subst hm hd hp;go_enter Tryz.func79, Tryz.ntmps79;go_wp2;go_ret;exact ⟨rfl, rfl⟩
theorem heights_in (n : Nat) (hn : 1 <= n) (l Bm : Nat) (w0 : World) (hg : Good w0) (pp pt pb pu ps : Option Addr) (np nt nu ns cp ct cb cu cs : Nat) (x y : ByteArray) (H : List Rat) (hH : H.length = nu) (hnu : nu <= 1000) (fp : Nat -> Option Addr) (fc : Nat -> Nat)
 (HSF : Hid (∀ i, i < nu -> ∀ w', Below w0.heap.size w0 w' -> Calls Tryz.prog 65 #[.agg #[.slice pb np cb, .slice pu nu cu, .slice ps ns cs], .int .i64 (i : Int)] w' (Ret (fun r _ => r = .slice (fp i) np (fc i)) w')))
 (HVA : Hid (∀ i, i < nu -> ∀ w', Below w0.heap.size w0 w' -> Good w' -> Calls Tryz.prog 30 #[.agg #[.slice pp np cp, .slice pt nt ct], .slice (fp i) np (fc i), .agg #[.string x, .string y]] w' (Ret (fun r _ => r = .tuple #[.string (RS ((H[i]?).getD 0)), .int .i64 0]) w')))
 (J Jx : List (IxR H) -> World -> Prop) (W : World) (hJ : AbidesFrom W.heap.size J) (hW0 : Below w0.heap.size w0 W)
 (bm : BoxN W Bm 37 [.slice pp np cp, .slice pt nt ct]) (bd : BoxN W (Bm + 1) 43 [.slice pb np cb, .slice pu nu cu, .slice ps ns cs]) (bp : BoxN W (Bm + 2) 63 [.string x, .string y])
 (hY : ∀ pre x W, J pre W -> pre.length < nu -> YieldAt Fence.wide (n - 1) Tryz.prog l (encH H x.1) W fun e W' =>
   (e = .returned (.bool true) /\ J (pre ++ [x]) W' /\ Keep3 w0.heap.size Bm W W') \/ (e = .returned (.bool false) /\ Jx (pre ++ [x]) W'))
 (h0 : J [] W) :
 CallsIn Fence.wide n Tryz.prog 127 #[.func (.yield l) #[] #[], .pointer (some ⟨Bm + 1, 0, none⟩), .pointer (some ⟨Bm, 0, none⟩), .pointer (some ⟨Bm + 2, 0, none⟩)] W fun e W' => (∃ v, e = .returned v) /\
  ((∃ ys : List (IxR H), ys.map Subtype.val = List.range nu /\ J ys W') \/ (∃ pre : List (IxR H), pre.map Subtype.val = List.range pre.length /\ Jx pre W')) := by
 have k1 := bd.cell 1 rfl;have HH := hid hH;clear hH;refine callsIn_of_wp Tryz.func127 rfl trivial ?_ rfl;simp only [Tryz.ntmps127, List.size_toArray, List.length_cons, List.length_nil, Nat.reduceAdd, Nat.reduceSub, Array.replicate_succ, Array.replicate_zero, List.push_toArray, List.append_toArray, List.nil_append, List.cons_append]
 gi_wp2
 gi_loopw [11] (fun i wr => ∃ k : Nat, k <= nu /\ i = .int .i64 (k : Int) /\ (∃ pre : List (IxR H), pre.map Subtype.val = List.range k /\ J pre wr) /\ Keep3 w0.heap.size Bm W wr)
  (fun i _ => (nu - RowKit.intOf i).toNat)
 case atStart => exact ⟨0, Nat.zero_le _, rfl, ⟨[], rfl, h0⟩, Keep3.refl _ _ _⟩
 case round =>
  obtain ⟨k, hk, rfl, ⟨pre, hpre, hJs⟩, hkp⟩ := hrel;by_cases hlt : k < nu
  ·have hkz : (k : Int) < (nu : Int) := by omega
   have cm : BoxN wr Bm 37 [.slice pp np cp, .slice pt nt ct] := hkp.2.1.trans bm;have cd : BoxN wr (Bm + 1) 43 [.slice pb np cb, .slice pu nu cu, .slice ps ns cs] := hkp.2.2.1.trans bd;have cq : BoxN wr (Bm + 2) 63 [.string x, .string y] := hkp.2.2.2.trans bp;have hBr : Below w0.heap.size w0 wr := hW0.trans hkp.1;have m0 := cm.cell 0 rfl;have m1 := cm.cell 1 rfl;have d0 := cd.cell 0 rfl;have d1 := cd.cell 1 rfl;have d2 := cd.cell 2 rfl;have p0 := cq.cell 0 rfl;have p1 := cq.cell 1 rfl;have hz := cq.lt;have hz1 := cd.lt;have hz2 := cm.lt;have hgd : Good wr.drew := (hg.below hBr).drewN 1;have hBd : Below w0.heap.size w0 wr.drew := hBr.trans ((below_drewN wr 1).mono hBr.size);have HS1 := hid (HSF.out k hlt);have HV1 := hid (HVA.out k hlt);have hkH : k < H.length := by have := HH.out; omega
   have HYY : Hid (∀ W, J pre W -> _) := fun W hj => hY pre ⟨k, hkH⟩ W hj (by have := congrArg List.length hpre; rw [List.length_map, List.length_range] at this; omega)
   have hsucc : (pre ++ [(⟨k, hkH⟩ : IxR H)]).map Subtype.val = List.range (k + 1) := by rw [List.range_succ, List.map_append, hpre]; rfl
   have HSU := hid hsucc;have HJS := hid hJs;dsimp only [encH] at HYY;generalize RS ((H[k]?).getD 0) = zs at *;clear hpre hsucc hJs hY
   gi_wp2
   refine wpIn_wide.2 ?_;go_region_held3 (fun w' => w'.cell? ⟨Bm, 0, none⟩ = some (.slice pp np cp) /\ w'.cell? ⟨Bm, 1, none⟩ = some (.slice pt nt ct) /\ w'.cell? ⟨Bm + 1, 0, none⟩ = some (.slice pb np cb) /\ w'.cell? ⟨Bm + 1, 1, none⟩ = some (.slice pu nu cu) /\ w'.cell? ⟨Bm + 1, 2, none⟩ = some (.slice ps ns cs) /\ w'.cell? ⟨Bm + 2, 0, none⟩ = some (.string x) /\ w'.cell? ⟨Bm + 2, 1, none⟩ = some (.string y))
    (first | exact ⟨m0, m1, d0, d1, d2, p0, p1⟩ | exact ⟨p_1_0, p_1_1, p_1_2, p_1_3, p_1_4, p_1_5, p_1_6⟩ | exact ⟨p_2_0, p_2_1, p_2_2, p_2_3, p_2_4, p_2_5, p_2_6⟩)
    (first
    | (go_at_call 30; refine (HV1.out _ (hBd.trans (pb1.mono hBd.size)) pg1).mono ?_; rintro e pw2 ⟨_, rfl, rfl, pb2⟩
       have p_2_0 := zct pb2 p_1_0;have p_2_1 := zct pb2 p_1_1;have p_2_2 := zct pb2 p_1_2;have p_2_3 := zct pb2 p_1_3;have p_2_4 := zct pb2 p_1_4;have p_2_5 := zct pb2 p_1_5;have p_2_6 := zct pb2 p_1_6;have ps2 := pb2.size;have pg2 := pg1.below pb2)
    | (go_at_call 65; refine (HS1.out _ hBd).mono ?_; rintro e pw1 ⟨_, rfl, rfl, pb1⟩
       have p_1_0 := zct pb1 m0;have p_1_1 := zct pb1 m1;have p_1_2 := zct pb1 d0;have p_1_3 := zct pb1 d1;have p_1_4 := zct pb1 d2;have p_1_5 := zct pb1 p0;have p_1_6 := zct pb1 p1;have ps1 : wr.heap.size <= pw1.heap.size := pb1.size;have pg1 := hgd.below pb1))
   have pB : Below wr.heap.size wr pw2 := zbt (zbt (below_drewN wr 1) pb1) pb2;have hgW : wr.grownBy pw2 none := ⟨pB.os, pB.tape, pB.output, pB.size, fun j hj _ => pB.block j hj⟩;have hJ2 := hJ _ _ _ _ HJS.out hgW (fun r e => by cases e);have hkp2 := hkp.trans (Keep3.of_below (Bm := Bm) pB hBr.size hz);obtain ⟨fn, tmps, assign, body, hy, hR⟩ := HYY.out pw2 hJ2;clear pB pb1 pb2 ps1 ps2 pg1 pg2 hgd hBd HS1 HV1 m0 m1 d0 d1 d2 p0 p1 HYY hgW
   gi_wp2
   refine hR.mono ?_;rintro e W3 (⟨rfl, hJ3, hk3⟩ | ⟨rfl, hJx3⟩)
   ·gi_wp2
    go_roundw
    case rel => exact ⟨k + 1, by omega, by go_num, ⟨_, HSU.out, hJ3⟩, hkp2.trans hk3⟩
    case measure => simp [RowKit.intOf]; omega
   ·gi_wp2
    refine bodyPost_ret (results_none rfl _ _ _) rfl ?_;have hl := congrArg List.length HSU.out;rw [List.length_map, List.length_range] at hl;exact ⟨⟨_, rfl⟩, .inr ⟨_, by rw [HSU.out, hl], hJx3⟩⟩
  ·obtain rfl : k = nu := by omega
   gi_wp2
   go_end0;exact ⟨⟨_, rfl⟩, .inl ⟨_, hpre, hJs⟩⟩
theorem heights_stops (n : Nat) (hn : 1 <= n) (Bm : Nat) (w0 : World) (hg : Good w0) (pp pt pb pu ps : Option Addr) (np nt nu ns cp ct cb cu cs : Nat) (x y : ByteArray) (H : List Rat) (hH : H.length = nu) (hnu : nu <= 1000) (fp : Nat -> Option Addr) (fc : Nat -> Nat)
 (HSF : Hid (∀ i, i < nu -> ∀ w', Below w0.heap.size w0 w' -> Calls Tryz.prog 65 #[.agg #[.slice pb np cb, .slice pu nu cu, .slice ps ns cs], .int .i64 (i : Int)] w' (Ret (fun r _ => r = .slice (fp i) np (fc i)) w')))
 (HVA : Hid (∀ i, i < nu -> ∀ w', Below w0.heap.size w0 w' -> Good w' -> Calls Tryz.prog 30 #[.agg #[.slice pp np cp, .slice pt nt ct], .slice (fp i) np (fc i), .agg #[.string x, .string y]] w' (Ret (fun r _ => r = .tuple #[.string (RS ((H[i]?).getD 0)), .int .i64 0]) w')))
 (w : World) (hw : Below w0.heap.size w0 w) (bm : BoxN w Bm 37 [.slice pp np cp, .slice pt nt ct]) (bd : BoxN w (Bm + 1) 43 [.slice pb np cb, .slice pu nu cu, .slice ps ns cs]) (bp : BoxN w (Bm + 2) 63 [.string x, .string y]) :
 SeqStopsK Fence.wide n Tryz.prog 127 #[.pointer (some ⟨Bm + 1, 0, none⟩), .pointer (some ⟨Bm, 0, none⟩), .pointer (some ⟨Bm + 2, 0, none⟩)] (fun x : IxR H => encH H x.1) (Keep3 w0.heap.size Bm) (fun ys => ys.map Subtype.val = List.range nu) (fun pre => pre.map Subtype.val = List.range pre.length) nu w := fun l J Jx W hW hJ _ hY h0' =>
 heights_in n hn l Bm w0 hg pp pt pb pu ps np nt nu ns cp ct cb cu cs x y H hH hnu fp fc HSF HVA J Jx W hJ (hw.trans (hW.mono hw.size)) (bm.below hW bm.lt) (bd.below hW bd.lt) (bp.below hW bp.lt) hY h0'
theorem checkPlace_ok (w : World) (vp vt vb vu vs : Value) (P : List PtQ) (T : List Tri) (k : Nat) (B : List Rat) (U : List ByteArray) (S : List (List Rat)) (h : DepN w vp vt vb vu vs P T k B U S) (p : PtQ) (z : Rat) (hp : SzP 200 p) (hz : Sz 200 z) (hg : Good w) :
 Calls Tryz.prog 78 #[.agg #[vp, vt], .agg #[vb, vu, vs], .agg #[.string (RS p.1), .string (RS p.2), .string (RS z)]] w (Ret (fun r _ => r = .int .i64 (if locN P T p T.length = [] then 28 else 0)) w) := by
 have HCK : Hid (∀ w', Below w.heap.size w w' -> Good w' -> _) := fun w' hb hg' => scheck_any w' _ _ _ _ _ P T k _ U _ (h.below hb).toT hg';rw [h.ok] at HCK;have HVC : Hid (∀ w', Good w' -> _) := fun w' hg' => checkVector_any (RS p.1) (RS p.2) (RS z) (by have := hp.1.size (by omega); omega) (by have := hp.2.size (by omega); omega) (by have := hz.size (by omega); omega) w' hg'
 have he : errNum (allQ [RS p.1, RS p.2, RS z]) = 0 := by
  unfold allQ;simp only [List.all_cons, List.all_nil, Bool.and_true];rw [RS_list, RS_list, RS_list, rightQ_RL hp.1, rightQ_RL hp.2, rightQ_RL hz];rfl
 rw [he] at HVC;have HCO : Hid (∀ w', Below w.heap.size w w' -> Good w' -> _) := fun w' hb hg' => contains_ok w' _ _ P T k (h.below hb).p (h.below hb).t h.m p hp hg';have hL : decide ((0 : Int) < ((locN P T p T.length).length : Int)) = !decide (locN P T p T.length = []) := by
  cases locN P T p T.length with
  | nil => rfl
  | cons a l => simp
 rw [hL] at HCO;have HRES : Hid ((if locN P T p T.length = [] then (28 : Int) else 0) = if decide (locN P T p T.length = []) = true then 28 else 0) := by
  unfold Hid;by_cases hl : locN P T p T.length = [] <;> simp [hl]
 rw [HRES.out];obtain ⟨pp, cp, pt, ct, pb, cb, pu, cu, ps, cs, rfl, rfl, rfl, rfl, rfl⟩ := h.open;generalize decide (locN P T p T.length = []) = lb at *;generalize RS p.1 = x at *;generalize RS p.2 = y at *;generalize RS z = zz at *;clear h he hL HRES hp hz;go_enter Tryz.func78, Tryz.ntmps78;go_wp2_with fail;obtain ⟨W, hW⟩ : ∃ W, W = ((w.alloc (.cells #[.slice pp P.length cp, .slice pt T.length ct] 37)).alloc (.cells #[.slice pb P.length cb, .slice pu U.length cu, .slice ps S.length cs] 43)).alloc (.cells #[.string x, .string y, .string zz] 70) := ⟨_, rfl⟩;have hB : Below w.heap.size w W := by rw [hW]; exact (((Below.refl _ _).alloc (Nat.le_refl _) _).alloc (by simp) _).alloc (by simp; omega) _
 have b3 : BoxN W w.heap.size 37 [.slice pp P.length cp, .slice pt T.length ct] := by rw [hW]; exact ((BoxN.new w #[.slice pp P.length cp, .slice pt T.length ct] 37 _ rfl).alloc _).alloc _
 have b5 : BoxN W (w.heap.size + 2) 70 [.string x, .string y, .string zz] := by rw [hW]; exact BoxN.new _ #[.string x, .string y, .string zz] _ _ (by simp)
 rw [<- hW];clear hW;refine (HCK.out _ hB (hg.below hB)).mono ?_;rintro e w1 ⟨_, rfl, rfl, hb1⟩;have hB1 := hB.trans (hb1.mono hB.size);replace b3 := b3.below hb1 b3.lt;replace b5 := b5.below hb1 b5.lt;have v0 := b5.cell 0 rfl;have v1 := b5.cell 1 rfl;have v2 := b5.cell 2 rfl;clear hb1 hB;go_wp2_with fail;refine (HVC.out _ (hg.below hB1)).mono ?_;rintro e w2 ⟨_, rfl, rfl, hb2⟩;have hB2 := hB1.trans (hb2.mono hB1.size);replace b3 := b3.below hb2 b3.lt;replace b5 := b5.below hb2 b5.lt;clear v0 v1 v2 hb2 hB1;have v0 := b5.cell 0 rfl;have v1 := b5.cell 1 rfl;have m0 := b3.cell 0 rfl;have m1 := b3.cell 1 rfl;go_wp2_with fail;refine (HCO.out _ hB2 (hg.below hB2)).mono ?_;rintro e w3 ⟨_, rfl, rfl, hb3⟩;have hB3 := hB2.trans (hb3.mono hB2.size);clear v0 v1 m0 m1;cases lb
 ·go_wp2_with fail
  go_ret;exact ⟨_, rfl, rfl, hB3⟩
 ·go_wp2_with fail
  go_ret;exact ⟨_, rfl, rfl, hB3⟩
attribute [local go_sem] Oper.semAt_some
def unitL (U : List ByteArray) {H : List Rat} (pre : List (IxR H)) : ByteArray := match pre.getLast? with | some x => U[x.1]?.getD ⟨#[]⟩ | none => ⟨#[]⟩
theorem unitL_snoc (U : List ByteArray) {H : List Rat} (pre : List (IxR H)) (x : IxR H) : unitL U (pre ++ [x]) = U[x.1]?.getD ⟨#[]⟩ := by unfold unitL; simp
def countH (H : List Rat) (z : Rat) : Nat := (H.takeWhile fun q => decide (q <= z)).length
def unitAt (U : List ByteArray) (H : List Rat) (z : Rat) : ByteArray := if countH H z = 0 then ⟨#[]⟩ else U[countH H z - 1]?.getD ⟨#[]⟩
theorem countH_le (H : List Rat) (z : Rat) : countH H z <= H.length := (List.takeWhile_prefix _).length_le
theorem countH_all {H : List Rat} {z : Rat} (h : ∀ q ∈ H, q <= z) : countH H z = H.length := by
 unfold countH
 induction H with
 | nil => rfl
 | cons q H ih =>
   rw [List.takeWhile_cons_of_pos (by simpa using h q (by simp)), List.length_cons, ih (fun x hx => h x (List.mem_cons_of_mem _ hx)), List.length_cons]
theorem countH_at {H : List Rat} {z : Rat} {k : Nat} (hk : k < H.length) (h : ∀ i (hi : i < k), H[i] <= z) (h2 : ¬ H[k] <= z) : countH H z = k := by
 unfold countH;have e : H = H.take k ++ H[k] :: H.drop (k + 1) := by rw [<- List.drop_eq_getElem_cons hk, List.take_append_drop]
 have hl : (H.take k).length = k := by rw [List.length_take]; omega
 have h3 : (H.take k ++ H[k] :: H.drop (k + 1)).takeWhile (fun q => decide (q <= z)) = H.take k := by
  rw [List.takeWhile_append_of_pos (fun q hq => by
   obtain ⟨i, hi, rfl⟩ := List.getElem_of_mem hq;rw [List.getElem_take];exact decide_eq_true (h i (by omega)))]
  rw [List.takeWhile_cons_of_neg (by simpa using h2), List.append_nil]
 rw [<- e] at h3;rw [h3, hl]
theorem unitL_range {U : List ByteArray} {H : List Rat} {z : Rat} {pre : List (IxR H)} {k : Nat} (hp : pre.map Subtype.val = List.range k) (hc : countH H z = k) : unitL U pre = unitAt U H z := by
 have hl : pre.length = k := by have := congrArg List.length hp; rwa [List.length_map, List.length_range] at this
 unfold unitAt unitL;rw [hc];rcases Nat.eq_zero_or_pos k with h0 | h0
 ·subst h0
  rw [List.length_eq_zero_iff.1 hl]; rfl
 ·rw [if_neg (by omega)]
  obtain ⟨m, rfl⟩ : ∃ m, k = m + 1 := ⟨k - 1, by omega⟩;have h1 : (pre.map Subtype.val).getLast? = some m := by rw [hp, List.range_succ]; simp
  rw [List.getLast?_map] at h1;cases hg : pre.getLast? with
  | none => rw [hg] at h1; simp at h1
  | some x => rw [hg] at h1; simp at h1; simp [h1]
theorem boxN_kept {W W' : World} {row : Option Nat} {b t : Nat} {l : List Value} (h : BoxN W b t l) (hg : W.grownBy W' row) (hr : ∀ r, row = some r -> ∃ o : Obj, W.heap[r]? = some o /\ o.isCells = false) : BoxN W' b t l := (grownBy_keeps_cells hg hr h rfl).trans h
end Go.Proofs.YtgdpoankaojklaaGreatDoor
