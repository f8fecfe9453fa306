import Derived.Test.YtcjkenapchcnhaaGreatDoorYS48
import Derived.Laws.StructEq
import Derived.Maps.AppendAt
import Derived.Test.YtcjkenapchcnhaaGreatDoorYRP
/- Plain Insert of the unit "new" into a plan's deposit, and Remove of it. klippelaw13.Same (equal lists) The walk over klippelaw13.known. The walks over klipperef05.Value, field.Plane, field.Constant. klippelaw28.StackReturns. Heights as an argument. -/
set_option maxHeartbeats 8000000
set_option maxRecDepth 100000
namespace Go.Proofs.YtcjkenapchcnhaaGreatDoor
open Go.RowKit Go.Lib
def newU : ByteArray := ⟨#[110, 101, 119]⟩
theorem nns (n m : Nat) (Y : n <= 3) (Z : m <= n) : (∀ i (h : i < ((uTo (n + 1)).take m ++ newU :: (uTo (n + 1)).drop m).length), nameQ ((uTo (n + 1)).take m ++ newU :: (uTo (n + 1)).drop m)[i] = true /\ hasS (((uTo (n + 1)).take m ++ newU :: (uTo (n + 1)).drop m).take i) ((uTo (n + 1)).take m ++ newU :: (uTo (n + 1)).drop m)[i] = false) /\
 idxS ((uTo (n + 1)).take m ++ newU :: (uTo (n + 1)).drop m) newU = (m : Int) /\ nameQ newU = true /\ hasS (uTo (n + 1)) newU = false := by
 rcases (by omega : n = 0 \/ n = 1 \/ n = 2 \/ n = 3) with rfl | rfl | rfl | rfl <;> rcases (by omega : m = 0 \/ m = 1 \/ m = 2 \/ m = 3) with rfl | rfl | rfl | rfl <;> first | omega | (refine ⟨?_, ?_, ?_, ?_⟩ <;> decide +kernel)
theorem bis (B : List Rat) (S : List (List Rat)) (X : List Rat) {n : Nat} (Y : n <= S.length) (i : Nat) : fldN B (insS B S X n) i = if i <= n then fldN B S i else if i <= S.length + 1 then addL (fldN B S (i - 1)) X else [] := by
 unfold fldN insS;have Z : (S.take n).length = n := by rw [List.length_take]; omega
 cases i with
 | zero => rw [if_pos (Nat.zero_le _)]; rfl
 | succ i =>
   rw [List.getElem?_cons_succ];by_cases h : i < n
   ·rw [if_pos (by omega), List.getElem?_append_left (by omega), List.getElem?_take, if_pos h, List.getElem?_cons_succ]
   ·rw [if_neg (by omega), List.getElem?_append_right (by omega), Z, List.getElem?_map, List.getElem?_drop, Nat.add_sub_cancel, show n + (i - n) = i by omega]
    by_cases h2 : i <= S.length
    ·rw [if_pos (by omega), List.getElem?_eq_getElem (by simp; omega)]; rfl
    ·rw [if_neg (by omega), List.getElem?_eq_none (by simp; omega)]; rfl
theorem iSl (B : List Rat) (S : List (List Rat)) (X : List Rat) {n : Nat} (Z : n <= S.length) : (insS B S X n).length = S.length + 1 := by
 unfold insS;rw [List.length_append, List.length_take, List.length_map, List.length_drop, List.length_cons]; omega
theorem iSm {B : List Rat} {S : List (List Rat)} {X : List Rat} {n : Nat} {F : List Rat} (h : F ∈ B :: insS B S X n) : F ∈ B :: S \/ ∃ G ∈ B :: S, F = addL G X := by
 rcases List.mem_cons.1 h with rfl | h
 ·exact .inl (by simp)
 ·unfold insS at h
  rcases List.mem_append.1 h with h | h
  ·exact .inl (List.mem_cons_of_mem _ (List.mem_of_mem_take h))
  ·obtain ⟨G, Z, rfl⟩ := List.mem_map.1 h
   exact .inr ⟨G, List.mem_of_mem_drop Z, rfl⟩
theorem aLg {F X : List Rat} {j : Nat} (Z : j < F.length) (Y : j < X.length) : (addL F X)[j]'(by unfold addL; rw [List.length_zipWith]; omega) = F[j] + X[j] := by
 unfold addL;rw [List.getElem_zipWith]
theorem aLm {F X : List Rat} {q : Rat} (h : q ∈ addL F X) : ∃ a ∈ F, ∃ b ∈ X, q = a + b := by
 obtain ⟨j, Y, rfl⟩ := List.getElem_of_mem h;have Z : j < F.length /\ j < X.length := by unfold addL at Y; rw [List.length_zipWith] at Y; omega
 exact ⟨F[j], List.getElem_mem _, X[j], List.getElem_mem _, aLg Z.1 Z.2⟩
theorem aLz {F X : List Rat} (Z : F.length = X.length) (h : ∀ q ∈ X, q = 0) : addL F X = F := by
 refine List.ext_getElem (by rw [aLl Z]) fun j h1 h2 => ?_
 rw [aLg h2 (by omega), h _ (List.getElem_mem _)];grind
theorem ibk {α : Type} (l : List α) (x : α) {n : Nat} (Y : n <= l.length) : (l.take n ++ x :: l.drop n).take n ++ (l.take n ++ x :: l.drop n).drop (n + 1) = l := by
 have Z : (l.take n).length = n := by rw [List.length_take]; omega
 rw [List.take_append_of_le_length (by omega), List.take_of_length_le (by omega), List.drop_append, List.drop_of_length_le (by omega), Z, Nat.add_sub_cancel_left, List.nil_append, List.drop_succ_cons, List.drop_zero, List.take_append_drop]
theorem iSb (B : List Rat) (S : List (List Rat)) (X : List Rat) {n : Nat} (Y : n <= S.length) (h : n = S.length \/ ∀ F ∈ S, addL F X = F) : (insS B S X n).take n ++ (insS B S X n).drop (n + 1) = S := by
 unfold insS;have Z : (S.take n).length = n := by rw [List.length_take]; omega
 rw [List.take_append_of_le_length (by omega), List.take_of_length_le (by omega), List.drop_append, List.drop_of_length_le (by omega), Z, Nat.add_sub_cancel_left, List.nil_append, <- List.map_drop, List.drop_drop, List.drop_succ_cons];rcases h with rfl | h
 ·rw [List.drop_of_length_le (Nat.le_refl _), List.map_nil, List.append_nil, List.take_of_length_le (Nat.le_refl _)]
 ·rw [List.map_congr_left (g := id) (fun F hF => h F (List.mem_of_mem_drop hF)), List.map_id, List.take_append_drop]
theorem pis {w : World} {vp vt vb vu vs v1 v2 v3 : Value} {P : List PtQ} {T : List Tri} {B : List Rat} {H : List StepQ} {n m : Nat} {X : List Rat} (r : n <= 3) (s : m <= n) (K : B.length = P.length) (h : DepN w vp vt vb vu vs P T 3 B (uTo (n + 1)) (sTo P.length B H n)) (J : ∀ F ∈ B :: sTo P.length B H n, ∀ q ∈ F, Fr 2 152 q)
 (V : X.length = P.length) (I : ∀ q ∈ X, 0 <= q) (E : ∀ q ∈ X, Fr 2 38 q)
 (z : RdQ w v1 B) (y : RdS w v2 ((uTo (n + 1)).take m ++ newU :: (uTo (n + 1)).drop m)) (x : RdF w v3 (insS B (sTo P.length B H n) X m)) :
 DepN w vp vt v1 v2 v3 P T 3 B ((uTo (n + 1)).take m ++ newU :: (uTo (n + 1)).drop m) (insS B (sTo P.length B H n) X m) := by
 have S := sTl P.length B H n;have U : m <= (sTo P.length B H n).length := by omega
 have N : ∀ F ∈ B :: insS B (sTo P.length B H n) X m, F.length = P.length := fun F hF => by
  rcases iSm hF with Y | ⟨G, Y, rfl⟩
  ·exact h.fl F Y
  ·rw [aLl (by rw [h.fl G Y, V]), h.fl G Y]
 have M : ∀ F ∈ B :: insS B (sTo P.length B H n) X m, ∀ q ∈ F, Sz 3 q := fun F hF q hq => by
  rcases iSm hF with Y | ⟨G, Y, rfl⟩
  ·exact h.fs F Y q hq
  ·obtain ⟨a, v, b, t, rfl⟩ := aLm hq
   exact s3o (((J G Y a v).add (E b t)).mono (by omega))
 have R : ((uTo (n + 1)).take m ++ newU :: (uTo (n + 1)).drop m).length = (insS B (sTo P.length B H n) X m).length + 1 := by
  rw [iSl _ _ _ U, S, List.length_append, List.length_take, List.length_cons, List.length_drop, uTl]; omega
 refine ⟨h.p, h.t, h.m, z, y, x, N, M, R, by rw [R, iSl _ _ _ U, S]; omega, ?_⟩;refine dEr h.m.some N (fun F hF q hq => (M F hF q hq).mono (by omega)) R (by rw [R, iSl _ _ _ U, S]; omega) (nns n m r s).1 (fun i hi => ?_);rw [iSl _ _ _ U, S] at hi;have L : ∀ i, i < n -> ∀ j (Y : j < (fldN B (sTo P.length B H n) i).length) (Q : j < (fldN B (sTo P.length B H n) (i + 1)).length), (fldN B (sTo P.length B H n) i)[j] <= (fldN B (sTo P.length B H n) (i + 1))[j] := fun i hi j Y Q => by
  have O := tTu P.length B H K i (j : Int);have C := fNt P.length B H n i (by omega);have A := fNt P.length B H n (i + 1) (by omega);rw [<- C, <- A, ho0 _ _ Y, ho0 _ _ Q] at O;exact O
 have Z : ∀ i, i <= n -> (fldN B (sTo P.length B H n) i).length = P.length := fun i hi => h.fl _ (fNm _ _ (by omega))
 rw [bis _ _ _ U i, bis _ _ _ U (i + 1), S];by_cases c1 : i + 1 <= m
 ·rw [if_pos (by omega), if_pos c1, bBi _ _ (by rw [Z i (by omega), Z (i + 1) (by omega)])]
  exact L i (by omega)
 ·rw [if_neg c1, if_pos (show i + 1 <= n + 1 by omega), Nat.add_sub_cancel]
  by_cases c2 : i <= m
  ·rw [if_pos c2, bBi _ _ (by rw [aLl (by rw [Z i (by omega), V])])]
   intro j Y Q;have O : j < X.length := by rw [V, <- Z i (by omega)]; exact Y
   rw [aLg Y O];have := I _ (List.getElem_mem O);grind
  ·rw [if_neg c2, if_pos (show i <= n + 1 by omega), bBi _ _ (by rw [aLl (by rw [Z _ (by omega), V]), aLl (by rw [Z i (by omega), V]), Z _ (by omega), Z i (by omega)])]
   intro j Y Q;rw [aLl (by rw [Z _ (by omega), V])] at Y;rw [aLl (by rw [Z i (by omega), V])] at Q;have O : j < X.length := by rw [V, <- Z i (by omega)]; exact Q
   rw [aLg Y O, aLg Q O];obtain ⟨D, rfl⟩ : ∃ D, i = D + 1 := ⟨i - 1, by omega⟩;have := L D (by omega) j Y Q;simp only [Nat.add_sub_cancel] at *;grind
open Go.Shelf
theorem ipn {w : World} {vp vt vb vu vs : Value} {P : List PtQ} {T : List Tri} {B : List Rat} {H : List StepQ} {n m : Nat} {X : List Rat} (K : n <= 3) (L : m <= n) (R : B.length = P.length) (h : DepN w vp vt vb vu vs P T 3 B (uTo (n + 1)) (sTo P.length B H n)) (Q : ∀ F ∈ B :: sTo P.length B H n, ∀ q ∈ F, Fr 2 152 q)
 (Z : X.length = P.length) (V : ∀ q ∈ X, 0 <= q) (U : ∀ q ∈ X, Fr 2 38 q) (O : Value) (hx : RdQ w O X) (A : Good w) :
 Calls Tryz.prog 13 #[.agg #[vp, vt], .agg #[vb, vu, vs], .agg #[.string newU, .int .i64 (m : Int), O]] w (Ret (fun r w' => ∃ v1 v2 S, r = .tuple #[.agg #[v1, v2, S], .int .i64 0] /\ DepN w' vp vt v1 v2 S P T 3 B ((uTo (n + 1)).take m ++ newU :: (uTo (n + 1)).drop m) (insS B (sTo P.length B H n) X m) /\ OwnD w' w.heap.size v1 v2 S B ((uTo (n + 1)).take m ++ newU :: (uTo (n + 1)).drop m) (insS B (sTo P.length B H n) X m)) w) := by
 have Y : ∀ q ∈ X, Sz 3 q := fun q hq => s3o ((U q hq).mono (by omega))
 have E : errF P.length (X.map RS) = 0 := eFo Z (fun q hq => (Y q hq).mono (by omega));have z := h.m.plen;obtain ⟨-, -, x, v⟩ := nns n m K L;have D : unitE P.length (uTo (n + 1)) newU (m : Int) (X.map RS) = 0 := by
  unfold unitE;rw [if_neg (by rw [x]; decide), if_neg (by rw [v]; decide), if_neg (by rw [uTl]; omega), if_neg (by rw [E]; simp), nTm, if_neg, if_neg (by rw [uTl]; omega)];unfold negF;rw [Bool.not_eq_true, List.any_eq_false];intro q hq C;have N := V q hq;have s := of_decide_eq_true C;grind
 refine (sn0 w vp vt vb vu vs P T 3 B _ _ h (by omega) newU m O (X.map RS) hx.toS ⟨sp0 (by omega) (by omega) Y, by rw [List.length_map, Z]; omega⟩ (fun _ => ⟨X, rfl, Z, Y⟩) A).mono ?_;rintro e w' ⟨_, rfl, y, M⟩;rcases y with ⟨N, -⟩ | ⟨-, v1, v2, S, rfl, t, J, I, G⟩
 ·exact absurd D N
 ·rw [nTm, Int.toNat_natCast] at I
  rw [Int.toNat_natCast] at J;rw [nTm, Int.toNat_natCast] at G;exact ⟨_, rfl, ⟨v1, v2, S, rfl, pis K L R (h.below M) Q Z V U t J I, G⟩, M⟩
theorem rpn {w : World} {vp vt v1 v2 v3 : Value} {P : List PtQ} {T : List Tri} {B : List Rat} {H : List StepQ} {n m : Nat} {X : List Rat} (z : n <= 3) (A : m <= n)
 (h : DepN w vp vt v1 v2 v3 P T 3 B ((uTo (n + 1)).take m ++ newU :: (uTo (n + 1)).drop m) (insS B (sTo P.length B H n) X m)) (E : m = n \/ ∀ F ∈ sTo P.length B H n, addL F X = F) (C : Good w) :
 Calls Tryz.prog 8 #[.agg #[vp, vt], .agg #[v1, v2, v3], .string newU] w (Ret (fun r w' => ∃ V U S, r = .tuple #[.agg #[V, U, S], .int .i64 0] /\ DepR w' V U S (B.map RS) (uTo (n + 1)) ((sTo P.length B H n).map fun F => F.map RS) /\ OwnD w' w.heap.size V U S B (uTo (n + 1)) (sTo P.length B H n)) w) := by
 have Q := sTl P.length B H n;have Z : m <= (sTo P.length B H n).length := by omega
 obtain ⟨-, L, -, -⟩ := nns n m z A;have O : ((uTo (n + 1)).take m ++ newU :: (uTo (n + 1)).drop m).length = n + 2 := by rw [List.length_append, List.length_take, List.length_cons, List.length_drop, uTl]; omega
 have R := iSl B (sTo P.length B H n) X Z;refine (sh0 w vp vt v1 v2 v3 P T 3 B _ _ h newU C).mono ?_;rintro e w' ⟨_, rfl, M, D⟩;unfold RemQ at M;rcases M with ⟨Y, -⟩ | ⟨-, Y, -⟩ | ⟨i, Y, -, V, U, S, rfl, y, K, J, N⟩
 ·rw [L] at Y; omega
 ·rw [O] at Y; omega
 ·rw [L] at Y
  obtain rfl : m = i := by omega
  have G : lessL ((uTo (n + 1)).take m ++ newU :: (uTo (n + 1)).drop m) m = uTo (n + 1) := ibk _ _ (by rw [uTl]; omega);have I : lessL (insS B (sTo P.length B H n) X m) (min m ((insS B (sTo P.length B H n) X m).length - 1)) = sTo P.length B H n := by
   rw [R, Nat.add_sub_cancel, Nat.min_eq_left Z];exact iSb _ _ _ Z (by rw [Q]; exact E)
  rw [G] at K N;rw [I] at J N;exact ⟨_, rfl, ⟨V, U, S, rfl, ⟨y.toS, K, J.toTx⟩, N⟩, D⟩
theorem rrd {w : World} {B n : Nat} {v : Value} {D : List Rat} (h : w.ownsRow B 59 1 v n ((D.take n).map fun q => Value.string (RS q))) (Y : D.length = n) : RdQ w v D := by
 have Z : RdC 1 w v n ((D.take n).map fun q => Value.string (RS q)) := RdC.of_owns h;rw [List.take_of_length_le (by omega)] at Z;unfold RdQ;rw [Y];exact Z
theorem rs0 : RS 0 = ⟨#[48]⟩ := by decide +kernel
theorem rs1 : RS 1 = ⟨#[49]⟩ := by decide +kernel
theorem rs2 : RS 2 = ⟨#[50]⟩ := by decide +kernel
theorem rs3 : RS 3 = ⟨#[51]⟩ := by decide +kernel
theorem iR0 (x y z : Value) (w : World) : (Instr.index 134 (.agg #[x, y, z]) (.int .i64 0)).run Tryz.prog w = .ok x w := by kernel_rfl
theorem iR1 (x y z : Value) (w : World) : (Instr.index 134 (.agg #[x, y, z]) (.int .i64 1)).run Tryz.prog w = .ok y w := by kernel_rfl
theorem iR2 (x y z : Value) (w : World) : (Instr.index 134 (.agg #[x, y, z]) (.int .i64 2)).run Tryz.prog w = .ok z w := by kernel_rfl
def pb0 (a b z : Rat) (p : PtQ) : Rat := z + a * p.1 + b * p.2
def pLL (a b z : Rat) (P : List PtQ) : List Rat := P.map (pb0 a b z)
theorem pLl (a b z : Rat) (P : List PtQ) : (pLL a b z P).length = P.length := List.length_map ..
theorem pLg (a b z : Rat) (P : List PtQ) (i : Nat) (h : i < P.length) : (pLL a b z P)[i]? = some (pb0 a b z P[i]) := by
 unfold pLL;rw [List.getElem?_map];simp [h]
theorem pg0 {a b z : Rat} {p : PtQ} (Y : Sz 40 a) (X : Sz 40 b) (V : Sz 40 z) (Z : SzP 2 p) : Sz 130 (pb0 a b z p) := by
 unfold pb0;exact ((V.add (Y.mul Z.1)).add (X.mul Z.2)).mono (by omega)
theorem pLS {a b z : Rat} {P : List PtQ} (Z : Sz 40 a) (Y : Sz 40 b) (V : Sz 40 z) (X : ∀ p ∈ P, SzP 2 p) : ∀ q ∈ pLL a b z P, Sz 130 q := fun q hq => by
 obtain ⟨p, h, rfl⟩ := List.mem_map.1 hq;exact pg0 Z Y V (X p h)
theorem fi0 (w : World) (vp vt : Value) (P : List PtQ) (T : List Tri) (hp : RdP w vp (strP P)) (ht : RdT w vt T) (hm : MeshOK P T 2) (a b z : Rat) (za : Sz 40 a) (zb : Sz 40 b) (zz : Sz 40 z) (O : Good w) :
 Calls Tryz.prog 44 #[.agg #[vp, vt], .agg #[.string (RS a), .string (RS b)], .string (RS z)] w (Ret (fun r w' => ∃ v, r = .tuple #[v, .int .i64 0] /\ RdQ w' v (pLL a b z P)) w) := by
 have d : Hid (∀ w', Below w.heap.size w w' -> Good w' -> Calls Tryz.prog 60 #[.agg #[vp, vt]] w' (Ret (fun r _ => r = .int .i64 0) w')) := fun w' hb hg' => ca0 w' vp vt P T 2 (RdC.below hp hb) (RdC.below ht hb) hm hg';have sa := za.size (by omega);have sb := zb.size (by omega);have sz := zz.size (by omega);have J : ∀ q : Rat, Sz 40 q -> (RS q).size < 1000000000 -> ∀ w, Good w -> Calls Tryz.prog 40 #[.string (RS q)] w (Ret (fun v _ => v = .int .i64 0) w) := fun q hq hs w O => by
  have := cQa (RS q) hs w O;rw [Rlt, rQR (hq.mono (by omega))] at this;exact this
 have hn := hid (J a za (by omega));have hu := hid (J b zb (by omega));have hE := hid (J z zz (by omega));have hA : Hid (∀ i (h : i < P.length), (pLL a b z P).take (i + 1) = (pLL a b z P).take i ++ [pb0 a b z P[i]]) := fun i h => tsc _ _ _ (pLg a b z P i h);have hD : Hid (∀ i (h : i < P.length), SzP 2 P[i]) := fun i h => hm.sz _ (List.getElem_mem h);have c : Hid ((pLL a b z P).length = P.length) := pLl a b z P;have hw : Hid (∀ q ∈ pLL a b z P, Sz 200 q) := fun q hq => (pLS za zb zz hm.sz q hq).mono (by omega)
 have h5 := hid za;have h6 := hid zb;have hF := hid zz;have z1 := hm.plen;obtain ⟨pp, cp, rfl, -, -, hl⟩ := hp.open;obtain ⟨pt, ct, rfl, -, -, -⟩ := ht.open;rw [sPl] at *;have hC : Hid (∀ i (h : i < P.length), ∃ x op : Nat, pp = some ⟨x, op, none⟩ /\ x < w.heap.size /\ w.cell? ⟨x, op + i * 2, none⟩ = some (.string (RS P[i].1)) /\ w.cell? ⟨x, op + i * 2 + 1, none⟩ = some (.string (RS P[i].2))) := fun i h => by
  obtain ⟨x, op, h1, h2, h3⟩ := hl (by intro e; have h := sPl P; rw [e] at h; simp at h; omega);obtain ⟨l, k⟩ := h3 i (by rw [sPl]; exact h);rw [sPg P i h] at l k;exact ⟨x, op, h1, h2, l, k⟩
 obtain ⟨i0, hi, hN, hO, hP⟩ := info_parts isr;generalize pLL a b z P = D at *;clear hp ht hm hl za zb zz J sa sb sz;go_enter Tryz.func44, Tryz.ntmps44;go_wp2_with fail;obtain ⟨W, hW⟩ := zex ((w.alloc (.cells #[.slice pp P.length cp, .slice pt T.length ct] 37)).alloc (.cells #[.string (RS a), .string (RS b)] 98));have hB : Below w.heap.size w W := by rw [hW]; exact zal2 _ _ _
 have b4 : BoxN W (w.heap.size + 1) 98 [.string (RS a), .string (RS b)] := by rw [hW]; exact BoxN.new _ _ _ _ (by simp)
 have b3 : BoxN W w.heap.size 37 [.slice pp P.length cp, .slice pt T.length ct] := by
  rw [hW];have h1 := (BoxN.new w #[.slice pp P.length cp, .slice pt T.length ct] 37 _ rfl);exact h1.below (zal _ _) h1.lt
 rw [<- hW];clear hW;refine zR (d.out W hB (O.below hB)) fun w1 Y => ?_;have hH := zbt hB Y;have h7 := b3.bl Y;have A := b4.bl Y;clear Y hB b3 b4 d;obtain ⟨u0, u1⟩ := zk2 A;go_wp2_with fail;go_loopw [26] (fun t26 wr => ∃ i : Nat, t26 = .int .i64 i /\ i <= 3 /\ Below w1.heap.size w1 wr) (fun t26 _ => 3 - (RowKit.intOf t26).toNat)
 case atStart => exact ⟨0, rfl, by omega, Below.refl _ _⟩
 case round =>
  obtain ⟨i, rfl, hY, R⟩ := hrel;have ha := zbt hH R;have I := O.below ha;rcases (by omega : i = 0 \/ i = 1 \/ i = 2 \/ i = 3) with rfl | rfl | rfl | rfl
  ·rw [show ((0 : Nat) : Int) = 0 from rfl]
   have z4 := iR0;go_wp2_with fail;refine zR (hn.out _ I) fun w2 Z => ?_;go_wp2_with fail;go_roundw
   case rel => exact ⟨1, rfl, by omega, (zbt R Z)⟩
   case measure => simp [RowKit.intOf]
  ·rw [show ((1 : Nat) : Int) = 1 from rfl]
   have z5 := iR1;go_wp2_with fail;refine zR (hu.out _ I) fun w2 Z => ?_;go_wp2_with fail;go_roundw
   case rel => exact ⟨2, rfl, by omega, (zbt R Z)⟩
   case measure => simp [RowKit.intOf]
  ·rw [show ((2 : Nat) : Int) = 2 from rfl]
   have z6 := iR2;go_wp2_with fail;refine zR (hE.out _ I) fun w2 Z => ?_;go_wp2_with fail;go_roundw
   case rel => exact ⟨3, rfl, by omega, (zbt R Z)⟩
   case measure => simp [RowKit.intOf]
  ·rw [show ((3 : Nat) : Int) = 3 from rfl]
   have hG := h7.bl R;have h8 := A.bl R;have m0 := hG.cell 0 rfl;clear u0 u1 h7 A I;obtain ⟨g, hM⟩ := zex (wr : World);subst hM;go_wp2_with fail;go_loopw [12, 38] (fun t12 t38 wr => ∃ i : Nat, t38 = .int .i64 i /\ i <= P.length /\ wr.ownsRow g.heap.size 59 1 t12 i ((D.take i).map fun q => Value.string (RS q)) /\ Below g.heap.size g wr) (fun _ t38 _ => P.length - (RowKit.intOf t38).toNat)
   case atStart => exact ⟨0, rfl, Nat.zero_le _, World.ownsRow_nil _ _ _ _, Below.refl _ _⟩
   case round =>
    obtain ⟨i, rfl, hZ, U, hf⟩ := hrel;obtain ⟨K, N, rfl⟩ := oRs U;have M := zbt ha hf;rcases Nat.lt_or_ge i P.length with H | H
    ·obtain ⟨x, op, rfl, he, l, k⟩ := hC.out i H
     have z0 : (i : Int) < (P.length : Int) := by omega
     have h4 := hid (hA.out i H);have f := hD.out i H;obtain ⟨o, ho⟩ := zex (P[i]);rw [<- ho] at l k f h4;have x0 := zcq M he l;have x1 := zcq M he k;have hx := hid fun w O => rMa a o.1 40 (by omega) (by omega) h5.out (f.1.mono (by omega)) w O
     have hy := hid fun w O => rMa b o.2 40 (by omega) (by omega) h6.out (f.2.mono (by omega)) w O
     have G : Hid (∀ (v : Value) (w : World), RdQ w v [z, a * o.1, b * o.2] -> Good w -> _) := fun v w hr O => rb0 [z, a * o.1, b * o.2] 42 (by omega) (by simp) (by
      intro q hq;simp only [List.mem_cons, List.not_mem_nil, or_false] at hq;rcases hq with rfl | rfl | rfl
      ·exact hF.out.mono (by omega)
      ·exact (h5.out.mul f.1).mono (by omega)
      ·exact (h6.out.mul f.2).mono (by omega)) v w hr O
     have L : [z, a * o.1, b * o.2].foldl (·+ ·) 0 = pb0 a b z o := by
      unfold pb0;simp only [List.foldl_cons, List.foldl_nil];grind
     rw [L] at G;generalize pb0 a b z o = res at *;generalize a * o.1 = y1 at *;generalize b * o.2 = y2 at *;clear ho l k f L;go_upto_region 15 with fail;obtain ⟨V, hV⟩ := zex (wr.alloc (.cells #[.string (RS o.1), .string (RS o.2)] 98));have Q : Below wr.heap.size wr V := by rw [hV]; exact zal _ _
     have B : BoxN V wr.heap.size 98 [.string (RS o.1), .string (RS o.2)] := by rw [hV]; exact BoxN.new _ _ _ _ rfl
     rw [<- hV];clear hV x0 x1;have t := zbt hf Q;have hJ := zbt M Q;have y := h8.bl t;have l4 := y.lt;have z7 := B.lt;have s := WRA U (Q.trans ((bdN V 1).mono Q.size));have HC : Hid (∀ w', Below V.heap.size V w' -> w'.cell? ⟨w.heap.size + 1, 0, none⟩ = some (.string (RS a)) /\ w'.cell? ⟨w.heap.size + 1, 1, none⟩ = some (.string (RS b)) /\ w'.cell? ⟨wr.heap.size, 0, none⟩ = some (.string (RS o.1)) /\ w'.cell? ⟨wr.heap.size, 1, none⟩ = some (.string (RS o.2))) := fun w' hb => by
      have c4 := y.bl hb;have h9 := B.bl hb;exact ⟨c4.cell 0 rfl, c4.cell 1 rfl, h9.cell 0 rfl, h9.cell 1 rfl⟩
     have q0 : Below V.heap.size V V.drew := bdN V 1;have hk : Good V.drew := (O.below hJ).drewN 1;have hX := t.size;have hz : Hid (∀ j, (Value.slice K i N).ownBlock = some j -> j < wr.heap.size) := fun j hj => (U.lt j hj).2;have z2 := Q.size;have hS := h8.lt;clear U Q B y;go_region_held3 (fun w' => w'.cell? ⟨w.heap.size + 1, 0, none⟩ = some (.string (RS a)) /\ w'.cell? ⟨w.heap.size + 1, 1, none⟩ = some (.string (RS b)) /\ w'.cell? ⟨wr.heap.size, 0, none⟩ = some (.string (RS o.1)) /\ w'.cell? ⟨wr.heap.size, 1, none⟩ = some (.string (RS o.2)))
      (first | exact S5 | (refine HC.out _ ?_; repeat (first | with_reducible exact q3 | with_reducible exact q2 | with_reducible exact q1 | with_reducible exact q0 | with_reducible exact Below.refl _ _ | with_reducible refine Below.drew ?_ | ((with_reducible refine Below.alloc ?_ ?_ _); rotate_left; (first | exact Nat.le_refl _ | omega | (simp <;> omega))))))
      (first
        | (refine step_append_lies _ (by rfl) (.tmp 42) (.tmp 56) 39 (by rfl) g.heap.size 59 i0 (.string ⟨#[]⟩) 1 16 Tryz.underlying39 hi hN hO hP rfl (by decide) _ i _ (by simp [Act.eval]) (S.alloc _) ⟨x3.heap.size, 0, none⟩ 1 1 [.string (RS res)] (by simp [Act.eval]) rfl (cos _ _ _) (ocs _) (by omega) (by unfold maxLen; omega) (by omega) (by simp; omega) _ rfl ?_
           intro g5 hQ w5 m X hR hT;have hK : Below g.heap.size g w5 := (((zbt t q3)).alloc (by omega) _).grown X (by simp; omega) (fun j hj => by have := (S.lt j hj).1; omega);have C : some wr.heap.size ≠ (Value.slice K i N).ownBlock := fun e => by have := hz.out _ e.symm; omega
           have E : some (w.heap.size + 1) ≠ (Value.slice K i N).ownBlock := fun e => by have := (S.lt _ e.symm).1; omega
           obtain ⟨e0, e1, e2, e3⟩ := HC.out _ q3;have S5 := And.intro ((X.cell_far ⟨w.heap.size + 1, 0, none⟩ (by simp; omega) E).trans (cal _ e0)) (And.intro ((X.cell_far ⟨w.heap.size + 1, 1, none⟩ (by simp; omega) E).trans (cal _ e1)) (And.intro ((X.cell_far ⟨wr.heap.size, 0, none⟩ (by simp; omega) C).trans (cal _ e2)) ((X.cell_far ⟨wr.heap.size, 1, none⟩ (by simp; omega) C).trans (cal _ e3)))))
        | (go_at_call 76; refine (G.out _ _ (RdQ.fresh x2 [z, y1, y2] _ _ rfl (by simp) 3 rfl _ rfl) (hL.alloc _)).mono ?_; rintro e x3 ⟨_, rfl, rfl, hc⟩
           have q3 : Below V.heap.size V x3 := (q2.alloc (by omega) _).trans (hc.mono (by simp; omega));have S := WRA (n.alloc _) hc;have z3 := q3.size)
        | (go_at_call 77; refine (hy.out _ hh).mono ?_; rintro e x2 ⟨_, rfl, rfl, Z⟩
           have q2 : Below V.heap.size V x2 := zbt q1 Z;have n := WRA p Z;have hU := q2.size;have hL := hh.below Z)
        | (go_at_call 77; refine (hx.out _ hk).mono ?_; rintro e x1 ⟨_, rfl, rfl, Y⟩
           have q1 : Below V.heap.size V x1 := q0.trans (Y.mono (Nat.le_refl _));have p := WRA s Y;have hh := hk.below Y))
     all_goals
      go_wp2_with fail;go_roundw
      case rel => exact ⟨i + 1, by go_num, by omega, by rw [h4.out, List.map_append]; exact m, hK⟩
      case measure => simp [RowKit.intOf]; omega
    ·obtain rfl : i = P.length := by omega
     have h0 := hid (rrd U c.out);go_wp2_with fail;have hv : Hid (Calls Tryz.prog 78 #[.slice K P.length N] wr (Ret (fun r _ => r = .tuple #[.slice K P.length N, .int .i64 0]) wr)) := fg0 wr _ D h0.out (by rw [c.out]; omega) hw.out (O.below M);refine hv.out.mono ?_;rintro e w4 ⟨_, rfl, rfl, hd⟩;go_wp2_with fail;go_ret2;exact ⟨_, rfl, ⟨_, rfl, RdC.below h0.out hd⟩, (zbt M hd)⟩
theorem pLz (z : Rat) (P : List PtQ) : pLL 0 0 z P = P.map fun _ => z := by
 unfold pLL pb0;apply List.map_congr_left;intro p _;grind
theorem fm0 (w : World) (X V : Value) (P : List PtQ) (T : List Tri) (O : RdP w X (strP P)) (N : RdT w V T) (M : MeshOK P T 2) (z : Rat) (L : Sz 40 z) (Q : Good w) :
 Calls Tryz.prog 15 #[.agg #[X, V], .string (RS z)] w (Ret (fun r w' => ∃ v, r = .tuple #[v, .int .i64 0] /\ RdQ w' v (P.map fun _ => z)) w) := by
 have U : Hid (∀ w', Below w.heap.size w w' -> Good w' -> Calls Tryz.prog 44 #[.agg #[X, V], .agg #[.string ⟨#[48]⟩, .string ⟨#[48]⟩], .string (RS z)] w' (Ret (fun r w' => ∃ v, r = .tuple #[v, .int .i64 0] /\ RdQ w' v (P.map fun _ => z)) w')) := fun w' hb Q => by
  have := fi0 w' X V P T (RdC.below O hb) (RdC.below N hb) M 0 0 z (Sz.zero _ (by omega)) (Sz.zero _ (by omega)) L Q;rw [pLz, rs0] at this;exact this
 obtain ⟨I, K, rfl, -, -, -⟩ := O.open;obtain ⟨H, J, rfl, -, -, -⟩ := N.open;rw [sPl] at *;clear O N M L;go_enter Tryz.func15, Tryz.ntmps15;go_wp2_with fail;have S : Below w.heap.size w (w.alloc (.cells #[.slice I P.length K, .slice H T.length J] 37)) := zal _ _;refine (U.out _ S (Q.below S)).mono ?_;rintro e E ⟨_, rfl, ⟨v, rfl, Z⟩, R⟩;have Y := hid Z;obtain ⟨pv, G, rfl, -, -, -⟩ := Z.open;rw [List.length_map] at Y ⊢;clear Z;go_wp2_with fail;go_ret2;exact ⟨_, rfl, ⟨_, rfl, Y.out⟩, (zbt S R)⟩
theorem sRa (w : World) (kz s0 s1 : Int) (V : Bool) (a0 a1 a2 a3 a4 a5 : Int) (ah : Bool) (vh : Value) (H : List StepQ) (b0 b1 b2 b3 b4 b5 : Int) (bh : Bool) (O : Int)
 (zc : 0 <= kz) (zP : kz <= 255) (zW : -128 <= s0 /\ s0 <= 127) (zX : -128 <= s1 /\ s1 <= 127) (ha : ∀ x ∈ [a0, a1, a2, a3, a4, a5], -128 <= x /\ x <= 127) (hH : RdSt w vh H) (zM : ∀ x ∈ [b0, b1, b2, b3, b4, b5], -128 <= x /\ x <= 127) (zL : 0 <= O) (yq : O <= 255) (hg : Good w) :
 Calls Tryz.prog 4 #[.agg #[.int .u8 kz, .int .i8 s0, .int .i8 s1, .bool V, .int .i8 a0, .int .i8 a1, .int .i8 a2, .int .i8 a3, .int .i8 a4, .int .i8 a5, .bool ah, vh], .agg #[.int .i8 b0, .int .i8 b1, .int .i8 b2, .int .i8 b3, .int .i8 b4, .int .i8 b5, .bool bh], .int .u8 O] w (Ret (fun r _ => r = .bool true) w) := by
 obtain ⟨kk, zQ⟩ : ∃ k : Nat, kz.tmod 8 = (k : Int) := ⟨(kz.tmod 8).toNat, by have := Int.tmod_nonneg 8 zc; omega⟩;have hN : Hid (H.length <= 3 -> ∀ w', Below w.heap.size w w' -> Good w' -> _) := fun h3 w' hbw hg => m2n w' kz s0 s1 V kk zQ zc zP zW zX a0 a1 a2 a3 a4 a5 ah ha vh H (hH.below hbw) h3 hg;obtain ⟨p1, c1, rfl, yj, yk, -⟩ := hH.1;unfold maxLen at yk;clear hH ha zc zP zW zX zQ;have y9 := hid zM;clear zM;obtain ⟨Q, zS⟩ : ∃ n, n = H.length := ⟨_, rfl⟩;rw [<- zS] at yj hN ⊢;clear zS;have hO : Hid (∀ w', _) := fun w' => fe0 w' kz s0 s1 V a0 a1 a2 a3 a4 a5 ah p1 Q c1 (by omega)
 obtain ⟨f1, hc⟩ : ∃ f, f = decide (Q <= 3) := ⟨_, rfl⟩;rw [<- hc] at hO;have ya : Hid (f1 = true -> Q <= 3) := fun h => of_decide_eq_true (hc.symm.trans h);clear hc;go_enter Tryz.func4, Tryz.ntmps4;go_wp2_with fail;obtain ⟨W, hW⟩ := zex ((w.alloc (.cells #[.int .u8 kz, .int .i8 s0, .int .i8 s1, .bool V, .int .i8 a0, .int .i8 a1, .int .i8 a2, .int .i8 a3, .int .i8 a4, .int .i8 a5, .bool ah, .slice p1 Q c1] 31)).alloc (.cells #[.int .i8 b0, .int .i8 b1, .int .i8 b2, .int .i8 b3, .int .i8 b4, .int .i8 b5, .bool bh] 28));have hB : Below w.heap.size w W := by rw [hW]; exact zal2 _ _ _
 have bx : BoxN W w.heap.size 31 [.int .u8 kz, .int .i8 s0, .int .i8 s1, .bool V, .int .i8 a0, .int .i8 a1, .int .i8 a2, .int .i8 a3, .int .i8 a4, .int .i8 a5, .bool ah, .slice p1 Q c1] := by
  rw [hW];exact (BoxN.new w #[.int .u8 kz, .int .i8 s0, .int .i8 s1, .bool V, .int .i8 a0, .int .i8 a1, .int .i8 a2, .int .i8 a3, .int .i8 a4, .int .i8 a5, .bool ah, .slice p1 Q c1] 31 _ rfl).alloc _
 have zv : BoxN W (w.heap.size + 1) 28 [.int .i8 b0, .int .i8 b1, .int .i8 b2, .int .i8 b3, .int .i8 b4, .int .i8 b5, .bool bh] := by rw [hW]; exact BoxN.new _ _ _ _ (by simp)
 rw [<- hW];clear hW;refine zR (k2a W (hg.below hB)) fun o1 hb1 => ?_;have zD := zbt hB hb1;have hR := bx.bl hb1;have zu := zv.bl hb1;clear hb1 hB bx zv;obtain ⟨k0, k1, k2, k3, k4, k5, k6, k7, k8, k9, zf, zg⟩ := zk12 hR;go_wp2_with fail;refine zR (hO.out o1) fun o3 hb2 => ?_;have j := zbt zD hb2;have zt := hR.bl hb2;have zw := zu.bl hb2;clear hb2 zD hR zu k0 k1 k2 k3 k4 k5 k6 k7 k8 k9 zf zg hO;cases hc : f1
 ·go_wp2_with fail
  refine zR (k2a o3 (hg.below j)) fun I h6 => ?_;go_wp2_with fail;go_ret;exact ⟨_, rfl, rfl, (zbt j h6)⟩
 obtain ⟨k0, k1, k2, k3, k4, k5, k6, k7, k8, k9, zf, zg⟩ := zk12 zt;go_wp2_with fail;refine (hN.out (ya.out hc) o3 j (hg.below j)).mono ?_;rintro e I ⟨_, rfl, ⟨pp, cp, pt, ct, pb, cb, pu, cu, ps, cs, P, T, B, H0, U, n, rfl, hP, hT, hh, zJ, yh, hD, zK⟩, h6⟩;have z5 := zbt j h6;have zx := zw.bl h6;clear h6 j zt zw k0 k1 k2 k3 k4 k5 k6 k7 k8 k9 zf zg hN;subst yh;have zT : MeshOK P T 2 := by rw [hP, hT]; exact sok kk s0 s1 V
 have yg : P.length <= 6 := by rw [hP, se0]; exact sd0 kk
 have yl := hD.m.plen;have zY : (uTo (n + 1)).length = n + 1 := uTl _;rw [zY] at hD ⊢;have HD := hid hD;have hL := hid zK;have yb := hid zT;have l := hid zJ;clear hD zK zT hP hT zJ zY yl;go_upto_region 4 with fail;obtain ⟨o5, hi⟩ : ∃ W, W = (I.alloc (.cells #[.slice pp P.length cp, .slice pt T.length ct] 37)).alloc (.cells #[.slice pb P.length cb, .slice pu (n + 1) cu, .slice ps n cs] 43) := ⟨_, rfl⟩;have ht : Below I.heap.size I o5 := by rw [hi]; exact zal2 _ _ _
 obtain ⟨g6, za⟩ : ∃ g, g = I.heap.size := ⟨_, rfl⟩;obtain ⟨g7, zb⟩ : ∃ g, g = I.heap.size + 1 := ⟨_, rfl⟩;have cM : BoxN o5 g6 37 [.slice pp P.length cp, .slice pt T.length ct] := by rw [hi]; exact (BoxN.new _ _ _ _ za.symm).alloc _
 have cD : BoxN o5 g7 43 [.slice pb P.length cb, .slice pu (n + 1) cu, .slice ps n cs] := by rw [hi]; exact BoxN.new _ _ _ _ (by simp [zb])
 have z6 := zbt z5 ht;have zy := zx.bl ht;rw [<- hi, <- zb, <- za];clear hi za zb zx;obtain ⟨X, hX⟩ := zex (stepF P.length ([b0, b1, b2, b3, b4, b5], bh));have hQ : Hid (X.length = P.length) := by rw [hX]; exact sFl _ _
 have zs : Hid (∀ q ∈ X, Fr 2 38 q) := by rw [hX]; exact fsp _ _
 have zr : Hid (∀ q ∈ X, 0 <= q) := fun q hq => by
  rw [hX] at hq;unfold stepF at hq;obtain ⟨y, -, rfl⟩ := List.mem_map.1 hq;exact Rat.abs_nonneg
 have zk : Hid (∀ w', Good w' -> _) := fun w' hg' => m1a w' pp P.length cp (.slice pt T.length ct) b0 b1 b2 b3 b4 b5 bh y9.out yg hg';have zm : Hid (∀ w' v, RdQ w' v (hFF [b0, b1, b2, b3, b4, b5] bh P.length) -> Calls Tryz.prog 11 #[v] w' (Ret (fun r w2 => FldV w2 w'.heap.size r X) w')) := fun w' v hv => by
  rw [hX];exact pc0 w' v _ hv (by rw [he0]; omega) (fun q hq => by have h1 := (s3o ((fht _ _ _ q hq).mono (by omega : 38 <= 200))).size (by omega); omega)
 clear hX;obtain ⟨y0, y1, y2, y3, y4, y5, y6⟩ := zk7 zy;obtain ⟨m0, Q⟩ := zk2 cM;go_wp2_with fail;refine (zk.out o5 (hg.below z6)).mono ?_;rintro e o6 ⟨vr, rfl, ⟨zZ, -⟩, h7⟩;have zz := zbt ht h7;have zE := zbt z6 h7;have dM := cM.bl h7;have dD := cD.bl h7;clear h7 ht z6 cM cD y0 y1 y2 y3 y4 y5 y6 m0 Q zy;go_wp2_with fail;refine (zm.out o6 vr zZ).mono ?_;rintro e o7 ⟨yt, rfl, y7, h8⟩;have hS := zbt zz h8;have z7 := zbt zE h8;have eM := dM.bl h8;have eD := dD.bl h8;have hp := hid (FldV.rd y7);clear h8 zz zE dM dD zZ y7 zk zm;obtain ⟨px, cx, rfl, -, -, -⟩ := RdQ.open hp.out;rw [hQ.out] at hp ⊢;obtain ⟨m0, Q⟩ := zk2 eM;obtain ⟨d0, d1, d2⟩ := zk3 eD;have zj : Hid (∀ w' : World, Below o7.heap.size o7 w' -> Good w' -> _) := fun w' hb hg' => ipn (m := n) hh (Nat.le_refl _) l.out (HD.out.below ((zbt hS hb))) hL.out hQ.out zr.out zs.out (.slice px P.length cx) (RdC.below hp.out hb) hg';go_wp2_with fail;refine (zj.out o7 (Below.refl _ _) (hg.below z7)).mono ?_;rintro e o8 ⟨_, rfl, ⟨v1, v2, v3, rfl, c, -⟩, h9⟩;have hU := zbt hS h9;have zF := zbt z7 h9;have fM := eM.bl h9;have fD := eD.bl h9;obtain ⟨-, -, -, -, pa, ca, pc, cc, pd, cd, -, -, rfl, rfl, rfl⟩ := c.open;have hJ : ((uTo (n + 1)).take n ++ newU :: (uTo (n + 1)).drop n).length = n + 2 := by rw [List.length_append, List.length_take, List.length_cons, List.length_drop, uTl]; omega
 have hG : (insS B (sTo P.length B H0 n) X n).length = n + 1 := by rw [iSl _ _ _ (by rw [sTl]; omega), sTl]
 rw [hJ, hG] at c ⊢;have zi := hid c;clear h9 hS z7 eM eD m0 Q d0 d1 d2 zj hp c hJ hG;go_upto_region 6 with fail;obtain ⟨o9, hw⟩ : ∃ W, W = o8.alloc (.cells #[.slice pa P.length ca, .slice pc (n + 2) cc, .slice pd (n + 1) cd] 43) := ⟨_, rfl⟩;have D : Below o8.heap.size o8 o9 := by rw [hw]; exact zal _ _
 obtain ⟨Z, he⟩ : ∃ g, g = o8.heap.size := ⟨_, rfl⟩;have aX : BoxN o9 Z 43 [.slice pa P.length ca, .slice pc (n + 2) cc, .slice pd (n + 1) cd] := by rw [hw]; exact BoxN.new _ _ _ _ he.symm
 have zA := zbt hU D;have z8 := zbt zF D;have aM := fM.bl D;have aD := fD.bl D;have yc : o8.heap.size <= Z := by omega
 have G : I.heap.size <= Z := by have := hU.size; omega
 have K : g6 ≠ Z := by have := fM.lt; omega
 have R : g7 ≠ Z := by have := fD.lt; omega
 rw [<- hw, <- he];clear hw he hU zF fM fD;have zn : Hid (∀ w' : World, Below o8.heap.size o8 w' -> Good w' -> _) := fun w' hb hg' => rpn (m := n) hh (Nat.le_refl _) (zi.out.below hb) (.inl rfl) hg';obtain ⟨m0, Q⟩ := zk2 aM;obtain ⟨x0, x1, x2⟩ := zk3 aX;go_wp2_with fail;refine (zn.out o9 D (hg.below z8)).mono ?_;rintro e oa ⟨_, rfl, ⟨z1, z2, z3, rfl, J, -⟩, A⟩;have hV := zbt zA A;have zH := zbt z8 A;have bM := aM.bl A;have bD := aD.bl A;have bX := aX.bl A;obtain ⟨qa, ra, qc, rc, qd, rd, rfl, rfl, rfl⟩ := J.open;rw [List.length_map, l.out, uTl, List.length_map, sTl] at J ⊢;have zp := hid J;have zG : o8.heap.size <= oa.heap.size := Nat.le_trans D.size A.size;clear A zA z8 aM aD aX m0 Q x0 x1 x2 zn J zi D;go_upto_region 9 with fail;obtain ⟨ob, hx⟩ : ∃ W, W = oa.alloc (.cells #[.slice qa P.length ra, .slice qc (n + 1) rc, .slice qd n rd] 43) := ⟨_, rfl⟩;have C : Below oa.heap.size oa ob := by rw [hx]; exact zal _ _
 obtain ⟨Y, hf⟩ : ∃ g, g = oa.heap.size := ⟨_, rfl⟩;have cY : BoxN ob Y 43 [.slice qa P.length ra, .slice qc (n + 1) rc, .slice qd n rd] := by rw [hx]; exact BoxN.new _ _ _ _ hf.symm
 have hY := zbt hV C;have zI := zbt zH C;have cM := bM.bl C;have cD := bD.bl C;have cX := bX.bl C;have N : g7 ≠ Y := by have := bD.lt; omega
 have o : Y ≠ Z := by have := bX.lt; omega
 have E : I.heap.size <= Y := by have := hV.size; omega
 rw [<- hx, <- hf];clear hx hf hV zH bM bD bX;have ho : Hid (∀ w' : World, Below oa.heap.size oa w' -> Below I.heap.size I w' -> Calls Tryz.prog 14 #[.agg #[.slice qa P.length ra, .slice qc (n + 1) rc, .slice qd n rd], .agg #[.slice pb P.length cb, .slice pu (n + 1) cu, .slice ps n cs]] w' (Ret (fun r _ => r = .bool true) w')) := fun w' h1 h2 => by
  have hd := HD.out.below h2;have hr : DepR w' (.slice pb P.length cb) (.slice pu (n + 1) cu) (.slice ps n cs) (B.map RS) (uTo (n + 1)) ((sTo P.length B H0 n).map fun F => F.map RS) := ⟨hd.base.toS, hd.unit, hd.surf.toTx⟩;have hs := sEa w' _ _ _ _ _ _ _ _ _ _ _ _ (zp.out.below h1) hr;rw [show decide (B.map RS = B.map RS /\ uTo (n + 1) = uTo (n + 1) /\ (sTo P.length B H0 n).map (fun F => F.map RS) = (sTo P.length B H0 n).map fun F => F.map RS) = true from decide_eq_true ⟨rfl, rfl, rfl⟩] at hs;exact hs
 obtain ⟨d0, d1, d2⟩ := zk3 cD;obtain ⟨y0, y1, y2⟩ := zk3 cY;go_wp2_with fail;refine zR (ho.out ob C hY) fun oc hbc => ?_;have hZ := zbt hY hbc;have z9 := zbt zI hbc;have dM := cM.bl hbc;have dD := cD.bl hbc;have dX := cX.bl hbc;have dY := cY.bl hbc;clear hbc hY zI cM cD cX cY d0 d1 d2 y0 y1 y2 ho zp C zG;have hK : Hid (∀ w' : World, Below I.heap.size I w' -> Good w' -> _) := fun w' hb hg' => fm0 w' _ _ P T (HD.out.below hb).p (HD.out.below hb).t yb.out 0 (Sz.zero _ (by omega)) hg'
 rw [RS_zero] at hK;obtain ⟨m0, Q⟩ := zk2 dM;go_wp2_with fail;refine (hK.out oc hZ (hg.below z9)).mono ?_;rintro e od ⟨_, rfl, ⟨vz, rfl, hy⟩, t⟩;have z0 := zbt hZ t;have yd := zbt z9 t;have eM := dM.bl t;have eD := dD.bl t;have eX := dX.bl t;have eY := dY.bl t;clear t hZ z9 dM dD dX dY m0 Q hK hQ zs zr;obtain ⟨pz, cz, rfl, -, -, -⟩ := RdQ.open hy;rw [List.length_map] at hy ⊢;have zq := hid hy;clear hy;obtain ⟨m, hm⟩ : ∃ m : Nat, O.tmod ((n : Int) + 1) = (m : Int) := ⟨(O.tmod ((n : Int) + 1)).toNat, by have := Int.tmod_nonneg ((n : Int) + 1) zL; omega⟩;have zd : m <= n := by have := Int.tmod_lt_of_pos O (show (0 : Int) < (n : Int) + 1 by omega); omega
 have d : (P.map fun _ => (0 : Rat)).length = P.length := List.length_map ..;have M : ∀ q ∈ P.map fun _ => (0 : Rat), q = 0 := fun q hq => by obtain ⟨_, -, rfl⟩ := List.mem_map.1 hq; rfl
 have hM : Hid (∀ w' : World, Below od.heap.size od w' -> Good w' -> _) := fun w' hb hg' => ipn (m := m) hh zd l.out (HD.out.below ((zbt z0 hb))) hL.out d (fun q hq => by rw [M q hq]; exact Rat.le_refl) (fun q hq => by rw [M q hq]; exact (Fr.zero 2 38)) (.slice pz P.length cz) (RdC.below zq.out hb) hg'
 have zh : Hid (∀ F ∈ sTo P.length B H0 n, addL F (P.map fun _ => (0 : Rat)) = F) := fun F hF => aLz (by rw [HD.out.fl F (List.mem_cons_of_mem _ hF), d]) M
 have hC : Hid (((uTo (n + 1)).take m ++ newU :: (uTo (n + 1)).drop m).length = n + 2) := by unfold Hid; rw [List.length_append, List.length_take, List.length_cons, List.length_drop, uTl]; omega
 have hA : Hid ((insS B (sTo P.length B H0 n) (P.map fun _ => (0 : Rat)) m).length = n + 1) := by unfold Hid; rw [iSl _ _ _ (by rw [sTl]; omega), sTl]
 have zl := hid zd;have hE : Below od.heap.size od od.drew := bdN od 1;have zO : Good od.drew := (hg.below yd).drewN 1;have yr : ¬ ((n : Int) + 1 = 0) := by omega
 have ys : IntKind.i64.wrap ((n : Int) + 1) = (n : Int) + 1 := by rw [IntKind.wrap_i64]; omega
 obtain ⟨m0, Q⟩ := zk2 eM;obtain ⟨d0, d1, d2⟩ := zk3 eD;have l6 := eM.lt;have l7 := eD.lt;have hz := eX.lt;have y8 := eY.lt;have zU : (m : Int) = (IntKind.i64.wrap O).tmod ((n : Int) + 1) := by
  rw [show IntKind.i64.wrap O = O by rw [IntKind.wrap_i64]; omega]; exact hm.symm
 rw [zU] at hM;clear d M zd hm zU;go_upto_region 14 with fail;go_cut [11] from 66 to 80 (fun s wx => ∃ (hj hk hn : Option Addr) (h0 h4 h5 : Nat), s = .int .i64 0 /\ BoxN wx Z 43 [.slice hj P.length h0, .slice hk (n + 2) h4, .slice hn (n + 1) h5] /\ OwnD wx od.heap.size (.slice hj P.length h0) (.slice hk (n + 2) h4) (.slice hn (n + 1) h5) B ((uTo (n + 1)).take m ++ newU :: (uTo (n + 1)).drop m) (insS B (sTo P.length B H0 n) (P.map fun _ => (0 : Rat)) m) /\ Below I.heap.size I wx /\ BoxN wx g6 37 [.slice pp P.length cp, .slice pt T.length ct] /\ BoxN wx g7 43 [.slice pb P.length cb, .slice pu (n + 1) cu, .slice ps n cs] /\ BoxN wx Y 43 [.slice qa P.length ra, .slice qc (n + 1) rc, .slice qd n rd])
 case first =>
  have L : ∀ (W : World) (x y z : Value) (b i : Nat), b ≠ Z -> (((W.setCell ⟨Z, 0, none⟩ x).setCell ⟨Z, 1, none⟩ y).setCell ⟨Z, 2, none⟩ z).cell? ⟨b, i, none⟩ = W.cell? ⟨b, i, none⟩ := fun W x y z b i h => by
   rw [World.cell?_setCell_far _ _ _ _ (fun e => h e.symm), World.cell?_setCell_far _ _ _ _ (fun e => h e.symm), World.cell?_setCell_far _ _ _ _ (fun e => h e.symm)]
  go_region_held3 (fun w' => w'.cell? ⟨g6, 0, none⟩ = some (.slice pp P.length cp) /\ w'.cell? ⟨g6, 1, none⟩ = some (.slice pt T.length ct) /\ w'.cell? ⟨g7, 0, none⟩ = some (.slice pb P.length cb) /\ w'.cell? ⟨g7, 1, none⟩ = some (.slice pu (n + 1) cu) /\ w'.cell? ⟨g7, 2, none⟩ = some (.slice ps n cs))
   (first | exact ⟨m0, Q, d0, d1, d2⟩ | exact ⟨p_1_0, p_1_1, p_1_2, p_1_3, p_1_4⟩ | exact ⟨(L _ _ _ _ _ _ K).trans p_1_0, (L _ _ _ _ _ _ K).trans p_1_1, (L _ _ _ _ _ _ R).trans p_1_2, (L _ _ _ _ _ _ R).trans p_1_3, (L _ _ _ _ _ _ R).trans p_1_4⟩)
   (first
   | (go_at_call 13; refine (hM.out _ hE zO).mono ?_; rintro e ym ⟨_, rfl, ⟨v1, v2, v3, rfl, c, zV⟩, S⟩
      have p_1_0 := zct S m0;have p_1_1 := zct S Q;have p_1_2 := zct S d0;have p_1_3 := zct S d1;have p_1_4 := zct S d2
      (obtain ⟨-, -, -, -, hj, h0, hk, h4, hn, h5, -, -, rfl, rfl, rfl⟩ := c.open; rw [hC.out, hA.out] at zV ⊢; have kX := (eX.drew).below S hz; have x0 := kX.cell 0 rfl; have x1 := kX.cell 1 rfl; have x2 := kX.cell 2 rfl; have yu := kX.frozen 0; have yv := kX.frozen 1; have yw := kX.frozen 2)))
  have kX := (eX.drew).below S hz;have kB := z0.trans (((bdN od 1).trans (S.mono (Nat.le_refl _))).mono z0.size);have kM := (eM.drew).below S l6;have kD := (eD.drew).below S l7;have kY := (eY.drew).below S y8;go_wp2_with fail;go_meet;exact ⟨hj, hk, hn, h0, h4, h5, rfl, ((kX.set 0 _).set 1 _).set 2 _, zV.kept (gst (gst (gst (grl ym (some Z)) 0 _) 1 _) 2 _) hz, ((kB.setCell (p := ⟨Z, 0, none⟩) G _).setCell (p := ⟨Z, 1, none⟩) G _).setCell (p := ⟨Z, 2, none⟩) G _,
   bKf (bKf (bKf kM K) K) K, bKf (bKf (bKf kD R) R) R, bKf (bKf (bKf kY o) o) o⟩
 case rest =>
 obtain ⟨hj, hk, hn, h0, h4, h5, rfl, fX, fo, z4, fM, fD, fY⟩ := hcut;have ye := zbt z5 z4;have d : (P.map fun _ => (0 : Rat)).length = P.length := List.length_map ..;have M : ∀ q ∈ P.map fun _ => (0 : Rat), q = 0 := fun q hq => by obtain ⟨_, -, rfl⟩ := List.mem_map.1 hq; rfl
 have zN := pis (m := m) hh zl.out l.out (HD.out.below z4) hL.out d (fun q hq => by rw [M q hq]; exact Rat.le_refl) (fun q hq => by rw [M q hq]; exact (Fr.zero 2 38)) (FldV.rd fo.1) fo.unit fo.2.2.rd;have zo : Hid (∀ w' : World, Below wc.heap.size wc w' -> Good w' -> _) := fun w' hb hg' => rpn (m := m) hh zl.out (zN.below hb) (.inr zh.out) hg';clear d M zN hM hC hA m0 Q d0 d1 d2 l6 l7 hz y8 eM eD eX eY zq hE zO fo zh;obtain ⟨m0, Q⟩ := zk2 fM;obtain ⟨x0, x1, x2⟩ := zk3 fX;go_wp2_with fail;refine (zo.out wc (Below.refl _ _) (hg.below ye)).mono ?_;rintro e og ⟨_, rfl, ⟨z1, z2, z3, rfl, J, ze⟩, hu⟩;have zB := zbt z4 hu;have gY := fY.bl hu;have gD := fD.bl hu;have lY := fY.lt;obtain ⟨qe, re, qf, rf, qg, rg, rfl, rfl, rfl⟩ := J.open;rw [List.length_map, l.out, uTl, List.length_map, sTl] at J;rw [List.length_map, l.out, uTl, List.length_map, sTl] at ze ⊢;clear J zo m0 Q x0 x1 x2 hu fM fX fD fY;obtain ⟨y0, y1, y2⟩ := zk3 gY;have yn := gY.frozen 0;have yo := gY.frozen 1;have yp := gY.frozen 2;go_upto_region 16 with fail;obtain ⟨oh, a⟩ : ∃ W, W = ((og.setCell ⟨Y, 0, none⟩ (.slice qe P.length re)).setCell ⟨Y, 1, none⟩ (.slice qf (n + 1) rf)).setCell ⟨Y, 2, none⟩ (.slice qg n rg) := ⟨_, rfl⟩;have kY : BoxN oh Y 43 [.slice qe P.length re, .slice qf (n + 1) rf, .slice qg n rg] := by rw [a]; exact ((gY.set 0 _).set 1 _).set 2 _
 have kD : BoxN oh g7 43 [.slice pb P.length cb, .slice pu (n + 1) cu, .slice ps n cs] := by rw [a]; exact bKf (bKf (bKf gD N) N) N
 have kO : OwnD oh wc.heap.size (.slice qe P.length re) (.slice qf (n + 1) rf) (.slice qg n rg) B (uTo (n + 1)) (sTo P.length B H0 n) := by rw [a]; exact ze.kept (gst (gst (gst (grl og (some Y)) 0 _) 1 _) 2 _) lY
 have zC : Below I.heap.size I oh := by rw [a]; exact ((zB.setCell (p := ⟨Y, 0, none⟩) E _).setCell (p := ⟨Y, 1, none⟩) E _).setCell (p := ⟨Y, 2, none⟩) E _
 rw [<- a];clear a gY gD ze lY y0 y1 y2 yn yo yp zB;have yf := zbt z5 zC;have ho : Hid (Calls Tryz.prog 14 #[.agg #[.slice qe P.length re, .slice qf (n + 1) rf, .slice qg n rg], .agg #[.slice pb P.length cb, .slice pu (n + 1) cu, .slice ps n cs]] oh (Ret (fun r _ => r = .bool true) oh)) := by
  have hd := HD.out.below zC;have hr : DepR oh (.slice pb P.length cb) (.slice pu (n + 1) cu) (.slice ps n cs) (B.map RS) (uTo (n + 1)) ((sTo P.length B H0 n).map fun F => F.map RS) := ⟨hd.base.toS, hd.unit, hd.surf.toTx⟩;have hl : DepR oh (.slice qe P.length re) (.slice qf (n + 1) rf) (.slice qg n rg) (B.map RS) (uTo (n + 1)) ((sTo P.length B H0 n).map fun F => F.map RS) := ⟨(FldV.rd kO.1).toS, kO.unit, kO.2.2.rd.toTx⟩;have hs := sEa oh _ _ _ _ _ _ _ _ _ _ _ _ hl hr;rw [show decide (B.map RS = B.map RS /\ uTo (n + 1) = uTo (n + 1) /\ (sTo P.length B H0 n).map (fun F => F.map RS) = (sTo P.length B H0 n).map fun F => F.map RS) = true from decide_eq_true ⟨rfl, rfl, rfl⟩] at hs;exact hs
 obtain ⟨y0, y1, y2⟩ := zk3 kY;obtain ⟨d0, d1, d2⟩ := zk3 kD;go_wp2_with fail;refine ho.out.mono ?_;rintro e oi ⟨_, rfl, rfl, yi⟩;go_wp2_with fail;go_ret;exact ⟨_, rfl, rfl, (zbt yf yi)⟩
end Go.Proofs.YtcjkenapchcnhaaGreatDoor
namespace Go.Proofs.YtcjkenapchcnhaaGreatDoor
open Go.ChangeShapes Go.WideShapes Go.ChangeAt Go.RowKit Go.Lib
theorem h7t : (Tryz.prog).cellTypes (Tryz.prog).depth 28 = some [22, 22, 22, 22, 22, 22, 4] := by kernel_rfl
theorem h7s : ∃ fs, (Tryz.prog).underlying 28 = some (.struct fs) := ⟨_, Tryz.underlying28⟩
theorem h7c : (Tryz.prog).cellsOf 28 = 7 := by kernel_rfl
theorem oh7 {w : World} {r : Reach} {b : Nat} {v : Value} (h : Value.okWide Tryz.prog w r b 28 v) :
 ∃ (a0 Y X V U S : Int) (R : Bool), v = .agg #[.int .i8 a0, .int .i8 Y, .int .i8 X, .int .i8 V, .int .i8 U, .int .i8 S, .bool R] /\ (∀ x ∈ [a0, Y, X, V, U, S], -128 <= x /\ x <= 127) := by
 obtain ⟨fs, Q⟩ := h7s;obtain ⟨cs, rfl, O, N⟩ := acs Q h7t h7c h;have I : ∀ i, [22, 22, 22, 22, 22, 22, 4][i]? = some 22 -> ∃ n, cs[i]? = some (Value.int .i8 n) /\ -128 <= n /\ n <= 127 := fun i hi => by
  obtain ⟨x, hx, Z⟩ := N i _ hi;obtain ⟨n, rfl, E⟩ := cit i8T Z;exact ⟨n, hx, hi8 E⟩
 obtain ⟨a0, M, D⟩ := I 0 rfl;obtain ⟨Y, L, C⟩ := I 1 rfl;obtain ⟨X, K, B⟩ := I 2 rfl;obtain ⟨V, J, A⟩ := I 3 rfl;obtain ⟨U, H, z⟩ := I 4 rfl;obtain ⟨S, G, y⟩ := I 5 rfl;obtain ⟨x, hx, Z⟩ := N 6 _ rfl;obtain ⟨R, rfl⟩ := cbl boolT Z;refine ⟨a0, Y, X, V, U, S, R, ?_, ?_⟩
 ·congr 1
  apply Array.ext_getElem?;intro i
  match i with
  | 0 => exact M
  | 1 => exact L
  | 2 => exact K
  | 3 => exact J
  | 4 => exact H
  | 5 => exact G
  | 6 => exact hx
  | j + 7 => rw [Array.getElem?_eq_none (by have : cs.size = 7 := O; omega), Array.getElem?_eq_none (by simp)]
 ·intro x hx
  simp only [List.mem_cons, List.not_mem_nil, or_false] at hx;rcases hx with rfl | rfl | rfl | rfl | rfl | rfl <;> assumption
end Go.Proofs.YtcjkenapchcnhaaGreatDoor
