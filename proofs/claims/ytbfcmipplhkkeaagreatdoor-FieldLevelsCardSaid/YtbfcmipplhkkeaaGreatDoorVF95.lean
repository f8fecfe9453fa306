import Derived.Test.YtbfcmipplhkkeaaGreatDoorVF83
import Derived.Test.YtbfcmipplhkkeaaGreatDoorShelfC
import Derived.Lib.AppendZerosOnto
import Derived.Lib.AppendZeros
/- Plain The walk over slices.SortFunc at points, by polygon.less, where there are at The walks over polygon.area, turn, point, chain. The walk over polygon.chain. The walks over slices.Compact, Reverse, Grow, Concat at points. The walks over slices.Concat at points, polygon.finish. The walks over klippelaw12.sides, klippelaw12.third, mesh.third, slices.Clone The walks over polygon.finish, polygon.Hull. -/
set_option maxHeartbeats 8000000
set_option maxRecDepth 100000
namespace Go.Proofs.YtbfcmipplhkkeaaGreatDoor
open Go.RowKit Go.Lib
def lNN (l : List PtQ) : Nat := ((List.range l.length).find? fun n => (List.range l.length).all fun j => !decide (ltP (ptI l (j : Nat)) (ptI l (n : Nat)))).getD 0
theorem lue {l : List PtQ} (X : l.Nodup) {n m : Nat} (Y : n < l.length) (Z : m < l.length) (h : ∀ j : Nat, j < l.length -> ¬ ltP (ptI l j) (ptI l n)) (k : ∀ j : Nat, j < l.length -> ¬ ltP (ptI l j) (ptI l m)) : n = m := by
 rcases lc0 (ptI l (n : Nat)) (ptI l (m : Nat)) with g | g | g
 ·exact absurd g (k n Y)
 ·rw [pIn l n Y, pIn l m Z] at g
  rcases Nat.lt_trichotomy n m with e | e | e
  ·exact absurd g (List.pairwise_iff_getElem.1 X n m Y Z e)
  ·exact e
  ·exact absurd g.symm (List.pairwise_iff_getElem.1 X m n Z Y e)
 ·exact absurd g (h m Z)
theorem lNe {l : List PtQ} (U : l.Nodup) {n : Nat} (X : n < l.length) (h : ∀ j : Nat, j < l.length -> ¬ ltP (ptI l j) (ptI l n)) : lNN l = n := by
 unfold lNN;cases hf : (List.range l.length).find? fun n => (List.range l.length).all fun j => !decide (ltP (ptI l (j : Nat)) (ptI l (n : Nat))) with
 | none =>
   have := List.find?_eq_none.1 hf n (List.mem_range.2 X);exfalso;apply this;rw [List.all_eq_true];intro j Z;rw [decide_eq_false (h j (List.mem_range.1 Z))];rfl
 | some m =>
   have Y := List.find?_some hf;have V := List.mem_range.1 (List.mem_of_find?_eq_some hf);rw [List.all_eq_true] at Y;exact lue U V X (fun j Z e => by
    have := Y j (List.mem_range.2 Z);rw [show decide (ltP (ptI l (j : Nat)) (ptI l (m : Nat))) = true from decide_eq_true e] at this;cases this) h
def begM (l : List PtQ) : List PtQ := begL l (lNN l)
def aAA (P : List PtQ) (T : List Tri) (F : List Rat) (z : Rat) (t : Nat) : List (Nat × List PtQ) := if partT P F z (triI T t) = [] then [] else [(t, begM ((partT P F z (triI T t)).map (·.1)))]
def aTo (P : List PtQ) (T : List Tri) (F : List Rat) (z : Rat) : Nat -> List (Nat × List PtQ)
 | 0 => []
 | t + 1 => aTo P T F z t ++ aAA P T F z t
theorem aTl (P : List PtQ) (T : List Tri) (F : List Rat) (z : Rat) : ∀ t, (aTo P T F z t).length <= t
 | 0 => Nat.le_refl _
 | t + 1 => by
   have := aTl P T F z t;show (aTo P T F z t ++ aAA P T F z t).length <= _;rw [List.length_append];have : (aAA P T F z t).length <= 1 := by unfold aAA; split <;> simp
   omega
theorem bLg {l : List PtQ} {n i : Nat} (X : n < l.length) (Y : i < l.length) : ptI (begL l n) (i : Nat) = ptI l (((n + i) % l.length : Nat) : Int) := by
 have Z : (n + i) % l.length < l.length := Nat.mod_lt _ (by omega);rw [pIn (begL l n) i (by rw [bLl l n (by omega)]; exact Y), pIn l _ Z];unfold begL;rcases Nat.lt_or_ge (n + i) l.length with h | h
 ·simp only [Nat.mod_eq_of_lt h]
  rw [List.getElem_append_left (by rw [List.length_drop]; omega), List.getElem_drop]
 ·have e : (n + i) % l.length = n + i - l.length := by rw [Nat.mod_eq_sub_mod h, Nat.mod_eq_of_lt (by omega)]
  simp only [e];rw [List.getElem_append_right (by rw [List.length_drop]; omega), List.getElem_take];congr 1;rw [List.length_drop]; omega
theorem mnt (n i N : Nat) : (n + (i + 1) % N) % N = ((n + i) % N + 1) % N := by
 rw [Nat.add_mod_mod, Nat.mod_add_mod, Nat.add_assoc]
theorem mal {n j N : Nat} (Y : j < N) : ∃ i, i < N /\ (n + i) % N = j := by
 refine ⟨(j + (N - n % N)) % N, Nat.mod_lt _ (by omega), ?_⟩;have h := Nat.mod_lt n (show 0 < N by omega);rw [Nat.add_mod_mod, show n + (j + (N - n % N)) = (n - n % N) + (j + N) by have := Nat.mod_le n N; omega];have Z : (n - n % N) % N = 0 := by
  have := Nat.div_add_mod n N;rw [show n - n % N = N * (n / N) by omega];exact Nat.mul_mod_right N _
 rw [Nat.add_mod, Z, Nat.zero_add, Nat.mod_mod, Nat.add_mod_right, Nat.mod_eq_of_lt Y]
theorem snl {P : List PtQ} {T : List Tri} {F : List Rat} {z : Rat} {t n : Nat} {tr : Tri} {l : List Cor} (h : ∀ i, i < l.length -> levI l z ((n + i) % l.length) = false) : segTo P T F z t tr l l.length = [] :=
 sne _ fun j hj => by
  obtain ⟨i, Z, e⟩ := mal (n := n) hj;rw [<- e];exact h i Z
theorem sis {c0 c1 c2 a b : PtQ} (Z : c0 ≠ c1) (X : c1 ≠ c2) (Y : c0 ≠ c2) :
 ((c0 = a /\ c1 = b) ↔ sideL c0 c1 c2 a b = 0) /\ ((c1 = a /\ c2 = b) ↔ sideL c0 c1 c2 a b = 1) /\ ((c2 = a /\ c0 = b) ↔ sideL c0 c1 c2 a b = 2) := by
 unfold sideL;refine ⟨⟨fun h => by rw [if_pos h], fun h => ?_⟩, ⟨fun h => ?_, fun h => ?_⟩, ⟨fun h => ?_, fun h => ?_⟩⟩
 ·split at h
  ·assumption
  ·split at h
   ·cases h
   ·split at h <;> cases h
 ·rw [if_neg (fun g => Z (g.1.trans h.1.symm)), if_pos h]
 ·split at h
  ·cases h
  ·split at h
   ·assumption
   ·split at h <;> cases h
 ·rw [if_neg (fun g => Y (g.1.trans h.1.symm)), if_neg (fun g => X (g.1.trans h.1.symm)), if_pos h]
 ·split at h
  ·cases h
  ·split at h
   ·cases h
   ·split at h
    ·assumption
    ·cases h
def RowP (w : World) (g : Nat) (l : List PtQ) : Prop := ∀ (a : Nat) (s : PtQ), l[a]? = some s -> (w.cell? ⟨g, a * 2, none⟩ = some (.string (RS s.1)) /\ w.frozen? ⟨g, a * 2, none⟩ = false) /\ (w.cell? ⟨g, a * 2 + 1, none⟩ = some (.string (RS s.2)) /\ w.frozen? ⟨g, a * 2 + 1, none⟩ = false)
theorem RowP.below {w w' : World} {g : Nat} {l : List PtQ} (h : RowP w g l) (Z : Below w.heap.size w w') (Y : g < w.heap.size) : RowP w' g l := fun a s ha => by
 obtain ⟨⟨X, V⟩, U, S⟩ := h a s ha;exact ⟨⟨(zcq Z Y X :), (Z.frozen (p := ⟨g, a * 2, none⟩) Y).trans V⟩, (zcq Z Y U :), (Z.frozen (p := ⟨g, a * 2 + 1, none⟩) Y).trans S⟩
theorem RowP.drew {w : World} {g : Nat} {l : List PtQ} (h : RowP w g l) : RowP w.drew g l := h
theorem RowP.set {w : World} {g : Nat} {l : List PtQ} (h : RowP w g l) (i : Nat) (s : PtQ) (S : i < l.length) : RowP ((w.setCell ⟨g, i * 2, none⟩ (.string (RS s.1))).setCell ⟨g, i * 2 + 1, none⟩ (.string (RS s.2))) g (l.set i s) := fun a r ha => by
 have Z : ∀ x y : Nat, x ≠ y -> (⟨g, x, none⟩ : Addr) ≠ ⟨g, y, none⟩ := fun x y hxy e => hxy (by injection e)
 simp only [World.frozen?_setCell];by_cases e : i = a
 ·subst e
  rw [List.getElem?_set_self S] at ha;cases ha;obtain ⟨⟨Y, X⟩, V, U⟩ := h i _ (List.getElem?_eq_getElem S);exact ⟨⟨(World.cell?_setCell_other _ _ _ _ (Z _ _ (by omega))).trans (World.cell?_setCell_same _ _ _ Y), X⟩,
   World.cell?_setCell_same _ _ _ ((World.cell?_setCell_other _ _ _ _ (Z _ _ (by omega))).trans V), U⟩
 ·rw [List.getElem?_set_ne e] at ha
  obtain ⟨⟨Y, X⟩, V, U⟩ := h a r ha;exact ⟨⟨(World.cell?_setCell_other _ _ _ _ (Z _ _ (by omega))).trans ((World.cell?_setCell_other _ _ _ _ (Z _ _ (by omega))).trans Y), X⟩,
   (World.cell?_setCell_other _ _ _ _ (Z _ _ (by omega))).trans ((World.cell?_setCell_other _ _ _ _ (Z _ _ (by omega))).trans V), U⟩
def swapP (l : List PtQ) (j : Nat) (x y : PtQ) : List PtQ := (l.set (j + 1) x).set j y
theorem sPk (Z l : List PtQ) (j : Nat) (x y : PtQ) : (swapP l j x y).map (rankP Z) = swapL (l.map (rankP Z)) j (rankP Z x) ((rankP Z) y) := by
 unfold swapP swapL; rw [List.map_set, List.map_set]
theorem sPp (l : List PtQ) (j : Nat) (x y : PtQ) (hx : l[j]? = some x) (hy : l[j + 1]? = some y) : (swapP l j x y).Perm l := by
 obtain ⟨Z, rfl⟩ := List.getElem?_eq_some_iff.1 hx;obtain ⟨Y, rfl⟩ := List.getElem?_eq_some_iff.1 hy;exact List.set_set_perm Y Z
theorem mgP (Z : List PtQ) {l : List PtQ} {j : Nat} {x : PtQ} (h : l[j]? = some x) : (l.map (rankP Z))[j]? = some (rankP Z x) := by rw [List.getElem?_map, h]; rfl
theorem RowP.rd {w : World} {g cap : Nat} {l : List PtQ} (h : RowP w g l) (U : l.length <= cap) (S : cap <= maxLen) : RdP w (.slice (some ⟨g, 0, none⟩) l.length cap) (strP l) := by
 unfold RdP;rw [sPl];refine ⟨_, cap, rfl, U, S, cPl l, fun _ => ⟨g, 0, rfl, fun i x hx => ?_⟩⟩;have Q := (List.getElem?_eq_some_iff.1 hx).1;rw [cPl] at Q;unfold cPP at hx;rw [show i = i / 2 * 2 + i % 2 by omega, gEf _ 2 (fun _ => rfl) _ _ _ (by omega)] at hx;have Y : i / 2 < l.length := by omega
 obtain ⟨⟨X, -⟩, V, -⟩ := h (i / 2) l[i / 2] (List.getElem?_eq_getElem Y);have R : (strP l)[i / 2]? = some (RS l[i / 2].1, RS l[i / 2].2) := by
  unfold strP;rw [List.getElem?_map, List.getElem?_eq_getElem Y];rfl
 rw [R] at hx;rcases (by omega : i % 2 = 0 \/ i % 2 = 1) with e | e
 ·rw [e] at hx
  have Z : some (Value.string (RS l[i / 2].1)) = some x := hx;rw [<- Z, <- X];rw [show 0 + i = i / 2 * 2 by omega]
 ·rw [e] at hx
  have Z : some (Value.string (RS l[i / 2].2)) = some x := hx;rw [<- Z, <- V];rw [show 0 + i = i / 2 * 2 + 1 by omega]
theorem PtsV.row {w : World} {B : Nat} {v : Value} {l : List PtQ} (h : PtsV w B v l) (Y : l ≠ []) : ∃ g cap, v = .slice (some ⟨g, 0, none⟩) l.length cap /\ l.length <= cap /\ cap <= maxLen /\ B <= g /\ g < w.heap.size /\ RowP w g l := by
 rcases h.2 with ⟨-, V⟩ | ⟨g, cap, X, N, S, Q, R, O, -⟩
 ·exact absurd (List.length_eq_zero_iff.1 V) Y
 ·subst N
  refine ⟨g, cap, rfl, R, O, S, (Array.getElem?_eq_some_iff.1 Q).1, fun a s ha => ?_⟩;have U := (List.getElem?_eq_some_iff.1 ha).1;have Z : ∀ j : Nat, j < 2 -> ∀ u, [Value.string (RS s.1), .string (RS s.2)][j]? = some u -> w.cell? ⟨g, a * 2 + j, none⟩ = some u := fun j hj u hu => by
   rw [World.ownsRow.cellAt h (a * 2 + j) (by omega)];unfold cPP;rw [gEf _ 2 (fun _ => rfl) _ _ _ hj];unfold strP;rw [List.getElem?_map, ha];exact hu
  exact ⟨⟨Z 0 (by omega) _ rfl, World.ownsRow.frozenAt h _⟩, Z 1 (by omega) _ rfl, World.ownsRow.frozenAt h _⟩
theorem iPa (H w : World) (g cap : Nat) (Y : List PtQ) (ho : Y.length <= 12) (k : Nat) (hk : 0 < k) (hm : k <= 20000) (hc : ∀ q ∈ Y, SzP k q) (I : RowP w g Y) (h7 : g < w.heap.size) (h4 : Below H.heap.size H w) (h0 : H.heap.size <= g) (hg : Good H) :
 Calls Tryz.prog 172 #[.slice (some ⟨g, 0, none⟩) Y.length cap, .int .i64 0, .int .i64 (Y.length : Int), .func (.func 85) #[] #[]] w
  (fun e w' => e = .returned (.tuple #[]) /\ ∃ l, l.Perm Y /\ STo (l.map (rankP Y)) l.length /\ RowP w' g l /\ w.grownBy w' (some g)) := by
 have c := hid hc;have hd : Hid (∀ (p q : PtQ), SzP k p -> SzP k q -> ∀ w : World, Good w -> Calls Tryz.prog 85 #[.agg #[.string (RS p.1), .string (RS p.2)], .agg #[.string (RS q.1), .string (RS q.2)]] w (Ret (fun v _ => v = .int .i64 (cmpP p q)) w)) := fun p q hp hq w hg => pe0 p q k hk hm hp hq w hg;obtain ⟨n, hn⟩ := zex (Y.length);rw [<- hn] at ho ⊢;have HN := hid hn;have J := hid I;clear hc hn I;go_enter Tryz.func172, Tryz.ntmps172;go_wp2_with fail;go_loopw [8] (fun t8 wr => ∃ (i : Nat) (l : List PtQ), t8 = .int .i64 i /\ 1 <= i /\ (i <= n \/ i = 1) /\ Hid (l.Perm Y) /\ Hid (STo (l.map (rankP Y)) i) /\ Hid (RowP wr g l) /\ w.grownBy wr (some g)) (fun t8 _ => n - (RowKit.intOf t8).toNat)
 case atStart => exact ⟨1, Y, rfl, by omega, .inr rfl, List.Perm.refl _, (fun a b x y h1 h2 => by omega), J.out, grl _ _⟩
 case round =>
  obtain ⟨i, l, rfl, hG, hH, Q, HS, M, X⟩ := hrel;clear J;rcases Nat.lt_or_ge i n with h | h
  ·have hJ : (i : Int) < (n : Int) := by omega
   obtain ⟨wo, hr⟩ := zex (wr : World);subst hr;go_wp2_with fail;go_loopw [9] (fun t9 wr => ∃ (j : Nat) (l : List PtQ), t9 = .int .i64 j /\ j <= i /\ Hid (l.Perm Y) /\ Hid (InsAt (l.map (rankP Y)) i j) /\ Hid (RowP wr g l) /\ w.grownBy wr (some g)) (fun t9 _ => (RowKit.intOf t9).toNat)
   case atStart => exact ⟨i, l, rfl, Nat.le_refl _, Q, InsAt.start HS.out, M.out, X⟩
   case round =>
    clear Q HS M X;obtain ⟨j, l, rfl, A, Q, HI, M, X⟩ := hrel;have R : Hid (l.length = n) := by unfold Hid; rw [Q.out.length_eq, HN.out]
    have C : Below H.heap.size H wr := bgb h4 X h0;have B := hg.below C;have K : Good wr.drew := B.drewN 1;have h8 : g < wr.heap.size := Nat.lt_of_lt_of_le h7 X.size;rcases j with _ | Z
    ·rw [show ((0 : Nat) : Int) = 0 from rfl]
     have G : Hid (STo (l.map (rankP Y)) (i + 1)) := HI.out.done (fun jq u v e => by omega) A (by rw [List.length_map, R.out]; exact h);clear K B C;go_upto_region 4 with fail;go_region;go_wp2_with fail;go_roundw
     case rel => exact ⟨i + 1, l, by go_num, by omega, .inl (by omega), Q, G, M.out, gbw X (bdN _ 1)⟩
     case measure => simp [RowKit.intOf]; omega
    ·rw [show ((Z + 1 : Nat) : Int) = (Z : Int) + 1 from rfl]
     have h9 : Z + 1 < l.length := by rw [R.out]; omega
     obtain ⟨x, hx⟩ : ∃ x, l[Z]? = some x := ⟨_, List.getElem?_eq_getElem (by omega)⟩;obtain ⟨y, hy⟩ : ∃ y, l[Z + 1]? = some y := ⟨_, List.getElem?_eq_getElem h9⟩;have ix : x ∈ Y := Q.out.mem_iff.1 (List.mem_of_getElem? hx);have zx : SzP k x := c.out x ix;have iy : y ∈ Y := Q.out.mem_iff.1 (List.mem_of_getElem? hy);have zy : SzP k y := c.out y iy;have HC := hid fun w hg => hd.out y x zy zx w hg;obtain ⟨⟨c0, f0⟩, O, E⟩ := M.out Z x hx;obtain ⟨⟨c1, f1⟩, N, D⟩ := M.out (Z + 1) y hy;have HX := hid hx;have hj := hid ix;have hl := hid iy;have HY := hid hy;have hA : (Z : Int) + 1 < (n : Int) := by omega
     have hB : (Z : Int) < (n : Int) := by omega
     have ha : (0 : Int) < (Z : Int) + 1 := by omega
     have s : IntKind.i64.wrap ((Z : Int) + 1) = (Z : Int) + 1 := IntWalk.i64_in _ (by omega);have r : IntKind.i64.wrap ((Z : Int) + 1 - 1) = (Z : Int) := by rw [show (Z : Int) + 1 - 1 = (Z : Int) by omega]; exact IntWalk.i64_in _ (by omega)
     have o : IntKind.i64.wrap (Z : Int) = (Z : Int) := IntWalk.i64_in _ (by omega);have hK : (0 : Int) <= (Z : Int) + 1 := by omega
     have m : ((Z : Int) + 1).toNat = Z + 1 := by omega
     have h5 : decide ((0 : Int) < (Z : Int) + 1) = true := decide_eq_true ha;clear hx hy h9 zx zy ix iy;go_upto_region 4 with fail;go_region_held3 (fun w' => w'.cell? ⟨g, (Z + 1) * 2, none⟩ = some (.string (RS y.1)) /\ w'.cell? ⟨g, (Z + 1) * 2 + 1, none⟩ = some (.string (RS y.2)) /\ w'.cell? ⟨g, Z * 2, none⟩ = some (.string (RS x.1)) /\ w'.cell? ⟨g, Z * 2 + 1, none⟩ = some (.string (RS x.2)))
      (first | exact ⟨c1, N, c0, O⟩ | exact ⟨p_1_0, p_1_1, p_1_2, p_1_3⟩)
      (first
      | (go_at_call 85; refine (HC.out _ K).mono ?_; rintro e U ⟨_, rfl, rfl, V⟩
         have p_1_0 := zct V c1;have p_1_1 := zct V N;have p_1_2 := zct V c0;have p_1_3 := zct V O;have hL : wr.heap.size <= U.heap.size := V.size;have hs := K.below V))
     have pB : Below wr.heap.size wr U := zbt (bdN wr 1) V;clear s r o m h5;have S := gbw X pB;have L : Hid (RowP U g l) := RowP.below M.out pB h8;have ht : Below H.heap.size H U := bgb h4 S h0;have f : Hid (cmpP y x < 0 ↔ rankP Y y < rankP Y x) := (cPn y x).trans (rj0 hl.out hj.out);have hw : g < U.heap.size := Nat.lt_of_lt_of_le h7 S.size;generalize cmpP y x = z at *;clear X M c0 c1 f0 f1 O N E D K hs pB C B;obtain ⟨⟨c0, f0⟩, O, E⟩ := L.out Z x HX.out;obtain ⟨⟨c1, f1⟩, N, D⟩ := L.out (Z + 1) y HY.out;by_cases hz : z < 0
     ·have t := f.out.1 hz
      have hE := hid t;have d : Hid (Z + 1 < l.length) := by unfold Hid; rw [R.out]; omega
      have h3 : InsAt ((swapP l Z x y).map (rankP Y)) i Z := by rw [sPk]; exact InsAt.step HI.out (mgP Y HX.out) (mgP Y HY.out) A t
      have he := hid h3;have hf : Hid ((swapP l Z x y).Perm Y) := (sPp l Z x y HX.out HY.out).trans Q.out;have s : IntKind.i64.wrap ((Z : Int) + 1) = (Z : Int) + 1 := IntWalk.i64_in _ (by omega);have r : IntKind.i64.wrap ((Z : Int) + 1 - 1) = (Z : Int) := by rw [show (Z : Int) + 1 - 1 = (Z : Int) by omega]; exact IntWalk.i64_in _ (by omega)
      have o : IntKind.i64.wrap (Z : Int) = (Z : Int) := IntWalk.i64_in _ (by omega);have m : ((Z : Int) + 1).toNat = Z + 1 := by omega
      have hC : Z ≠ Z + 1 := by omega
      have hD : Z + 1 ≠ Z := by omega
      clear h3 t;go_upto_region 6 with fail;go_region;have hh : Hid (RowP ((((U.setCell ⟨g, (Z + 1) * 2, none⟩ (.string (RS x.1))).setCell ⟨g, (Z + 1) * 2 + 1, none⟩ (.string (RS x.2))).setCell ⟨g, Z * 2, none⟩ (.string (RS y.1))).setCell ⟨g, Z * 2 + 1, none⟩ (.string (RS y.2))).drew g (swapP l Z x y)) := by
       unfold Hid swapP;exact ((L.out.set (Z + 1) x d.out).set Z y (by rw [List.length_set]; have := d.out; omega)).drew
      have h6 : w.grownBy ((((U.setCell ⟨g, (Z + 1) * 2, none⟩ (.string (RS x.1))).setCell ⟨g, (Z + 1) * 2 + 1, none⟩ (.string (RS x.2))).setCell ⟨g, Z * 2, none⟩ (.string (RS y.1))).setCell ⟨g, Z * 2 + 1, none⟩ (.string (RS y.2))).drew (some g) :=
       gbw (gst (gst (gst (gst S ((Z + 1) * 2) _) ((Z + 1) * 2 + 1) _) (Z * 2) _) (Z * 2 + 1) _) (bdN _ 1)
      clear s r o m;go_wp2_with fail;go_roundw
      case rel => exact ⟨Z, _, by go_num, by omega, hf, he, hh, h6⟩
      case measure => simp [RowKit.intOf] <;> omega
     ·have hb : ¬ rankP Y y < rankP Y x := fun h => hz (f.out.2 h)
      have G : Hid (STo (l.map (rankP Y)) (i + 1)) := HI.out.done (fun jq u v e hu hv => by
       obtain rfl : Z = jq := by omega
       rw [mgP Y HX.out] at hu; rw [mgP Y HY.out] at hv; cases hu; cases hv;exact Rat.not_lt.1 hb) A (by rw [List.length_map, R.out]; exact h)
      clear hb c0 f0 c1 f1 O E N D;go_wp2_with fail;go_roundw
      case rel => exact ⟨i + 1, l, by go_num, by omega, .inl (by omega), Q, G, L, S⟩
      case measure => simp [RowKit.intOf]; omega
  ·have hF : (n : Int) <= (i : Int) := by omega
   have R : Hid (l.length = n) := by unfold Hid; rw [Q.out.length_eq, HN.out]
   have hi : Hid (STo (l.map (rankP Y)) l.length) := fun a b x y h1 h2 hx hy => HS.out a b x y h1 (by have := R.out; omega) hx hy
   go_wp2_with fail;go_end0;exact ⟨rfl, l, Q.out, hi.out, M.out, X⟩
theorem pPa (R w : World) (g cap : Nat) (Z : List PtQ) (O : Z.length <= 12) (k : Nat) (E : 0 < k) (Q : k <= 20000) (S : ∀ q ∈ Z, SzP k q) (Y : RowP w g Z) (U : g < w.heap.size) (V : Below R.heap.size R w) (X : R.heap.size <= g) (M : Good R) (N : Int) :
 Calls Tryz.prog 135 #[.slice (some ⟨g, 0, none⟩) Z.length cap, .int .i64 0, .int .i64 (Z.length : Int), .int .i64 N, .func (.func 85) #[] #[]] w
  (fun e w' => e = .returned (.tuple #[]) /\ ∃ l, l.Perm Z /\ STo (l.map (rankP Z)) l.length /\ RowP w' g l /\ w.grownBy w' (some g)) := by
 have K := hid (iPa R w g cap Z O k E Q S Y U V X M);have D : (Z.length : Int) <= 12 := by omega
 have L : (0 : Int) <= (Z.length : Int) := by omega
 generalize Z.length = n at *;clear S Y U V X M;go_enter Tryz.func135, Tryz.ntmps135;go_wp2_with fail;refine wp_loop_rounds 1 ?_;rw [rounds_succ];go_wp2_with fail;refine K.out.mono ?_;rintro e w' ⟨rfl, l, J, I, H, G⟩;go_wp2_with fail;exact bodyPost_ret (v := .tuple #[]) (by simp [results, Tryz.results135, go_sem]) rfl ⟨rfl, l, J, I, H, G⟩
theorem sr0 (Q w : World) (g cap : Nat) (Z : List PtQ) (N : Z.length <= 12) (k : Nat) (G : 0 < k) (O : k <= 20000) (S : ∀ q ∈ Z, SzP k q) (Y : RowP w g Z) (U : g < w.heap.size) (V : Below Q.heap.size Q w) (X : Q.heap.size <= g) (M : Good Q) :
 Calls Tryz.prog 84 #[.slice (some ⟨g, 0, none⟩) Z.length cap, .func (.func 85) #[] #[]] w
  (fun e w' => e = .returned (.tuple #[]) /\ ∃ l, l.Perm Z /\ STo (l.map (rankP Z)) l.length /\ RowP w' g l /\ w.grownBy w' (some g)) := by
 have L : Hid (∀ lim : Int, _) := fun lim => pPa Q w g cap Z N k G O S Y U V X M lim;have E : Calls Tryz.prog 136 #[.int .u64 (Z.length : Int)] w fun e w' => e = .returned (.int .i64 (Lib.bitLen Z.length : Nat)) /\ w' = w := by
  have h := Any.bits_Len (SlLaysF0.n15.bits (P := Tryz.prog) (ρ := Tryz.sortPt_ren) { Tryz.sortPt with }) (Z.length : Int) w (by omega) (by omega);rwa [Int.toNat_natCast] at h
 have wr : IntKind.u64.wrap (Z.length : Int) = Z.length := by simp [IntKind.wrap, IntKind.bits, IntKind.signed]; omega
 have D : (Z.length : Int) <= 12 := by omega
 generalize Lib.bitLen Z.length = lim at *;generalize Z.length = n at *;clear S Y U V X M;go_enter Tryz.func84, Tryz.ntmps84;go_wp2_with fail;refine E.mono ?_;rintro e C ⟨rfl, R⟩;rw [R];clear R;go_wp2_with fail;refine (L.out _).mono ?_;rintro e w' ⟨rfl, l, K, J, I, H⟩;go_wp2_with fail;go_end0;exact ⟨rfl, l, K, J, I, H⟩
theorem lex {l S : List PtQ} (Z : l ≠ []) (V : S.Pairwise ltP) (Y : S.Perm l) : ∃ n, n < l.length /\ ∀ j : Nat, j < l.length -> ¬ ltP (ptI l j) (ptI l n) := by
 cases S with
 | nil => exact absurd (Y.symm.eq_nil) Z
 | cons s S =>
   obtain ⟨n, X, e⟩ := List.getElem_of_mem (Y.mem_iff.1 (List.mem_cons_self ..));refine ⟨n, X, fun j hj hlt => ?_⟩;rw [pIn l n X, e, pIn l j hj] at hlt;rcases List.mem_cons.1 (Y.mem_iff.2 (List.getElem_mem hj)) with g | g
   ·rw [g] at hlt; exact lPi _ hlt
   ·exact lPi _ (lPt hlt (List.rel_of_pairwise_cons V g))
theorem hh0 {l S : List PtQ} (h : CvxL l) (Y : S.Pairwise ltP) (U : S.Perm l) : hullL S = begM l := by
 have Z : l ≠ [] := by rcases h with ⟨a, b, c, rfl, -⟩ | ⟨a, b, c, d, rfl, -⟩ <;> simp
 obtain ⟨n, V, X⟩ := lex Z Y U;unfold begM;rw [lNe (cnp h) V X];exact blt h V X Y (fun x => U.mem_iff)
theorem bMf {l S : List PtQ} (h : CvxL l) (R : S.Pairwise ltP) (X : S.Perm l) : (begM l).length = l.length /\ (∀ p ∈ begM l, p ∈ l) /\ ∀ j : Nat, j < l.length -> ¬ ltP (ptI (begM l) j) (ptI (begM l) (0 : Nat)) := by
 have Z : l ≠ [] := by rcases h with ⟨a, b, c, rfl, -⟩ | ⟨a, b, c, d, rfl, -⟩ <;> simp
 have V := List.length_pos_iff.2 Z;obtain ⟨n, Y, U⟩ := lex Z R X;unfold begM;rw [lNe (cnp h) Y U];refine ⟨bLl l n (by omega), fun p X => mbL X, fun j hj => ?_⟩;rw [bLg Y hj, bLg Y V, Nat.add_zero, Nat.mod_eq_of_lt Y];exact U _ (Nat.mod_lt _ V)
theorem cln {l : List PtQ} (h : CvxL l) : 3 <= l.length /\ l.length <= 4 := by
 rcases h with ⟨a, b, c, rfl, -⟩ | ⟨a, b, c, d, rfl, -⟩ <;> simp
theorem bMl {l : List PtQ} (h : CvxL l) {n : Nat} (Y : n < l.length) (Z : ∀ j : Nat, j < l.length -> ¬ ltP (ptI l j) (ptI l n)) : begL l n = begM l := by
 unfold begM;rw [lNe (cnp h) Y Z]
def stI (l : List PtQ) (i : Nat) : List PtQ := ca0 (l.take i)
theorem sIn {l : List PtQ} {i : Nat} (h : i < l.length) : stI l (i + 1) = l[i] :: popC l[i] (stI l i) := by
 unfold stI ca0;rw [List.take_succ_eq_append_getElem h, List.foldl_append];rfl
theorem sIl (l : List PtQ) : ∀ i, i <= l.length -> (stI l i).length <= i /\ (0 < i -> 0 < (stI l i).length)
 | 0, _ => ⟨by simp [stI, ca0], fun h => absurd h (by omega)⟩
 | i + 1, h => by
   have key : ∀ (x : PtQ) (s : List PtQ), (popC x s).length <= s.length := fun x s => by
    induction s with
    | nil => exact Nat.le_refl _
    | cons b s Z =>
      cases s with
      | nil => exact Nat.le_refl _
      | cons a s =>
        unfold popC;split
        ·exact Nat.le_succ_of_le Z
        ·exact Nat.le_refl _
   have Z := (sIl l i (by omega)).1;have := key l[i] (stI l i);rw [sIn (by omega)];exact ⟨by rw [List.length_cons]; omega, fun _ => by rw [List.length_cons]; omega⟩
theorem se0 (l : List PtQ) : stI l l.length = ca0 l := by unfold stI; rw [List.take_length]
theorem po0 (a b c : PtQ) (k : Nat) (f : 0 < k) (h9 : k <= 2000) (ha : SzP k a) (hb : SzP k b) (hc : SzP k c) (w : World) (q : Good w) :
 Calls Tryz.prog 182 #[.agg #[.string (RS a.1), .string (RS a.2)], .agg #[.string (RS b.1), .string (RS b.2)], .agg #[.string (RS c.1), .string (RS c.2)]] w (Ret (fun r _ => r = .string (RS (areaQ a b c))) w) := by
 obtain ⟨W, hW, ⟨a0, l⟩, ⟨b0, b1⟩, ⟨c0, c1⟩, I, hd⟩ := tbs w a b c 50;have h4 := q.below I;obtain ⟨Q, O⟩ := a;obtain ⟨A, B⟩ := b;obtain ⟨z, y⟩ := c;unfold areaQ;dsimp only [SzP] at *;have L := hid ha;have n := hid hb;have m := hid hc;have HW := hid hW;clear hW ha hb hc;go_enter Tryz.func182, Tryz.ntmps182;have H : Good W.drew := h4.drewN 1;have x : Hid (Sz (2 * k + 1) (A - Q)) := (n.out.1.sub L.out.1).mono (by omega);have v : Hid (Sz (2 * k + 1) (y - O)) := (m.out.2.sub L.out.2).mono (by omega);have t : Hid (Sz (2 * k + 1) (B - O)) := (n.out.2.sub L.out.2).mono (by omega);have s : Hid (Sz (2 * k + 1) (z - Q)) := (m.out.1.sub L.out.1).mono (by omega);have d : Hid (Sz (4 * k + 2) ((A - Q) * (y - O))) := (x.out.mul v.out).mono (by omega);have h0 : Hid (Sz (4 * k + 2) ((B - O) * (z - Q))) := (t.out.mul s.out).mono (by omega);go_upto_region 1 with fail;rw [<- HW.out];go_region_held3 (fun w' => w'.cell? ⟨w.heap.size, 0, none⟩ = some (.string (RS Q)) /\ w'.cell? ⟨w.heap.size, 1, none⟩ = some (.string (RS O)) /\ w'.cell? ⟨w.heap.size + 1, 0, none⟩ = some (.string (RS A)) /\ w'.cell? ⟨w.heap.size + 1, 1, none⟩ = some (.string (RS B)))
  (first | exact ⟨a0, l, b0, b1⟩ | exact ⟨p_1_0, p_1_1, p_1_2, p_1_3⟩ | exact ⟨p_2_0, p_2_1, p_2_2, p_2_3⟩)
  (first
  | (go_at_call 68; refine (rSa B O k f (by omega) n.out.2 L.out.2 _ E).mono ?_; rintro e D ⟨_, rfl, rfl, Y⟩
     have p_2_0 := zct Y p_1_0;have p_2_1 := zct Y p_1_1;have p_2_2 := zct Y p_1_2;have p_2_3 := zct Y p_1_3;have hf := Y.size;have h5 := E.below Y)
  | (go_at_call 68; refine (rSa A Q k f (by omega) n.out.1 L.out.1 _ H).mono ?_; rintro e h6 ⟨_, rfl, rfl, Z⟩
     have p_1_0 := zct Z a0;have p_1_1 := zct Z l;have p_1_2 := zct Z b0;have p_1_3 := zct Z b1;have he : W.heap.size <= h6.heap.size := Z.size;have E := H.below Z))
 have G : Below W.heap.size W D := zbt (zbt (bdN W 1) Z) Y;have R := zbt I G;have j := zcq G (by show w.heap.size < W.heap.size; omega) a0;have i := zcq G (by show w.heap.size < W.heap.size; omega) l;have h := zcq G (by show w.heap.size + 2 < W.heap.size; omega) c0;have g := zcq G (by show w.heap.size + 2 < W.heap.size; omega) c1;have p : w.heap.size + 2 < D.heap.size := by have := G.size; omega
 obtain ⟨V, hV⟩ := zex D;rw [<- hV] at j i h g R p;have M : Good V.drew := (q.below R).drewN 1;rw [<- hV];clear hV G E h5 a0 l b0 b1 c0 c1 H I;go_upto_region 2 with fail;go_region_held3 (fun w' => w'.cell? ⟨w.heap.size, 0, none⟩ = some (.string (RS Q)) /\ w'.cell? ⟨w.heap.size, 1, none⟩ = some (.string (RS O)) /\ w'.cell? ⟨w.heap.size + 2, 0, none⟩ = some (.string (RS z)) /\ w'.cell? ⟨w.heap.size + 2, 1, none⟩ = some (.string (RS y)))
  (first | exact ⟨j, i, h, g⟩ | exact ⟨q_1_0, q_1_1, q_1_2, q_1_3⟩ | exact ⟨q_2_0, q_2_1, q_2_2, q_2_3⟩)
  (first
  | (go_at_call 68; refine (rSa y O k f (by omega) m.out.2 L.out.2 _ C).mono ?_; rintro e o ⟨_, rfl, rfl, S⟩
     have q_2_0 := zct S q_1_0;have q_2_1 := zct S q_1_1;have q_2_2 := zct S q_1_2;have q_2_3 := zct S q_1_3;have hi := S.size;have h7 := C.below S)
  | (go_at_call 68; refine (rSa z Q k f (by omega) m.out.1 L.out.1 _ M).mono ?_; rintro e h8 ⟨_, rfl, rfl, X⟩
     have q_1_0 := zct X j;have q_1_1 := zct X i;have q_1_2 := zct X h;have q_1_3 := zct X g;have hh : V.heap.size <= h8.heap.size := X.size;have C := M.below X))
 have qB : Below V.heap.size V o := zbt (zbt (bdN V 1) X) S;have N := zbt R qB;obtain ⟨U, hU⟩ := zex o;rw [<- hU] at N;rw [<- hU];clear hU qB C h7 j i h g M R;go_wp2_with fail;refine (rMa (A - Q) (y - O) (2 * k + 1) (by omega) (by omega) x.out v.out U (q.below N)).mono ?_;rintro e w5 ⟨_, rfl, rfl, h1⟩;have K := zbt N h1;go_wp2_with fail;refine (rMa (B - O) (z - Q) (2 * k + 1) (by omega) (by omega) t.out s.out w5 (q.below K)).mono ?_;rintro e w6 ⟨_, rfl, rfl, h2⟩;have J := zbt K h2;go_wp2_with fail;refine (rSa ((A - Q) * (y - O)) ((B - O) * (z - Q)) (4 * k + 2) (by omega) (by omega) d.out h0.out w6 (q.below J)).mono ?_;rintro e w7 ⟨_, rfl, rfl, h3⟩;go_wp2_with fail;go_ret;exact ⟨_, rfl, rfl, (zbt J h3)⟩
theorem pi0 (a b c : PtQ) (k : Nat) (G : 0 < k) (S : k <= 2000) (Q : SzP k a) (O : SzP k b) (N : SzP k c) (w : World) (H : Good w) :
 Calls Tryz.prog 137 #[.agg #[.string (RS a.1), .string (RS a.2)], .agg #[.string (RS b.1), .string (RS b.2)], .agg #[.string (RS c.1), .string (RS c.2)]] w (Ret (fun r _ => r = .int .i64 (turnZ a b c)) w) := by
 obtain ⟨W, R, ⟨a0, D⟩, ⟨A, b1⟩, ⟨c0, c1⟩, Z, E⟩ := tbs w a b c 50;have U := H.below Z;have M := hid Q;have L := hid O;have K := hid N;have I := hid R;have J : Hid ((areaQ a b c).num.sign = turnZ a b c) := rfl;clear R Q O N;have X : Hid (Calls Tryz.prog 182 #[.agg #[.string (RS a.1), .string (RS a.2)], .agg #[.string (RS b.1), .string (RS b.2)], .agg #[.string (RS c.1), .string (RS c.2)]] W (Ret (fun r _ => r = .string (RS (areaQ a b c))) W)) := po0 a b c k G S M.out L.out K.out W U;obtain ⟨C, B⟩ := a;obtain ⟨y, z⟩ := b;obtain ⟨x, v⟩ := c;dsimp only at *;go_enter Tryz.func137, Tryz.ntmps137;go_upto_region 1 with fail;rw [<- I.out];go_wp2_with fail;refine X.out.mono ?_;rintro e t ⟨_, rfl, rfl, Y⟩;go_wp2_with fail;refine ((ra0 _ _).mono fun _ _ h => h.ret).mono ?_;rintro e s ⟨_, rfl, rfl, V⟩;rw [J.out];go_wp2_with fail;go_ret;exact ⟨_, rfl, rfl, ((zbt Z Y)).trans (V.mono (by have := Z.size; have := Y.size; omega))⟩
theorem pok (p : PtQ) (h : SzP 200 p) (w : World) (X : Good w) : Calls Tryz.prog 138 #[.agg #[.string (RS p.1), .string (RS p.2)]] w (Ret (fun r _ => r = .int .i64 0) w) := by
 have U := hid fun w X => cok p h w X;clear h;generalize RS p.1 = x at *;generalize RS p.2 = y at *;go_enter Tryz.func138, Tryz.ntmps138;go_wp2_with fail;obtain ⟨W, Z⟩ := zex (w.alloc (.cells #[.string x, .string y] 50));have V : Below w.heap.size w W := by rw [Z]; exact zal _ _
 rw [<- Z];clear Z;refine (U.out W (X.below V)).mono ?_;rintro e S ⟨_, rfl, rfl, Y⟩;go_wp2_with fail;go_ret;exact ⟨_, rfl, rfl, (zbt V Y)⟩
theorem tle (a b c : PtQ) : turnZ a b c <= 0 ↔ areaQ a b c <= 0 := by
 unfold turnZ;generalize areaQ a b c = q;have Y : q.num.sign <= 0 ↔ q.num <= 0 := by
  rcases Int.lt_trichotomy q.num 0 with h | h | h
  ·rw [Int.sign_eq_neg_one_of_neg h]; omega
  ·rw [h]; decide
  ·rw [Int.sign_eq_one_of_pos h]; omega
 have Z : 0 <= (-q).num ↔ 0 <= -q := Rat.num_nonneg;have X : (-q).num = -q.num := rfl;rw [Y];constructor
 ·intro h; have := Z.1 (by omega); grind
 ·intro h; have := Z.2 (by grind); omega
theorem pCm (x : PtQ) : ∀ s : List PtQ, ∀ p ∈ popC x s, p ∈ s
 | [], p, h => h
 | [b], p, h => h
 | b :: a :: s, p, h => by
   unfold popC at h;split at h
   ·exact List.mem_cons_of_mem _ (pCm x (a :: s) p h)
   ·exact h
theorem sIm (l : List PtQ) : ∀ i, i <= l.length -> ∀ p ∈ stI l i, p ∈ l
 | 0, _, p, h => by cases h
 | i + 1, hi, p, h => by
   rw [sIn (by omega)] at h;rcases List.mem_cons.1 h with rfl | h
   ·exact List.getElem_mem _
   ·exact sIm l i (by omega) p (pCm _ _ p h)
def slN : Value -> Nat | .slice _ n _ => n | _ => 0
theorem PtsV.shape {w : World} {B : Nat} {v : Value} {l : List PtQ} (h : PtsV w B v l) : ∃ p c, v = .slice p l.length c := oRs h
theorem PtsV.pop {w : World} {B n c : Nat} {p : Option Addr} {b : PtQ} {s : List PtQ} (h : PtsV w B (.slice p n c) (b :: s).reverse) : PtsV w B (.slice p s.length c) s.reverse := by
 have X : n = s.length + 1 := by
  obtain ⟨V, c', e⟩ := h.shape;injection e with _ e2 _
  rw [e2]; simp
 unfold PtsV at *;rw [List.length_reverse] at *;have Y : w.ownsRow B 50 2 (.slice p n c) n (cPP (strP (b :: s).reverse)) := by rw [X] at h ⊢; exact h
 have Z := oe0 Y (m := s.length) (by omega);rw [cPt, List.reverse_cons, List.take_left' (List.length_reverse)] at Z;exact Z
theorem snocP (s : List PtQ) (x : PtQ) : cPP (strP (x :: s).reverse) = cPP (strP s.reverse) ++ [.string (RS x.1), .string (RS x.2)] := by
 rw [List.reverse_cons, sPa, cd0];rfl
theorem PtsV.last2 {w : World} {B n c : Nat} {p : Option Addr} {a b : PtQ} {s : List PtQ} (h : PtsV w B (.slice p n c) (b :: a :: s).reverse) : n = s.length + 2 /\ n <= c /\ ∃ g, p = some ⟨g, 0, none⟩ /\ g < w.heap.size /\
 w.cell? ⟨g, s.length * 2, none⟩ = some (.string (RS a.1)) /\ w.cell? ⟨g, s.length * 2 + 1, none⟩ = some (.string (RS a.2)) /\ w.cell? ⟨g, (s.length + 1) * 2, none⟩ = some (.string (RS b.1)) /\ w.cell? ⟨g, (s.length + 1) * 2 + 1, none⟩ = some (.string (RS b.2)) := by
 obtain ⟨g, cap, e, R, -, -, S, Y⟩ := h.row (by simp);injection e with e1 e2 e3
 have Z : (b :: a :: s).reverse.length = s.length + 2 := by simp
 have V : (b :: a :: s).reverse[s.length]? = some a := by
  rw [List.reverse_cons, List.reverse_cons, List.append_assoc, List.getElem?_append_right (by simp)]; simp
 have U : (b :: a :: s).reverse[s.length + 1]? = some b := by
  rw [List.reverse_cons, List.getElem?_append_right (by simp)]; simp
 obtain ⟨⟨a0, -⟩, X, -⟩ := Y s.length a V;obtain ⟨⟨c0, -⟩, c1, -⟩ := Y (s.length + 1) b U;exact ⟨by omega, by omega, g, e1, S, a0, X, c0, c1⟩
theorem pCs (x : PtQ) (s : List PtQ) (h : s.length <= 1) : popC x s = s := by
 rcases s with _ | ⟨b, _ | ⟨a, s⟩⟩
 ·rfl
 ·rfl
 ·simp at h
theorem pb0 (w : World) (v : Value) (l : List PtQ) (k : Nat) (hk : 0 < k) (hU : k <= 2000) (h0 : 0 < l.length) (z2 : l.length <= 12) (o : ∀ p ∈ l, SzP k p) (hv : RdP w v (strP l)) (hg : Good w) :
 Calls Tryz.prog 87 #[v] w (Ret (fun r w' => PtsV w' w.heap.size r (cLL l)) w) := by
 have hP : Hid (∀ a b c : PtQ, SzP k a -> SzP k b -> SzP k c -> ∀ w, Good w -> _) := fun a b c ha hb hc w hg => pi0 a b c k hk hU ha hb hc w hg;have hO : Hid (∀ i, i <= l.length -> ∀ p ∈ stI l i, SzP k p) := fun i hi p hp => o p (sIm l i hi p hp);have hN : Hid (∀ i (hi : i < l.length), SzP k l[i]) := fun i hi => o _ (List.getElem_mem hi);obtain ⟨b0, o0, c0, rfl, hf, hC⟩ := hv.cells h0;have hK := hid hC;obtain ⟨i0, hi, h5, h6, h7⟩ := info_parts ip9;clear o hv hC;go_enter Tryz.func87, Tryz.ntmps87;go_wp2_with fail;go_loopw [3, 8] (fun t3 t8 wr => ∃ i : Nat, t8 = .int .i64 i /\ i <= l.length /\ PtsV wr w.heap.size t3 (stI l i).reverse /\ Below w.heap.size w wr) (fun _ t8 _ => l.length - (RowKit.intOf t8).toNat)
 case atStart => exact ⟨0, rfl, Nat.zero_le _, World.ownsRow_nil _ _ _ _, Below.refl _ _⟩
 case round =>
  obtain ⟨i, rfl, hE, Z, D⟩ := hrel;obtain ⟨p3, c3, rfl⟩ := Z.shape;obtain ⟨d, hX⟩ := zex (wr : World);subst hX;rcases Nat.lt_or_ge i l.length with z | z
  ·have z6 : (i : Int) < (l.length : Int) := by omega
   obtain ⟨x0, x1⟩ := hK.out i z;replace x0 := (zcq D hf x0 :);replace x1 := (zcq D hf x1 :);rw [pIn l i z] at x0 x1;have zx := hN.out i z;have HN := hid (sIn z);obtain ⟨x, hx⟩ := zex (l[i]);rw [<- hx] at x0 x1 zx HN;clear hx;have zs := hO.out i hE;have hw := hid (sIl l i hE).1;obtain ⟨st, hH⟩ := zex (stI l i);rw [<- hH] at Z zs HN hw ⊢;clear hH;have ZX := hid zx;have hR : Hid (∀ a b : PtQ, SzP k a -> SzP k b -> ∀ w, Good w -> _) := fun a b ha hb w hg => hP.out a b x ha hb ZX.out w hg;have zd : b0 < d.heap.size := Nat.lt_of_lt_of_le hf D.size;clear zx;obtain ⟨V, hV⟩ := zex (d.alloc (.cells #[.string (RS x.1), .string (RS x.2)] 50));go_upto_region 5 with fail;have h1 : Below d.heap.size d V := by rw [hV]; exact zal _ _
   have bx : BoxN V d.heap.size 50 [.string (RS x.1), .string (RS x.2)] := by rw [hV]; exact BoxN.new _ _ _ _ rfl
   have y : PtsV V w.heap.size (.slice p3 st.reverse.length c3) st.reverse := WRA Z h1;rw [<- hV];have hB : Below w.heap.size w V := zbt D h1;have hz := h1.size;clear hV x0 x1 Z D h1;obtain ⟨n0, hr⟩ : ∃ n, n = st.reverse.length := ⟨_, rfl⟩;have hy : Hid (st.length = n0) := by unfold Hid; rw [hr, List.length_reverse]
   have hS := hid zs;rw [<- hr] at y ⊢;have h3 : n0 <= 12 := by have := hy.out; have := hw.out; omega
   clear hr zs;go_loopw [3] (fun t3 wr => ∃ (s : List PtQ) (p : Option Addr) (n c : Nat), t3 = .slice p n c /\ Hid (s.length = n) /\ n <= 12 /\ PtsV wr w.heap.size t3 s.reverse /\ Hid (popC x s = popC x st) /\ Hid (∀ q ∈ s, SzP k q) /\ BoxN wr d.heap.size 50 [.string (RS x.1), .string (RS x.2)] /\ Below w.heap.size w wr /\ d.heap.size <= wr.heap.size) (fun t3 _ => slN t3)
   case atStart => exact ⟨st, p3, n0, c3, rfl, hy, h3, y, rfl, hS, bx, hB, by have := hz; omega⟩
   case round =>
    obtain ⟨s, p4, n, c4, rfl, N, za, Z, C, he, Q, H, z1⟩ := hrel;have c0 := Q.cell 0 rfl;have c1 := Q.cell 1 rfl;have lx := Q.lt;have h2 : Good wr.drew := (hg.below H).drewN 1;rcases Nat.lt_or_ge n 2 with hn | hn
    ·have hh : decide ((n : Int) > 1) = false := by rw [decide_eq_false_iff_not]; omega
     have hl : decide (1 < (n : Int)) = false := by rw [decide_eq_false_iff_not]; omega
     have hm : decide (1 < n) = false := by rw [decide_eq_false_iff_not]; omega
     have B : Hid (popC x st = s) := by unfold Hid; rw [<- C.out]; exact pCs x s (by have := N.out; omega)
     go_upto_region 5 with fail;go_quiet (fail);obtain ⟨m, J⟩ : ∃ X, X = wr.drewN nq := ⟨_, rfl⟩;have hA : Below wr.heap.size wr m := by rw [J]; exact bdN wr nq
     have G : Below w.heap.size w m := zbt H hA;have I := Q.below hA Q.lt;have U : PtsV m w.heap.size (.slice p4 n c4) s.reverse := by rw [J]; exact WRA Z (bdN wr nq)
     rw [<- J];clear J c0 c1 Z Q H h2 hh hl hm;have hd : Hid (cPP (strP (stI l (i + 1)).reverse) = cPP (strP (s).reverse) ++ [.string (RS x.1), .string (RS x.2)]) := by unfold Hid; rw [HN.out, B.out]; exact snocP _ _
     have h8 : Hid ((stI l (i + 1)).reverse.length = n + 1) := by unfold Hid; rw [HN.out, B.out, List.length_reverse, List.length_cons, N.out]
     have S : m.ownsRow w.heap.size 50 2 (.slice p4 n c4) n (cPP (strP (s).reverse)) := by
      have h := U;unfold PtsV at h;rw [List.length_reverse, N.out] at h;exact h
     have g0 := I.cell 0 rfl;have g1 := I.cell 1 rfl;have ht := G.size;clear U
     go_wp2_with (at_builtin; refine wpList_append_own _ rfl _ _ 32 rfl w.heap.size 50 i0 (.agg #[.string ⟨#[]⟩, .string ⟨#[]⟩]) 2 32 Tryz.underlying32 hi h5 h6 h7 rfl (by decide) _ _ _ rfl (S.alloc _) ⟨m.heap.size, 0, none⟩ 1 1 [.string (RS x.1), .string (RS x.2)] rfl rfl (cto _ _ _ _) (tsr _ _) (by unfold maxLen; omega) (by omega) (by simp; omega) ?_
                  intro v7 w7 R Y _;have A : Below w.heap.size w w7 := (G.alloc ht _).grown Y (by simp; omega) (fun j hj => by have := (S.lt j hj).1; omega);clear Y)
     rw [<- hd.out] at R;have L : PtsV w7 w.heap.size v7 (stI l (i + 1)).reverse := by unfold PtsV; rw [h8.out]; exact R
     go_wp2_with fail;go_roundw
     case rel => exact ⟨i + 1, by go_num, by omega, L, A⟩
     case measure => simp [RowKit.intOf]; omega
    ·obtain ⟨b, a, M, o⟩ : ∃ b a M, s = b :: a :: M := by
      rcases s with _ | ⟨b, _ | ⟨a, M⟩⟩
      ·have := N.out; simp at this; omega
      ·have := N.out; simp at this; omega
      ·exact ⟨b, a, M, rfl⟩
     subst o;obtain ⟨-, zb, g, rfl, z4, e0, e1, e2, e3⟩ := PtsV.last2 Z;obtain ⟨j1, hF⟩ : ∃ j, j = M.length := ⟨_, rfl⟩;obtain ⟨f, ho⟩ : ∃ j, j = M.length + 1 := ⟨_, rfl⟩;have z7 : j1 + 2 <= n /\ n <= j1 + 2 /\ f + 1 <= n /\ n <= f + 1 := by have := N.out; simp at this; omega
     rw [<- hF] at e0 e1;rw [<- ho] at e2 e3;have hu := hid ho;have zc : IntKind.i64.wrap ((n : Int) - 2) = (j1 : Int) := by rw [show ((n : Int) - 2) = (j1 : Int) by omega]; exact IntWalk.i64_in _ (by omega)
     have hW : IntKind.i64.wrap ((n : Int) - 1) = (f : Int) := by rw [show ((n : Int) - 1) = (f : Int) by omega]; exact IntWalk.i64_in _ (by omega)
     have hY : (j1 : Int) < (n : Int) := by omega
     have z0 : (f : Int) < (n : Int) := by omega
     have hh : decide ((n : Int) > 1) = true := by rw [decide_eq_true_iff]; omega
     have hl : decide (1 < (n : Int)) = true := by rw [decide_eq_true_iff]; omega
     have hm : decide (1 < n) = true := by rw [decide_eq_true_iff]; omega
     have HT : Hid (∀ w, Good w -> _) := hR.out a b (he.out a (by simp)) (he.out b (by simp));have h9 : Hid (popC x (b :: a :: M) = if turnZ a b x <= 0 then popC x (a :: M) else b :: a :: M) := by
      unfold Hid;rw [popC];by_cases ha : areaQ a b x <= 0
      ·rw [if_pos ha, if_pos ((tle a b x).2 ha)]
      ·rw [if_neg ha, if_neg (fun h => ha ((tle a b x).1 h))]
     obtain ⟨tz, K⟩ := zex (turnZ a b x);rw [<- K] at HT h9;clear K hF ho;have z3 := H.size;go_upto_region 5 with fail;go_cut [31] (fun s31 wx => s31 = .bool (decide (tz <= 0)) /\ Below wr.heap.size wr wx)
     case first =>
      go_region_held3 (fun w' => w'.cell? ⟨g, j1 * 2, none⟩ = some (.string (RS a.1)) /\ w'.cell? ⟨g, j1 * 2 + 1, none⟩ = some (.string (RS a.2)) /\ w'.cell? ⟨g, f * 2, none⟩ = some (.string (RS b.1)) /\ w'.cell? ⟨g, f * 2 + 1, none⟩ = some (.string (RS b.2)) /\ w'.cell? ⟨d.heap.size, 0, none⟩ = some (.string (RS x.1)) /\ w'.cell? ⟨d.heap.size, 1, none⟩ = some (.string (RS x.2)))
       (first | exact ⟨e0, e1, e2, e3, c0, c1⟩ | exact ⟨p_1_0, p_1_1, p_1_2, p_1_3, p_1_4, p_1_5⟩)
       (first
       | (go_at_call 137; refine (HT.out _ h2).mono ?_; rintro e hJ ⟨_, rfl, rfl, O⟩
          have p_1_0 := zct O e0;have p_1_1 := zct O e1;have p_1_2 := zct O e2;have p_1_3 := zct O e3;have p_1_4 := zct O c0;have p_1_5 := zct O c1;have zf : wr.heap.size <= hJ.heap.size := O.size;have ze := h2.below O))
      have pB : Below wr.heap.size wr hJ := zbt (bdN wr 1) O;go_wp2_with fail;go_meet;exact ⟨rfl, pB⟩
     case rest =>
     obtain ⟨rfl, E⟩ := hcut;obtain ⟨m, J⟩ : ∃ X, X = wc := ⟨_, rfl⟩;rw [<- J] at E ⊢;have G : Below w.heap.size w m := zbt H E;have I := Q.below E Q.lt;have U : PtsV m w.heap.size (.slice (some ⟨g, 0, none⟩) n c4) (b :: a :: M).reverse := WRA Z E;have hG : d.heap.size <= m.heap.size := by have := E.size; omega
     clear J c0 c1 e0 e1 e2 e3 Z Q H h2 hh hl hm E;by_cases K : tz <= 0
     ·have hT : decide (tz <= 0) = true := decide_eq_true K
      have hZ : f <= c4 := by omega
      go_wp2_with fail;go_roundw
      case rel =>
       refine ⟨a :: M, some ⟨g, 0, none⟩, f, c4, rfl, ?_, by omega, ?_, ?_, fun q hq => he.out q (List.mem_cons_of_mem _ hq), I, G, hG⟩
       ·unfold Hid; rw [hu.out]; rfl
       ·have h := PtsV.pop (s := a :: M) (b := b) U
        have e : (a :: M).length = f := by rw [hu.out]; rfl
        rw [e] at h;exact h
       ·unfold Hid; rw [<- C.out, h9.out, if_pos K]
      case measure => simp [slN]; omega
     ·have hT : decide (tz <= 0) = false := decide_eq_false K
      have B : Hid (popC x st = b :: a :: M) := by unfold Hid; rw [<- C.out, h9.out, if_neg K]
      have hd : Hid (cPP (strP (stI l (i + 1)).reverse) = cPP (strP (b :: a :: M).reverse) ++ [.string (RS x.1), .string (RS x.2)]) := by unfold Hid; rw [HN.out, B.out]; exact snocP _ _
      have h8 : Hid ((stI l (i + 1)).reverse.length = n + 1) := by unfold Hid; rw [HN.out, B.out, List.length_reverse, List.length_cons, N.out]
      have S : m.ownsRow w.heap.size 50 2 (.slice (some ⟨g, 0, none⟩) n c4) n (cPP (strP (b :: a :: M).reverse)) := by
       have h := U;unfold PtsV at h;rw [List.length_reverse, N.out] at h;exact h
      have g0 := I.cell 0 rfl;have g1 := I.cell 1 rfl;have ht := G.size;clear U
      go_wp2_with (at_builtin; refine wpList_append_own _ rfl _ _ 32 rfl w.heap.size 50 i0 (.agg #[.string ⟨#[]⟩, .string ⟨#[]⟩]) 2 32 Tryz.underlying32 hi h5 h6 h7 rfl (by decide) _ _ _ rfl (S.alloc _) ⟨m.heap.size, 0, none⟩ 1 1 [.string (RS x.1), .string (RS x.2)] rfl rfl (cto _ _ _ _) (tsr _ _) (by unfold maxLen; omega) (by omega) (by simp; omega) ?_
                   intro v7 w7 R Y _;have A : Below w.heap.size w w7 := (G.alloc ht _).grown Y (by simp; omega) (fun j hj => by have := (S.lt j hj).1; omega);clear Y)
      rw [<- hd.out] at R;have L : PtsV w7 w.heap.size v7 (stI l (i + 1)).reverse := by unfold PtsV; rw [h8.out]; exact R
      go_wp2_with fail;go_roundw
      case rel => exact ⟨i + 1, by go_num, by omega, L, A⟩
      case measure => simp [RowKit.intOf]; omega
  ·have z5 : ¬ (i : Int) < (l.length : Int) := by omega
   obtain rfl : i = l.length := by omega
   rw [se0] at Z;have t : 0 < (ca0 l).length := by have := (sIl l l.length (Nat.le_refl _)).2 h0; rw [se0] at this; exact this
   obtain ⟨b, s, o⟩ : ∃ b s, ca0 l = b :: s := by
    cases h : ca0 l with
    | nil => rw [h] at t; simp at t
    | cons b s => exact ⟨b, s, rfl⟩
   have hL : Hid (cLL l = s.reverse) := by unfold Hid cLL; rw [o]; rfl
   have hM : Hid ((b :: s).length <= 12) := by unfold Hid; rw [<- o, <- se0]; have := (sIl l l.length (Nat.le_refl _)).1; omega
   rw [se0, o];rw [o] at Z;obtain ⟨g, cap, ev, hD, -⟩ := Z.row (by simp);injection ev with ev1 ev2 ev3
   subst ev1;subst ev3;obtain ⟨n, hn⟩ := zex ((b :: s).reverse.length);obtain ⟨j, hj⟩ := zex (s.length);have z9 : j + 1 <= n /\ n <= j + 1 := by rw [hn, hj]; simp
   have h3 : n <= 12 := by have := hM.out; rw [hn, List.length_reverse]; exact this
   have h4 := PtsV.pop Z;rw [<- hj] at h4;rw [<- hn] at hD ⊢;clear hn hj ev2 o t Z;have hW : IntKind.i64.wrap ((n : Int) - 1) = (j : Int) := by rw [show ((n : Int) - 1) = (j : Int) by omega]; exact IntWalk.i64_in _ (by omega)
   have z8 : j <= c3 := by omega
   go_wp2_with fail;go_ret;exact ⟨_, rfl, by rw [hL.out]; exact h4, D⟩
theorem cq0 (w : World) (g cap : Nat) (l : List PtQ) (t : l.Nodup) (H : l.length <= 12) (p : 2 <= l.length) (U : RowP w g l) (X : g < w.heap.size) :
 Calls Tryz.prog 86 #[.slice (some ⟨g, 0, none⟩) l.length cap] w (Ret (fun r _ => r = .slice (some ⟨g, 0, none⟩) l.length cap) w) := by
 obtain ⟨n, Q⟩ := zex (l.length);have A := hid Q;have V := hid U;have L := hid t;rw [<- Q] at H p ⊢;clear Q U t;have f : ¬ (n : Int) < 2 := by omega
 go_enter Tryz.func86, Tryz.ntmps86;go_wp2_with fail;go_loopw [3] (fun t3 wr => ∃ k : Nat, t3 = .int .i64 k /\ 1 <= k /\ k <= n /\ Below w.heap.size w wr) (fun t3 _ => n - (RowKit.intOf t3).toNat)
 case atStart => exact ⟨1, rfl, Nat.le_refl _, by omega, Below.refl _ _⟩
 case round =>
  obtain ⟨k, rfl, j, i, Y⟩ := hrel;rcases Nat.lt_or_ge k n with G | G
  ·obtain ⟨Z, rfl⟩ : ∃ Z, k = Z + 1 := ⟨k - 1, by omega⟩
   rw [show ((Z + 1 : Nat) : Int) = (Z : Int) + 1 from rfl];obtain ⟨x, hx⟩ : ∃ x, l[Z]? = some x := ⟨_, List.getElem?_eq_getElem (by have := A.out; omega)⟩;obtain ⟨y, hy⟩ : ∃ y, l[Z + 1]? = some y := ⟨_, List.getElem?_eq_getElem (by have := A.out; omega)⟩;have N : ¬ y = x := fun e => by
    obtain ⟨q, M⟩ := List.getElem?_eq_some_iff.1 hx;obtain ⟨o, J⟩ := List.getElem?_eq_some_iff.1 hy;have := (List.getElem_inj (h₀ := o) (h₁ := q) L.out).1 (by rw [M, J, e]);omega
   obtain ⟨⟨c0, -⟩, S, -⟩ := V.out Z x hx;obtain ⟨⟨c1, -⟩, R, -⟩ := V.out (Z + 1) y hy;replace c0 := (zcq Y X c0 :);replace S := (zcq Y X S :);replace c1 := (zcq Y X c1 :);replace R := (zcq Y X R :);have z : (Z : Int) + 1 < (n : Int) := by omega
   have v : (Z : Int) < (n : Int) := by omega
   have E : IntKind.i64.wrap ((Z : Int) + 1) = (Z : Int) + 1 := IntWalk.i64_in _ (by omega);have D : IntKind.i64.wrap ((Z : Int) + 1 - 1) = (Z : Int) := by rw [show (Z : Int) + 1 - 1 = (Z : Int) by omega]; exact IntWalk.i64_in _ (by omega)
   have C : IntKind.i64.wrap (Z : Int) = (Z : Int) := IntWalk.i64_in _ (by omega);have h : (0 : Int) <= (Z : Int) + 1 := by omega
   have B : ((Z : Int) + 1).toNat = Z + 1 := by omega
   have s := hid (tps y x);have K := hid N;clear hx hy N;go_upto_region 6 with fail;go_cut [25] (fun s25 wx => s25 = .bool false /\ Below wr.heap.size wr wx)
   case first =>
    rcases s.out with ⟨e, M, J⟩ | ⟨e, M | ⟨M, J⟩⟩
    ·exact absurd e K.out
    all_goals
     clear e;go_quiet (fail);go_wp2_with fail;go_meet;exact ⟨rfl, bdN _ _⟩
   case rest =>
   obtain ⟨rfl, I⟩ := hcut;have O := zbt Y I;clear E D C B c0 S c1 R;go_wp2_with fail;go_roundw
   case rel => exact ⟨Z + 1 + 1, by go_num, by omega, by omega, O⟩
   case measure => simp [RowKit.intOf]; omega
  ·have m : (n : Int) <= (k : Int) := by omega
   go_wp2_with fail;go_ret;exact ⟨_, rfl, rfl, Y⟩
def RevTo (l L : List PtQ) (i : Nat) : Prop := L.length = l.length /\ ∀ a, a < l.length -> L[a]? = if a < i \/ l.length <= a + i then l[l.length - 1 - a]? else l[a]?
theorem RevTo.start (l : List PtQ) : RevTo l l 0 := ⟨rfl, fun a ha => by rw [if_neg (by omega)]⟩
theorem RevTo.step {l L : List PtQ} {i j : Nat} (h : RevTo l L i) (U : i + j + 1 = l.length) (S : i < j) {x y : PtQ} (hx : L[i]? = some x) (hy : L[j]? = some y) : RevTo l ((L.set i y).set j x) (i + 1) := by
 obtain ⟨V, X⟩ := h;refine ⟨by rw [List.length_set, List.length_set, V], fun a ha => ?_⟩;have Z := X i (by omega);have Y := X j (by omega);rw [hx, if_neg (by omega)] at Z;rw [hy, if_neg (by omega)] at Y;rw [List.getElem?_set, List.getElem?_set, List.length_set, V];by_cases e1 : j = a
 ·subst e1
  rw [if_pos rfl, if_pos ha, if_pos (by omega), show l.length - 1 - j = i by omega];exact Z
 ·rw [if_neg e1]
  by_cases e2 : i = a
  ·subst e2
   rw [if_pos rfl, if_pos ha, if_pos (by omega), show l.length - 1 - i = j by omega];exact Y
  ·rw [if_neg e2, X a ha]
   by_cases c : a < i \/ l.length <= a + i
   ·rw [if_pos c, if_pos (by omega)]
   ·rw [if_neg c, if_neg (by omega)]
theorem RevTo.done {l L : List PtQ} {i j : Nat} (h : RevTo l L i) (V : i + j + 1 = l.length) (X : j <= i) : L = l.reverse := by
 obtain ⟨U, Y⟩ := h;apply List.ext_getElem?;intro a;rcases Nat.lt_or_ge a l.length with Z | Z
 ·rw [Y a Z, List.getElem?_reverse Z]
  by_cases c : a < i \/ l.length <= a + i
  ·rw [if_pos c]
  ·rw [if_neg c]
   congr 1;omega
 ·rw [List.getElem?_eq_none (by omega), List.getElem?_eq_none (by rw [List.length_reverse]; omega)]
theorem rPa (w : World) (g cap : Nat) (l : List PtQ) (t : l.length <= 12) (d : 1 <= l.length) (V : RowP w g l) (v : g < w.heap.size) :
 Calls Tryz.prog 88 #[.slice (some ⟨g, 0, none⟩) l.length cap] w (fun e w' => e = .returned (.tuple #[]) /\ RowP w' g l.reverse /\ w.grownBy w' (some g)) := by
 obtain ⟨n, R⟩ := zex (l.length);have E := hid R;have X := hid V;rw [<- R] at t d ⊢;clear R V;go_enter Tryz.func88, Tryz.ntmps88;go_wp2_with fail;obtain ⟨m, hm⟩ : ∃ m : Nat, m + 1 = n := ⟨n - 1, by omega⟩;have H : (n : Int) - 1 = (m : Int) := by omega
 rw [H];have h5 : m + 1 <= n := by omega
 have h6 : n <= m + 1 := by omega
 clear hm H;go_loopw [2, 3] (fun t2 t3 wr => ∃ (i j : Nat) (L : List PtQ), t2 = .int .i64 i /\ t3 = .int .i64 j /\ i + j + 1 <= n /\ n <= i + j + 1 /\ Hid (RevTo l L i) /\ Hid (RowP wr g L) /\ w.grownBy wr (some g)) (fun t2 _ _ => n - (RowKit.intOf t2).toNat)
 case atStart => exact ⟨0, m, l, rfl, rfl, by omega, by omega, RevTo.start l, X.out, grl _ _⟩
 case round =>
  obtain ⟨i, j, L, rfl, rfl, r, q, Z, N, Y⟩ := hrel;clear X;rcases Nat.lt_or_ge i j with S | S
  ·have a : (i : Int) < (j : Int) := by omega
   have s : g < wr.heap.size := Nat.lt_of_lt_of_le v Y.size;have z : L.length = n := by rw [Z.out.1, E.out]
   obtain ⟨x, hx⟩ : ∃ x, L[i]? = some x := ⟨_, List.getElem?_eq_getElem (by omega)⟩;obtain ⟨y, hy⟩ : ∃ y, L[j]? = some y := ⟨_, List.getElem?_eq_getElem (by omega)⟩;obtain ⟨⟨c0, f0⟩, D, B⟩ := N.out i x hx;obtain ⟨⟨c1, f1⟩, C, A⟩ := N.out j y hy;have M : Hid (RevTo l ((L.set i y).set j x) (i + 1)) := RevTo.step Z.out (by have := E.out; omega) S hx hy;have O : Hid (i < L.length /\ j < L.length) := by unfold Hid; omega
   have b : (i : Int) < (n : Int) := by omega
   have h3 : (j : Int) < (n : Int) := by omega
   have p : i ≠ j := by omega
   have o : j ≠ i := by omega
   obtain ⟨k, I⟩ : ∃ k : Nat, j = k + 1 := ⟨j - 1, by omega⟩;have f := hid I;have h4 : (0 : Int) < (j : Int) := by omega
   clear hx hy z I;go_upto_region 3 with fail;go_region;have U : Hid (RowP ((((wr.setCell ⟨g, i * 2, none⟩ (.string (RS y.1))).setCell ⟨g, i * 2 + 1, none⟩ (.string (RS y.2))).setCell ⟨g, j * 2, none⟩ (.string (RS x.1))).setCell ⟨g, j * 2 + 1, none⟩ (.string (RS x.2))).drew g ((L.set i y).set j x)) :=
    ((N.out.set i y O.out.1).set j x (by rw [List.length_set]; exact O.out.2)).drew
   have K : w.grownBy ((((wr.setCell ⟨g, i * 2, none⟩ (.string (RS y.1))).setCell ⟨g, i * 2 + 1, none⟩ (.string (RS y.2))).setCell ⟨g, j * 2, none⟩ (.string (RS x.1))).setCell ⟨g, j * 2 + 1, none⟩ (.string (RS x.2))).drew (some g) :=
    gbw (gst (gst (gst (gst Y (i * 2) _) (i * 2 + 1) _) (j * 2) _) (j * 2 + 1) _) (bdN _ 1)
   have Q : (j : Int) - 1 = ((j - 1 : Nat) : Int) := by omega
   obtain ⟨G, J⟩ := zex (j - 1);rw [<- J] at Q;have h0 : G + 1 <= j := by omega
   have h2 : j <= G + 1 := by omega
   have h7 : IntKind.i64.wrap ((j : Int) - 1) = (G : Int) := by rw [Q]; exact IntWalk.i64_in _ (by omega)
   clear c0 f0 D B c1 f1 C A N Z Y Q J;go_wp2_with fail;go_roundw
   case rel => exact ⟨i + 1, G, _, by go_num, by first | rfl | (congr 1; omega), by omega, by omega, M, U, K⟩
   case measure => simp [RowKit.intOf]; omega
  ·have c : ¬ (i : Int) < (j : Int) := by omega
   have h : Hid (L = l.reverse) := RevTo.done Z.out (by have := E.out; omega) S;have U : Hid (RowP wr g l.reverse) := by unfold Hid; rw [<- h.out]; exact N.out
   go_wp2_with fail;go_end0;exact ⟨rfl, U.out, Y⟩
theorem gPa (w : World) (n : Nat) (K : 0 < n) (D : n <= 1000) :
 Calls Tryz.prog 183 #[.slice none 0 0, .int .i64 (n : Int)] w (Ret (fun r w' => PtsV w' w.heap.size r []) w) := by
 obtain ⟨M, I, O, N, U⟩ := info_parts ip9;have X : (Builtin.firstCells M.size 0 (.slice none 0 0)).run Tryz.prog w.drew = .ok ([] : List Value).toArray w.drew := run_firstCells_none w.drew M.size 0 0 0;have Z : ∀ ty, _ := fun ty => Lib.run_append_grow_zeros (P := Tryz.prog) w 32 3 ty 50 M (.agg #[.string ⟨#[]⟩, .string ⟨#[]⟩]) .i64 .i64 Tryz.underlying32 Tryz.underlying3 I O none 0 0 [] X n K (by rw [N]; omega) (by omega) (by omega) (by rw [U]; omega) (growslice_fits (by omega) (by rw [U]; omega))
 rw [Nat.zero_add] at Z;have R : n <= grownCap w n 0 50 := grownCap_ge w _ _ _;have Y : grownCap w n 0 50 <= maxLen := grownCap_le_maxLen w n 0 _ (by unfold maxLen; omega);obtain ⟨G, L⟩ := zex (grownCap w n 0 50);rw [<- L] at Z R Y;have V : Hid ((w.drew.alloc (.cells (([] : List Value).toArray ++ Builtin.zeroCells (Value.agg #[.string ⟨#[]⟩, .string ⟨#[]⟩]).cells n ++ Builtin.zeroCells (Value.agg #[.string ⟨#[]⟩, .string ⟨#[]⟩]).cells (G - n)) 50)).ownsRow w.heap.size 50 2 (.slice (some ⟨w.heap.size, 0, none⟩) 0 G) 0 []) :=
  World.ownsRow_made w.drew _ G (Nat.le_refl _) Y (by rw [Array.size_append, Array.size_append, size_zeroCells, size_zeroCells]; show 0 + n * 2 + (G - n) * 2 = G * 2; omega)
 obtain ⟨W, Q⟩ := zex (w.drew.alloc (.cells (([] : List Value).toArray ++ Builtin.zeroCells (Value.agg #[.string ⟨#[]⟩, .string ⟨#[]⟩]).cells n ++ Builtin.zeroCells (Value.agg #[.string ⟨#[]⟩, .string ⟨#[]⟩]).cells (G - n)) 50));have J : Below w.heap.size w W := by rw [Q]; exact (bdN w 1).alloc (Nat.le_refl _) _
 rw [<- Q] at V Z;have S := hid Z;have H : ¬ ((n : Int) < 0) := by omega
 have E : (n : Int) > 0 := by omega
 clear Q Z L X;go_enter Tryz.func183, Tryz.ntmps183;go_wp2_with (at_builtin; refine Lib.wpList_append_run _ rfl _ _ _ _ rfl _ _ rfl rfl _ _ (S.out _) ?_);go_ret;exact ⟨_, rfl, V.out, J⟩
theorem cn0 (l : List PtQ) : ∀ u ∈ cPP (strP l), u.oneCell' = true := by
 intro y hy;unfold cPP at hy;obtain ⟨q, _, hq⟩ := List.mem_flatMap.1 hy;simp at hq;rcases hq with rfl | rfl <;> rfl
theorem cm0 (l : List PtQ) : (cPP (strP l)).length = l.length * 2 := by
 have h := cPt l l.length
 induction l with
 | nil => rfl
 | cons a l ih =>
   show (_ :: _ :: cPP (strP l)).length = _;rw [List.length_cons, List.length_cons, ih (cPt l l.length), List.length_cons];omega
theorem c0a (w : World) (p b o c d : Nat) (l : List PtQ) (k : 0 < l.length) (hl : l.length <= 100) (f : RdP w (.slice (some ⟨b, o, none⟩) l.length c) (strP l)) (S : BoxN w p 32 [.slice (some ⟨b, o, none⟩) l.length c, .slice (some ⟨b, o, none⟩) 0 d]) :
 Calls Tryz.prog 139 #[.slice (some ⟨p, 0, none⟩) 2 2] w (Ret (fun r w' => PtsV w' w.heap.size r l) w) := by
 obtain ⟨a, g, N, M, L⟩ := info_parts ip9;have B : Hid (∀ w', Below w.heap.size w w' -> ∀ (j : Nat) (u : Value), (cPP (strP l))[j]? = some u -> w'.cell? ((⟨b, o, none⟩ : Addr).add j) = some u) := fun w' hb j u J => by
  have H : (⟨b, o, none⟩ : Addr).add j = ⟨b, o + j, none⟩ := by unfold Addr.add; split <;> simp_all
  rw [H];obtain ⟨p', c', e, -, -, -, h4⟩ := RdC.below f hb;injection e with e1 e2 e3
  obtain ⟨b', o', E, hc⟩ := h4 (fun e => by rw [e] at J; simp at J);rw [<- e1] at E;injection E with E
  injection E with e4 e5 e6
  subst e4;subst e5;exact hc j u J
 have q : Hid (∀ w, _) := fun w => gPa w l.length k (by omega)
 have A := hid (cn0 l);have I := hid (cm0 l);obtain ⟨n, v⟩ := zex (l.length);have HN := hid v;rw [<- v] at k hl S q I;clear v f;have D := S.cell 0 rfl;have C := S.cell 1 rfl;have h1 := S.lt;have h2 : ¬ (n : Int) < 0 := by omega
 go_enter Tryz.func139, Tryz.ntmps139;go_wp2_with fail;go_loop [3, 11] (fun t3 t11 => ∃ i s : Nat, t11 = .int .i64 i /\ i <= 2 /\ t3 = .int .i64 s /\ (i = 0 -> s = 0) /\ (1 <= i -> s = n)) (fun _ t11 => 2 - (RowKit.intOf t11).toNat)
 case atStart => exact ⟨0, 0, rfl, by omega, rfl, fun _ => rfl, fun h => by omega⟩
 case round =>
  obtain ⟨i, s, rfl, y, rfl, U, V⟩ := hrel;rcases (by omega : i = 0 \/ i = 1 \/ i = 2) with rfl | rfl | rfl
  ·obtain rfl : s = 0 := U rfl
   clear U V;rw [show ((0 : Nat) : Int) = 0 from rfl];go_wp2_with fail
   go_round
   case rel => exact ⟨1, n, rfl, by omega, rfl, fun h => by omega, fun _ => rfl⟩
   case measure => simp [RowKit.intOf]
  ·obtain rfl : s = n := V (Nat.le_refl _)
   clear U V;rw [show ((1 : Nat) : Int) = 1 from rfl];go_wp2_with fail
   go_round
   case rel => exact ⟨2, s, rfl, by omega, rfl, fun h => by omega, fun _ => rfl⟩
   case measure => simp [RowKit.intOf]
  ·obtain rfl : s = n := V (by omega)
   clear U V;rw [show ((2 : Nat) : Int) = 2 from rfl];go_wp2_with fail;refine (q.out w).mono ?_;rintro e w1 ⟨v6, rfl, G, K⟩;have O := S.below K S.lt;clear D C;go_wp2_with fail;go_loopw [6, 27] (fun t6 t27 wr => ∃ (i m : Nat) (x : List Value), t27 = .int .i64 i /\ i <= 2 /\ wr.ownsRow w.heap.size 50 2 t6 m x /\ (i = 0 -> m = 0 /\ x = []) /\ (1 <= i -> m = s /\ x = cPP (strP l)) /\ Below w.heap.size w wr) (fun _ t27 _ => 2 - (RowKit.intOf t27).toNat)
   case atStart => exact ⟨0, 0, [], rfl, by omega, G, fun _ => ⟨rfl, rfl⟩, fun h => by omega, K⟩
   case round =>
    clear G K O;obtain ⟨i, m, x, rfl, y, Y, U, V, R⟩ := hrel;have O := S.below R S.lt;have D := O.cell 0 rfl;have C := O.cell 1 rfl;have h3 := R.size;obtain ⟨p6, c6, rfl⟩ := oRs Y;rcases (by omega : i = 0 \/ i = 1 \/ i = 2) with rfl | rfl | rfl
    ·obtain ⟨rfl, rfl⟩ := U rfl
     clear U V;rw [show ((0 : Nat) : Int) = 0 from rfl]
     go_wp2_with (at_builtin; refine wpList_append_own _ rfl _ _ 32 rfl w.heap.size 50 a (.agg #[.string ⟨#[]⟩, .string ⟨#[]⟩]) 2 32 Tryz.underlying32 g N M L rfl (by decide) _ 0 [] rfl Y ⟨b, o, none⟩ s c (cPP (strP l)) rfl I.out (B.out _ R) A.out (by unfold maxLen; omega) (by omega) (by omega) ?_
                  intro v7 t X Z _;have Q : Below w.heap.size w t := R.grown Z (by omega) (fun j hj => (Y.lt j hj).1);clear Z)
     rw [Nat.zero_add, List.nil_append] at X;clear D C Y;go_wp2_with fail;go_roundw
     case rel => exact ⟨1, s, cPP (strP l), rfl, by omega, X, fun h => by omega, fun _ => ⟨rfl, rfl⟩, Q⟩
     case measure => simp [RowKit.intOf]
    ·obtain ⟨rfl, rfl⟩ := V (Nat.le_refl _)
     clear U V;rw [show ((1 : Nat) : Int) = 1 from rfl]
     go_wp2_with (at_builtin; refine wpList_append_own _ rfl _ _ 32 rfl w.heap.size 50 a (.agg #[.string ⟨#[]⟩, .string ⟨#[]⟩]) 2 32 Tryz.underlying32 g N M L rfl (by decide) _ m (cPP (strP l)) rfl Y ⟨b, o, none⟩ 0 d [] rfl rfl (by intro j u J; simp at J) (by intro u J; cases J) (by unfold maxLen; omega) (by omega) (by omega) ?_
                  intro v7 t X Z _;have Q : Below w.heap.size w t := R.grown Z (by omega) (fun j hj => (Y.lt j hj).1);clear Z)
     rw [Nat.add_zero, List.append_nil] at X;clear D C Y;go_wp2_with fail;go_roundw
     case rel => exact ⟨2, m, cPP (strP l), rfl, by omega, X, fun h => by omega, fun _ => ⟨rfl, rfl⟩, Q⟩
     case measure => simp [RowKit.intOf]
    ·obtain ⟨rfl, rfl⟩ := V (by omega)
     clear U V;rw [show ((2 : Nat) : Int) = 2 from rfl];have z : Hid (PtsV wr w.heap.size (.slice p6 m c6) l) := by unfold Hid PtsV; rw [<- HN.out]; exact Y
     clear Y;go_wp2_with fail;go_ret;exact ⟨_, rfl, z.out, R⟩
def turnT (T : List Tri) (i k : Nat) (u v p q : Int) : List Tri := (T.set (min i k) (u, q, p)).set (max i k) (q, v, p)
def turnC (P : List PtQ) (T : List Tri) (i k : Nat) (u v p q : Int) (s t : Tri) : Prop :=
 i ≠ k /\ s.1 + s.2.1 + s.2.2 - u - v = p /\ t.1 + t.2.1 + t.2.2 - u - v = q /\ (0 <= p /\ p < (P.length : Int)) /\ (0 <= q /\ q < (P.length : Int)) /\
  (0 < turnZ (ptI P u) (ptI P q) (ptI P p) -> 0 < turnZ (ptI P q) (ptI P v) (ptI P p) -> formB P (turnT T i k u v p q) = true)
instance (P : List PtQ) (T : List Tri) (i k : Nat) (u v p q : Int) (s t : Tri) : Decidable (turnC P T i k u v p q s t) := by unfold turnC; infer_instance
theorem pq0 (a : Addr) (n c : Nat) (w : World) : (binOp BinOp.eql 32 (.slice (some a) n c) (.slice none 0 0)).run Tryz.prog w = .ok (.bool false) w := by kernel_rfl
theorem ocP (l : List PtS) : ∀ u ∈ cPP l, u.oneCell' = true := by
 intro y hy;unfold cPP at hy;obtain ⟨q, _, hq⟩ := List.mem_flatMap.1 hy;simp at hq;rcases hq with rfl | rfl <;> rfl
theorem cw0 (w : World) (H : Value) (X : List PtS) (h : RdP w H X) (R : X ≠ []) (t : X.length <= 1000000) :
 Calls Tryz.prog 83 #[H] w (Ret (fun r w' => w'.ownsRow w.heap.size 50 2 r X.length (cPP X)) w) := by
 obtain ⟨z, B, M, L, K⟩ := info_parts iPt;have A := List.length_pos_iff.2 R;obtain ⟨p, c, rfl, x, v, O, J⟩ := h;have S : (cPP X).length = X.length * 2 := O;obtain ⟨b, off, rfl, V⟩ := J (List.ne_nil_of_length_pos (by rw [O]; omega));have D : Hid (∀ o, ∀ (j : Nat) (u : Value), (cPP X)[j]? = some u -> (w.alloc o).cell? ((⟨b, off, none⟩ : Addr).add j) = some u) := fun o j u hu => by
  have U : (⟨b, off, none⟩ : Addr).add j = ⟨b, off + j, none⟩ := by unfold Addr.add; split <;> simp_all
  rw [U];exact cal o (V j u hu)
 have C := hid (ocP X);have E := hid S;clear O J V R S;have I := pq0;go_enter Tryz.func83, Tryz.ntmps83
 go_wp2_with (at_builtin; refine wpList_append_own _ rfl _ _ 32 rfl w.heap.size 50 z (.agg #[.string ⟨#[]⟩, .string ⟨#[]⟩]) 2 32 Tryz.underlying32 B M L K rfl (by decide) (.slice (some ⟨w.heap.size, 0, none⟩) 0 0) 0 [] rfl (World.ownsRow_made w #[] 0 (Nat.le_refl _) (by decide) rfl) ⟨b, off, none⟩ X.length c (cPP X) rfl E.out (D.out _) C.out (by unfold maxLen; omega) (by omega) (by simp) ?_
              intro y G Z Y _;have N : Below w.heap.size w G := ((Below.refl _ _).alloc (Nat.le_refl _) _).grown Y (by simp) (fun j hj => by simp [Value.ownBlock] at hj; omega);clear Y)
 have Q : Hid (G.ownsRow w.heap.size 50 2 y X.length (cPP X)) := by
  rw [Nat.zero_add, List.nil_append] at Z;exact Z
 clear Z;go_wp2_with fail;go_ret;exact ⟨_, rfl, Q.out, N⟩
theorem olP {w : World} {base base' e sz n : Nat} {v : Value} {xs : List Value} (h : w.ownsRow base e sz v n xs) (Z : base' <= base) : w.ownsRow base' e sz v n xs :=
 ⟨h.1, h.2.imp id fun ⟨g, cap, cur, a, b, c⟩ => ⟨g, cap, cur, a, Nat.le_trans Z b, c⟩⟩
theorem fPa (w : World) (v : Value) (l : List PtQ) (N : 0 < l.length) (hb : l.length <= 12) (hs : ∀ p ∈ l, SzP 200 p) (k : ∀ j : Nat, j < l.length -> ¬ ltP (ptI l j) (ptI l (0 : Nat))) (hv : RdP w v (strP l)) (E : Good w) :
 Calls Tryz.prog 89 #[v] w (Ret (fun r w' => ∃ u, r = .tuple #[u, .int .i64 0] /\ PtsV w' w.heap.size u l) w) := by
 have A : Hid (∀ p ∈ l, ∀ w, Good w -> _) := fun p hp w E => pok p (hs p hp) w E;have B : Hid (∀ i (hi : i < l.length), SzP 200 l[i] /\ ¬ cmpP l[i] l[0] < 0) := fun i hi => ⟨hs _ (List.getElem_mem hi), fun h => k i hi (by rw [pIn l i hi, pIn l 0 N]; exact (cPn _ _).1 h)⟩
 have Z0 : Hid (SzP 200 l[0]) := hs _ (List.getElem_mem N);have HV := hid hv;obtain ⟨M, I, c0, rfl, R, o⟩ := hv.cells N;obtain ⟨_, _, e, h9, n, -⟩ := hv;injection e with e1 e2 e3
 subst e3;rw [sPl] at h9;have ha : c0 <= 9223372036854775807 := n;have C := hid o;obtain ⟨x0, G⟩ : ∃ x, x = l[0] := ⟨_, rfl⟩;have h3 := hid G;rw [<- G] at B Z0;have h2 : Hid (∀ p ∈ l, ∀ w, Good w -> Calls Tryz.prog 138 #[.agg #[.string (RS p.1), .string (RS p.2)]] w (Ret (fun r _ => r = .int .i64 0) w)) := A.out;clear hs k o e1 e2 G A n;have hc : ¬ (l.length : Int) > 60 := by omega
 go_enter Tryz.func89, Tryz.ntmps89;go_wp2_with fail;go_loopw [4, 13] (fun t4 t13 wr => ∃ i : Nat, t13 = .int .i64 i /\ i <= l.length /\ t4 = .int .i64 0 /\ Below w.heap.size w wr) (fun _ t13 _ => l.length - (RowKit.intOf t13).toNat)
 case atStart => exact ⟨0, rfl, Nat.zero_le _, rfl, Below.refl _ _⟩
 case round =>
  obtain ⟨i, rfl, he, rfl, Q⟩ := hrel;rcases Nat.lt_or_ge i l.length with O | O
  ·have hf : (i : Int) < (l.length : Int) := by omega
   obtain ⟨d, c⟩ := C.out i O;replace d := (zcq Q R d :);replace c := (zcq Q R c :);rw [pIn l i O] at d c;obtain ⟨zx, g⟩ := B.out i O;have HP := hid (h2.out l[i] (List.getElem_mem O));have HL := hid (fun w E => pe0 l[i] x0 200 (by omega) (by omega) zx Z0.out w E);obtain ⟨x, hx⟩ := zex (l[i]);rw [<- hx] at d c g HP HL;obtain ⟨cz, m⟩ := zex (cmpP x x0);rw [<- m] at g HL;clear hx zx m;go_upto_region 7 with fail;obtain ⟨V, K⟩ := zex (wr.alloc (.cells #[.string (RS x.1), .string (RS x.2)] 50));have J : Below wr.heap.size wr V := by rw [K]; exact zal _ _
   have y : BoxN V wr.heap.size 50 [.string (RS x.1), .string (RS x.2)] := by rw [K]; exact BoxN.new _ _ _ _ rfl
   rw [<- K];have X := zbt Q J;have b := y.cell 0 rfl;have a := y.cell 1 rfl;clear K d c;go_wp2_with fail;refine (HP.out V (E.below X)).mono ?_;rintro e Y ⟨_, rfl, rfl, t⟩;have U := zbt X t;have L := y.below t y.lt;clear b a y J;have b := L.cell 0 rfl;have a := L.cell 1 rfl;have lx := L.lt;obtain ⟨u0, u1⟩ := C.out 0 N;replace u0 := (zcq U R u0 :);replace u1 := (zcq U R u1 :);rw [pIn l 0 N, <- h3.out] at u0 u1;rw [Nat.zero_mul, Nat.add_zero] at u0 u1;have hh : M < Y.heap.size := Nat.lt_of_lt_of_le R U.size;have H : Good Y.drew := (E.below U).drewN 1;have h4 : ¬ l = [] := fun e => by rw [e] at N; exact absurd N (by decide)
   have h5 : (0 : Int) < (l.length : Int) := by omega
   go_upto_region 10 with fail;go_cut [29] (fun s29 wx => s29 = .bool false /\ Below Y.heap.size Y wx)
   case first =>
    go_region_held3 (fun w' => w'.cell? ⟨wr.heap.size, 0, none⟩ = some (.string (RS x.1)) /\ w'.cell? ⟨wr.heap.size, 1, none⟩ = some (.string (RS x.2)) /\ w'.cell? ⟨M, I, none⟩ = some (.string (RS x0.1)) /\ w'.cell? ⟨M, I + 1, none⟩ = some (.string (RS x0.2)))
     (first | exact ⟨b, a, u0, u1⟩ | exact ⟨p_1_0, p_1_1, p_1_2, p_1_3⟩)
     (first
     | (go_at_call 85; refine (HL.out _ H).mono ?_; rintro e f ⟨_, rfl, rfl, S⟩
        have p_1_0 := zct S b;have p_1_1 := zct S a;have p_1_2 := zct S u0;have p_1_3 := zct S u1;have hk : Y.heap.size <= f.heap.size := S.size;have hj := H.below S))
    have pB : Below Y.heap.size Y f := zbt (bdN Y 1) S;go_wp2_with fail;go_meet;exact ⟨congrArg Value.bool (decide_eq_false (by omega)), pB⟩
   case rest =>
   obtain ⟨rfl, h8⟩ := hcut;have q := zbt U h8;clear b a u0 u1 H L;go_wp2_with fail;go_roundw
   case rel => exact ⟨i + 1, by go_num, by omega, rfl, q⟩
   case measure => simp [RowKit.intOf]; omega
  ·have hd : ¬ (i : Int) < (l.length : Int) := by omega
   obtain ⟨D, hD⟩ := zex (wr.drew);have h6 : Below w.heap.size w D := by rw [hD]; exact Q.trans ((bdN wr 1).mono Q.size)
   obtain ⟨V, K⟩ := zex (D.alloc (.cells #[.slice (some ⟨M, I, none⟩) l.length c0, .slice (some ⟨M, I, none⟩) 0 c0] 32));have J : Below D.heap.size D V := by rw [K]; exact zal _ _
   have bs : BoxN V D.heap.size 32 [.slice (some ⟨M, I, none⟩) l.length c0, .slice (some ⟨M, I, none⟩) 0 c0] := by rw [K]; exact BoxN.new _ _ _ _ rfl
   have X := zbt h6 J;have z : RdP V (.slice (some ⟨M, I, none⟩) l.length c0) (strP l) := RdC.below HV.out X;have h1 := hid (c0a V D.heap.size M I c0 c0 l N (by omega) z bs);have h4 : ¬ l = [] := fun e => by rw [e] at N; exact absurd N (by decide)
   have h5 : (0 : Int) <= (l.length : Int) := by omega
   clear bs z;go_upto_region 13 with fail
   go_still_tail 6, (by kernel_rfl)
   change wpList _ _ _ _ _ wr.drew;rw [<- hD];clear hD;go_wp2_with fail;rw [<- K];clear K;refine h1.out.mono ?_;rintro e Z ⟨u, rfl, hu, h7⟩;have s := zbt X h7;go_wp2_with fail;go_ret2;exact ⟨_, rfl, ⟨u, rfl, olP hu X.size⟩, s⟩
theorem pCp (x : PtQ) : ∀ s : List PtQ, 0 < s.length -> 0 < (popC x s).length
 | [], h => by simp at h
 | [b], _ => by rw [pCs x [b] (by simp)]; simp
 | b :: a :: s, _ => by
   rw [popC];split
   ·exact pCp x (a :: s) (by simp)
   ·simp
theorem sz0 (l : List PtQ) : ∀ i, i <= l.length -> 2 <= i -> 2 <= (stI l i).length
 | 0, _, h => by omega
 | i + 1, hi, h => by
   rw [sIn (by omega), List.length_cons];have := pCp l[i] (stI l i) ((sIl l i (by omega)).2 (by omega));omega
theorem cLp {l : List PtQ} (h : 2 <= l.length) : 0 < (cLL l).length := by
 have := sz0 l l.length (Nat.le_refl _) h;rw [se0] at this;unfold cLL;rw [List.length_reverse, List.length_tail];omega
theorem hPa (w : World) (v : Value) (l : List PtQ) (hc : CvxL l) (hs : ∀ p ∈ l, SzP 200 p) (hv : RdP w v (strP l)) (hg : Good w) :
 Calls Tryz.prog 42 #[v] w (Ret (fun r w' => ∃ u, r = .tuple #[u, .int .i64 0] /\ PtsV w' w.heap.size u (begM l)) w) := by
 obtain ⟨zd, ze⟩ := cln hc;have he := hid (cnp hc);have h9 := hid hc;have HS := hid hs;have HV := hid hv;have z7 : Hid (∀ i (hi : i < l.length), ∀ w, Good w -> Calls Tryz.prog 32 #[.agg #[.string (RS l[i].1), .string (RS l[i].2)]] w (Ret (fun r _ => r = .int .i64 0) w)) := fun i hi w hg => cok l[i] (hs _ (List.getElem_mem hi)) w hg;obtain ⟨b0, o0, c0, rfl, hB, hL⟩ := hv.cells (by omega);have z4 := hid hL;obtain ⟨i0, hi, hU, hW, hX⟩ := info_parts ip9;obtain ⟨n, hn⟩ := zex (l.length);have K := hid hn;have z8 : Hid (RdP w (.slice (some ⟨b0, o0, none⟩) n c0) (strP l)) := by rw [hn]; exact HV.out
 rw [<- hn] at zd ze ⊢;have zf : ¬ (n : Int) > 200 := by omega
 clear hc hs hv hL hn HV;go_enter Tryz.func42, Tryz.ntmps42;go_wp2_with fail;go_loopw [14] (fun t14 wr => ∃ i : Nat, t14 = .int .i64 i /\ i <= n /\ Below w.heap.size w wr) (fun t14 _ => n - (RowKit.intOf t14).toNat)
 case atStart => exact ⟨0, rfl, Nat.zero_le _, Below.refl _ _⟩
 case round =>
  obtain ⟨i, rfl, zn, M⟩ := hrel;rcases Nat.lt_or_ge i n with zc | zc
  ·have zo : (i : Int) < (n : Int) := by omega
   have z : i < l.length := by have := K.out; omega
   obtain ⟨y0, y1⟩ := z4.out i z;replace y0 := (zcq M hB y0 :);replace y1 := (zcq M hB y1 :);rw [pIn l i z] at y0 y1;have HP := hid (z7.out i z);obtain ⟨x, hx⟩ := zex (l[i]);rw [<- hx] at y0 y1 HP;clear hx z;go_upto_region 6 with fail;obtain ⟨V, hV⟩ := zex (wr.alloc (.cells #[.string (RS x.1), .string (RS x.2)] 50));have hE : Below wr.heap.size wr V := by rw [hV]; exact zal _ _
   have bx : BoxN V wr.heap.size 50 [.string (RS x.1), .string (RS x.2)] := by rw [hV]; exact BoxN.new _ _ _ _ rfl
   rw [<- hV];have q := zbt M hE;have z0 := bx.cell 0 rfl;have z1 := bx.cell 1 rfl;clear hV y0 y1;go_wp2_with fail;refine (HP.out V (hg.below q)).mono ?_;rintro e Y ⟨_, rfl, rfl, hF⟩;have hJ := zbt q hF;clear z0 z1 bx hE hF;go_wp2_with fail;go_roundw
   case rel => exact ⟨i + 1, by go_num, by omega, hJ⟩
   case measure => simp [RowKit.intOf]; omega
  ·have zm : ¬ (i : Int) < (n : Int) := by omega
   have zk := M.size;have h8 : Hid (Calls Tryz.prog 83 #[.slice (some ⟨b0, o0, none⟩) n c0] wr (Ret (fun r w' => PtsV w' wr.heap.size r l) wr)) :=
    (cw0 wr _ (strP l) (RdC.below z8.out M) (List.ne_nil_of_length_pos (by rw [sPl]; have := K.out; omega)) (by rw [sPl]; have := K.out; omega)).mono (by rintro e w' ⟨r, rfl, h, hb⟩; rw [sPl] at h; exact ⟨r, rfl, h, hb⟩)
   go_wp2_with fail;refine h8.out.mono ?_;rintro e o1 ⟨v7, rfl, hR, hC⟩;have ho := zbt M hC;obtain ⟨g, cap, rfl, hM, hN, zl, hO, U⟩ := hR.row (List.ne_nil_of_length_pos (by have := K.out; omega));have b : w.heap.size <= g := by omega
   have zb : n <= cap := by have := K.out; omega
   have hz : Hid (Calls Tryz.prog 84 #[.slice (some ⟨g, 0, none⟩) n cap, .func (.func 85) #[] #[]] o1 (fun e w' => e = .returned (.tuple #[]) /\ ∃ S, S.Perm l /\ STo (S.map (rankP l)) S.length /\ RowP w' g S /\ o1.grownBy w' (some g))) := by
    unfold Hid;rw [K.out];exact sr0 w o1 g cap l (by have := K.out; omega) 200 (by omega) (by omega) HS.out U hO ho b hg
   rw [<- K.out];clear h8 hR U hM hC;go_wp2_with fail;refine hz.out.mono ?_;rintro e o2 ⟨rfl, S, hP, hA, U, h2⟩;have z9 : Below w.heap.size w o2 := bgb ho h2 b;have G : g < o2.heap.size := Nat.lt_of_lt_of_le hO h2.size;have hf : Hid (S.Pairwise ltP) := sq0 he.out hP hA;have Z : Hid (S.length = n) := by unfold Hid; rw [hP.length_eq, K.out]
   have c := hid hP;have hh := hid U;have hw : Hid (Calls Tryz.prog 86 #[.slice (some ⟨g, 0, none⟩) n cap] o2 (Ret (fun r _ => r = .slice (some ⟨g, 0, none⟩) n cap) o2)) := by
    unfold Hid;rw [<- Z.out];exact cq0 o2 g cap S (hP.nodup_iff.2 he.out) (by have := Z.out; omega) (by have := Z.out; omega) U G
   clear hz hP hA U h2;go_wp2_with fail;refine hw.out.mono ?_;rintro e C ⟨_, rfl, rfl, A⟩;have a := zbt z9 A;have J : Hid (RowP C g S) := hh.out.below A G;have o : g < C.heap.size := Nat.lt_of_lt_of_le G A.size;have hl : Hid (∀ p ∈ S, SzP 200 p) := fun p hp => HS.out p (c.out.mem_iff.1 hp);have h6 : Hid (Calls Tryz.prog 87 #[.slice (some ⟨g, 0, none⟩) n cap] C (Ret (fun r w' => PtsV w' C.heap.size r (cLL S)) C)) := by
    unfold Hid;have h := pb0 C (.slice (some ⟨g, 0, none⟩) S.length cap) S 200 (by omega) (by omega) (by have := Z.out; omega) (by have := Z.out; omega) hl.out (J.out.rd (by have := Z.out; omega) hN) (hg.below a);rw [Z.out] at h;exact h
   have zj : ¬ (n : Int) < 3 := by omega
   clear hw hh A;go_wp2_with fail;refine h6.out.mono ?_;rintro e o4 ⟨v8, rfl, y, H⟩;have za := zbt a H;have s : Hid (RowP o4 g S) := J.out.below H o;have k : g < o4.heap.size := Nat.lt_of_lt_of_le o H.size;have hy : Hid (Calls Tryz.prog 88 #[.slice (some ⟨g, 0, none⟩) n cap] o4 (fun e w' => e = .returned (.tuple #[]) /\ RowP w' g S.reverse /\ o4.grownBy w' (some g))) := by
    unfold Hid;rw [<- Z.out];exact rPa o4 g cap S (by have := Z.out; omega) (by have := Z.out; omega) s.out k
   obtain ⟨p8, c8, rfl⟩ := y.shape;have zr := H.size;clear h6 J H;go_wp2_with fail;refine hy.out.mono ?_;rintro e o5 ⟨rfl, D, Q⟩;have hr : Below w.heap.size w o5 := bgb za Q b;have zg : g < o5.heap.size := Nat.lt_of_lt_of_le k Q.size;have f : PtsV o5 C.heap.size (.slice p8 (cLL S).length c8) (cLL S) := World.ownsRow.kept y Q (by
    by_cases e : (Value.slice p8 (cLL S).length c8).ownBlock = none
    ·exact .inl e
    ·refine .inr fun h => ?_
     have := (y.lt g h).1;omega)
   have h7 : Hid (Calls Tryz.prog 87 #[.slice (some ⟨g, 0, none⟩) n cap] o5 (Ret (fun r w' => PtsV w' o5.heap.size r (cLL S.reverse)) o5)) := by
    unfold Hid;have h := pb0 o5 (.slice (some ⟨g, 0, none⟩) S.reverse.length cap) S.reverse 200 (by omega) (by omega) (by rw [List.length_reverse]; have := Z.out; omega) (by rw [List.length_reverse]; have := Z.out; omega) (fun p hp => hl.out p (List.mem_reverse.1 hp)) (D.rd (by rw [List.length_reverse]; have := Z.out; omega) hN) (hg.below hr);rw [List.length_reverse, Z.out] at h;exact h
   have zs := Q.size;clear hy s y D Q;go_wp2_with fail;refine h7.out.mono ?_;rintro e o6 ⟨v9, rfl, h5, h0⟩;have ht := zbt hr h0;have d := PtsV.below f h0;have ha : Hid (hullL S = begM l) := hh0 h9.out hf.out c.out;obtain ⟨hG, hH, hK⟩ := bMf h9.out hf.out c.out;have z2 := hid hK;have hZ := hid hH;have h1 : (begM l).length = n := by rw [hG, K.out]
   have N : (cLL S).length + (cLL S.reverse).length = n := by rw [<- h1, <- ha.out]; unfold hullL; rw [List.length_append]
   have E : 0 < (cLL S.reverse).length := cLp (by rw [List.length_reverse]; have := Z.out; omega);obtain ⟨g9, c9, rfl, -⟩ := h5.row (List.ne_nil_of_length_pos E);have z3 := hid (World.ownsRow.cells h5 (g := g9) rfl);have z6 := hid (cn0 (cLL S.reverse));have hd := hid (cm0 (cLL S.reverse));have R : o6.ownsRow C.heap.size 50 2 (.slice p8 (cLL S).length c8) (cLL S).length (cPP (strP (cLL S))) := d;obtain ⟨m8, h3⟩ : ∃ m, m = (cLL S).length := ⟨_, rfl⟩;obtain ⟨m9, h4⟩ : ∃ m, m = (cLL S.reverse).length := ⟨_, rfl⟩;have zh := hid h3;have zi := hid h4;rw [<- h3] at N R ⊢;rw [<- h4] at N hd ⊢;have zp : m8 + m9 <= 4 := by omega
   have B := hid h1;have hk := hid N;have hT : C.heap.size <= o6.heap.size := by have := h0.size; omega
   clear hG hH hK h1 N E h5 d f h3 h4 h7
   go_wp2_with (at_builtin; refine wpList_append_own _ rfl _ _ 32 rfl C.heap.size 50 i0 (.agg #[.string ⟨#[]⟩, .string ⟨#[]⟩]) 2 32 Tryz.underlying32 hi hU hW hX rfl (by decide) _ m8 (cPP (strP (cLL S))) rfl R ⟨g9, 0, none⟩ m9 c9 (cPP (strP (cLL S.reverse))) rfl hd.out z3.out z6.out (by unfold maxLen; omega) (by omega) hT ?_
                intro zt L X O hS;clear hS;rw [hk.out] at X;obtain ⟨hY, hm, rfl⟩ := oRs X;have I : Below w.heap.size w L := ht.grown O ht.size (fun j hj => by have := (R.lt j hj).1; have := a.size; omega);clear O)
   have t : Hid (PtsV L C.heap.size (.slice hY n hm) (begM l)) := by
    unfold Hid PtsV;rw [B.out, <- ha.out];unfold hullL;rw [sPa, cd0];exact X
   have z5 : Hid (Calls Tryz.prog 89 #[.slice hY n hm] L (Ret (fun r w' => ∃ u, r = .tuple #[u, .int .i64 0] /\ PtsV w' L.heap.size u (begM l)) L)) := by
    unfold Hid;exact fPa L _ (begM l) (by have := B.out; omega) (by have := B.out; omega) (fun p hp => HS.out p (hZ.out p hp)) (fun j hj => z2.out j (by have := B.out; have := K.out; omega)) t.out.rd (hg.below I)
   clear X t R;go_wp2_with fail;refine z5.out.mono ?_;rintro e zq ⟨_, rfl, ⟨u, rfl, hu⟩, hD⟩;have hq := zbt I hD;go_wp2_with fail;go_ret2;exact ⟨_, rfl, ⟨u, rfl, olP hu I.size⟩, hq⟩
end Go.Proofs.YtbfcmipplhkkeaaGreatDoor
