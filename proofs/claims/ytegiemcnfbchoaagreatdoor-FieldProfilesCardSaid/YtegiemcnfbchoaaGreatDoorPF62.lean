import Derived.Deep.MidRow
import Derived.Test.YtegiemcnfbchoaaGreatDoorPM34
/- Plain klippelaw38.ThicknessVertical returns true at every plan and place -/
set_option maxHeartbeats 2000000
namespace Go.Proofs.YtegiemcnfbchoaaGreatDoor
open Go.RowKit Go.Lib
theorem sz_of_div2 {m n : Int} {k : Nat} (hn : n ≠ 0) (hm : m.natAbs < 10 ^ k) (hn2 : n.natAbs < 10 ^ k) {q : Rat} (h : q * (n : Rat) = (m : Rat)) : Sz k q := by
 have hn' : (n : Rat) ≠ 0 := by simpa using hn
 have e : q = mkRat (if 0 < n then m else -m) n.natAbs := by
  rw [Rat.mkRat_eq_div];rcases Int.lt_or_lt_of_ne hn with h0 | h0
  ·rw [if_neg (by omega)]
   have : ((n.natAbs : Nat) : Rat) = -(n : Rat) := by
    have h1 : ((n.natAbs : Nat) : Int) = -n := by omega
    have : (((n.natAbs : Nat) : Int) : Rat) = ((-n : Int) : Rat) := by rw [h1]
    rw [Rat.intCast_neg] at this;exact this
   rw [this, Rat.intCast_neg, <- h];grind
  ·rw [if_pos h0]
   have : ((n.natAbs : Nat) : Rat) = (n : Rat) := by
    have h1 : ((n.natAbs : Nat) : Int) = n := by omega
    have : (((n.natAbs : Nat) : Int) : Rat) = ((n : Int) : Rat) := by rw [h1]
    exact this
   rw [this, <- h];grind
 rw [e];exact Sz.mkRat (by omega) (by split <;> omega) hn2
theorem num_den (q : Rat) : (q.num : Rat) = q * (q.den : Rat) := by
 have h := Rat.mkRat_self q;rw [Rat.mkRat_eq_div] at h;have hd : (q.den : Rat) ≠ 0 := by
  have := q.den_nz;intro e;exact this (by exact_mod_cast e)
 have h2 : (q.num : Rat) / (q.den : Rat) * (q.den : Rat) = q * (q.den : Rat) := by rw [h]
 rw [Rat.div_mul_cancel hd] at h2;exact h2
theorem share_Sz {u v : Rat} {i j : Nat} (hu : Sz i u) (hv : Sz j v) (h : u ≠ v) : Sz (i + j + 1) (u / (u - v)) := by
 have hu0 := num_den u;have hv0 := num_den v;have hne : u.num * (v.den : Int) - v.num * (u.den : Int) ≠ 0 := by
  intro e;apply h;have e2 : ((u.num * (v.den : Int) - v.num * (u.den : Int) : Int) : Rat) = 0 := by rw [e]; rfl
  rw [Rat.intCast_sub, Rat.intCast_mul, Rat.intCast_mul, hu0, hv0] at e2;have hd1 : (u.den : Rat) ≠ 0 := by have := u.den_nz; intro e; exact this (by exact_mod_cast e)
  have hd2 : (v.den : Rat) ≠ 0 := by have := v.den_nz; intro e; exact this (by exact_mod_cast e)
  have e3 : (u - v) * ((u.den : Rat) * (v.den : Rat)) = 0 := by
   have : ((v.den : Int) : Rat) = (v.den : Rat) := rfl;have : ((u.den : Int) : Rat) = (u.den : Rat) := rfl;grind
  rcases Rat.mul_eq_zero.1 e3 with h1 | h1
  ·grind
  ·rcases Rat.mul_eq_zero.1 h1 with h2 | h2
   ·exact absurd h2 hd1
   ·exact absurd h2 hd2
 have hp : (10 : Nat) ^ (i + j + 1) = 10 ^ i * 10 ^ j * 10 := by rw [Nat.pow_succ, Nat.pow_add]
 have ha : u.num.natAbs * v.den < 10 ^ i * 10 ^ j := Nat.mul_lt_mul'' hu.1 hv.2;have hb : v.num.natAbs * u.den < 10 ^ i * 10 ^ j := by rw [Nat.mul_comm (10 ^ i)]; exact Nat.mul_lt_mul'' hv.1 hu.2
 have hm1 : (u.num * (v.den : Int)).natAbs = u.num.natAbs * v.den := by rw [Int.natAbs_mul]; rfl
 have hm2 : (v.num * (u.den : Int)).natAbs = v.num.natAbs * u.den := by rw [Int.natAbs_mul]; rfl
 refine sz_of_div2 (m := u.num * (v.den : Int)) (n := u.num * (v.den : Int) - v.num * (u.den : Int)) hne ?_ ?_ ?_
 ·rw [hm1, hp]
  generalize 10 ^ i * 10 ^ j = X at *;omega
 ·have hs := Int.natAbs_sub_le (u.num * (v.den : Int)) (v.num * (u.den : Int))
  rw [hm1, hm2] at hs;rw [hp];generalize 10 ^ i * 10 ^ j = X at *;omega
 ·rw [Rat.intCast_sub, Rat.intCast_mul, Rat.intCast_mul, hu0, hv0]
  have hd : u - v ≠ 0 := by grind
  have h1 : u / (u - v) * (u - v) = u := Rat.div_mul_cancel hd;have e1 : ((v.den : Int) : Rat) = (v.den : Rat) := rfl;have e2 : ((u.den : Int) : Rat) = (u.den : Rat) := rfl;rw [e1, e2];generalize u / (u - v) = s at *;grind
theorem area_Sz3 {p q x : PtQ} {n : Nat} (hp : SzP 2 p) (hq : SzP 2 q) (hx : SzP n x) : Sz (2 * n + 17) (areaQ p q x) := by
 unfold areaQ;exact (((hq.1.sub hp.1).mul (hx.2.sub hp.2)).sub ((hq.2.sub hp.2).mul (hx.1.sub hp.1))).mono (by omega)
theorem wStep_Sz3 {a b p q : PtQ} {m : Nat} (zp : SzP 2 p) (zq : SzP 2 q) (za : SzP m a) (zb : SzP m b) {l r : Rat × Rat} (hl : Sz (4 * m + 35) l.1 /\ Sz (4 * m + 35) l.2) (h : wStep a b (some l) (p, q) = some r) : Sz (4 * m + 35) r.1 /\ Sz (4 * m + 35) r.2 := by
 have zu := area_Sz3 zp zq za;have zv := area_Sz3 zp zq zb;have zs : areaQ p q a ≠ areaQ p q b -> Sz (4 * m + 35) (areaQ p q a / (areaQ p q a - areaQ p q b)) := fun hn => (share_Sz zu zv hn).mono (by omega)
 unfold wStep at h;dsimp only at h;split at h
 ·split at h
  ·cases h
  ·cases h; exact hl
 ·rename_i hne
  split at h
  ·cases h; exact ⟨maxQ_Sz hl.1 (zs hne), hl.2⟩
  ·cases h; exact ⟨hl.1, minQ_Sz hl.2 (zs hne)⟩
theorem withinF_Sz3 {c0 c1 c2 a b : PtQ} {m : Nat} (z0 : SzP 2 c0) (z1 : SzP 2 c1) (z2 : SzP 2 c2) (za : SzP m a) (zb : SzP m b) {l : Rat × Rat} (h : wFF c0 c1 c2 a b = some l) : Sz (4 * m + 35) l.1 /\ Sz (4 * m + 35) l.2 := by
 have step : ∀ i, i <= 3 -> ∀ r, wNN c0 c1 c2 a b i = some r -> Sz (4 * m + 35) r.1 /\ Sz (4 * m + 35) r.2 := by
  intro i
  induction i with
  | zero => intro _ r hr; cases hr; exact ⟨Sz.zero _ (by omega), Sz.one.mono (by omega)⟩
  | succ i ih =>
    intro hi r hr;rw [withinN_step _ _ _ _ _ i (by omega)] at hr;cases hn : wNN c0 c1 c2 a b i with
    | none => rw [hn] at hr; cases hr
    | some l' =>
      rw [hn] at hr;have hl := ih (by omega) l' hn;rcases (by omega : i = 0 \/ i = 1 \/ i = 2) with rfl | rfl | rfl
      ·exact wStep_Sz3 z0 z1 za zb hl hr
      ·exact wStep_Sz3 z1 z2 za zb hl hr
      ·exact wStep_Sz3 z2 z0 za zb hl hr
 unfold wFF at h;cases hn : wNN c0 c1 c2 a b 3 with
 | none => rw [hn] at h; cases h
 | some l' =>
   rw [hn] at h;simp only [Option.bind_some] at h;split at h
   ·cases h
    exact step 3 (by omega) _ hn
   ·cases h
theorem spansN_Sz3 {P : List PtQ} {T : List Tri} {a b : PtQ} {m : Nat} (hm : MeshOK P T 2) (za : SzP m a) (zb : SzP m b) (n : Nat) : ∀ s ∈ sNN P T a b n, Sz (4 * m + 35) s.2.1 /\ Sz (4 * m + 35) s.2.2 := by
 intro s hs;unfold sNN at hs;obtain ⟨i, _, hi⟩ := List.mem_flatMap.1 hs;unfold spanAt at hi;split at hi
 ·cases hi
 ·rename_i tr htr
  obtain ⟨z0, z1, z2⟩ := ptI_SzP hm (List.mem_of_getElem? htr);split at hi
  ·cases hi
  ·rename_i l hl
   rw [List.mem_singleton] at hi;subst hi;exact withinF_Sz3 z0 z1 z2 za zb hl
theorem rightM {s : ByteArray} {m : Nat} (h : rQQ s.data.toList = true) (hm : 0 < m) (hl : s.size <= m) : ∃ q : Rat, s = RS q /\ Sz m q := by
 obtain ⟨q, hq, _⟩ := rightQ_val h;have hs : s = RS q := by
  have : s.data = (RL q).toArray := by rw [<- hq]
  unfold RS;rw [<- this]
 refine ⟨q, hs, ?_⟩;have hlen : (RL q).length <= m := by
  have h1 : s.data.toList.length = s.size := by rw [Array.length_toList]; rfl
  rw [hq] at h1;omega
 have key : ∀ n : Nat, (decDigits n).length <= m -> n < 10 ^ m := fun n h => (ldD n m hm).1 h;have hn : (itoa q.num).length <= m -> q.num.natAbs < 10 ^ m := fun h => by
  rw [iln] at h;exact key _ (by rw [decDigits_length]; omega)
 unfold RL at hlen;by_cases h1 : q.den = 1
 ·rw [if_pos h1] at hlen
  exact ⟨hn hlen, by rw [h1]; exact Nat.lt_of_lt_of_le (by decide : 1 < 10 ^ 1) (Nat.pow_le_pow_right (by decide) hm)⟩
 ·rw [if_neg h1, List.length_append, List.length_cons] at hlen
  exact ⟨hn (by omega), key _ (by omega)⟩
def whTo (a b c p : PtQ) : Nat -> Int
 | 0 => 1
 | 1 => min 1 (turnZ a b p)
 | 2 => min (min 1 (turnZ a b p)) (turnZ b c p)
 | _ => min (min (min 1 (turnZ a b p)) (turnZ b c p)) (turnZ c a p)
theorem whTo_in (a b c p : PtQ) : decide (0 <= whTo a b c p 3) = iBB a b c p := by
 show decide (0 <= min (min (min 1 (turnZ a b p)) (turnZ b c p)) (turnZ c a p)) = _;unfold iBB;rw [<- Bool.decide_and, <- Bool.decide_and];congr 1;apply propext;omega
theorem locN_none {P : List PtQ} {T : List Tri} {p : PtQ} (h : ∀ i, i < T.length -> iTT P T p i = false) : locN P T p T.length = [] := by
 unfold locN;rw [List.map_eq_nil_iff, List.filter_eq_nil_iff];intro i hi;rw [h i (List.mem_range.1 hi)];decide
theorem locN_head {P : List PtQ} {T : List Tri} {p : PtQ} {i : Nat} (hi : i < T.length) (h1 : iTT P T p i = true) (h2 : ∀ j, j < i -> iTT P T p j = false) : ∃ l, locN P T p T.length = (i : Int) :: l := by
 have hf : ((List.range T.length).filter (iTT P T p)).head? = some i := by
  rw [List.head?_filter, List.find?_range_eq_some];exact ⟨h1, List.mem_range.2 hi, fun j hj => by rw [h2 j hj]; rfl⟩
 unfold locN;cases hl : (List.range T.length).filter (iTT P T p) with
 | nil => rw [hl] at hf; simp at hf
 | cons a l =>
   rw [hl] at hf;obtain rfl : a = i := by simpa using hf
   exact ⟨_, List.map_cons⟩
theorem onQ_Sz {P : List PtQ} {T : List Tri} {F : List Rat} (hm : MeshOK P T 2) (hF : ∀ q ∈ F, Sz 2 q) {tr : Tri} (htr : tr ∈ T) {p : PtQ} (hp : SzP 40 p) : Sz 200 (onQ P F tr p) := by
 have hs := slope_Sz hm rfl hF htr;have hf : Sz 2 (hI F tr.1) := hI_Sz (by omega) hF _;have hq : SzP 2 (ptI P tr.1) := by
  obtain ⟨h0, h1⟩ := hm.idx tr htr tr.1 (by simp [idxOf]);obtain ⟨q, hq⟩ : ∃ q : Nat, tr.1 = (q : Int) := ⟨tr.1.toNat, by omega⟩;rw [hq, pIn P q (by omega)];exact hm.sz _ (List.getElem_mem _)
 unfold onQ;exact ((hf.add (hs.1.mul (hp.1.sub hq.1))).add (hs.2.mul (hp.2.sub hq.2))).mono (by omega)
theorem slope_fits {A B C : PtQ} {a b c : Rat} (h : areaQ A B C ≠ 0) : (sc0 A B C a b c).1 * (B.1 - A.1) + (sc0 A B C a b c).2 * (B.2 - A.2) = b - a /\ (sc0 A B C a b c).1 * (C.1 - A.1) + (sc0 A B C a b c).2 * (C.2 - A.2) = c - a := by
 unfold sc0 mQQ;unfold areaQ at h;dsimp only;have hd : (B.1 - A.1) * (C.2 - A.2) - (B.2 - A.2) * (C.1 - A.1) ≠ 0 := h;generalize hD : (B.1 - A.1) * (C.2 - A.2) - (B.2 - A.2) * (C.1 - A.1) = D at *;have hi : 1 / D * D = 1 := by rw [Rat.div_mul_cancel hd]
 generalize 1 / D = k at *;constructor
 ·have : (b - a) * (k * D) = b - a := by rw [hi, Rat.mul_one]
  grind
 ·have : (c - a) * (k * D) = c - a := by rw [hi, Rat.mul_one]
  grind
theorem onQ_corner {P : List PtQ} {F : List Rat} {tr : Tri} (h : areaQ (ptI P tr.1) (ptI P tr.2.1) (ptI P tr.2.2) ≠ 0) {i : Int} (hi : i ∈ idxOf tr) : onQ P F tr (ptI P i) = hI F i := by
 obtain ⟨e1, e2⟩ := slope_fits (a := hI F tr.1) (b := hI F tr.2.1) (c := hI F tr.2.2) h;unfold onQ sa0;simp only [idxOf, List.mem_cons, List.not_mem_nil, or_false] at hi;rcases hi with rfl | rfl | rfl
 ·grind
 ·generalize sc0 (ptI P tr.1) (ptI P tr.2.1) (ptI P tr.2.2) (hI F tr.1) (hI F tr.2.1) (hI F tr.2.2) = S at *
  grind
 ·generalize sc0 (ptI P tr.1) (ptI P tr.2.1) (ptI P tr.2.2) (hI F tr.1) (hI F tr.2.1) (hI F tr.2.2) = S at *
  grind
theorem ptI_move {s t d : Rat} {P : List PtQ} {i : Int} (h0 : 0 <= i) (h1 : i < (P.length : Int)) : ptI (P.map (moveP s t d)) i = moveP s t d (ptI P i) := by
 unfold ptI;rw [List.getElem?_map, List.getElem?_eq_getElem (show i.toNat < P.length by omega)];rfl
theorem sheet_moved (k : Nat) (s0 s1 : Int) (half : Bool) : sPP k s0 s1 half = (sQQ k).map (moveP (s0.tmod 8 : Int) (s1.tmod 8 : Int) (1 / (halfD half : Rat))) := by
 unfold sPP sQQ;rw [List.map_map];refine List.map_congr_left fun p _ => ?_;show (_, _) = moveP _ _ _ _;unfold moveP;rw [pQm, pQm]
theorem turn_nn (a b c : PtQ) : 0 <= turnZ a b c ↔ 0 <= areaQ a b c := by
 unfold turnZ;rw [sign_if];by_cases h : areaQ a b c < 0
 ·rw [if_pos h]
  exact ⟨fun h2 => absurd h2 (by decide), fun h2 => absurd h (Rat.not_lt.2 h2)⟩
 ·rw [if_neg h]
  exact ⟨fun _ => Rat.not_lt.1 h, fun _ => by split <;> decide⟩
theorem turn_np (a b c : PtQ) : turnZ a b c <= 0 ↔ areaQ a b c <= 0 := by
 unfold turnZ;rw [sign_if];by_cases h : areaQ a b c < 0
 ·rw [if_pos h]
  exact ⟨fun _ => Rat.le_of_lt h, fun _ => by decide⟩
 ·rw [if_neg h]
  by_cases h2 : 0 < areaQ a b c
  ·rw [if_pos h2]
   exact ⟨fun h3 => absurd h3 (by decide), fun h3 => absurd h2 (Rat.not_lt.2 h3)⟩
  ·rw [if_neg h2]
   exact ⟨fun _ => Rat.not_lt.1 h2, fun _ => by decide⟩
theorem turn_neg (a b c : PtQ) : turnZ a b c < 0 ↔ areaQ a b c < 0 := by
 unfold turnZ;rw [sign_if];by_cases h : areaQ a b c < 0
 ·rw [if_pos h]
  exact ⟨fun _ => h, fun _ => by decide⟩
 ·rw [if_neg h]
  refine ⟨fun h3 => ?_, fun h3 => absurd h3 h⟩;split at h3 <;> exact absurd h3 (by decide)
def sideC (tr : Tri) : List (Int × Int) := [(tr.1, tr.2.1), (tr.2.1, tr.2.2), (tr.2.2, tr.1)]
def sepOne (P : List PtQ) (x y : Tri) : Bool := (sideC x).any fun s => (idxOf y).all fun c => decide (turnZ (ptI P s.1) (ptI P s.2) (ptI P c) <= 0) && (decide (turnZ (ptI P s.1) (ptI P s.2) (ptI P c) < 0) || (idxOf x).contains c)
def sepB (P : List PtQ) (T : List Tri) : Bool := T.all fun x => T.all fun y => decide (x = y) || sepOne P x y || sepOne P y x
theorem shape_sepB (k : Nat) : sepB (sQQ k) (sTT k) = true := by
 unfold sQQ sb0 sTT;split <;> decide +kernel
theorem baryA (a b c0 c1 c2 p : PtQ) : areaQ c0 c1 c2 * areaQ a b p = areaQ c1 c2 p * areaQ a b c0 + areaQ c2 c0 p * areaQ a b c1 + areaQ c0 c1 p * areaQ a b c2 := by
 unfold areaQ;grind
theorem baryA_on (P : List PtQ) (F : List Rat) (tr : Tri) (c0 c1 c2 p : PtQ) : areaQ c0 c1 c2 * onQ P F tr p = areaQ c1 c2 p * onQ P F tr c0 + areaQ c2 c0 p * onQ P F tr c1 + areaQ c0 c1 p * onQ P F tr c2 := by
 unfold onQ areaQ;generalize sa0 P F tr = S;generalize hI F tr.1 = f;generalize ptI P tr.1 = o;grind
theorem three_zero {x y z : Rat} (hx : x <= 0) (hy : y <= 0) (hz : z <= 0) (h : 0 <= x + y + z) : x = 0 /\ y = 0 /\ z = 0 := ⟨by grind, by grind, by grind⟩
theorem mul_np {x y : Rat} (hx : 0 <= x) (hy : y <= 0) : x * y <= 0 := by
 have := Rat.mul_nonneg hx (show 0 <= -y by grind);grind
theorem agree_of_sep {P : List PtQ} {F : List Rat} {x y : Tri} (hx : 0 < areaQ (ptI P x.1) (ptI P x.2.1) (ptI P x.2.2)) (hy : 0 < areaQ (ptI P y.1) (ptI P y.2.1) (ptI P y.2.2)) (h : sepOne P x y = true) {p : PtQ}
 (px : iBB (ptI P x.1) (ptI P x.2.1) (ptI P x.2.2) p = true) (py : iBB (ptI P y.1) (ptI P y.2.1) (ptI P y.2.2) p = true) : onQ P F x p = onQ P F y p := by
 unfold iBB at px py;simp only [Bool.and_eq_true, decide_eq_true_eq, turn_nn] at px py;obtain ⟨⟨x0, x1⟩, x2⟩ := px;obtain ⟨⟨y0, y1⟩, y2⟩ := py;unfold sepOne at h;rw [List.any_eq_true] at h;obtain ⟨s, hs, h⟩ := h;have hab : 0 <= areaQ (ptI P s.1) (ptI P s.2) p := by
  simp only [sideC, List.mem_cons, List.not_mem_nil, or_false] at hs;rcases hs with rfl | rfl | rfl
  ·exact x0
  ·exact x1
  ·exact x2
 rw [List.all_eq_true] at h;have hc : ∀ c ∈ idxOf y, areaQ (ptI P s.1) (ptI P s.2) (ptI P c) <= 0 /\ (areaQ (ptI P s.1) (ptI P s.2) (ptI P c) = 0 -> onQ P F x (ptI P c) = onQ P F y (ptI P c)) := fun c hcy => by
  have h1 := h c hcy;rw [Bool.and_eq_true, Bool.or_eq_true, decide_eq_true_eq, decide_eq_true_eq, turn_np, turn_neg] at h1;refine ⟨h1.1, fun e => ?_⟩;rcases h1.2 with h2 | h2
  ·rw [e] at h2; exact absurd h2 (by decide)
  ·have hcx : c ∈ idxOf x := by simpa using h2
   rw [onQ_corner (by intro e; rw [e] at hx; exact absurd hx (by decide)) hcx, onQ_corner (by intro e; rw [e] at hy; exact absurd hy (by decide)) hcy]
 obtain ⟨a0, e0⟩ := hc y.1 (by simp [idxOf]);obtain ⟨a1, e1⟩ := hc y.2.1 (by simp [idxOf]);obtain ⟨a2, e2⟩ := hc y.2.2 (by simp [idxOf]);have hb := baryA (ptI P s.1) (ptI P s.2) (ptI P y.1) (ptI P y.2.1) (ptI P y.2.2) p;have hpos : 0 <= areaQ (ptI P y.1) (ptI P y.2.1) (ptI P y.2.2) * areaQ (ptI P s.1) (ptI P s.2) p := Rat.mul_nonneg (Rat.le_of_lt hy) hab;rw [hb] at hpos;obtain ⟨z0, z1, z2⟩ := three_zero (mul_np y1 a0) (mul_np y2 a1) (mul_np y0 a2) hpos;have key : ∀ {w v : Rat} {c : Int}, w * v = 0 -> (v = 0 -> onQ P F x (ptI P c) = onQ P F y (ptI P c)) -> w * onQ P F x (ptI P c) = w * onQ P F y (ptI P c) := fun hz he => by
  rcases Rat.mul_eq_zero.1 hz with h | h
  ·rw [h, Rat.zero_mul, Rat.zero_mul]
  ·rw [he h]
 have b1 := baryA_on P F x (ptI P y.1) (ptI P y.2.1) (ptI P y.2.2) p;have b2 := baryA_on P F y (ptI P y.1) (ptI P y.2.1) (ptI P y.2.2) p;rw [key z0 e0, key z1 e1, key z2 e2, <- b2] at b1;generalize areaQ (ptI P y.1) (ptI P y.2.1) (ptI P y.2.2) = A at *;have e : A * (onQ P F x p - onQ P F y p) = 0 := by grind
 rcases Rat.mul_eq_zero.1 e with h | h
 ·rw [h] at hy; exact absurd hy (by decide)
 ·grind
theorem sep_move {s t d : Rat} (hd : 0 < d) {P : List PtQ} {x y : Tri} (hx : ∀ i ∈ idxOf x, 0 <= i /\ i < (P.length : Int)) (hy : ∀ i ∈ idxOf y, 0 <= i /\ i < (P.length : Int)) (h : sepOne P x y = true) : sepOne (P.map (moveP s t d)) x y = true := by
 unfold sepOne at h ⊢;rw [List.any_eq_true] at h ⊢;obtain ⟨e, he, h⟩ := h;refine ⟨e, he, ?_⟩;rw [List.all_eq_true] at h ⊢;intro c hc;have h1 := h c hc;have q1 : e.1 ∈ idxOf x /\ e.2 ∈ idxOf x := by
  simp only [sideC, List.mem_cons, List.not_mem_nil, or_false] at he;rcases he with rfl | rfl | rfl <;> simp [idxOf]
 rw [ptI_move (hx _ q1.1).1 (hx _ q1.1).2, ptI_move (hx _ q1.2).1 (hx _ q1.2).2, ptI_move (hy c hc).1 (hy c hc).2, turnZ_move _ _ _ hd];exact h1
theorem sheet_agree (k : Nat) (s0 s1 : Int) (half : Bool) (F : List Rat) {x y : Tri} (hx : x ∈ sTT k) (hy : y ∈ sTT k) {p : PtQ}
 (px : iBB (ptI (sPP k s0 s1 half) x.1) (ptI (sPP k s0 s1 half) x.2.1) (ptI (sPP k s0 s1 half) x.2.2) p = true) (py : iBB (ptI (sPP k s0 s1 half) y.1) (ptI (sPP k s0 s1 half) y.2.1) (ptI (sPP k s0 s1 half) y.2.2) p = true) :
 onQ (sPP k s0 s1 half) F x p = onQ (sPP k s0 s1 half) F y p := by
 have hok := sheet_ok k s0 s1 half;have ax := areaQ_pos hok hx;have ay := areaQ_pos hok hy;have hsep := shape_sepB k;unfold sepB at hsep;rw [List.all_eq_true] at hsep;have h1 := hsep x hx;rw [List.all_eq_true] at h1;have h2 := h1 y hy;rw [Bool.or_eq_true, Bool.or_eq_true, decide_eq_true_eq] at h2;have hd : (0 : Rat) < 1 / (halfD half : Rat) := by cases half <;> decide +kernel
 have hidx := hok.idx;have hlen : (sPP k s0 s1 half).length = (sQQ k).length := by rw [sheet_moved]; exact List.length_map ..
 rw [hlen] at hidx;rcases h2 with (rfl | h2) | h2
 ·rfl
 ·refine agree_of_sep ax ay ?_ px py
  rw [sheet_moved];exact sep_move hd (hidx x hx) (hidx y hy) h2
 ·refine (agree_of_sep ay ax ?_ py px).symm
  rw [sheet_moved];exact sep_move hd (hidx y hy) (hidx x hx) h2
def AffI (L : PtQ -> Rat) (e : Int) (C : Nat) : Prop := e ≠ 0 /\ e.natAbs <= C /\ ∃ α β γ : Int, α.natAbs <= C /\ β.natAbs <= C /\ γ.natAbs <= C /\ ∀ x : PtQ, L x * (e : Rat) = (α : Rat) + (β : Rat) * x.1 + (γ : Rat) * x.2
theorem AffI.at {L : PtQ -> Rat} {e : Int} {C m : Nat} (h : AffI L e C) {a : PtQ} (za : SzP m a) : ∃ n : Int, n.natAbs <= 3 * (C * (10 ^ m * 10 ^ m)) /\ L a * (e : Rat) * ((a.1.den : Rat) * (a.2.den : Rat)) = (n : Rat) := by
 obtain ⟨-, -, α, β, γ, h1, h2, h3, h4⟩ := h;obtain ⟨⟨x1, x2⟩, y1, y2⟩ := za;have e1 := num_den a.1;have e2 := num_den a.2;refine ⟨α * (a.1.den * a.2.den) + β * (a.1.num * a.2.den) + γ * (a.2.num * a.1.den), ?_, ?_⟩
 ·have t1 : (α * ((a.1.den : Int) * a.2.den)).natAbs <= C * (10 ^ m * 10 ^ m) := by
   rw [Int.natAbs_mul, Int.natAbs_mul];exact Nat.mul_le_mul h1 (Nat.mul_le_mul (Nat.le_of_lt x2) (Nat.le_of_lt y2))
  have t2 : (β * (a.1.num * a.2.den)).natAbs <= C * (10 ^ m * 10 ^ m) := by
   rw [Int.natAbs_mul, Int.natAbs_mul];exact Nat.mul_le_mul h2 (Nat.mul_le_mul (Nat.le_of_lt x1) (Nat.le_of_lt y2))
  have t3 : (γ * (a.2.num * a.1.den)).natAbs <= C * (10 ^ m * 10 ^ m) := by
   rw [Int.natAbs_mul, Int.natAbs_mul];exact Nat.mul_le_mul h3 (Nat.mul_le_mul (Nat.le_of_lt y1) (Nat.le_of_lt x2))
  have s1 := Int.natAbs_add_le (α * ((a.1.den : Int) * a.2.den) + β * (a.1.num * a.2.den)) (γ * (a.2.num * a.1.den));have s2 := Int.natAbs_add_le (α * ((a.1.den : Int) * a.2.den)) (β * (a.1.num * a.2.den));generalize C * (10 ^ m * 10 ^ m) = K at *;omega
 ·rw [h4, Rat.intCast_add, Rat.intCast_add, Rat.intCast_mul, Rat.intCast_mul, Rat.intCast_mul, Rat.intCast_mul, Rat.intCast_mul, Rat.intCast_mul, e1, e2]
  have c1 : ((a.1.den : Int) : Rat) = (a.1.den : Rat) := rfl;have c2 : ((a.2.den : Int) : Rat) = (a.2.den : Rat) := rfl;rw [c1, c2];grind
theorem knot_Sz {L U : PtQ -> Rat} {e e' : Int} (hL : AffI L e (10 ^ 7)) (hU : AffI U e' (10 ^ 7)) {a b : PtQ} (za : SzP 40 a) (zb : SzP 40 b) (hne : U a ≠ U b) : Sz 200 (L a + U a / (U a - U b) * (L b - L a)) := by
 obtain ⟨la, n1, e1⟩ := hL.at za;obtain ⟨lb, n2, e2⟩ := hL.at zb;obtain ⟨ua, n3, e3⟩ := hU.at za;obtain ⟨ub, n4, e4⟩ := hU.at zb;have hd : ∀ q : Rat, (q.den : Rat) ≠ 0 := fun q => by
  have := q.den_nz;intro e;exact this (by exact_mod_cast e)
 have he : (e : Rat) ≠ 0 := by simpa using hL.1
 have he' : (e' : Rat) ≠ 0 := by simpa using hU.1
 have hsub : U a - U b ≠ 0 := by grind
 have hr : U a / (U a - U b) * (U a - U b) = U a := Rat.div_mul_cancel hsub;have hA : ((a.1.den : Rat) * (a.2.den : Rat)) ≠ 0 := fun h => by
  rcases Rat.mul_eq_zero.1 h with h | h
  ·exact hd _ h
  ·exact hd _ h
 have hB : ((b.1.den : Rat) * (b.2.den : Rat)) ≠ 0 := fun h => by
  rcases Rat.mul_eq_zero.1 h with h | h
  ·exact hd _ h
  ·exact hd _ h
 have dA : ((a.1.den * a.2.den : Nat) : Rat) = (a.1.den : Rat) * (a.2.den : Rat) := Rat.natCast_mul ..;have dB : ((b.1.den * b.2.den : Nat) : Rat) = (b.1.den : Rat) * (b.2.den : Rat) := Rat.natCast_mul ..;have bA : a.1.den * a.2.den <= 10 ^ 40 * 10 ^ 40 := Nat.mul_le_mul (Nat.le_of_lt za.1.2) (Nat.le_of_lt za.2.2);have bB : b.1.den * b.2.den <= 10 ^ 40 * 10 ^ 40 := Nat.mul_le_mul (Nat.le_of_lt zb.1.2) (Nat.le_of_lt zb.2.2);rw [<- dA] at hA e1 e3;rw [<- dB] at hB e2 e4;generalize a.1.den * a.2.den = DA at *;generalize b.1.den * b.2.den = DB at *;have hM : ((e * (ua * (DB : Int) - ub * (DA : Int)) : Int) : Rat) = (e : Rat) * (e' : Rat) * (DA : Rat) * (DB : Rat) * (U a - U b) := by
  rw [Rat.intCast_mul, Rat.intCast_sub, Rat.intCast_mul, Rat.intCast_mul, <- e3, <- e4];have c1 : ((DA : Int) : Rat) = (DA : Rat) := rfl;have c2 : ((DB : Int) : Rat) = (DB : Rat) := rfl;rw [c1, c2];grind
 have hN : ((ua * lb - ub * la : Int) : Rat) = (e : Rat) * (e' : Rat) * (DA : Rat) * (DB : Rat) * (U a * L b - U b * L a) := by
  rw [Rat.intCast_sub, Rat.intCast_mul, Rat.intCast_mul, <- e1, <- e2, <- e3, <- e4];grind
 have hMne : e * (ua * (DB : Int) - ub * (DA : Int)) ≠ 0 := by
  intro h;rw [h] at hM;have h0 : (e : Rat) * (e' : Rat) * (DA : Rat) * (DB : Rat) * (U a - U b) = 0 := hM.symm;rcases Rat.mul_eq_zero.1 h0 with h1 | h1
  ·rcases Rat.mul_eq_zero.1 h1 with h2 | h2
   ·rcases Rat.mul_eq_zero.1 h2 with h3 | h3
    ·rcases Rat.mul_eq_zero.1 h3 with h4 | h4
     ·exact he h4
     ·exact he' h4
    ·exact hA h3
   ·exact hB h2
  ·exact hsub h1
 refine sz_of_div2 (m := ua * lb - ub * la) (n := e * (ua * (DB : Int) - ub * (DA : Int))) hMne ?_ ?_ ?_
 ·have s := Int.natAbs_sub_le (ua * lb) (ub * la)
  rw [Int.natAbs_mul, Int.natAbs_mul] at s;have t1 := Nat.mul_le_mul n3 n2;have t2 := Nat.mul_le_mul n4 n1;refine Nat.lt_of_le_of_lt (Nat.le_trans s (Nat.add_le_add t1 t2)) (by decide)
 ·rw [Int.natAbs_mul]
  have s := Int.natAbs_sub_le (ua * (DB : Int)) (ub * (DA : Int));rw [Int.natAbs_mul, Int.natAbs_mul] at s;have c1 : ((DA : Int)).natAbs = DA := rfl;have c2 : ((DB : Int)).natAbs = DB := rfl;rw [c1, c2] at s;have t1 := Nat.mul_le_mul n3 bB;have t2 := Nat.mul_le_mul n4 bA;refine Nat.lt_of_le_of_lt (Nat.mul_le_mul hL.2.1 (Nat.le_trans s (Nat.add_le_add t1 t2))) (by decide)
 ·rw [hM, hN]
  generalize U a / (U a - U b) = s at *;grind
def Fr (d B : Nat) (q : Rat) : Prop := ∃ n : Int, q * (d : Rat) = (n : Rat) /\ n.natAbs <= B
theorem Fr.zero (d B : Nat) : Fr d B 0 := ⟨0, by grind, by simp⟩
theorem Fr.mono {d B C : Nat} {q : Rat} (h : Fr d B q) (hBC : B <= C) : Fr d C q := by
 obtain ⟨n, h1, h2⟩ := h;exact ⟨n, h1, Nat.le_trans h2 hBC⟩
theorem Fr.add {d A B : Nat} {p q : Rat} (hp : Fr d A p) (hq : Fr d B q) : Fr d (A + B) (p + q) := by
 obtain ⟨m, h1, h2⟩ := hp;obtain ⟨n, h3, h4⟩ := hq;exact ⟨m + n, by rw [Rat.intCast_add]; grind, by omega⟩
theorem Fr.sub {d A B : Nat} {p q : Rat} (hp : Fr d A p) (hq : Fr d B q) : Fr d (A + B) (p - q) := by
 obtain ⟨m, h1, h2⟩ := hp;obtain ⟨n, h3, h4⟩ := hq;exact ⟨m - n, by rw [Rat.intCast_sub]; grind, by omega⟩
theorem Fr.mul {d e A B : Nat} {p q : Rat} (hp : Fr d A p) (hq : Fr e B q) : Fr (d * e) (A * B) (p * q) := by
 obtain ⟨m, h1, h2⟩ := hp;obtain ⟨n, h3, h4⟩ := hq;refine ⟨m * n, ?_, ?_⟩
 ·rw [Rat.intCast_mul, Rat.natCast_mul, <- h1, <- h3]
  grind
 ·rw [Int.natAbs_mul]
  exact Nat.mul_le_mul h2 h4
theorem fr_mkRat (n : Int) (d e B : Nat) (hd : d ≠ 0) (he : d ∣ e) (hB : n.natAbs * (e / d) <= B) : Fr e B (mkRat n d) := by
 obtain ⟨c, rfl⟩ := he;have h0 : (d : Rat) ≠ 0 := by simpa using hd
 rw [Nat.mul_div_cancel_left c (by omega)] at hB;refine ⟨n * c, ?_, by rw [Int.natAbs_mul]; simpa using hB⟩;rw [Rat.mkRat_eq_div, Rat.natCast_mul, Rat.intCast_mul];have : ((c : Int) : Rat) = (c : Rat) := rfl;rw [this];grind
theorem fr_place (s : Int) (half : Bool) (x : Int) (hx : 0 <= x /\ x <= 6) : Fr 2 26 (placeQ s half x) := by
 have := tmod8_bound s;unfold placeQ;cases half
 ·exact fr_mkRat _ 1 2 26 (by decide) (by decide) (by show (x + s.tmod 8).natAbs * 2 <= 26; omega)
 ·exact fr_mkRat _ 2 2 26 (by decide) (by decide) (by show (x + s.tmod 8).natAbs * 1 <= 26; omega)
theorem fr_height (hs : List Int) (half : Bool) (n : Nat) : ∀ q ∈ hFF hs half n, Fr 2 38 q := fun q hq => by
 obtain ⟨i, _, rfl⟩ := List.mem_map.1 hq;unfold heightQ;have := tmod20_bound (hs[i % 6]?.getD 0);cases half
 ·exact fr_mkRat _ 1 2 38 (by decide) (by decide) (by show ((hs[i % 6]?.getD 0).tmod 20).natAbs * 2 <= 38; omega)
 ·exact fr_mkRat _ 2 2 38 (by decide) (by decide) (by show ((hs[i % 6]?.getD 0).tmod 20).natAbs * 1 <= 38; omega)
def FrP (d B : Nat) (p : PtQ) : Prop := Fr d B p.1 /\ Fr d B p.2
theorem fr_sheet (k : Nat) (s0 s1 : Int) (half : Bool) : ∀ p ∈ sPP k s0 s1 half, FrP 2 26 p := fun p hp => by
 obtain ⟨q, hq, rfl⟩ := List.mem_map.1 hp;have := shapeP_small k q hq;exact ⟨fr_place _ _ _ this.1, fr_place _ _ _ this.2⟩
theorem fr_hI {d B : Nat} {F : List Rat} (h : ∀ q ∈ F, Fr d B q) (z : Int) : Fr d B (hI F z) := by
 unfold hI;cases e : F[z.toNat]? with
 | none => exact Fr.zero d B
 | some q => exact h q (List.mem_of_getElem? e)
theorem affI_area {p q : PtQ} (hp : FrP 2 26 p) (hq : FrP 2 26 q) : AffI (areaQ p q) 4 (10 ^ 7) := by
 obtain ⟨⟨a, ea, ba⟩, b, eb, bb⟩ := hp;obtain ⟨⟨c, ec, bc⟩, d, ed, bd⟩ := hq;have n2 : ((2 : Nat) : Rat) = 2 := rfl;rw [n2] at ea eb ec ed;refine ⟨by decide, by decide, (d - b) * a - (c - a) * b, -(2 * (d - b)), 2 * (c - a), ?_, ?_, ?_, fun x => ?_⟩
 ·have s := Int.natAbs_sub_le ((d - b) * a) ((c - a) * b)
  rw [Int.natAbs_mul, Int.natAbs_mul] at s;have t1 : (d - b).natAbs * a.natAbs <= 52 * 26 := Nat.mul_le_mul (by omega) ba;have t2 : (c - a).natAbs * b.natAbs <= 52 * 26 := Nat.mul_le_mul (by omega) bb;have : (10 : Nat) ^ 7 = 10000000 := by decide
  omega
 ·have : (10 : Nat) ^ 7 = 10000000 := by decide
  omega
 ·have : (10 : Nat) ^ 7 = 10000000 := by decide
  omega
 ·rw [Rat.intCast_sub, Rat.intCast_mul, Rat.intCast_mul, Rat.intCast_sub, Rat.intCast_sub, Rat.intCast_neg, Rat.intCast_mul, Rat.intCast_mul, Rat.intCast_sub, Rat.intCast_sub, <- ea, <- eb, <- ec, <- ed]
  have c4 : ((4 : Int) : Rat) = 4 := rfl;have c2 : ((2 : Int) : Rat) = 2 := rfl;rw [c4, c2];unfold areaQ;grind
theorem affI_on {P : List PtQ} {T : List Tri} {F : List Rat} (hp : ∀ p ∈ P, FrP 2 26 p) (hidx : ∀ t ∈ T, ∀ x ∈ idxOf t, 0 <= x /\ x < (P.length : Int)) (hF : ∀ f ∈ F, Fr 2 38 f) {tr : Tri} (htr : tr ∈ T) (hA : 0 < areaQ (ptI P tr.1) (ptI P tr.2.1) (ptI P tr.2.2)) :
 ∃ e : Int, AffI (onQ P F tr) e (10 ^ 7) := by
 have hpt : ∀ i ∈ idxOf tr, FrP 2 26 (ptI P i) := fun i hi => by
  obtain ⟨h0, h1⟩ := hidx tr htr i hi;obtain ⟨q, rfl⟩ : ∃ q : Nat, i = (q : Int) := ⟨i.toNat, by omega⟩;rw [pIn P q (by omega)];exact hp _ (List.getElem_mem _)
 obtain ⟨⟨ax, eax, bax⟩, ay, eay, bay⟩ := hpt tr.1 (by simp [idxOf]);obtain ⟨⟨bx, ebx, bbx⟩, bY, ebY, bbY⟩ := hpt tr.2.1 (by simp [idxOf]);obtain ⟨⟨cx, ecx, bcx⟩, cy, ecy, bcy⟩ := hpt tr.2.2 (by simp [idxOf]);obtain ⟨f0, e0, b0⟩ := fr_hI hF tr.1;obtain ⟨f1, e1, b1⟩ := fr_hI hF tr.2.1;obtain ⟨f2, e2, b2⟩ := fr_hI hF tr.2.2;have n2 : ((2 : Nat) : Rat) = 2 := rfl;rw [n2] at eax eay ebx ebY ecx ecy e0 e1 e2;have hne : areaQ (ptI P tr.1) (ptI P tr.2.1) (ptI P tr.2.2) ≠ 0 := by intro e; rw [e] at hA; exact absurd hA (by decide)
 obtain ⟨g1, g2⟩ := slope_fits (a := hI F tr.1) (b := hI F tr.2.1) (c := hI F tr.2.2) hne;have hM : (((bx - ax) * (cy - ay) - (bY - ay) * (cx - ax) : Int) : Rat) = 4 * areaQ (ptI P tr.1) (ptI P tr.2.1) (ptI P tr.2.2) := by
  rw [Rat.intCast_sub, Rat.intCast_mul, Rat.intCast_mul, Rat.intCast_sub, Rat.intCast_sub, Rat.intCast_sub, Rat.intCast_sub, <- eax, <- eay, <- ebx, <- ebY, <- ecx, <- ecy];unfold areaQ;grind
 have hsx : (sc0 (ptI P tr.1) (ptI P tr.2.1) (ptI P tr.2.2) (hI F tr.1) (hI F tr.2.1) (hI F tr.2.2)).1 * (((bx - ax) * (cy - ay) - (bY - ay) * (cx - ax) : Int) : Rat) = (((f1 - f0) * (cy - ay) - (bY - ay) * (f2 - f0) : Int) : Rat) := by
  rw [hM, Rat.intCast_sub, Rat.intCast_mul, Rat.intCast_mul, Rat.intCast_sub, Rat.intCast_sub, Rat.intCast_sub, Rat.intCast_sub, <- eay, <- ebY, <- ecy, <- e0, <- e1, <- e2];unfold areaQ;generalize sc0 (ptI P tr.1) (ptI P tr.2.1) (ptI P tr.2.2) (hI F tr.1) (hI F tr.2.1) (hI F tr.2.2) = S at *;grind
 have hsy : (sc0 (ptI P tr.1) (ptI P tr.2.1) (ptI P tr.2.2) (hI F tr.1) (hI F tr.2.1) (hI F tr.2.2)).2 * (((bx - ax) * (cy - ay) - (bY - ay) * (cx - ax) : Int) : Rat) = (((bx - ax) * (f2 - f0) - (f1 - f0) * (cx - ax) : Int) : Rat) := by
  rw [hM, Rat.intCast_sub, Rat.intCast_mul, Rat.intCast_mul, Rat.intCast_sub, Rat.intCast_sub, Rat.intCast_sub, Rat.intCast_sub, <- eax, <- ebx, <- ecx, <- e0, <- e1, <- e2];unfold areaQ;generalize sc0 (ptI P tr.1) (ptI P tr.2.1) (ptI P tr.2.2) (hI F tr.1) (hI F tr.2.1) (hI F tr.2.2) = S at *;grind
 have hMb : ((bx - ax) * (cy - ay) - (bY - ay) * (cx - ax)).natAbs <= 5408 := by
  have s := Int.natAbs_sub_le ((bx - ax) * (cy - ay)) ((bY - ay) * (cx - ax));rw [Int.natAbs_mul, Int.natAbs_mul] at s;have t1 : (bx - ax).natAbs * (cy - ay).natAbs <= 52 * 52 := Nat.mul_le_mul (by omega) (by omega);have t2 : (bY - ay).natAbs * (cx - ax).natAbs <= 52 * 52 := Nat.mul_le_mul (by omega) (by omega);omega
 have hXb : ((f1 - f0) * (cy - ay) - (bY - ay) * (f2 - f0)).natAbs <= 7904 := by
  have s := Int.natAbs_sub_le ((f1 - f0) * (cy - ay)) ((bY - ay) * (f2 - f0));rw [Int.natAbs_mul, Int.natAbs_mul] at s;have t1 : (f1 - f0).natAbs * (cy - ay).natAbs <= 76 * 52 := Nat.mul_le_mul (by omega) (by omega);have t2 : (bY - ay).natAbs * (f2 - f0).natAbs <= 52 * 76 := Nat.mul_le_mul (by omega) (by omega);omega
 have hYb : ((bx - ax) * (f2 - f0) - (f1 - f0) * (cx - ax)).natAbs <= 7904 := by
  have s := Int.natAbs_sub_le ((bx - ax) * (f2 - f0)) ((f1 - f0) * (cx - ax));rw [Int.natAbs_mul, Int.natAbs_mul] at s;have t1 : (bx - ax).natAbs * (f2 - f0).natAbs <= 52 * 76 := Nat.mul_le_mul (by omega) (by omega);have t2 : (f1 - f0).natAbs * (cx - ax).natAbs <= 76 * 52 := Nat.mul_le_mul (by omega) (by omega);omega
 have hM0 : (bx - ax) * (cy - ay) - (bY - ay) * (cx - ax) ≠ 0 := by
  intro h;rw [h] at hM;have : (0 : Rat) = 4 * areaQ (ptI P tr.1) (ptI P tr.2.1) (ptI P tr.2.2) := hM;grind
 generalize (bx - ax) * (cy - ay) - (bY - ay) * (cx - ax) = M at *;generalize (f1 - f0) * (cy - ay) - (bY - ay) * (f2 - f0) = X at *;generalize (bx - ax) * (f2 - f0) - (f1 - f0) * (cx - ax) = Y at *;refine ⟨2 * M, by omega, ?_, f0 * M - X * ax - Y * ay, 2 * X, 2 * Y, ?_, ?_, ?_, fun x => ?_⟩
 ·have : (10 : Nat) ^ 7 = 10000000 := by decide
  omega
 ·have s1 := Int.natAbs_sub_le (f0 * M - X * ax) (Y * ay)
  have s2 := Int.natAbs_sub_le (f0 * M) (X * ax);rw [Int.natAbs_mul] at s1;rw [Int.natAbs_mul, Int.natAbs_mul] at s2;have t1 : f0.natAbs * M.natAbs <= 38 * 5408 := Nat.mul_le_mul b0 hMb;have t2 : X.natAbs * ax.natAbs <= 7904 * 26 := Nat.mul_le_mul hXb bax;have t3 : Y.natAbs * ay.natAbs <= 7904 * 26 := Nat.mul_le_mul hYb bay;have : (10 : Nat) ^ 7 = 10000000 := by decide
  omega
 ·have : (10 : Nat) ^ 7 = 10000000 := by decide
  omega
 ·have : (10 : Nat) ^ 7 = 10000000 := by decide
  omega
 ·rw [Rat.intCast_mul, Rat.intCast_sub, Rat.intCast_sub, Rat.intCast_mul, Rat.intCast_mul, Rat.intCast_mul, Rat.intCast_mul, Rat.intCast_mul, <- e0, <- eax, <- eay, <- hsx, <- hsy]
  have c2 : ((2 : Int) : Rat) = 2 := rfl;rw [c2];unfold onQ sa0;generalize sc0 (ptI P tr.1) (ptI P tr.2.1) (ptI P tr.2.2) (hI F tr.1) (hI F tr.2.1) (hI F tr.2.2) = S at *;grind
theorem withinF_ind {c0 c1 c2 a b : PtQ} (C : Rat -> Prop) (h0 : C 0) (h1 : C 1) (hs : ∀ s ∈ sidesW c0 c1 c2, areaQ s.1 s.2 a ≠ areaQ s.1 s.2 b -> C (areaQ s.1 s.2 a / (areaQ s.1 s.2 a - areaQ s.1 s.2 b))) {l : Rat × Rat} (h : wFF c0 c1 c2 a b = some l) : C l.1 /\ C l.2 := by
 have one : ∀ s ∈ sidesW c0 c1 c2, ∀ l r : Rat × Rat, (C l.1 /\ C l.2) -> wStep a b (some l) s = some r -> C r.1 /\ C r.2 := fun s hsm l r hl hr => by
  have zs := hs s hsm;obtain ⟨p, q⟩ := s;unfold wStep at hr;dsimp only at hr zs;split at hr
  ·split at hr
   ·cases hr
   ·cases hr; exact hl
  ·rename_i hne
   split at hr
   ·cases hr
    refine ⟨?_, hl.2⟩;show C (maxQ _ _);unfold maxQ; split
    ·exact zs hne
    ·exact hl.1
   ·cases hr
    refine ⟨hl.1, ?_⟩;show C (minQ _ _);unfold minQ; split
    ·exact zs hne
    ·exact hl.2
 have step : ∀ i, i <= 3 -> ∀ r, wNN c0 c1 c2 a b i = some r -> C r.1 /\ C r.2 := by
  intro i
  induction i with
  | zero => intro _ r hr; cases hr; exact ⟨h0, h1⟩
  | succ i ih =>
    intro hi r hr;rw [withinN_step _ _ _ _ _ i (by omega)] at hr;cases hn : wNN c0 c1 c2 a b i with
    | none => rw [hn] at hr; cases hr
    | some l' =>
      rw [hn] at hr;exact one _ (List.getElem_mem _) l' r (ih (by omega) l' hn) hr
 unfold wFF at h;cases hn : wNN c0 c1 c2 a b 3 with
 | none => rw [hn] at h; cases h
 | some l' =>
   rw [hn] at h;simp only [Option.bind_some] at h;split at h
   ·cases h
    exact step 3 (by omega) _ hn
   ·cases h
theorem sum_from (r : Rat) : ∀ (L : List SpanQ), L.foldl (fun r s => r + (s.2.2 - s.2.1)) r = r + L.foldl (fun r s => r + (s.2.2 - s.2.1)) 0
 | [] => by simp [Rat.add_zero]
 | s :: L => by
   rw [List.foldl_cons, List.foldl_cons, sum_from (r + (s.2.2 - s.2.1)) L, sum_from (0 + (s.2.2 - s.2.1)) L, Rat.zero_add, Rat.add_assoc]
theorem sumS_cons (s : SpanQ) (L : List SpanQ) : sumS (s :: L) = (s.2.2 - s.2.1) + sumS L := by
 unfold sumS;rw [List.foldl_cons, sum_from, Rat.zero_add]
theorem sumS_le : ∀ (L : List SpanQ) (lo : Rat), lo <= 1 -> (∀ s ∈ L, s.2.2 <= 1 /\ lo <= s.2.1) -> L.Pairwise (fun s t => s.2.2 <= t.2.1) -> sumS L <= 1 - lo
 | [], lo, h1, _, _ => by show (0 : Rat) <= 1 - lo; grind
 | s :: L, lo, _, hb, hp => by
   rw [sumS_cons];obtain ⟨h1, h2⟩ := hb s (List.mem_cons_self ..);rw [List.pairwise_cons] at hp;have := sumS_le L s.2.2 h1 (fun t ht => ⟨(hb t (List.mem_cons_of_mem _ ht)).1, hp.1 t ht⟩) hp.2;grind
theorem first_zero {L : List SpanQ} (hs : sumS L = 1) (hb : ∀ s ∈ L, s.2.1 < s.2.2 /\ 0 <= s.2.1 /\ s.2.2 <= 1) (hp : L.Pairwise (fun s t => s.2.2 <= t.2.1)) : 0 < L.length /\ (spanI L 0).2.1 = 0 := by
 cases L with
 | nil => exact absurd hs (by decide +kernel)
 | cons s L =>
   refine ⟨by simp, ?_⟩;show s.2.1 = 0;obtain ⟨h1, h2, h3⟩ := hb s (List.mem_cons_self ..);have h4 := hp;rw [List.pairwise_cons] at h4;have := sumS_le (s :: L) s.2.1 (by grind) (fun t ht => ⟨(hb t ht).2.2, by
    rcases List.mem_cons.1 ht with rfl | ht
    ·exact Rat.le_refl
    ·have := h4.1 t ht; grind⟩) hp
   rw [hs] at this;grind
def knTr (T : List Tri) (L : List SpanQ) (i : Nat) : Tri := triI T (spanI L (i - 1)).1
def knSh (L : List SpanQ) : Nat -> Rat | 0 => 0 | i + 1 => (spanI L i).2.2
theorem profTo_get {P : List PtQ} {T : List Tri} {F : List Rat} {a b : PtQ} {L : List SpanQ} (h0 : (spanI L 0).2.1 = 0) : ∀ n, 0 < n -> ∀ i, i < n + 1 -> (pTo P T F a b L n)[i]? = some (knotQ P F (knTr T L i) a b (knSh L i))
 | 0, h, _, _ => by omega
 | 1, _, i, hi => by
   rcases (by omega : i = 0 \/ i = 1) with rfl | rfl
   ·show some (knotQ P F (triI T (spanI L 0).1) a b (spanI L 0).2.1) = _
    rw [h0]; rfl
   ·rfl
 | n + 2, _, i, hi => by
   unfold pTo;rw [if_neg (Nat.succ_ne_zero n), List.append_nil];have hl : (pTo P T F a b L (n + 1)).length = n + 2 := by rw [profTo_len, if_neg (Nat.succ_ne_zero n)]
   rcases Nat.lt_or_ge i (n + 2) with h | h
   ·rw [List.getElem?_append_left (by omega)]
    exact profTo_get h0 (n + 1) (by omega) i h
   ·obtain rfl : i = n + 2 := by omega
    rw [List.getElem?_append_right (by omega), hl, Nat.sub_self];rfl
theorem towQ_zero (a b : Rat) : towQ a b 0 = a := by unfold towQ; grind
theorem towQ_one (a b : Rat) : towQ a b 1 = b := by unfold towQ; grind
theorem onQ_tow (P : List PtQ) (F : List Rat) (tr : Tri) (a b : PtQ) (s : Rat) : onQ P F tr (towQ a.1 b.1 s, towQ a.2 b.2 s) = onQ P F tr a + s * (onQ P F tr b - onQ P F tr a) := by
 unfold onQ towQ;grind
theorem wantL_len (A : List SpanQ) : (wantL A).length <= A.length := by
 refine list_snoc (P := fun A => (wantL A).length <= A.length) (by decide) (fun A s h => ?_) A;rw [wantL_snoc, List.length_append];unfold wantS;split
 ·simp; omega
 ·rw [putS_len]; simp; omega
theorem spanI_mem {L : List SpanQ} {j : Nat} (h : j < L.length) : spanI L j ∈ L := by
 unfold spanI;rw [List.getElem?_eq_getElem h];exact List.getElem_mem h
theorem locN_agree {P : List PtQ} {T : List Tri} {p : PtQ} {t : Nat} {l : List Int} (h : locN P T p T.length = (t : Int) :: l) (ht : t < T.length) : iBB (ptI P T[t].1) (ptI P T[t].2.1) (ptI P T[t].2.2) p = true := by
 have hm : ((t : Nat) : Int) ∈ locN P T p T.length := by rw [h]; exact List.mem_cons_self ..
 unfold locN at hm;obtain ⟨i, hi, he⟩ := List.mem_map.1 hm;have : i = t := by omega
 subst this;have := (List.mem_filter.1 hi).2;unfold iTT at this;rw [List.getElem?_eq_getElem ht] at this;exact this
theorem sheet_knots (k : Nat) (s0 s1 : Int) (half : Bool) (F : List Rat) (fF : ∀ q ∈ F, Fr 2 38 q) (hF2 : ∀ q ∈ F, Sz 2 q) {a b : PtQ} (hab : a ≠ b) (za : SzP 40 a) (zb : SzP 40 b)
 (ha : sIn (sPP k s0 s1 half) (sTT k) a) (hb : sIn (sPP k s0 s1 half) (sTT k) b) (L : List SpanQ) (hL : L = alongL (sPP k s0 s1 half) (sTT k) a b) :
 0 < L.length /\ L.length <= (sTT k).length /\ (∀ s ∈ L, s.1 < (sTT k).length /\ Sz 195 s.2.1 /\ Sz 195 s.2.2) /\ (spanI L 0).2.1 = 0 /\
 ∀ i, i < L.length + 1 -> Sz 195 (knSh L i) /\ Sz 200 (knotQ (sPP k s0 s1 half) F (knTr (sTT k) L i) a b (knSh L i)).2 /\ (locN (sPP k s0 s1 half) (sTT k) (towQ a.1 b.1 (knSh L i), towQ a.2 b.2 (knSh L i)) (sTT k).length ≠ []) /\
  ∀ (t : Nat) (ht : t < (sTT k).length) (l : List Int), locN (sPP k s0 s1 half) (sTT k) (towQ a.1 b.1 (knSh L i), towQ a.2 b.2 (knSh L i)) (sTT k).length = (t : Int) :: l -> onQ (sPP k s0 s1 half) F (sTT k)[t] (towQ a.1 b.1 (knSh L i), towQ a.2 b.2 (knSh L i)) = (knotQ (sPP k s0 s1 half) F (knTr (sTT k) L i) a b (knSh L i)).2 := by
 have hm : MeshOK (sPP k s0 s1 half) (sTT k) 2 := sheet_ok k s0 s1 half;have fP := fr_sheet k s0 s1 half;obtain ⟨-, h2, h3, -, h5⟩ := sheet_spans k s0 s1 half hab;have hw := sheet_along k s0 s1 half hab;have hsz := spansN_Sz3 hm za zb (sTT k).length;rw [<- hL] at h2 h3 h5 hw;have hmem : ∀ s ∈ L, s ∈ sNN (sPP k s0 s1 half) (sTT k) a b (sTT k).length := fun s hs => by
  rw [hw] at hs;exact List.mem_of_find?_eq_some ((wLm _ s).1 hs)
 obtain ⟨hpos, hfirst⟩ := first_zero (h5 ha hb) h2 h3;have hT : ∀ s ∈ L, s.1 < (sTT k).length := fun s hs => by
  obtain ⟨t, ht, _⟩ := sNi (hmem s hs);exact (List.getElem?_eq_some_iff.1 ht).1
 refine ⟨hpos, ?_, fun s hs => ⟨hT s hs, (hsz s (hmem s hs)).1.mono (by omega), (hsz s (hmem s hs)).2.mono (by omega)⟩, hfirst, fun i hi => ?_⟩
 ·rw [hw]; exact Nat.le_trans (wantL_len _) (spansN_le _ _ _ _ _)
 have key : ∃ s ∈ L, knTr (sTT k) L i = triI (sTT k) s.1 /\ (knSh L i = s.2.1 \/ knSh L i = s.2.2) := by
  cases i with
  | zero => exact ⟨spanI L 0, spanI_mem hpos, rfl, .inl hfirst.symm⟩
  | succ j => exact ⟨spanI L j, spanI_mem (by omega), rfl, .inr rfl⟩
 obtain ⟨s, hs, htr, hx⟩ := key;obtain ⟨tr, ht, hwi⟩ := sNi (hmem s hs);have hlt := hT s hs;have htm : tr ∈ sTT k := List.mem_of_getElem? ht;have etr : triI (sTT k) s.1 = tr := by
  rw [triI_nat _ _ hlt];rw [List.getElem?_eq_getElem hlt] at ht;exact Option.some.inj ht
 rw [htr, etr];generalize knSh L i = x at *;obtain ⟨p1, p2⟩ := span_in (c := triP _ tr) hwi;have hin : inT (triP (sPP k s0 s1 half) tr) (towQ a.1 b.1 x, towQ a.2 b.2 x) := by
  refine ((p2 x).1 ?_).2;rcases hx with rfl | rfl
  ·exact ⟨Rat.le_refl, Rat.le_of_lt p1⟩
  ·exact ⟨Rat.le_of_lt p1, Rat.le_refl⟩
 have hins : iBB (ptI (sPP k s0 s1 half) tr.1) (ptI (sPP k s0 s1 half) tr.2.1) (ptI (sPP k s0 s1 half) tr.2.2) (towQ a.1 b.1 x, towQ a.2 b.2 x) = true := by
  have h := (insideT_iff (sPP k s0 s1 half) (sTT k) (towQ a.1 b.1 x, towQ a.2 b.2 x) s.1).2 ⟨tr, ht, hin⟩;unfold iTT at h;rw [ht] at h;exact h
 have hA := areaQ_pos hm htm;have hA0 : areaQ (ptI (sPP k s0 s1 half) tr.1) (ptI (sPP k s0 s1 half) tr.2.1) (ptI (sPP k s0 s1 half) tr.2.2) ≠ 0 := by intro e; rw [e] at hA; exact absurd hA (by decide)
 have hP : ∀ z ∈ idxOf tr, FrP 2 26 (ptI (sPP k s0 s1 half) z) := fun z hz => by
  obtain ⟨h0, h1⟩ := hm.idx tr htm z hz;obtain ⟨q, rfl⟩ : ∃ q : Nat, z = (q : Int) := ⟨z.toNat, by omega⟩;rw [pIn _ q (by omega)];exact fP _ (List.getElem_mem _)
 obtain ⟨e, hAf⟩ := affI_on fP hm.idx fF htm hA;refine ⟨?_, ?_, ?_, fun t htl l hl => ?_⟩
 ·rcases hx with rfl | rfl
  ·exact (hsz s (hmem s hs)).1.mono (by omega)
  ·exact (hsz s (hmem s hs)).2.mono (by omega)
 ·show Sz 200 (onQ (sPP k s0 s1 half) F tr (towQ a.1 b.1 x, towQ a.2 b.2 x))
  have hC := withinF_ind (fun x => Sz 200 (onQ (sPP k s0 s1 half) F tr (towQ a.1 b.1 x, towQ a.2 b.2 x))) (by
   show Sz 200 (onQ _ F tr (towQ a.1 b.1 0, towQ a.2 b.2 0));rw [towQ_zero, towQ_zero]; exact onQ_Sz hm hF2 htm za) (by
   show Sz 200 (onQ _ F tr (towQ a.1 b.1 1, towQ a.2 b.2 1));rw [towQ_one, towQ_one]; exact onQ_Sz hm hF2 htm zb) (fun r hr hne => by
   show Sz 200 (onQ _ F tr (towQ a.1 b.1 _, towQ a.2 b.2 _));rw [onQ_tow];have hU : AffI (areaQ r.1 r.2) 4 (10 ^ 7) := by
    unfold sidesW at hr;rcases List.mem_cons.1 hr with rfl | hr
    ·exact affI_area (hP _ (by simp [idxOf])) (hP _ (by simp [idxOf]))
    ·rcases List.mem_cons.1 hr with rfl | hr
     ·exact affI_area (hP _ (by simp [idxOf])) (hP _ (by simp [idxOf]))
     ·rcases List.mem_cons.1 hr with rfl | hr
      ·exact affI_area (hP _ (by simp [idxOf])) (hP _ (by simp [idxOf]))
      ·cases hr
   exact knot_Sz hAf hU za zb hne) hwi
  rcases hx with rfl | rfl
  ·exact hC.1
  ·exact hC.2
 ·intro e
  have := (locN_in (sPP k s0 s1 half) (sTT k) (towQ a.1 b.1 x, towQ a.2 b.2 x)).2 ⟨tr, htm, hin⟩;rw [e] at this;exact absurd this (by decide)
 ·exact sheet_agree k s0 s1 half F (List.getElem_mem htl) htm (locN_agree hl htl) hins
end Go.Proofs.YtegiemcnfbchoaaGreatDoor
