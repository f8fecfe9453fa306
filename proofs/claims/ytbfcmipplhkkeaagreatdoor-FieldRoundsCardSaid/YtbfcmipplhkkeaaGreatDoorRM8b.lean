import Derived.Test.YtbfcmipplhkkeaaGreatDoorRM4
import Derived.Test.YtbfcmipplhkkeaaGreatDoorShelfB
/- The walk over slices.SortFunc at numbers, where there are at most twelve. Plain The walks over the predicate of mesh.Along and over slices.IndexFunc at spans. The contracts of slices.SortFunc and slices.Compact at a slice of the call's -/
set_option maxHeartbeats 4000000
set_option maxRecDepth 100000
namespace Go.Proofs.YtbfcmipplhkkeaaGreatDoor
open Go.RowKit Go.Lib
def RowQ (w : World) (g : Nat) (l : List Rat) : Prop := ∀ (a : Nat) (q : Rat), l[a]? = some q -> w.cell? ⟨g, a, none⟩ = some (.string (RS q)) /\ w.frozen? ⟨g, a, none⟩ = false
theorem RowQ.below {w w' : World} {g : Nat} {l : List Rat} (h : RowQ w g l) (hb : Below w.heap.size w w') (hg : g < w.heap.size) : RowQ w' g l := fun a q ha =>
 ⟨(zcq hb hg (h a q ha).1 :), (hb.frozen (p := ⟨g, a, none⟩) hg).trans (h a q ha).2⟩
theorem RowQ.set {w : World} {g : Nat} {l : List Rat} (h : RowQ w g l) (i : Nat) (q : Rat) (hi : i < l.length) : RowQ (w.setCell ⟨g, i, none⟩ (.string (RS q))) g (l.set i q) := fun a r ha => by
 rw [World.frozen?_setCell];by_cases e : i = a
 ·subst e
  rw [List.getElem?_set_self hi] at ha;cases ha;obtain ⟨h1, h2⟩ := h i _ (List.getElem?_eq_getElem hi);exact ⟨World.cell?_setCell_same _ _ _ h1, h2⟩
 ·rw [List.getElem?_set_ne e] at ha
  obtain ⟨h1, h2⟩ := h a r ha;exact ⟨(World.cell?_setCell_other _ _ _ _ (by intro e'; simp only [Addr.mk.injEq] at e'; omega)).trans h1, h2⟩
theorem RowQ.drew {w : World} {g : Nat} {l : List Rat} (h : RowQ w g l) : RowQ w.drew g l := h
theorem cmpQ_neg (p q : Rat) : cmpQ p q < 0 ↔ p < q := by
 unfold cmpQ;split
 ·rename_i h; exact ⟨fun _ => h, fun _ => by decide⟩
 ·rename_i h
  refine ⟨fun h2 => ?_, fun h2 => absurd h2 h⟩;split at h2 <;> omega
def InsAt (l : List Rat) (i j : Nat) : Prop := ∀ (a b : Nat) (x y : Rat), a < b -> b <= i -> b ≠ j -> l[a]? = some x -> l[b]? = some y -> x <= y
def SortTo (l : List Rat) (i : Nat) : Prop := ∀ (a b : Nat) (x y : Rat), a < b -> b < i -> l[a]? = some x -> l[b]? = some y -> x <= y
theorem InsAt.start {l : List Rat} {i : Nat} (h : SortTo l i) : InsAt l i i := fun a b x y hab hbi hbj ha hb => h a b x y hab (by omega) ha hb
theorem InsAt.done {l : List Rat} {i j : Nat} (h : InsAt l i j) (hs : ∀ jp x y, j = jp + 1 -> l[jp]? = some x -> l[j]? = some y -> x <= y) (hji : j <= i) (hil : i < l.length) : SortTo l (i + 1) := by
 intro a b x y hab hbi ha hb;by_cases e : b = j
 ·subst e
  obtain ⟨jp, rfl⟩ : ∃ jp, b = jp + 1 := ⟨b - 1, by omega⟩;obtain ⟨z, hz⟩ : ∃ z, l[jp]? = some z := ⟨_, List.getElem?_eq_getElem (by omega)⟩;have h1 := hs jp z y rfl hz hb;by_cases e2 : a = jp
  ·subst e2; rw [ha] at hz; cases hz; exact h1
  ·exact Rat.le_trans (h a jp x z (by omega) (by omega) (by omega) ha hz) h1
 ·exact h a b x y hab (by omega) e ha hb
def swapL (l : List Rat) (j : Nat) (x y : Rat) : List Rat := (l.set (j + 1) x).set j y
theorem swapL_get (l : List Rat) (j : Nat) (x y : Rat) (hl : j + 1 < l.length) (a : Nat) : (swapL l j x y)[a]? = if a = j then some y else if a = j + 1 then some x else l[a]? := by
 unfold swapL;by_cases e : a = j
 ·subst e
  rw [if_pos rfl, List.getElem?_set_self (by rw [List.length_set]; omega)]
 ·rw [if_neg e, List.getElem?_set_ne (fun h => e h.symm)]
  by_cases e2 : a = j + 1
  ·subst e2; rw [if_pos rfl, List.getElem?_set_self hl]
  ·rw [if_neg e2, List.getElem?_set_ne (fun h => e2 h.symm)]
theorem swapL_perm (l : List Rat) (j : Nat) (x y : Rat) (hx : l[j]? = some x) (hy : l[j + 1]? = some y) : (swapL l j x y).Perm l := by
 obtain ⟨h1, rfl⟩ := List.getElem?_eq_some_iff.1 hx;obtain ⟨h2, rfl⟩ := List.getElem?_eq_some_iff.1 hy;exact List.set_set_perm h2 h1
theorem InsAt.step {l : List Rat} {i j : Nat} {x y : Rat} (h : InsAt l i (j + 1)) (hx : l[j]? = some x) (hy : l[j + 1]? = some y) (hji : j + 1 <= i) (hlt : y < x) : InsAt (swapL l j x y) i j := by
 have hl : j + 1 < l.length := (List.getElem?_eq_some_iff.1 hy).1;intro a b u v hab hbi hbj ha hb;rw [swapL_get l j x y hl] at ha hb;rw [if_neg hbj] at hb;by_cases e1 : b = j + 1
 ·subst e1
  rw [if_pos rfl] at hb;cases hb;by_cases e2 : a = j
  ·subst e2; rw [if_pos rfl] at ha; cases ha; exact Rat.le_of_lt hlt
  ·rw [if_neg e2, if_neg (by omega)] at ha
   exact h a j u x (by omega) (by omega) (by omega) ha hx
 ·rw [if_neg e1] at hb
  by_cases e2 : a = j
  ·subst e2; rw [if_pos rfl] at ha; cases ha
   exact h (a + 1) b _ v (by omega) hbi e1 hy hb
  ·rw [if_neg e2] at ha
   by_cases e3 : a = j + 1
   ·subst e3; rw [if_pos rfl] at ha; cases ha
    exact h j b _ v (by omega) hbi e1 hx hb
   ·rw [if_neg e3] at ha
    exact h a b u v hab hbi e1 ha hb
theorem insertion_any (w0 w : World) (g cap : Nat) (l0 : List Rat) (hln : l0.length <= 12) (hsz : ∀ q ∈ l0, Sz 200 q) (hrow : RowQ w g l0) (hgl : g < w.heap.size) (hb0 : Below w0.heap.size w0 w) (h0g : w0.heap.size <= g) (hg : Good w0) :
 Calls Tryz.prog 188 #[.slice (some ⟨g, 0, none⟩) l0.length cap, .int .i64 0, .int .i64 (l0.length : Int), .func (.func 104) #[] #[]] w
  (fun e w' => e = .returned (.tuple #[]) /\ ∃ l, l.Perm l0 /\ SortTo l l.length /\ RowQ w' g l /\ w.grownBy w' (some g)) := by
 have HSZ := hid hsz;have HCM : Hid (∀ p q : Rat, Sz 200 p -> Sz 200 q -> ∀ w, Good w -> Calls Tryz.prog 104 #[.string (RS p), .string (RS q)] w (Ret (fun v _ => v = .int .i64 (cmpQ p q)) w)) := fun p q hp hq w hg => ratCompare_any p q 200 (by omega) (by omega) hp hq w hg
 obtain ⟨n, hn⟩ : ∃ n, n = l0.length := ⟨_, rfl⟩;rw [<- hn] at hln ⊢;have HN := hid hn;have HROW := hid hrow;clear hsz hn hrow;go_enter Tryz.func188, Tryz.ntmps188;go_wp2_with fail;go_loopw [8] (fun t8 wr => ∃ (i : Nat) (l : List Rat), t8 = .int .i64 i /\ 1 <= i /\ (i <= n \/ i = 1) /\ Hid (l.Perm l0) /\ Hid (SortTo l i) /\ Hid (RowQ wr g l) /\ w.grownBy wr (some g)) (fun t8 _ => n - (RowKit.intOf t8).toNat)
 case atStart => exact ⟨1, l0, rfl, by omega, .inr rfl, List.Perm.refl _, (fun a b x y h1 h2 => by omega), HROW.out, gb_refl _ _⟩
 case round =>
  obtain ⟨i, l, rfl, hi1, hin, HP, HS, HR, hgb⟩ := hrel;clear HROW;rcases Nat.lt_or_ge i n with h | h
  ·have hiz : (i : Int) < (n : Int) := by omega
   obtain ⟨wo, hwo⟩ : ∃ wo : World, wo = wr := ⟨_, rfl⟩;subst hwo;go_wp2_with fail;go_loopw [9] (fun t9 wr => ∃ (j : Nat) (l : List Rat), t9 = .int .i64 j /\ j <= i /\ Hid (l.Perm l0) /\ Hid (InsAt l i j) /\ Hid (RowQ wr g l) /\ w.grownBy wr (some g)) (fun t9 _ => (RowKit.intOf t9).toNat)
   case atStart => exact ⟨i, l, rfl, Nat.le_refl _, HP, InsAt.start HS.out, HR.out, hgb⟩
   case round =>
    clear HP HS HR hgb;obtain ⟨j, l, rfl, hji, HP, HI, HR, hgb⟩ := hrel;have HLN : Hid (l.length = n) := by unfold Hid; rw [HP.out.length_eq, HN.out]
    have hbr : Below w0.heap.size w0 wr := below_gb hb0 hgb h0g;have hgr := hg.below hbr;have hgd : Good wr.drew := hgr.drewN 1;have hgl2 : g < wr.heap.size := Nat.lt_of_lt_of_le hgl hgb.size;rcases j with _ | jp
    ·rw [show ((0 : Nat) : Int) = 0 from rfl]
     have HDN : Hid (SortTo l (i + 1)) := HI.out.done (fun jq u v e => by omega) hji (by rw [HLN.out]; exact h);clear hgd hgr hbr;go_upto_region 4 with fail;go_region;go_wp2_with fail;go_roundw
     case rel => exact ⟨i + 1, l, by go_num, by omega, .inl (by omega), HP, HDN, HR.out, gb_below hgb (below_drewN _ 1)⟩
     case measure => simp [RowKit.intOf]; omega
    ·rw [show ((jp + 1 : Nat) : Int) = (jp : Int) + 1 from rfl]
     have hj1 : jp + 1 < l.length := by rw [HLN.out]; omega
     obtain ⟨x, hx⟩ : ∃ x, l[jp]? = some x := ⟨_, List.getElem?_eq_getElem (by omega)⟩;obtain ⟨y, hy⟩ : ∃ y, l[jp + 1]? = some y := ⟨_, List.getElem?_eq_getElem hj1⟩;have zx : Sz 200 x := HSZ.out x (HP.out.mem_iff.1 (List.mem_of_getElem? hx));have zy : Sz 200 y := HSZ.out y (HP.out.mem_iff.1 (List.mem_of_getElem? hy));have HC := hid fun w hg => HCM.out y x zy zx w hg;obtain ⟨c0, f0⟩ := HR.out jp x hx;obtain ⟨c1, f1⟩ := HR.out (jp + 1) y hy;have HX := hid hx;have HY := hid hy;have hjz1 : (jp : Int) + 1 < (n : Int) := by omega
     have hjz2 : (jp : Int) < (n : Int) := by omega
     have hjz3 : (0 : Int) < (jp : Int) + 1 := by omega
     have hw1 : IntKind.i64.wrap ((jp : Int) + 1) = (jp : Int) + 1 := IntWalk.i64_in _ (by omega);have hw2 : IntKind.i64.wrap ((jp : Int) + 1 - 1) = (jp : Int) := by rw [show (jp : Int) + 1 - 1 = (jp : Int) by omega]; exact IntWalk.i64_in _ (by omega)
     have hw3 : IntKind.i64.wrap (jp : Int) = (jp : Int) := IntWalk.i64_in _ (by omega);have hw4 : (0 : Int) <= (jp : Int) + 1 := by omega
     have hw5 : ((jp : Int) + 1).toNat = jp + 1 := by omega
     have hdec : decide ((0 : Int) < (jp : Int) + 1) = true := decide_eq_true hjz3;clear hx hy hj1 zx zy;go_upto_region 4 with fail;go_region_held3 (fun w' => w'.cell? ⟨g, jp + 1, none⟩ = some (.string (RS y)) /\ w'.cell? ⟨g, jp, none⟩ = some (.string (RS x)))
      (first | exact ⟨c1, c0⟩ | exact ⟨p_1_0, p_1_1⟩)
      (first
      | (go_at_call 104; refine (HC.out _ hgd).mono ?_; rintro e pw1 ⟨_, rfl, rfl, pb1⟩
         have p_1_0 := zct pb1 c1;have p_1_1 := zct pb1 c0;have ps1 : wr.heap.size <= pw1.heap.size := pb1.size;have pg1 := hgd.below pb1))
     have pB : Below wr.heap.size wr pw1 := zbt (below_drewN wr 1) pb1;clear hw1 hw2 hw3 hw5 hdec;have hgb1 := gb_below hgb pB;have HR1 : Hid (RowQ pw1 g l) := RowQ.below HR.out pB hgl2;have hbr1 : Below w0.heap.size w0 pw1 := below_gb hb0 hgb1 h0g;have HCZ : Hid (cmpQ y x < 0 ↔ y < x) := cmpQ_neg y x;have hgl3 : g < pw1.heap.size := Nat.lt_of_lt_of_le hgl hgb1.size;generalize cmpQ y x = z at *;clear hgb HR c0 c1 f0 f1 hgd pg1 pB hbr hgr;obtain ⟨c0, f0⟩ := HR1.out jp x HX.out;obtain ⟨c1, f1⟩ := HR1.out (jp + 1) y HY.out;by_cases hz : z < 0
     ·have hlt := HCZ.out.1 hz
      have HLT := hid hlt;have HL1 : Hid (jp + 1 < l.length) := by unfold Hid; rw [HLN.out]; omega
      have hIS : InsAt (swapL l jp x y) i jp := InsAt.step HI.out HX.out HY.out hji hlt;have HIS := hid hIS;have HPS : Hid ((swapL l jp x y).Perm l0) := (swapL_perm l jp x y HX.out HY.out).trans HP.out;have hw1 : IntKind.i64.wrap ((jp : Int) + 1) = (jp : Int) + 1 := IntWalk.i64_in _ (by omega);have hw2 : IntKind.i64.wrap ((jp : Int) + 1 - 1) = (jp : Int) := by rw [show (jp : Int) + 1 - 1 = (jp : Int) by omega]; exact IntWalk.i64_in _ (by omega)
      have hw3 : IntKind.i64.wrap (jp : Int) = (jp : Int) := IntWalk.i64_in _ (by omega);have hw5 : ((jp : Int) + 1).toNat = jp + 1 := by omega
      have hne1 : jp ≠ jp + 1 := by omega
      have hne2 : jp + 1 ≠ jp := by omega
      clear hIS hlt;go_upto_region 6 with fail;go_region;have HR2 : Hid (RowQ ((pw1.setCell ⟨g, jp + 1, none⟩ (.string (RS x))).setCell ⟨g, jp, none⟩ (.string (RS y))).drew g (swapL l jp x y)) := by
       unfold Hid swapL;exact ((HR1.out.set (jp + 1) x HL1.out).set jp y (by rw [List.length_set]; have := HL1.out; omega)).drew
      have hgb2 : w.grownBy ((pw1.setCell ⟨g, jp + 1, none⟩ (.string (RS x))).setCell ⟨g, jp, none⟩ (.string (RS y))).drew (some g) :=
       gb_below (gb_set (gb_set hgb1 (jp + 1) _) jp _) (below_drewN _ 1)
      clear hw1 hw2 hw3 hw5;go_wp2_with fail;go_roundw
      case rel => exact ⟨jp, _, by go_num, by omega, HPS, HIS, HR2, hgb2⟩
      case measure => simp [RowKit.intOf] <;> omega
     ·have hnl : ¬ y < x := fun h => hz (HCZ.out.2 h)
      have HDN : Hid (SortTo l (i + 1)) := HI.out.done (fun jq u v e hu hv => by
       obtain rfl : jp = jq := by omega
       rw [HX.out] at hu; rw [HY.out] at hv; cases hu; cases hv;exact Rat.not_lt.1 hnl) hji (by rw [HLN.out]; exact h)
      clear hnl c0 f0 c1 f1;go_wp2_with fail;go_roundw
      case rel => exact ⟨i + 1, l, by go_num, by omega, .inl (by omega), HP, HDN, HR1, hgb1⟩
      case measure => simp [RowKit.intOf]; omega
  ·have hge : (n : Int) <= (i : Int) := by omega
   have HLN : Hid (l.length = n) := by unfold Hid; rw [HP.out.length_eq, HN.out]
   have HS2 : Hid (SortTo l l.length) := fun a b x y h1 h2 hx hy => HS.out a b x y h1 (by have := HLN.out; omega) hx hy
   go_wp2_with fail;go_end0;exact ⟨rfl, l, HP.out, HS2.out, HR.out, hgb⟩
theorem pdq_any (w0 w : World) (g cap : Nat) (l0 : List Rat) (hln : l0.length <= 12) (hsz : ∀ q ∈ l0, Sz 200 q) (hrow : RowQ w g l0) (hgl : g < w.heap.size) (hb0 : Below w0.heap.size w0 w) (h0g : w0.heap.size <= g) (hg : Good w0) (lim : Int) :
 Calls Tryz.prog 148 #[.slice (some ⟨g, 0, none⟩) l0.length cap, .int .i64 0, .int .i64 (l0.length : Int), .int .i64 lim, .func (.func 104) #[] #[]] w
  (fun e w' => e = .returned (.tuple #[]) /\ ∃ l, l.Perm l0 /\ SortTo l l.length /\ RowQ w' g l /\ w.grownBy w' (some g)) := by
 have HI := hid (insertion_any w0 w g cap l0 hln hsz hrow hgl hb0 h0g hg);have hnz : (l0.length : Int) <= 12 := by omega
 have hnz0 : (0 : Int) <= (l0.length : Int) := by omega
 generalize l0.length = n at *;clear hsz hrow hgl hb0 h0g hg;go_enter Tryz.func148, Tryz.ntmps148;go_wp2_with fail;refine wp_loop_rounds 1 ?_;rw [rounds_succ];go_wp2_with fail;refine HI.out.mono ?_;rintro e w' ⟨rfl, l, h1, h2, h3, h4⟩;go_wp2_with fail;exact bodyPost_ret (v := .tuple #[]) (by simp [results, Tryz.results148, go_sem]) rfl ⟨rfl, l, h1, h2, h3, h4⟩
theorem sortRat_any (w0 w : World) (g cap : Nat) (l0 : List Rat) (hln : l0.length <= 12) (hsz : ∀ q ∈ l0, Sz 200 q) (hrow : RowQ w g l0) (hgl : g < w.heap.size) (hb0 : Below w0.heap.size w0 w) (h0g : w0.heap.size <= g) (hg : Good w0) :
 Calls Tryz.prog 103 #[.slice (some ⟨g, 0, none⟩) l0.length cap, .func (.func 104) #[] #[]] w
  (fun e w' => e = .returned (.tuple #[]) /\ ∃ l, l.Perm l0 /\ SortTo l l.length /\ RowQ w' g l /\ w.grownBy w' (some g)) := by
 have HI : Hid (∀ lim : Int, _) := fun lim => pdq_any w0 w g cap l0 hln hsz hrow hgl hb0 h0g hg lim;have hl : Calls Tryz.prog 136 #[.int .u64 (l0.length : Int)] w fun e w' => e = .returned (.int .i64 (Lib.bitLen l0.length : Nat)) /\ w' = w := by
  have h := Any.bits_Len (SlLaysF0.n15.bits (P := Tryz.prog) (ρ := Tryz.sortRat_ren) { Tryz.sortRat with }) (l0.length : Int) w (by omega) (by omega);rwa [Int.toNat_natCast] at h
 have wr : IntKind.u64.wrap (l0.length : Int) = l0.length := by simp [IntKind.wrap, IntKind.bits, IntKind.signed]; omega
 have hnz : (l0.length : Int) <= 12 := by omega
 generalize Lib.bitLen l0.length = lim at *;generalize l0.length = n at *;clear hsz hrow hgl hb0 h0g hg;go_enter Tryz.func103, Tryz.ntmps103;go_wp2_with fail;refine hl.mono ?_;rintro e w1 ⟨rfl, hw1⟩;rw [hw1];clear hw1;go_wp2_with fail;refine (HI.out _).mono ?_;rintro e w' ⟨rfl, l, h1, h2, h3, h4⟩;go_wp2_with fail;go_end0;exact ⟨rfl, l, h1, h2, h3, h4⟩
def insD (x : Rat) : List Rat -> List Rat
 | [] => [x]
 | y :: l => if x < y then x :: y :: l else if y < x then y :: insD x l else y :: l
def sortD (l : List Rat) : List Rat := l.foldr insD []
theorem rat_lt_trans {a b c : Rat} (h1 : a < b) (h2 : b < c) : a < c := by
 refine Rat.not_le.1 fun h => ?_;exact absurd (Rat.not_le.2 h1) (fun k => k (Rat.le_trans (Rat.le_of_lt h2) h))
theorem rat_lt_of_le_lt {a b c : Rat} (h1 : a <= b) (h2 : b < c) : a < c := Rat.not_le.1 fun h => absurd (Rat.le_trans h h1) (Rat.not_le.2 h2)
theorem rat_eq {x y : Rat} (h1 : ¬ x < y) (h2 : ¬ y < x) : x = y := Rat.le_antisymm (Rat.not_lt.1 h2) (Rat.not_lt.1 h1)
theorem insD_mem (x q : Rat) (l : List Rat) : q ∈ insD x l ↔ q = x \/ q ∈ l := by
 induction l with
 | nil => simp [insD]
 | cons y l ih =>
   unfold insD;split
   ·simp
   ·split
    ·rw [List.mem_cons, ih, List.mem_cons]; constructor <;> (rintro (h | h | h) <;> simp [h])
    ·rename_i h1 h2
     have := rat_eq h1 h2;subst this;simp
theorem insD_pw (x : Rat) (l : List Rat) (h : l.Pairwise (· < ·)) : (insD x l).Pairwise (· < ·) := by
 induction l with
 | nil => simp [insD]
 | cons y l ih =>
   rw [List.pairwise_cons] at h;unfold insD;split
   ·rename_i h1
    rw [List.pairwise_cons, List.pairwise_cons];refine ⟨fun q hq => ?_, h⟩;rcases List.mem_cons.1 hq with rfl | hq
    ·exact h1
    ·exact rat_lt_trans h1 (h.1 q hq)
   ·split
    ·rename_i h1 h2
     rw [List.pairwise_cons];refine ⟨fun q hq => ?_, ih h.2⟩;rcases (insD_mem x q l).1 hq with rfl | hq
     ·exact h2
     ·exact h.1 q hq
    ·exact List.pairwise_cons.2 h
theorem sortD_mem (l : List Rat) (q : Rat) : q ∈ sortD l ↔ q ∈ l := by
 unfold sortD
 induction l with
 | nil => simp
 | cons x l ih => rw [List.foldr_cons, insD_mem, ih, List.mem_cons]
theorem sortD_pw (l : List Rat) : (sortD l).Pairwise (· < ·) := by
 unfold sortD
 induction l with
 | nil => simp
 | cons x l ih => rw [List.foldr_cons]; exact insD_pw x _ ih
theorem pw_unique {a b : List Rat} (ha : a.Pairwise (· < ·)) (hb : b.Pairwise (· < ·)) (h : ∀ q, q ∈ a ↔ q ∈ b) : a = b := by
 have nd : ∀ {l : List Rat}, l.Pairwise (·< ·) -> l.Nodup := fun hl => hl.imp (fun h e => by rw [e] at h; exact Rat.lt_irrefl h)
 exact ((List.perm_ext_iff_of_nodup (nd ha) (nd hb)).2 h).eq_of_pairwise (fun x y _ _ h1 h2 => absurd (rat_lt_trans h1 h2) Rat.lt_irrefl) ha hb
theorem sortD_perm {a b : List Rat} (h : a.Perm b) : sortD a = sortD b :=
 pw_unique (sortD_pw a) (sortD_pw b) fun q => by rw [sortD_mem, sortD_mem, h.mem_iff]
def encO : Option Rat -> Value
 | none => .string ⟨#[]⟩
 | some q => .string (RS q)
theorem enc_eq (x y : Option Rat) : ∃ a b : ByteArray, encO x = .string a /\ encO y = .string b /\ (a.toList == b.toList) = decide (x = y) := by
 have hne : ∀ q : Rat, (RS q).toList ≠ [] := fun q => by
  rw [ba_toList, RS_list]; exact RL_ne_nil q
 have he : (⟨#[]⟩ : ByteArray).toList = [] := by rw [ba_toList]
 cases x with
 | none =>
   cases y with
   | none => exact ⟨_, _, rfl, rfl, by simp⟩
   | some q => exact ⟨_, _, rfl, rfl, by rw [he]; simp; exact hne q⟩
 | some p =>
   cases y with
   | none => exact ⟨_, _, rfl, rfl, by rw [he]; simp; exact hne p⟩
   | some q => exact ⟨_, _, rfl, rfl, by
      rw [ba_toList, ba_toList, RS_list, RS_list, RL_beq];simp⟩
theorem eqlO (T : Nat) : EqlAt Tryz.prog T encO (fun x y => decide (x = y)) := by
 refine ⟨fun x y w => ?_, fun op a b x y w => ?_⟩
 ·obtain ⟨a, b, h1, h2, h3⟩ := enc_eq x y
  show Sem.run _ _ w = Result.ok (Value.bool (decide (x = y))) w;rw [h1, h2, <- h3];exact (EqlAt.string Tryz.prog T).1 a b w
 ·obtain ⟨u, v, h1, h2, _⟩ := enc_eq x y
  rw [h1, h2];exact GuardAt.string Tryz.prog T op a b u v w
theorem neqO (T : Nat) : NeqAt Tryz.prog T encO (fun x y => decide (x = y)) := by
 refine ⟨fun x y w => ?_, (eqlO T).2⟩;obtain ⟨a, b, h1, h2, h3⟩ := enc_eq x y;show Sem.run _ _ w = Result.ok (Value.bool (!decide (x = y))) w;rw [h1, h2, <- h3];exact (NeqAt.string Tryz.prog T).1 a b w
open Go.Sort in
theorem putRow_gb {α : Type} [Inhabited α] (enc : α -> Value) (w : World) (q blk off : Nat) (d : Array α) : w.grownBy (putRow enc (Sort.ahead w q) blk off d) (some blk) := by
 refine ⟨rfl, rfl, rfl, (by simp [putRow, mapBlock, Sort.ahead]), fun j hj hjn => ?_⟩;unfold putRow mapBlock Sort.ahead;show (w.heap.modify blk _)[j]? = _;rw [Array.getElem?_modify, if_neg (by rintro rfl; exact hjn rfl)]
theorem compact_sorted (l : List Rat) (hs : SortTo l l.length) (m : Nat) (hm : m <= l.length) :
 ∃ E : List Rat, Lib.compactUpTo (l.map some).toArray m = E.map some /\ E.Pairwise (·< ·) /\ ∀ q, q ∈ E ↔ ∃ a, a < m /\ l[a]? = some q := by
 have hget : ∀ a x, l[a]? = some x -> (l.map some).toArray[a]! = some x := fun a x h => by
  obtain ⟨h1, rfl⟩ := List.getElem?_eq_some_iff.1 h;rw [getElem!_pos _ a (by simpa using h1)];simp
 induction m with
 | zero => exact ⟨[], rfl, List.Pairwise.nil, fun q => by simp⟩
 | succ m ih =>
   obtain ⟨E, h1, h2, h3⟩ := ih (by omega);obtain ⟨x, hx⟩ : ∃ x, l[m]? = some x := ⟨_, List.getElem?_eq_getElem (by omega)⟩;rw [Lib.compactUpTo_succ, h1];cases hk : Lib.keeps (l.map some).toArray m
   ·refine ⟨E, by simp, h2, fun q => ?_⟩
    rw [h3];unfold Lib.keeps at hk;have hk' := of_decide_eq_false hk;obtain ⟨m', rfl⟩ : ∃ m', m = m' + 1 := by
     rcases m with _ | m'
     ·exact absurd (.inl rfl) hk'
     ·exact ⟨m', rfl⟩
    obtain ⟨y, hy⟩ : ∃ y, l[m']? = some y := ⟨_, List.getElem?_eq_getElem (by omega)⟩;have hxy : x = y := by
     have := fun h => hk' (.inr h);rw [hget _ _ hx, Nat.add_sub_cancel, hget _ _ hy] at this;exact Option.some.inj (Classical.not_not.1 this)
    subst hxy;constructor
    ·rintro ⟨a, ha, hq⟩; exact ⟨a, by omega, hq⟩
    ·rintro ⟨a, ha, hq⟩
     by_cases e : a = m' + 1
     ·subst e; rw [hx] at hq; cases hq; exact ⟨m', by omega, hy⟩
     ·exact ⟨a, by omega, hq⟩
   ·refine ⟨E ++ [x], by simp [hget _ _ hx], ?_, fun q => ?_⟩
    ·rw [List.pairwise_append]
     refine ⟨h2, by simp, fun q hq r hr => ?_⟩;rw [List.mem_singleton] at hr;subst hr;obtain ⟨a, ha, hqa⟩ := (h3 q).1 hq;unfold Lib.keeps at hk;have hk' := of_decide_eq_true hk;obtain ⟨m', rfl⟩ : ∃ m', m = m' + 1 := ⟨m - 1, by omega⟩;obtain ⟨y, hy⟩ : ∃ y, l[m']? = some y := ⟨_, List.getElem?_eq_getElem (by omega)⟩;have hne : r ≠ y := by
      rcases hk' with h | h
      ·omega
      ·rw [hget _ _ hx, Nat.add_sub_cancel, hget _ _ hy] at h
       exact fun e => h (by rw [e])
     have hyr : y < r := Rat.lt_of_le_of_ne (hs m' (m' + 1) y r (by omega) (by omega) hy hx) (fun e => hne e.symm);by_cases e : a = m'
     ·subst e; rw [hqa] at hy; cases hy; exact hyr
     ·exact rat_lt_of_le_lt (hs a m' q y (by omega) (by omega) hqa hy) hyr
    ·rw [List.mem_append, h3, List.mem_singleton]
     constructor
     ·rintro (⟨a, ha, hq⟩ | rfl)
      ·exact ⟨a, by omega, hq⟩
      ·exact ⟨m, by omega, hx⟩
     ·rintro ⟨a, ha, hq⟩
      by_cases e : a = m
      ·subst e; rw [hx] at hq; cases hq; exact .inr rfl
      ·exact .inl ⟨a, by omega, hq⟩
open Go.Sort in
theorem compactRat_any (w : World) (g cap : Nat) (l : List Rat) (hln : l.length <= 1000) (hs : SortTo l l.length) (hrow : RowQ w g l) (hcap : l.length <= cap) :
 Calls Tryz.prog 105 #[.slice (some ⟨g, 0, none⟩) l.length cap] w
  (fun e w' => e = .returned (.slice (some ⟨g, 0, none⟩) (sortD l).length cap) /\ RowQ w' g (sortD l) /\ w.grownBy w' (some g)) := by
 have hds : ((l.map some).toArray : Array (Option Rat)).size = l.length := by simp
 have hH : Holds encO w g 0 (l.map some).toArray := fun j hj => by
  rw [hds] at hj;rw [Nat.zero_add, getElem!_pos _ j (by rw [hds]; exact hj)];simp only [List.getElem_toArray, List.getElem_map];exact hrow j _ (List.getElem?_eq_getElem hj)
 have hcon := AnyE.slices_Compact Tryz.compactRat encO (fun x => by cases x <;> rfl) (eqlO _) (neqO _) none (fun w => by kernel_rfl) g 0 cap (l.map some).toArray w hH (by rw [hds]; omega) (by rw [hds]; exact hcap);rw [hds] at hcon;change Calls Tryz.prog 105 _ _ _ at hcon;obtain ⟨E, h1, h2, h3⟩ := compact_sorted l hs l.length (Nat.le_refl _);have hE : E = sortD l := pw_unique h2 (sortD_pw l) fun q => by
  rw [h3, sortD_mem, List.mem_iff_getElem?];constructor
  ·rintro ⟨a, _, h⟩; exact ⟨a, h⟩
  ·rintro ⟨a, h⟩; exact ⟨a, (List.getElem?_eq_some_iff.1 h).1, h⟩
 rw [h1, hE, List.length_map] at hcon;refine hcon.mono ?_;rintro e w' ⟨rfl, q, rfl⟩;refine ⟨rfl, fun a x ha => ?_, putRow_gb _ _ _ _ _ _⟩;have hlen : (sortD l).length <= l.length := by
  rw [<- hE];have h4 : (E.map some).length <= l.length := by
   rw [<- h1];unfold Lib.compactUpTo;rw [List.length_map];exact Nat.le_trans (List.length_filter_le _ _) (by simp)
  simpa using h4
 have hsz : (((sortD l).map some ++ List.replicate (l.length - (sortD l).length) none).toArray : Array (Option Rat)).size = ((l.map some).toArray : Array (Option Rat)).size := by simp; omega
 have hp := holds_putRow encO (Sort.ahead w q) g 0 (l.map some).toArray _ (holds_ahead encO w q g 0 _ hH) hsz;have hal : a < (sortD l).length := (List.getElem?_eq_some_iff.1 ha).1;have := hp a (by simp; omega);rw [Nat.zero_add, getElem!_pos _ a (by simp; omega)] at this;simp only [List.getElem_toArray] at this;rw [List.getElem_append_left (by simpa using hal), List.getElem_map] at this;obtain ⟨_, e⟩ := List.getElem?_eq_some_iff.1 ha;rw [e] at this;exact this
abbrev SpanQ := Nat × Rat × Rat
def cellS (s : SpanQ) : List Value := [.int .i64 (s.1 : Int), .string (RS s.2.1), .string (RS s.2.2)]
def cellsS (l : List SpanQ) : List Value := l.flatMap cellS
def RdSp (w : World) (v : Value) (l : List SpanQ) : Prop := RdC 3 w v l.length (cellsS l)
theorem cellsS_snoc (l : List SpanQ) (s : SpanQ) : cellsS (l ++ [s]) = cellsS l ++ cellS s := by simp [cellsS]
theorem cellsS_get (l : List SpanQ) (i : Nat) (s : SpanQ) (h : l[i]? = some s) (k : Nat) (hk : k < 3) : (cellsS l)[i * 3 + k]? = (cellS s)[k]? := by
 unfold cellsS;rw [getElem?_flatMap_const cellS 3 (fun _ => rfl) l i k hk, h];rfl
theorem RdSp.cells {w : World} {v : Value} {l : List SpanQ} (h : RdSp w v l) : ∃ p c, v = .slice p l.length c /\ (l ≠ [] -> ∃ b off, p = some ⟨b, off, none⟩ /\ b < w.heap.size /\
 ∀ i s, l[i]? = some s -> w.cell? ⟨b, off + i * 3, none⟩ = some (.int .i64 (s.1 : Int)) /\ w.cell? ⟨b, off + i * 3 + 1, none⟩ = some (.string (RS s.2.1)) /\ w.cell? ⟨b, off + i * 3 + 2, none⟩ = some (.string (RS s.2.2))) := by
 obtain ⟨p, c, hv, _, _, _, h4⟩ := h;refine ⟨p, c, hv, fun hne => ?_⟩;have hne2 : cellsS l ≠ [] := by
  intro e;rcases l with _ | ⟨a, l⟩
  ·exact hne rfl
  ·simp [cellsS, cellS] at e
 obtain ⟨b, off, hp, hc⟩ := h4 hne2;have key : ∀ i s, l[i]? = some s -> w.cell? ⟨b, off + i * 3, none⟩ = some (.int .i64 (s.1 : Int)) /\ w.cell? ⟨b, off + i * 3 + 1, none⟩ = some (.string (RS s.2.1)) /\ w.cell? ⟨b, off + i * 3 + 2, none⟩ = some (.string (RS s.2.2)) := fun i s hs => by
  have k0 := hc (i * 3 + 0) _ ((cellsS_get l i s hs 0 (by omega)).trans rfl);have k1 := hc (i * 3 + 1) _ ((cellsS_get l i s hs 1 (by omega)).trans rfl);have k2 := hc (i * 3 + 2) _ ((cellsS_get l i s hs 2 (by omega)).trans rfl);rw [<- Nat.add_assoc] at k0 k1 k2;exact ⟨k0, k1, k2⟩
 refine ⟨b, off, hp, ?_, key⟩;obtain ⟨s, hs⟩ : ∃ s, l[0]? = some s := ⟨_, List.getElem?_eq_getElem (List.length_pos_iff.2 hne)⟩;exact World.block_lt_of_cell? w _ (key 0 s hs).1
def coverB (x y : Rat) (s : SpanQ) : Bool := decide (s.2.1 <= x) && decide (y <= s.2.2)
theorem cmpQ_le0 (p q : Rat) : decide (cmpQ p q <= 0) = decide (p <= q) := by
 have h := cmpQ_pos p q;by_cases h1 : p <= q
 ·rw [decide_eq_true h1, decide_eq_true]
  have : ¬ 0 < cmpQ p q := fun h2 => absurd (h.1 h2) (Rat.not_lt.2 h1);omega
 ·rw [decide_eq_false h1, decide_eq_false]
  have := h.2 (Rat.not_le.1 h1);omega
theorem alongF_any (w : World) (s : SpanQ) (hs1 : Sz 200 s.2.1) (hs2 : Sz 200 s.2.2) (Be Bi g n cap ip : Nat) (x y : Rat) (zx : Sz 200 x) (zy : Sz 200 y) (hip : ip + 1 < n) (hn : n <= 1000)
 (ce : w.cell? ⟨Be, 0, none⟩ = some (.slice (some ⟨g, 0, none⟩) n cap)) (ci : w.cell? ⟨Bi, 0, none⟩ = some (.int .i64 ((ip : Int) + 1))) (cx : w.cell? ⟨g, ip, none⟩ = some (.string (RS x))) (cy : w.cell? ⟨g, ip + 1, none⟩ = some (.string (RS y))) (hg : Good w) :
 Calls Tryz.prog 107 #[.agg #[.int .i64 (s.1 : Int), .string (RS s.2.1), .string (RS s.2.2)], .pointer (some ⟨Be, 0, none⟩), .pointer (some ⟨Bi, 0, none⟩)] w (Ret (fun r _ => r = .bool (coverB x y s)) w) := by
 have H1 := hid fun w hg => ratCompare_any s.2.1 x 200 (by omega) (by omega) hs1 zx w hg
 have H2 := hid fun w hg => ratCompare_any y s.2.2 200 (by omega) (by omega) zy hs2 w hg
 have E1 := cmpQ_le0 s.2.1 x;have E2 := cmpQ_le0 y s.2.2;have HE : Hid (coverB x y s = (decide (cmpQ s.2.1 x <= 0) && decide (cmpQ y s.2.2 <= 0))) := by unfold Hid coverB; rw [E1, E2]
 rw [HE.out];have hzr := cmpQ_range s.2.1 x;generalize cmpQ s.2.1 x = z1 at *;generalize cmpQ y s.2.2 = z2 at *;generalize RS s.2.1 = sf at *;generalize RS s.2.2 = st at *;generalize RS x = sx at *;generalize RS y = sy at *;have hiz1 : (ip : Int) + 1 < (n : Int) := by omega
 have hiz2 : (ip : Int) < (n : Int) := by omega
 have hiz3 : (0 : Int) <= (ip : Int) + 1 := by omega
 have hw1 : IntKind.i64.wrap ((ip : Int) + 1 - 1) = (ip : Int) := by rw [show (ip : Int) + 1 - 1 = (ip : Int) by omega]; exact IntWalk.i64_in _ (by omega)
 have hw2 : IntKind.i64.wrap (ip : Int) = (ip : Int) := IntWalk.i64_in _ (by omega);have hw3 : ((ip : Int) + 1).toNat = ip + 1 := by omega
 clear E1 E2 HE hs1 hs2 zx zy hip hn;by_cases hz : z1 <= 0
 ·have hd1 : decide (z1 <= 0) = true := decide_eq_true hz
  rw [hd1, Bool.true_and];clear hz;go_enter Tryz.func107, Tryz.ntmps107;go_wp2_with fail;obtain ⟨W, hW⟩ : ∃ W, W = w.alloc (.cells #[.int .i64 (s.1 : Int), .string sf, .string st] 136) := ⟨_, rfl⟩;have hB : Below w.heap.size w W := by rw [hW]; exact zal _ _
  have b3 : BoxN W w.heap.size 136 [.int .i64 (s.1 : Int), .string sf, .string st] := by rw [hW]; exact BoxN.new _ _ _ _ rfl
  have le := World.block_lt_of_cell? w _ ce;have li := World.block_lt_of_cell? w _ ci;have lg := World.block_lt_of_cell? w _ cx;rw [<- hW];clear hW;have d0 := b3.cell 1 rfl;have d1 := b3.cell 2 rfl;have d2 := zcq hB le ce;have d3 := zcq hB li ci;have d4 := zcq hB lg cx;have d5 := zcq hB lg cy;have hzW := b3.lt;have hle : Be < W.heap.size := Nat.lt_trans le hzW;have hli : Bi < W.heap.size := Nat.lt_trans li hzW;have hlg : g < W.heap.size := Nat.lt_trans lg hzW;have hgd : Good W.drew := (hg.below hB).drewN 1;clear ce ci cx cy le li lg b3;go_region_held3 (fun w' => w'.cell? ⟨w.heap.size, 1, none⟩ = some (.string sf) /\ w'.cell? ⟨w.heap.size, 2, none⟩ = some (.string st) /\ w'.cell? ⟨Be, 0, none⟩ = some (.slice (some ⟨g, 0, none⟩) n cap) /\ w'.cell? ⟨Bi, 0, none⟩ = some (.int .i64 ((ip : Int) + 1)) /\ w'.cell? ⟨g, ip, none⟩ = some (.string sx) /\ w'.cell? ⟨g, ip + 1, none⟩ = some (.string sy))
   (first | exact ⟨d0, d1, d2, d3, d4, d5⟩ | exact ⟨p_1_0, p_1_1, p_1_2, p_1_3, p_1_4, p_1_5⟩ | exact ⟨p_2_0, p_2_1, p_2_2, p_2_3, p_2_4, p_2_5⟩)
   (first
   | (go_at_call 104; refine (H2.out _ pg1).mono ?_; rintro e pw2 ⟨_, rfl, rfl, pb2⟩
      have p_2_0 := zct pb2 p_1_0;have p_2_1 := zct pb2 p_1_1;have p_2_2 := zct pb2 p_1_2;have p_2_3 := zct pb2 p_1_3;have p_2_4 := zct pb2 p_1_4;have p_2_5 := zct pb2 p_1_5;have ps2 := pb2.size;have pg2 := pg1.below pb2)
   | (go_at_call 104; refine (H1.out _ hgd).mono ?_; rintro e pw1 ⟨_, rfl, rfl, pb1⟩
      have p_1_0 := zct pb1 d0;have p_1_1 := zct pb1 d1;have p_1_2 := zct pb1 d2;have p_1_3 := zct pb1 d3;have p_1_4 := zct pb1 d4;have p_1_5 := zct pb1 d5;have ps1 : W.heap.size <= pw1.heap.size := pb1.size;have pg1 := hgd.below pb1))
  have pB : Below W.heap.size W pw2 := zbt (zbt (below_drewN W 1) pb1) pb2;go_wp2_with fail;go_ret;exact ⟨_, rfl, rfl, hB.trans (pB.mono hB.size)⟩
 ·have hd1 : decide (z1 <= 0) = false := decide_eq_false hz
  rw [hd1, Bool.false_and];obtain rfl : z1 = 1 := by omega
  clear hd1 hz;go_enter Tryz.func107, Tryz.ntmps107;go_wp2_with fail;obtain ⟨W, hW⟩ : ∃ W, W = w.alloc (.cells #[.int .i64 (s.1 : Int), .string sf, .string st] 136) := ⟨_, rfl⟩;have hB : Below w.heap.size w W := by rw [hW]; exact zal _ _
  have b3 : BoxN W w.heap.size 136 [.int .i64 (s.1 : Int), .string sf, .string st] := by rw [hW]; exact BoxN.new _ _ _ _ rfl
  have le := World.block_lt_of_cell? w _ ce;have li := World.block_lt_of_cell? w _ ci;have lg := World.block_lt_of_cell? w _ cx;rw [<- hW];clear hW;have d0 := b3.cell 1 rfl;have d1 := b3.cell 2 rfl;have d2 := zcq hB le ce;have d3 := zcq hB li ci;have d4 := zcq hB lg cx;have d5 := zcq hB lg cy;have hzW := b3.lt;have hle : Be < W.heap.size := Nat.lt_trans le hzW;have hli : Bi < W.heap.size := Nat.lt_trans li hzW;have hlg : g < W.heap.size := Nat.lt_trans lg hzW;have hgd : Good W.drew := (hg.below hB).drewN 1;clear ce ci cx cy le li lg b3;have HF : Hid (∀ w', Below W.heap.size W w' -> w'.cell? ⟨w.heap.size, 1, none⟩ = some (.string sf) /\ w'.cell? ⟨Be, 0, none⟩ = some (.slice (some ⟨g, 0, none⟩) n cap) /\ w'.cell? ⟨Bi, 0, none⟩ = some (.int .i64 ((ip : Int) + 1)) /\ w'.cell? ⟨g, ip, none⟩ = some (.string sx)) := fun w' hb => ⟨(zcq hb hzW d0 :), (zcq hb hle d2 :), (zcq hb hli d3 :), (zcq hb hlg d4 :)⟩;have b0 : Below W.heap.size W W.drew := below_drewN W 1;refine wp_region_held_drew (S := (fun w' => w'.cell? ⟨w.heap.size, 1, none⟩ = some (.string sf) /\ w'.cell? ⟨Be, 0, none⟩ = some (.slice (some ⟨g, 0, none⟩) n cap) /\ w'.cell? ⟨Bi, 0, none⟩ = some (.int .i64 ((ip : Int) + 1)) /\ w'.cell? ⟨g, ip, none⟩ = some (.string sx))) (by kernel_rfl) ?_ (fun hHeld => ?_)
  ·(refine HF.out _ ?_; assumption)
  refine zhk 0 ?_;try simp only [Act.put]
  refine zhk 1 ?_;try simp only [Act.put]
  refine zhk 2 ?_;try simp only [Act.put]
  refine zhk 3 ?_;try simp only [Act.put]
  refine zhk 4 ?_;try simp only [Act.put]
  refine zhk 5 ?_;try simp only [Act.put]
  refine zhk 6 ?_;try simp only [Act.put]
  refine wpAnyH_ready (rs := [7]) (by kernel_rfl) (by simp) ?_;refine AllReadyH.cons (o := _) rfl (fun K hK => ?_) AllReadyH.nil;go_simp
  (refine (H1.out _ hgd).mono ?_; rintro e w4 ⟨_, rfl, rfl, hb4⟩; have h4 : Below W.heap.size W w4 := b0.trans hb4)
  refine hK.out _ _ ?_ (fun hHeld => ?_)
  ·(refine HF.out _ ?_; assumption)
  clear hK K;try simp only [Act.put]
  refine zhk 8 ?_;try simp only [Act.put]
  refine zhk 9 ?_;try simp only [Act.put]
  refine wpAnyH_take (i := 10) (oi := _) (v := undef) rfl (by kernel_rfl) (by kernel_rfl) (by kernel_rfl) (fun _ _ _ h => h) (Or.inr ⟨by rfl, rfl⟩) (by assumption) ?_;try simp only [Act.put]
  refine wpAnyH_take (i := 11) (oi := _) (v := undef) rfl (by kernel_rfl) (by kernel_rfl) (by kernel_rfl) (fun _ _ _ h => h) (Or.inr ⟨by rfl, rfl⟩) (by assumption) ?_;try simp only [Act.put]
  refine wpAnyH_take (i := 12) (oi := _) (v := undef) rfl (by kernel_rfl) (by kernel_rfl) (by kernel_rfl) (fun _ _ _ h => h) (Or.inr ⟨by rfl, rfl⟩) (by assumption) ?_;try simp only [Act.put]
  refine wpAnyH_take (i := 13) (oi := _) (v := undef) rfl (by kernel_rfl) (by kernel_rfl) (by kernel_rfl) (fun _ _ _ h => h) (Or.inr ⟨by rfl, rfl⟩) (by assumption) ?_;try simp only [Act.put]
  refine wpAnyH_take (i := 14) (oi := _) (v := undef) rfl (by kernel_rfl) (by kernel_rfl) (by kernel_rfl) (fun _ _ _ h => h) (Or.inr ⟨by rfl, rfl⟩) (by assumption) ?_;try simp only [Act.put]
  refine wpAnyH_take (i := 15) (oi := _) (v := undef) rfl (by kernel_rfl) (by kernel_rfl) (by kernel_rfl) (fun _ _ _ h => h) (Or.inr ⟨by rfl, rfl⟩) (by assumption) ?_;try simp only [Act.put]
  refine wpAnyH_ready (rs := [16]) (by kernel_rfl) (by simp) ?_;refine AllReadyH.cons (o := _) rfl (fun K hK => ?_) AllReadyH.nil;go_simp;refine hK.out _ _ (by assumption) (fun hHeld => ?_);clear hK K;try simp only [Act.put]
  refine wpAnyH_take (i := 17) (oi := _) (v := undef) rfl (by kernel_rfl) (by kernel_rfl) (by kernel_rfl) (fun _ _ _ h => h) (Or.inr ⟨by rfl, rfl⟩) (by assumption) ?_;try simp only [Act.put]
  refine zhk 18 ?_;try simp only [Act.put]
  refine zhk 19 ?_;try simp only [Act.put]
  refine wpAnyH_done (by kernel_rfl) ?_ _;go_wp2_with fail;go_ret;exact ⟨_, rfl, rfl, hB.trans (h4.mono hB.size)⟩
def findK (x y : Rat) (A : List SpanQ) : Option Nat := A.findIdx? (coverB x y)
theorem indexSpan_any (w : World) (va : Value) (A : List SpanQ) (hA : RdSp w va A) (hAl : A.length <= 1000) (hsz : ∀ s ∈ A, Sz 200 s.2.1 /\ Sz 200 s.2.2) (Be Bi g n cap ip : Nat) (x y : Rat) (zx : Sz 200 x) (zy : Sz 200 y) (hip : ip + 1 < n) (hn : n <= 1000)
 (ce : w.cell? ⟨Be, 0, none⟩ = some (.slice (some ⟨g, 0, none⟩) n cap)) (ci : w.cell? ⟨Bi, 0, none⟩ = some (.int .i64 ((ip : Int) + 1))) (cx : w.cell? ⟨g, ip, none⟩ = some (.string (RS x))) (cy : w.cell? ⟨g, ip + 1, none⟩ = some (.string (RS y))) (hg : Good w) :
 Calls Tryz.prog 106 #[va, .func (.func 107) #[] #[.pointer (some ⟨Be, 0, none⟩), .pointer (some ⟨Bi, 0, none⟩)]] w (Ret (fun r _ => (∃ k, findK x y A = some k /\ k < A.length /\ r = .int .i64 (k : Int)) \/ (findK x y A = none /\ r = .int .i64 (-1))) w) := by
 have le := World.block_lt_of_cell? w _ ce;have li := World.block_lt_of_cell? w _ ci;have lg := World.block_lt_of_cell? w _ cx;have HF : Hid (∀ s ∈ A, ∀ w', Below w.heap.size w w' -> Calls Tryz.prog 107 #[.agg #[.int .i64 (s.1 : Int), .string (RS s.2.1), .string (RS s.2.2)], .pointer (some ⟨Be, 0, none⟩), .pointer (some ⟨Bi, 0, none⟩)] w' (Ret (fun r _ => r = .bool (coverB x y s)) w')) := fun s hs w' hb =>
  alongF_any w' s (hsz s hs).1 (hsz s hs).2 Be Bi g n cap ip x y zx zy hip hn ((zcq hb le ce :)) ((zcq hb li ci :)) ((zcq hb lg cx :)) ((zcq hb lg cy :)) (hg.below hb)
 obtain ⟨pa, ca, rfl, hcell⟩ := hA.cells;have HCL := hid hcell;have HFK : Hid (∀ k s, A[k]? = some s -> coverB x y s = true -> (∀ j t, j < k -> A[j]? = some t -> coverB x y t = false) -> findK x y A = some k) := fun k s hk hc hno => by
  obtain ⟨hlt, rfl⟩ := List.getElem?_eq_some_iff.1 hk;unfold findK;rw [List.findIdx?_eq_some_iff_getElem];exact ⟨hlt, hc, fun j hj => by rw [hno j _ hj (List.getElem?_eq_getElem (by omega))]; simp⟩
 have HFN : Hid ((∀ j t, A[j]? = some t -> coverB x y t = false) -> findK x y A = none) := fun hno => by
  unfold findK;rw [List.findIdx?_eq_none_iff];intro t ht;obtain ⟨j, hj⟩ := List.mem_iff_getElem?.1 ht;exact hno j t hj
 generalize findK x y A = fk at *;clear hA hcell ce ci cx cy le li lg hsz zx zy hip hn;go_enter Tryz.func106, Tryz.ntmps106;go_wp2_with fail;go_loopw [5, 8] (fun _ t8 wr => ∃ i : Nat, t8 = .int .i64 i /\ i <= A.length /\ Hid (∀ j t, j < i -> A[j]? = some t -> coverB x y t = false) /\ Below w.heap.size w wr) (fun _ t8 _ => A.length - (RowKit.intOf t8).toNat)
 case atStart => exact ⟨0, rfl, Nat.zero_le _, (fun j t h => by omega), Below.refl _ _⟩
 case round =>
  obtain ⟨i, rfl, hi, HNO, hbr⟩ := hrel;rcases Nat.lt_or_ge i A.length with h | h
  ·obtain ⟨s, hs⟩ : ∃ s, A[i]? = some s := ⟨_, List.getElem?_eq_getElem h⟩
   obtain ⟨b, off, rfl, hbl, hc⟩ := HCL.out (List.ne_nil_of_length_pos (by omega));obtain ⟨k0, k1, k2⟩ := hc i s hs;have d0 := zcq hbr hbl k0;have d1 := zcq hbr hbl k1;have d2 := zcq hbr hbl k2;have HC := hid (HF.out s (List.mem_of_getElem? hs) wr hbr);have hiz : (i : Int) < (A.length : Int) := by omega
   have HSI := hid hs;clear hc k0 k1 k2 hs;generalize hcb : coverB x y s = cb at HC;have HCB := hid hcb;clear hcb;go_wp2_with fail;refine HC.out.mono ?_;rintro e w1 ⟨_, rfl, rfl, hb1⟩;have hbr1 := hbr.trans (hb1.mono hbr.size);clear d0 d1 d2 hb1;cases cb
   ·have HN1 : Hid (∀ j t, j < i + 1 -> A[j]? = some t -> coverB x y t = false) := fun j t hj ht => by
     by_cases e : j = i
     ·subst e; rw [HSI.out] at ht; cases ht; exact HCB.out
     ·exact HNO.out j t (by omega) ht
    go_wp2_with fail;go_roundw
    case rel => exact ⟨i + 1, by go_num, by omega, HN1, hbr1⟩
    case measure =>
     show A.length - ((i : Int) + 1).toNat < A.length - (i : Int).toNat;omega
   ·have HK := hid (HFK.out i s HSI.out HCB.out HNO.out)
    go_wp2_with fail;go_ret;exact ⟨_, rfl, .inl ⟨i, HK.out, h, rfl⟩, hbr1⟩
  ·have HK := hid (HFN.out (fun j t ht => HNO.out j t (by have := (List.getElem?_eq_some_iff.1 ht).1; omega) ht))
   have hge : (A.length : Int) <= (i : Int) := by omega
   go_wp2_with fail;go_ret;exact ⟨_, rfl, .inr ⟨HK.out, rfl⟩, hbr⟩
def spanAt (P : List PtQ) (T : List Tri) (a b : PtQ) (i : Nat) : List SpanQ :=
 match T[i]? with
 | none => []
 | some tr => match withinF (ptI P tr.1) (ptI P tr.2.1) (ptI P tr.2.2) a b with
   | none => []
   | some l => [(i, l.1, l.2)]
def spansN (P : List PtQ) (T : List Tri) (a b : PtQ) (n : Nat) : List SpanQ := (List.range n).flatMap (spanAt P T a b)
def endsS (A : List SpanQ) : List Rat := A.flatMap fun s => [s.2.1, s.2.2]
theorem spansN_succ (P : List PtQ) (T : List Tri) (a b : PtQ) (n : Nat) : spansN P T a b (n + 1) = spansN P T a b n ++ spanAt P T a b n := by
 unfold spansN;rw [List.range_succ, List.flatMap_append];simp
theorem endsS_append (A B : List SpanQ) : endsS (A ++ B) = endsS A ++ endsS B := by simp [endsS]
theorem endsS_length (A : List SpanQ) : (endsS A).length = 2 * A.length := by
 induction A with
 | nil => rfl
 | cons s A ih => unfold endsS at *; rw [List.flatMap_cons, List.length_append, ih]; simp; omega
theorem spanAt_some {P : List PtQ} {T : List Tri} {a b : PtQ} {i : Nat} {tr : Tri} (ht : T[i]? = some tr) {l : Rat × Rat} (h : withinF (ptI P tr.1) (ptI P tr.2.1) (ptI P tr.2.2) a b = some l) : spanAt P T a b i = [(i, l.1, l.2)] := by
 unfold spanAt; rw [ht]; dsimp only; rw [h]
theorem spanAt_none {P : List PtQ} {T : List Tri} {a b : PtQ} {i : Nat} {tr : Tri} (ht : T[i]? = some tr) (h : withinF (ptI P tr.1) (ptI P tr.2.1) (ptI P tr.2.2) a b = none) : spanAt P T a b i = [] := by
 unfold spanAt; rw [ht]; dsimp only; rw [h]
theorem spanAt_le (P : List PtQ) (T : List Tri) (a b : PtQ) (i : Nat) : (spanAt P T a b i).length <= 1 := by
 unfold spanAt;split
 ·simp
 ·split <;> simp
theorem spansN_le (P : List PtQ) (T : List Tri) (a b : PtQ) (n : Nat) : (spansN P T a b n).length <= n := by
 induction n with
 | zero => simp [spansN]
 | succ n ih => rw [spansN_succ, List.length_append]; have := spanAt_le P T a b n; omega
def stepO (A : List SpanQ) (out : List SpanQ) (x y : Rat) : List SpanQ :=
 match findK x y A with
 | none => out
 | some k => match out.getLast? with
   | none => out ++ [((A[k]?.getD (0, 0, 0)).1, x, y)]
   | some l => if l.1 = (A[k]?.getD (0, 0, 0)).1 /\ l.2.2 = x then out.dropLast ++ [(l.1, l.2.1, y)] else out ++ [((A[k]?.getD (0, 0, 0)).1, x, y)]
def joinN (A : List SpanQ) (E : List Rat) : Nat -> List SpanQ
 | 0 => []
 | i + 1 => stepO A (joinN A E i) (E[i]?.getD 0) (E[i + 1]?.getD 0)
def alongS (A : List SpanQ) : List SpanQ := joinN A (sortD (endsS A)) ((sortD (endsS A)).length - 1)
def alongL (P : List PtQ) (T : List Tri) (a b : PtQ) : List SpanQ := alongS (spansN P T a b T.length)
theorem stepO_len (A out : List SpanQ) (x y : Rat) : (stepO A out x y).length <= out.length + 1 := by
 unfold stepO;split
 ·omega
 ·split
  ·simp
  ·split
   ·simp [List.length_dropLast] <;> omega
   ·simp
theorem joinN_len (A : List SpanQ) (E : List Rat) (i : Nat) : (joinN A E i).length <= i := by
 induction i with
 | zero => exact Nat.le_refl _
 | succ i ih => have := stepO_len A (joinN A E i) (E[i]?.getD 0) (E[i + 1]?.getD 0); unfold joinN; omega
theorem stepO_Sz {A out : List SpanQ} {x y : Rat} (hx : Sz 200 x) (hy : Sz 200 y) (h : ∀ s ∈ out, Sz 200 s.2.1 /\ Sz 200 s.2.2) : ∀ s ∈ stepO A out x y, Sz 200 s.2.1 /\ Sz 200 s.2.2 := by
 intro s hs;have new : ∀ n : Nat, s ∈ out ++ [(n, x, y)] -> Sz 200 s.2.1 /\ Sz 200 s.2.2 := fun n hn => by
  rcases List.mem_append.1 hn with hn | hn
  ·exact h s hn
  ·rw [List.mem_singleton] at hn; subst hn; exact ⟨hx, hy⟩
 unfold stepO at hs;split at hs
 ·exact h s hs
 ·split at hs
  ·exact new _ hs
  ·rename_i l hl
   split at hs
   ·rcases List.mem_append.1 hs with hn | hn
    ·exact h s (List.dropLast_subset _ hn)
    ·rw [List.mem_singleton] at hn; subst hn
     exact ⟨(h l (List.mem_of_getLast? hl)).1, hy⟩
   ·exact new _ hs
theorem getD_Sz {E : List Rat} (h : ∀ q ∈ E, Sz 200 q) (i : Nat) : Sz 200 (E[i]?.getD 0) := by
 cases he : E[i]? with
 | none => exact Sz.zero _ (by omega)
 | some q => exact h q (List.mem_of_getElem? he)
theorem joinN_Sz {A : List SpanQ} {E : List Rat} (hE : ∀ q ∈ E, Sz 200 q) (i : Nat) : ∀ s ∈ joinN A E i, Sz 200 s.2.1 /\ Sz 200 s.2.2 := by
 induction i with
 | zero => intro s hs; cases hs
 | succ i ih => exact stepO_Sz (getD_Sz hE _) (getD_Sz hE _) ih
theorem info_Span : ((Tryz.prog).info? 136).map (fun i => (i.zero, i.size, i.bytes)) = some (some (.agg #[.int .i64 0, .string ⟨#[]⟩, .string ⟨#[]⟩]), 3, 40) := by kernel_rfl
theorem span_one (i : Int) (x y : ByteArray) : ∀ r ∈ [Value.int .i64 i, .string x, .string y], r.oneCell' = true := by
 intro r hr; simp at hr; rcases hr with rfl | rfl | rfl <;> rfl
structure ApW (W : World) (Be : Nat) (v0 : Value) (vA : Value) (nA : Nat) (LA : List Value) (vB : Value) (nB : Nat) (LB : List Value) (bA bB : Option Nat) (cA cB : List Value) (x : World) : Prop where
 oa : x.ownsRow W.heap.size 136 3 vA nA LA
 ob : x.ownsRow W.heap.size 40 1 vB nB LB
 box : BoxN x Be 37 [v0]
 gb : W.grownBy x (some Be)
 ka : ∀ b, bA = some b -> BoxN x b 136 cA /\ vA.ownBlock ≠ some b /\ W.heap.size <= b
 kb : ∀ b, bB = some b -> BoxN x b 40 cB /\ vB.ownBlock ≠ some b /\ W.heap.size <= b
theorem BoxN.alloc {w : World} {b t : Nat} {l : List Value} (h : BoxN w b t l) (o : Obj) : BoxN (w.alloc o) b t l := h.below ((Below.refl _ _).alloc (Nat.le_refl _) _) h.lt
theorem own_ne {w : World} {base e s n : Nat} {v : Value} {xs : List Value} (h : w.ownsRow base e s v n xs) : v.ownBlock ≠ some w.heap.size := fun e => by
 have := (h.lt _ e).2; omega
section
variable {W : World} {Be : Nat} {v0 vA vB : Value} {nA nB : Nat} {LA LB cA cB : List Value} {bA bB : Option Nat} {x : World}
theorem ApW.alloc_a (h : ApW W Be v0 vA nA LA vB nB LB none bB cA cB x) : ApW W Be v0 vA nA LA vB nB LB (some x.heap.size) bB cA cB (x.alloc (.cells cA.toArray 136)) where
 oa := h.oa.alloc _
 ob := h.ob.alloc _
 box := h.box.alloc _
 gb := gb_alloc h.gb _
 ka := fun b e => by cases e; exact ⟨BoxN.new _ _ _ _ rfl, own_ne h.oa, h.gb.size⟩
 kb := fun b e => ⟨(h.kb b e).1.alloc _, (h.kb b e).2⟩
theorem ApW.alloc_b (h : ApW W Be v0 vA nA LA vB nB LB bA none cA cB x) : ApW W Be v0 vA nA LA vB nB LB bA (some x.heap.size) cA cB (x.alloc (.cells cB.toArray 40)) where
 oa := h.oa.alloc _
 ob := h.ob.alloc _
 box := h.box.alloc _
 gb := gb_alloc h.gb _
 ka := fun b e => ⟨(h.ka b e).1.alloc _, (h.ka b e).2⟩
 kb := fun b e => by cases e; exact ⟨BoxN.new _ _ _ _ rfl, own_ne h.ob, h.gb.size⟩
theorem ApW.app_a {b : Nat} {w' : World} {vA' : Value} {n' : Nat} {L' : List Value} (h : ApW W Be v0 vA nA LA vB nB LB (some b) bB cA cB x) (ho : w'.ownsRow W.heap.size 136 3 vA' n' L') (hg : x.grownBy w' vA.ownBlock) : ApW W Be v0 vA' n' L' vB nB LB none bB cA cB w' where
 oa := ho
 ob := h.ob.kept hg (owns_apart h.ob h.oa (by decide))
 box := h.box.gb hg (fun e => owns_boxN h.oa h.box (by decide) e.symm)
 gb := gb_grown h.gb hg (fun j e => (h.oa.lt j e).1)
 ka := fun b e => by cases e
 kb := fun b e => ⟨(h.kb b e).1.gb hg (fun e2 => owns_boxN h.oa (h.kb b e).1 (by decide) e2.symm), (h.kb b e).2⟩
theorem ApW.app_b {b : Nat} {w' : World} {vB' : Value} {n' : Nat} {L' : List Value} (h : ApW W Be v0 vA nA LA vB nB LB bA (some b) cA cB x) (ho : w'.ownsRow W.heap.size 40 1 vB' n' L') (hg : x.grownBy w' vB.ownBlock) : ApW W Be v0 vA nA LA vB' n' L' bA none cA cB w' where
 oa := h.oa.kept hg (owns_apart h.oa h.ob (by decide))
 ob := ho
 box := h.box.gb hg (fun e => owns_boxN h.ob h.box (by decide) e.symm)
 gb := gb_grown h.gb hg (fun j e => (h.ob.lt j e).1)
 ka := fun b e => ⟨(h.ka b e).1.gb hg (fun e2 => owns_boxN h.ob (h.ka b e).1 (by decide) e2.symm), (h.ka b e).2⟩
 kb := fun b e => by cases e
theorem ApW.news_a {b : Nat} (h : ApW W Be v0 vA nA LA vB nB LB (some b) bB cA cB x) : ∀ j u, cA[j]? = some u -> x.cell? ((⟨b, 0, none⟩ : Addr).add j) = some u := by
 have := World.news_of_block (show x.heap[b]? = some (.cells cA.toArray 136 (0, 0)) from (h.ka b rfl).1);simpa using this
theorem ApW.news_b {b : Nat} (h : ApW W Be v0 vA nA LA vB nB LB bA (some b) cA cB x) : ∀ j u, cB[j]? = some u -> x.cell? ((⟨b, 0, none⟩ : Addr).add j) = some u := by
 have := World.news_of_block (show x.heap[b]? = some (.cells cB.toArray 40 (0, 0)) from (h.kb b rfl).1);simpa using this
theorem ApW.drew (h : ApW W Be v0 vA nA LA vB nB LB bA bB cA cB x) : ApW W Be v0 vA nA LA vB nB LB bA bB cA cB x.drew where
 oa := World.ownsRow.belowAll h.oa (below_drewN x 1)
 ob := World.ownsRow.belowAll h.ob (below_drewN x 1)
 box := h.box.drew
 gb := gb_below h.gb (below_drewN x 1)
 ka := h.ka
 kb := h.kb
end
end Go.Proofs.YtbfcmipplhkkeaaGreatDoor
namespace Go.Proofs.YtbfcmipplhkkeaaGreatDoor
open Go.RowKit Go.Lib
theorem ratChk_ok (q : Rat) (h : Sz 200 q) (w : World) (hg : Good w) :
 Calls Tryz.prog 61 #[.string (RS q)] w (Ret (fun r _ => r = .int .i64 0) w) := by
 have hs := h.size (by omega);refine (checkQ_any (RS q) (by omega) w hg).mono ?_;rintro e w' ⟨v, he, hv, hb⟩;exact ⟨v, he, by rw [hv, RS_list, rightQ_RL h]; rfl, hb⟩
def cellsQ (l : List Rat) : List Value := l.map fun q => Value.string (RS q)
theorem two_one (x y : ByteArray) : ∀ u ∈ [Value.string x, .string y], u.oneCell' = true := two_str x y
theorem insD_le (x : Rat) (l : List Rat) : (insD x l).length <= l.length + 1 := by
 induction l with
 | nil => simp [insD]
 | cons y l ih =>
   unfold insD;split
   ·simp
   ·split
    ·simpa using ih
    ·simp
theorem sortD_le (l : List Rat) : (sortD l).length <= l.length := by
 unfold sortD
 induction l with
 | nil => simp
 | cons x l ih => rw [List.foldr_cons, List.length_cons]; exact Nat.le_trans (insD_le x _) (by omega)
def RowV (w : World) (v : Value) (l : List Rat) : Prop := (v = .slice none 0 0 /\ l = []) \/ ∃ g cap, v = .slice (some ⟨g, 0, none⟩) l.length cap /\ RowQ w g l /\ l.length <= cap /\ g < w.heap.size
theorem RowV.of_own {w : World} {base e n : Nat} {v : Value} {l : List Rat} (h : w.ownsRow base e 1 v n (cellsQ l)) (hn : n = l.length) : RowV w v l := by
 subst hn;rcases h.2 with ⟨hv, h0⟩ | ⟨g, cap, cur, hv, hb, hg, hc, _⟩
 ·exact .inl ⟨hv, List.length_eq_zero_iff.1 h0⟩
 ·subst hv
  refine .inr ⟨g, cap, rfl, fun a q ha => ?_, hc, (Array.getElem?_eq_some_iff.1 hg).1⟩;have hal := (List.getElem?_eq_some_iff.1 ha).1;refine ⟨?_, h.frozenAt a⟩;rw [h.cellAt a (by omega)];unfold cellsQ;rw [List.getElem?_map, ha]; rfl
theorem RowV.shape {w : World} {v : Value} {l : List Rat} (h : RowV w v l) : ∃ p c, v = .slice p l.length c := by
 rcases h with ⟨rfl, rfl⟩ | ⟨g, cap, rfl, _⟩
 ·exact ⟨_, _, rfl⟩
 ·exact ⟨_, _, rfl⟩
theorem RowV.setFar {w : World} {v : Value} {l : List Rat} (h : RowV w v l) (b i : Nat) (u : Value) (hb : v.ownBlock ≠ some b) : RowV (w.setCell ⟨b, i, none⟩ u) v l := by
 rcases h with ⟨rfl, rfl⟩ | ⟨g, cap, rfl, hr, hc, hg⟩
 ·exact .inl ⟨rfl, rfl⟩
 ·have hne : b ≠ g := fun e => hb (by rw [e]; rfl)
  exact .inr ⟨g, cap, rfl, fun a q ha => ⟨(World.cell?_setCell_far _ _ _ _ hne).trans (hr a q ha).1, by rw [World.frozen?_setCell]; exact (hr a q ha).2⟩, hc, by simpa using hg⟩
theorem RowV.below {w w' : World} {v : Value} {l : List Rat} {B : Nat} (h : RowV w v l) (hb : Below B w w') (hB : ∀ g, v.ownBlock = some g -> g < B) : RowV w' v l := by
 rcases h with ⟨rfl, rfl⟩ | ⟨g, cap, rfl, hr, hc, hg⟩
 ·exact .inl ⟨rfl, rfl⟩
 ·have hgB := hB g rfl
  exact .inr ⟨g, cap, rfl, fun a q ha => ⟨(zcq hb hgB (hr a q ha).1 :), (hb.frozen (p := ⟨g, a, none⟩) hgB).trans (hr a q ha).2⟩, hc, Nat.lt_of_lt_of_le hg hb.size⟩
theorem RowV.lt {w : World} {v : Value} {l : List Rat} (h : RowV w v l) (g : Nat) (hg : v.ownBlock = some g) : g < w.heap.size := by
 rcases h with ⟨rfl, rfl⟩ | ⟨g', cap, rfl, hr, hc, hg'⟩
 ·cases hg
 ·cases hg; exact hg'
theorem RowV.at {w : World} {v : Value} {l : List Rat} (h : RowV w v l) {a : Nat} {q : Rat} (ha : l[a]? = some q) : ∃ g cap, v = .slice (some ⟨g, 0, none⟩) l.length cap /\ g < w.heap.size /\ RowQ w g l := by
 rcases h with ⟨rfl, rfl⟩ | ⟨g, cap, rfl, hr, hc, hg⟩
 ·cases ha
 ·exact ⟨g, cap, rfl, hg, hr⟩
theorem wStep_Sz {a b p q : PtQ} {m : Nat} (zp : SzP m p) (zq : SzP m q) (za : SzP m a) (zb : SzP m b) {l r : Rat × Rat} (hl : Sz (24 * m + 16) l.1 /\ Sz (24 * m + 16) l.2) (h : wStep a b (some l) (p, q) = some r) : Sz (24 * m + 16) r.1 /\ Sz (24 * m + 16) r.2 := by
 have zu := areaQ_Sz zp zq za;have zv := areaQ_Sz zp zq zb;have zs : Sz (24 * m + 16) (areaQ p q a / (areaQ p q a - areaQ p q b)) := (zu.div (zu.sub zv) (by omega)).mono (by omega);unfold wStep at h;dsimp only at h;split at h
 ·split at h
  ·cases h
  ·cases h; exact hl
 ·split at h
  ·cases h; exact ⟨maxQ_Sz hl.1 zs, hl.2⟩
  ·cases h; exact ⟨hl.1, minQ_Sz hl.2 zs⟩
theorem withinF_Sz {c0 c1 c2 a b : PtQ} {m : Nat} (hm7 : m <= 7) (z0 : SzP m c0) (z1 : SzP m c1) (z2 : SzP m c2) (za : SzP m a) (zb : SzP m b) {l : Rat × Rat} (h : withinF c0 c1 c2 a b = some l) : Sz 200 l.1 /\ Sz 200 l.2 /\ l.1 < l.2 := by
 have step : ∀ i, i <= 3 -> ∀ r, withinN c0 c1 c2 a b i = some r -> Sz (24 * m + 16) r.1 /\ Sz (24 * m + 16) r.2 := by
  intro i
  induction i with
  | zero => intro _ r hr; cases hr; exact ⟨Sz.zero _ (by omega), Sz.one.mono (by omega)⟩
  | succ i ih =>
    intro hi r hr;rw [withinN_step _ _ _ _ _ i (by omega)] at hr;cases hn : withinN c0 c1 c2 a b i with
    | none => rw [hn] at hr; cases hr
    | some l' =>
      rw [hn] at hr;have hl := ih (by omega) l' hn;rcases (by omega : i = 0 \/ i = 1 \/ i = 2) with rfl | rfl | rfl
      ·exact wStep_Sz z0 z1 za zb hl hr
      ·exact wStep_Sz z1 z2 za zb hl hr
      ·exact wStep_Sz z2 z0 za zb hl hr
 unfold withinF at h;cases hn : withinN c0 c1 c2 a b 3 with
 | none => rw [hn] at h; cases h
 | some l' =>
   rw [hn] at h;simp only [Option.bind_some] at h;split at h
   ·cases h
    have := step 3 (by omega) _ hn;exact ⟨this.1.mono (by omega), this.2.mono (by omega), by assumption⟩
   ·cases h
theorem spansN_Sz {P : List PtQ} {T : List Tri} {a b : PtQ} {k m : Nat} (hm : MeshOK P T k) (hkm : k <= m) (hm7 : m <= 7) (za : SzP m a) (zb : SzP m b) (n : Nat) : ∀ s ∈ spansN P T a b n, Sz 200 s.2.1 /\ Sz 200 s.2.2 := by
 intro s hs;unfold spansN at hs;obtain ⟨i, _, hi⟩ := List.mem_flatMap.1 hs;unfold spanAt at hi;split at hi
 ·cases hi
 ·rename_i tr htr
  obtain ⟨z0, z1, z2⟩ := ptI_SzP hm (List.mem_of_getElem? htr);split at hi
  ·cases hi
  ·rename_i l hl
   rw [List.mem_singleton] at hi;subst hi;have := withinF_Sz hm7 ⟨z0.1.mono hkm, z0.2.mono hkm⟩ ⟨z1.1.mono hkm, z1.2.mono hkm⟩ ⟨z2.1.mono hkm, z2.2.mono hkm⟩ za zb hl;exact ⟨this.1, this.2.1⟩
theorem endsS_Sz {A : List SpanQ} (h : ∀ s ∈ A, Sz 200 s.2.1 /\ Sz 200 s.2.2) : ∀ q ∈ endsS A, Sz 200 q := by
 intro q hq;unfold endsS at hq;obtain ⟨s, hs, hq⟩ := List.mem_flatMap.1 hq;simp at hq;rcases hq with rfl | rfl
 ·exact (h s hs).1
 ·exact (h s hs).2
theorem stepO_none {A out : List SpanQ} {x y : Rat} (h : findK x y A = none) : stepO A out x y = out := by unfold stepO; rw [h]
theorem stepO_nil {A : List SpanQ} {x y : Rat} {k : Nat} {s : SpanQ} (h : findK x y A = some k) (hs : A[k]? = some s) : stepO A [] x y = [(s.1, x, y)] := by
 unfold stepO; rw [h]; simp [hs]
theorem stepO_new {A L : List SpanQ} {l : SpanQ} {x y : Rat} {k : Nat} {s : SpanQ} (h : findK x y A = some k) (hs : A[k]? = some s) (hn : ¬ (l.1 = s.1 /\ l.2.2 = x)) : stepO A (L ++ [l]) x y = L ++ [l] ++ [(s.1, x, y)] := by
 unfold stepO; rw [h]; simp only [List.getLast?_concat, Option.getD_some, hs]; rw [if_neg hn]
theorem stepO_ext {A L : List SpanQ} {l : SpanQ} {x y : Rat} {k : Nat} {s : SpanQ} (h : findK x y A = some k) (hs : A[k]? = some s) (hn : l.1 = s.1 /\ l.2.2 = x) : stepO A (L ++ [l]) x y = L ++ [(l.1, l.2.1, y)] := by
 unfold stepO; rw [h]; simp only [List.getLast?_concat, Option.getD_some, hs]; rw [if_pos hn, List.dropLast_concat]
theorem cellsS_len (l : List SpanQ) : (cellsS l).length = l.length * 3 := by
 induction l with
 | nil => rfl
 | cons s l ih => unfold cellsS at *; rw [List.flatMap_cons, List.length_append, ih]; simp [cellS]; omega
theorem cellsS_ext (L : List SpanQ) (l : SpanQ) (y : Rat) : (cellsS (L ++ [l])).set (L.length * 3 + 2) (.string (RS y)) = cellsS (L ++ [(l.1, l.2.1, y)]) := by
 rw [cellsS_snoc, cellsS_snoc, List.set_append_right _ _ (by rw [cellsS_len]; omega), cellsS_len, show L.length * 3 + 2 - L.length * 3 = 2 by omega];rfl
theorem sortV_any (w0 w : World) (v : Value) (l0 : List Rat) (hln : l0.length <= 12) (hsz : ∀ q ∈ l0, Sz 200 q) (hrow : RowV w v l0) (hb0 : Below w0.heap.size w0 w) (h0g : ∀ g, v.ownBlock = some g -> w0.heap.size <= g) (hg : Good w0) :
 Calls Tryz.prog 103 #[v, .func (.func 104) #[] #[]] w
  (fun e w' => e = .returned (.tuple #[]) /\ ∃ l, l.Perm l0 /\ SortTo l l.length /\ RowV w' v l /\ w.grownBy w' v.ownBlock) := by
 rcases hrow with ⟨rfl, rfl⟩ | ⟨g, cap, rfl, hr, hc, hgl⟩
 ·have h := AnyF.slices_SortFunc_none (P := Tryz.prog) (ρ := Tryz.sortRat0_ren) Tryz.sortRat0 none 0 (.func (.func 104) #[] #[]) w
  change Calls Tryz.prog 103 _ _ _ at h;refine h.mono ?_;rintro e w' ⟨rfl, rfl⟩;exact ⟨rfl, [], List.Perm.refl _, (fun a b x y _ _ h => by cases h), .inl ⟨rfl, rfl⟩, gb_refl _ _⟩
 ·refine (sortRat_any w0 w g cap l0 hln hsz hr hgl hb0 (h0g g rfl) hg).mono ?_
  rintro e w' ⟨rfl, l, h1, h2, h3, h4⟩;exact ⟨rfl, l, h1, h2, .inr ⟨g, cap, by rw [h1.length_eq], h3, by rw [h1.length_eq]; exact hc, Nat.lt_of_lt_of_le hgl h4.size⟩, h4⟩
theorem compactNil_any (w : World) :
 Calls Tryz.prog 105 #[.slice none 0 0] w (fun e w' => e = .returned (.slice none 0 0) /\ w' = w) := by
 go_enter Tryz.func105, Tryz.ntmps105;go_wp2_with fail;go_ret;exact ⟨rfl, rfl⟩
theorem compactV_any (w : World) (v : Value) (l : List Rat) (hln : l.length <= 1000) (hs : SortTo l l.length) (hrow : RowV w v l) :
 Calls Tryz.prog 105 #[v] w
  (fun e w' => ∃ v', e = .returned v' /\ RowV w' v' (sortD l) /\ v'.ownBlock = v.ownBlock /\ w.grownBy w' v.ownBlock) := by
 rcases hrow with ⟨rfl, rfl⟩ | ⟨g, cap, rfl, hr, hc, hgl⟩
 ·refine (compactNil_any w).mono ?_
  rintro e w' ⟨rfl, rfl⟩;exact ⟨_, rfl, .inl ⟨rfl, rfl⟩, rfl, gb_refl _ _⟩
 ·refine (compactRat_any w g cap l hln hs hr hc).mono ?_
  rintro e w' ⟨rfl, h1, h2⟩;have hle := sortD_le l;exact ⟨_, rfl, .inr ⟨g, cap, rfl, h1, by omega, Nat.lt_of_lt_of_le hgl h2.size⟩, rfl, h2⟩
end Go.Proofs.YtbfcmipplhkkeaaGreatDoor
