import Derived.Test.YtdhcliekejiegaaGreatDoorE2
import Derived.Test.YtdhcliekejiegaaGreatDoorQC
set_option maxHeartbeats 1000000
set_option maxRecDepth 100000
namespace Go.Proofs.YtdhcliekejiegaaGreatDoor
open Go.RowKit Go.Lib
theorem rightM {s : ByteArray} {m : Nat} (h : rightQ s.data.toList = true) (hm : 0 < m) (hl : s.size ≤ m) : ∃ q : Rat, s = RS q ∧ Sz m q := by
 obtain ⟨q, hq, _⟩ := rightQ_val h
 have hs : s = RS q := by
  have : s.data = (RL q).toArray := by rw [← hq]
  unfold RS
  rw [← this]
 refine ⟨q, hs, ?_⟩
 have hlen : (RL q).length ≤ m := by
  have h1 : s.data.toList.length = s.size := by rw [Array.length_toList]; rfl
  rw [hq] at h1
  omega
 have key : ∀ n : Nat, (decDigits n).length ≤ m → n < 10 ^ m := fun n h => (len_decDigits_le n m hm).1 h
 have hn : (itoa q.num).length ≤ m → q.num.natAbs < 10 ^ m := fun h => by
  rw [itoa_len] at h
  exact key _ (by rw [decDigits_length]; omega)
 unfold RL at hlen
 by_cases h1 : q.den = 1
 ·rw [if_pos h1] at hlen
  exact ⟨hn hlen, by rw [h1]; exact Nat.lt_of_lt_of_le (by decide : 1 < 10 ^ 1) (Nat.pow_le_pow_right (by decide) hm)⟩
 ·rw [if_neg h1, List.length_append, List.length_cons] at hlen
  exact ⟨hn (by omega), key _ (by omega)⟩
def whTo (a b c p : PtQ) : Nat → Int
 | 0 => 1
 | 1 => min 1 (turnZ a b p)
 | 2 => min (min 1 (turnZ a b p)) (turnZ b c p)
 | _ => min (min (min 1 (turnZ a b p)) (turnZ b c p)) (turnZ c a p)
theorem whTo_in (a b c p : PtQ) : decide (0 ≤ whTo a b c p 3) = insideB a b c p := by
 show decide (0 ≤ min (min (min 1 (turnZ a b p)) (turnZ b c p)) (turnZ c a p)) = _
 unfold insideB
 rw [← Bool.decide_and, ← Bool.decide_and]
 congr 1
 apply propext
 omega
theorem locN_none {P : List PtQ} {T : List Tri} {p : PtQ} (h : ∀ i, i < T.length → insideT P T p i = false) : locN P T p T.length = [] := by
 unfold locN
 rw [List.map_eq_nil_iff, List.filter_eq_nil_iff]
 intro i hi
 rw [h i (List.mem_range.1 hi)]
 decide
theorem locN_head {P : List PtQ} {T : List Tri} {p : PtQ} {i : Nat} (hi : i < T.length) (h1 : insideT P T p i = true) (h2 : ∀ j, j < i → insideT P T p j = false) : ∃ l, locN P T p T.length = (i : Int) :: l := by
 have hf : ((List.range T.length).filter (insideT P T p)).head? = some i := by
  rw [List.head?_filter, List.find?_range_eq_some]
  exact ⟨h1, List.mem_range.2 hi, fun j hj => by rw [h2 j hj]; rfl⟩
 unfold locN
 cases hl : (List.range T.length).filter (insideT P T p) with
 | nil => rw [hl] at hf; simp at hf
 | cons a l =>
   rw [hl] at hf
   obtain rfl : a = i := by simpa using hf
   exact ⟨_, List.map_cons⟩
theorem onQ_Sz {P : List PtQ} {T : List Tri} {F : List Rat} (hm : MeshOK P T 2) (hF : ∀ q ∈ F, Sz 2 q) {tr : Tri} (htr : tr ∈ T) {p : PtQ} (hp : SzP 40 p) : Sz 200 (onQ P F tr p) := by
 have hs := slope_Sz hm rfl hF htr
 have hf : Sz 2 (hI F tr.1) := hI_Sz (by omega) hF _
 have hq : SzP 2 (ptI P tr.1) := by
  obtain ⟨h0, h1⟩ := hm.idx tr htr tr.1 (by simp [idxOf])
  obtain ⟨q, hq⟩ : ∃ q : Nat, tr.1 = (q : Int) := ⟨tr.1.toNat, by omega⟩
  rw [hq, ptI_nat P q (by omega)]
  exact hm.sz _ (List.getElem_mem _)
 unfold onQ
 exact ((hf.add (hs.1.mul (hp.1.sub hq.1))).add (hs.2.mul (hp.2.sub hq.2))).mono (by omega)
theorem bool_ret {x y : Bool} (h : y = x) : Value.bool x = Value.bool y := by rw [h]
theorem rightRQ_any (s : ByteArray) (hs : s.size < 1000000000) (w : World) (hg : Good w) :
 Calls Tryz.prog 32 #[.string s] w (Ret (fun v _ => v = .bool (rightQ s.data.toList)) w) := by
 obtain ⟨l, hl⟩ : ∃ l, l = s.data.toList := ⟨_, rfl⟩
 obtain ⟨A, hA⟩ : ∃ A, A = fst47 l := ⟨_, rfl⟩
 obtain ⟨D, hD⟩ : ∃ D, D = snd47 l := ⟨_, rfl⟩
 have HQ : Hid (rightQ l = (rightI A && (decide (indexByte l 47 < 0) || (rightI D && fitB (valI A) (valI D))))) := by unfold Hid rightQ; rw [hA, hD]
 have HD1 : Hid (indexByte l 47 < 0 → rightI D = true) := fun h => by rw [hD]; unfold snd47; rw [if_neg (by omega)]; decide +kernel
 have HP := Lib.hid (partsR_any s (by omega) w)
 rw [← hl, ← hA, ← hD] at HP
 have HIX : Hid (∀ w, _) := fun w => indexSlash_any s w
 rw [← hl] at HIX
 have hsl : l.length = s.size := by rw [hl, Array.length_toList]; rfl
 have hsA : (BS A).size ≤ 1000000000000 := by
  rw [BS_size, hA]; unfold fst47; split
  ·rw [List.length_take]; omega
  ·omega
 have hsD : (BS D).size ≤ 1000000000000 := by
  rw [BS_size, hD]; unfold snd47; split
  ·rw [List.length_drop]; omega
  ·simp
 have HRA : Hid (∀ w, _) := fun w => rightR_any (BS A) hsA w
 have HRD : Hid (∀ w, _) := fun w => rightR_any (BS D) hsD w
 rw [BS_list] at HRA HRD
 rw [← hl]
 obtain ⟨iz, hiz⟩ : ∃ iz, iz = indexByte l 47 := ⟨_, rfl⟩
 rw [← hiz] at HQ HIX HD1
 clear hl hA hD hsA hsD hsl hiz
 go_enter Tryz.func32, Tryz.ntmps32
 go_wp2_with fail
 refine (HP.out.mono fun _ _ h => h.ret).mono ?_
 rintro e w1 ⟨_, rfl, rfl, hb1⟩
 go_wp2_with fail
 refine ((HRA.out w1).mono fun _ _ h => h.ret).mono ?_
 rintro e w2 ⟨_, rfl, rfl, hb2⟩
 have hB2 := hb1.trans (hb2.mono hb1.size)
 clear hb1 hb2
 rcases Bool.eq_false_or_eq_true (rightI A) with hra | hra
 ·rw [hra]
  go_wp2_with fail
  refine ((HRD.out w2).mono fun _ _ h => h.ret).mono ?_
  rintro e w3 ⟨_, rfl, rfl, hb3⟩
  have hB3 := hB2.trans (hb3.mono hB2.size)
  clear hB2 hb3
  rcases Bool.eq_false_or_eq_true (rightI D) with hrd | hrd
  ·rw [hrd]
   have HQ2 : Hid (rightQ l = (decide (iz < 0) || fitB (valI A) (valI D))) := by unfold Hid; rw [HQ.out, hra, hrd]; rfl
   obtain ⟨a, ha⟩ : ∃ a, a = valI A := ⟨_, rfl⟩
   obtain ⟨b, hb⟩ : ∃ b, b = valI D := ⟨_, rfl⟩
   obtain ⟨ha1, ha2⟩ := rightI_val hra
   obtain ⟨hb2, hb3⟩ := rightI_val hrd
   rw [← ha, ← hb] at HQ2
   have eA : BS A = IS a := by rw [ha1, ha]; rfl
   have eD : BS D = IS b := by rw [hb2, hb]; rfl
   rw [eA] at ha2 ⊢
   rw [eD] at hb3 ⊢
   clear ha hb ha1 hb2 eA eD hra hrd HP HQ HRA HRD HD1
   by_cases hsl : iz < 0
   ·have HF : Hid (rightQ l = true) := by unfold Hid; rw [HQ2.out, decide_eq_true hsl]; rfl
    go_wp2_with fail
    refine (HIX.out w3).mono ?_
    rintro e w4 ⟨_, rfl, rfl, rfl⟩
    go_wp2_with fail
    go_ret
    exact ⟨_, rfl, bool_ret HF.out, hB3⟩
   ·have HQ3 : Hid (rightQ l = fitB a b) := by unfold Hid; rw [HQ2.out, decide_eq_false hsl]; rfl
    have HCMP : Hid (∀ w, Good w → Calls Tryz.prog 92 #[.string (IS b), .string ⟨#[49]⟩] w (Ret (fun v _ => v = .int .i64 (cmpZ b 1)) w)) := fun w hg => by
     have h := compareR_any b 1 (by omega) (by rw [IS_one]; decide) w hg
     rw [IS_one] at h; exact h
    have HGC : Hid (∀ w, Good w → _) := fun w hg => gcdR_any a b (by omega) (by omega) w hg
    have HZ : Hid (1 < b → cmpZ b 1 = 1) := fun h => cmpZ_gt h
    obtain ⟨g, hgg⟩ : ∃ g : Int, g = (Int.gcd a b : Nat) := ⟨_, rfl⟩
    rw [← hgg] at HGC
    have h8 := IS_eq48 a
    have h9 := IS_eq49 g
    have HGG := Lib.hid hgg
    clear hgg
    go_wp2_with fail
    refine (HIX.out w3).mono ?_
    rintro e w4 ⟨_, rfl, rfl, rfl⟩
    go_wp2_with fail
    refine (HCMP.out w3 (hg.below hB3)).mono ?_
    rintro e w4 ⟨_, rfl, rfl, hb4⟩
    have hB4 := hB3.trans (hb4.mono hB3.size)
    clear hB3 hb4
    by_cases hb1 : 1 < b
    ·rw [HZ.out hb1]
     by_cases ha0 : a = 0
     ·have HF : Hid (rightQ l = false) := by unfold Hid; rw [HQ3.out]; unfold fitB; rw [decide_eq_true ha0]; simp
      rw [decide_eq_true ha0] at h8
      have h8' : ((IS a).toList != [48]) = false := by rw [bne, h8]; rfl
      clear ha0 hb1
      go_wp2_with fail
      go_ret
      exact ⟨_, rfl, bool_ret HF.out, hB4⟩
     ·rw [decide_eq_false ha0] at h8
      have h8' : ((IS a).toList != [48]) = true := by rw [bne, h8]; rfl
      have HF : Hid (rightQ l = decide (g = 1)) := by
       unfold Hid; rw [HQ3.out]; unfold fitB; rw [decide_eq_true hb1, decide_eq_false ha0, HGG.out]
       show decide (Int.gcd a b = 1) = _
       rw [Bool.eq_iff_iff, decide_eq_true_iff, decide_eq_true_iff]; omega
      clear ha0 hb1
      generalize decide (g = 1) = dd at *
      go_wp2_with fail
      refine (HGC.out w4 (hg.below hB4)).mono ?_
      rintro e w5 ⟨_, rfl, rfl, hb5⟩
      have hB5 := hB4.trans (hb5.mono hB4.size)
      go_wp2_with fail
      go_ret
      exact ⟨_, rfl, bool_ret HF.out, hB5⟩
    ·have HZ : ∃ z, z ≤ 0 ∧ Hid (cmpZ b 1 = z) := ⟨cmpZ b 1, by unfold cmpZ; rw [if_neg hb1]; split <;> omega, rfl⟩
     obtain ⟨z, hz, HZ⟩ := HZ
     have HF : Hid (rightQ l = false) := by unfold Hid; rw [HQ3.out]; unfold fitB; rw [decide_eq_false hb1]; rfl
     rw [HZ.out]
     clear hb1
     go_wp2_with fail
     go_ret
     exact ⟨_, rfl, bool_ret HF.out, hB4⟩
  ·have HF : Hid (rightQ l = false) := by
    unfold Hid
    rw [HQ.out, hra, hrd]
    by_cases h : iz < 0
    ·have := HD1.out h; rw [hrd] at this; cases this
    ·rw [decide_eq_false h]; rfl
   rw [hrd]
   go_wp2_with fail
   go_ret
   exact ⟨_, rfl, bool_ret HF.out, hB3⟩
 ·have HF : Hid (rightQ l = false) := by unfold Hid; rw [HQ.out, hra]; rfl
  rw [hra]
  go_wp2_with fail
  go_ret
  exact ⟨_, rfl, bool_ret HF.out, hB2⟩
end Go.Proofs.YtdhcliekejiegaaGreatDoor
