/- klippelaw38.ThicknessContours returns true at every plan and all levels. -/
import Derived.Test.YtjfjkiibmfgplaaGreatDoorE10
namespace Go.Proofs.YtjfjkiibmfgplaaGreatDoor
open Go.RowKit Go.Lib

theorem mkRat_one_nat (i : Nat) : mkRat (i : Int) 1 = (i : Rat) := by
  have h := Rat.mkRat_one (i : Int)
  rw [h]; rfl
theorem sign_cases (s : Rat) : (s ≤ 0 → s.num.sign ≤ 0) ∧ (0 < s → 0 < s.num.sign) := by
  have h3 : (-s).num = -s.num := rfl
  constructor
  · intro h
    have h1 := Rat.num_nonneg.2 (show 0 ≤ -s by grind)
    rcases Int.lt_trichotomy s.num 0 with h | h | h
    · rw [Int.sign_eq_neg_one_of_neg h]; decide
    · rw [h]; decide
    · omega
  · intro h
    have h1 : ¬ (-s).num < 0 → 0 ≤ -s := fun h => Rat.num_nonneg.1 (by omega)
    have h2 : ¬ 0 ≤ -s := by intro h; grind
    rw [Int.sign_eq_one_of_pos (by have := mt h1 h2; omega)]; decide

theorem contours_all (w : World) (kz s0 s1 : Int) (half : Bool) (a0 a1 a2 a3 a4 a5 : Int) (ah : Bool) (b0 b1 b2 b3 b4 b5 : Int) (bh even : Bool) (add : Int) (x y : ByteArray) (n : Int) (_hx : x.size ≤ maxLen) (_hy : y.size ≤ maxLen) (_hn : -9223372036854775808 ≤ n ∧ n ≤ 9223372036854775807)
    (hk0 : 0 ≤ kz) (hk1 : kz ≤ 255) (hs0 : -128 ≤ s0 ∧ s0 ≤ 127) (hs1 : -128 ≤ s1 ∧ s1 ≤ 127)
    (ha : ∀ x ∈ [a0, a1, a2, a3, a4, a5], -128 ≤ x ∧ x ≤ 127) (hb : ∀ x ∈ [b0, b1, b2, b3, b4, b5], -128 ≤ x ∧ x ≤ 127) (hadd : -128 ≤ add ∧ add ≤ 127) (hg : Good w) :
    Calls Tryz.prog 8 #[.agg #[.int .u8 kz, .int .i8 s0, .int .i8 s1, .bool half, .int .i8 a0, .int .i8 a1, .int .i8 a2, .int .i8 a3, .int .i8 a4, .int .i8 a5, .bool ah, .int .i8 b0, .int .i8 b1, .int .i8 b2, .int .i8 b3, .int .i8 b4, .int .i8 b5, .bool bh, .bool even, .int .i8 add], .agg #[.string x, .string y, .int .i64 n]] w (Ret (fun r _ => r = .bool true) w) := by
  by_cases hlen : 20 < x.size ∨ 20 < y.size
  · exact contours_long w kz s0 s1 half a0 a1 a2 a3 a4 a5 ah b0 b1 b2 b3 b4 b5 bh even add x y n (.inl hlen) hg
  have hx : x.size ≤ 20 := by omega
  have hy : y.size ≤ 20 := by omega
  by_cases hmid : 6 < n ∧ n ≤ 100
  · exact contours_long w kz s0 s1 half a0 a1 a2 a3 a4 a5 ah b0 b1 b2 b3 b4 b5 bh even add x y n (.inr ⟨hx, hy, hmid.1, hmid.2⟩) hg
  have hn6 : n ≤ 6 ∨ 100 < n := by omega
  obtain ⟨k, hk⟩ : ∃ k : Nat, kz.tmod 8 = (k : Int) := ⟨(kz.tmod 8).toNat, by have := Int.tmod_nonneg 8 hk0; omega⟩
  have HMK := Lib.hid fun w hg => make38_any w kz s0 s1 half a0 a1 a2 a3 a4 a5 ah b0 b1 b2 b3 b4 b5 bh even add k hk hk0 hk1 hs0 hs1 ha hb hadd hg
  have hM := sheet_ok k s0 s1 half
  have hLs : ∀ q ∈ planL k [a0, a1, a2, a3, a4, a5] ah, Sz 2 q := heights_Sz _ _ _
  generalize sheetP k s0 s1 half = P at *
  generalize shapeT k = T at *
  generalize planL k [a0, a1, a2, a3, a4, a5] ah = L at *
  generalize planU k [a0, a1, a2, a3, a4, a5] ah [b0, b1, b2, b3, b4, b5] bh even add = U at *
  have hR1 := fun w hg => rightRQ_any x (by omega) w hg
  have hR2 := fun w hg => rightRQ_any y (by omega) w hg
  by_cases hr : (rightQ x.data.toList && rightQ y.data.toList) = false
  · exact contours_bad w kz s0 s1 half a0 a1 a2 a3 a4 a5 ah b0 b1 b2 b3 b4 b5 bh even add x y n P T L U hx hy hM hLs _ _ hr hn6 HMK (Lib.hid fun w vp vt vl vu h hg => contours_number w vp vt vl P T 2 L h.l x y n (by omega) (by omega) hr hg) (Lib.hid hR1) (Lib.hid hR2) hg
  have hr' : rightQ x.data.toList = true ∧ rightQ y.data.toList = true := by
    rw [Bool.not_eq_false, Bool.and_eq_true] at hr
    exact hr
  rw [hr'.1] at hR1
  rw [hr'.2] at hR2
  obtain ⟨a, ea, hza⟩ := right20' hr'.1 hx
  obtain ⟨s, es, hzs⟩ := right20' hr'.2 hy
  subst ea es
  have hSG := fun w => signQ_any s w
  by_cases ho : s ≤ 0 ∨ n < 1 ∨ 100 < n
  · have ho' : s.num.sign ≤ 0 ∨ (0 < s.num.sign ∧ (n < 1 ∨ 100 < n)) := by
      by_cases h : s ≤ 0
      · exact .inl ((sign_cases s).1 h)
      · exact .inr ⟨(sign_cases s).2 (by grind), by rcases ho with h' | h'; exact absurd h' h; exact h'⟩
    exact contours_off w kz s0 s1 half a0 a1 a2 a3 a4 a5 ah b0 b1 b2 b3 b4 b5 bh even add (RS a) (RS s) n P T L U hx hy hM hLs _ ho' hn6 HMK (Lib.hid fun w vp vt vl vu h hg => contours_range w vp vt vl P T 2 L h.l a s hza hzs n ho hg) (Lib.hid hR1) (Lib.hid hR2) (Lib.hid hSG) hg
  have hs0' : 0 < s := by
    have : ¬ s ≤ 0 := fun h => ho (.inl h)
    grind
  obtain ⟨m, rfl⟩ : ∃ m : Nat, n = (m : Int) := ⟨n.toNat, by omega⟩
  exact contours_in w kz s0 s1 half a0 a1 a2 a3 a4 a5 ah b0 b1 b2 b3 b4 b5 bh even add (RS a) (RS s) m P T L U hx hy hM hLs (by omega) (by omega) (fun i => RS (i : Rat)) (fun i => RS (s * (i : Rat))) (fun i => RS (lvZ a s i)) (fun i => levelL P T L (lvZ a s i))
    (fun i _ => by have h1 := levTo_len P T L (lvZ a s i) T.length; have h2 := hM.tlen; unfold levelL; omega) s.num.sign ((sign_cases s).2 hs0') HMK
    (Lib.hid fun w vp vt vl vu h hg => contours_ok w vp vt vl P T L h.l a s hza hzs hs0' m (by omega) (by omega) hg) (Lib.hid hR1) (Lib.hid hR2) (Lib.hid hSG)
    (Lib.hid fun i hi w hg => by
      have := ofQ_any (i : Int) 1 (i : Int) 1 1 rfl (by omega) (by omega) (by omega) (.inl ⟨rfl, rfl⟩) w hg
      rw [mkRat_one_nat] at this
      exact this)
    (Lib.hid fun i hi w hg => mulQ_any s (i : Rat) 20 (by omega) (by omega) hzs ((nat_Sz1 (by omega)).mono (by omega)) w hg)
    (Lib.hid fun i hi w hg => addQ_any a (s * (i : Rat)) 41 (by omega) (by omega) (hza.mono (by omega)) ((hzs.mul (nat_Sz1 (by omega))).mono (by omega)) w hg)
    (Lib.hid fun i hi w vp vt vl vu h hg => level_ok w vp vt vl P T 2 L h.l (lvZ a s i) 42 (lvZ_Sz hza hzs (by omega)) (by omega) hg) hg
end Go.Proofs.YtjfjkiibmfgplaaGreatDoor
