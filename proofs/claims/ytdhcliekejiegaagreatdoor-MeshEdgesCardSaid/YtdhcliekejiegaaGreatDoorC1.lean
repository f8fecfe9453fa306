/- Klipperef01: its exported functions. -/
import Derived.Test.YtdhcliekejiegaaGreatDoorD3
import Derived.Test.YtdhcliekejiegaaGreatDoorI1
import Derived.BigRegion
/- The walks over the reference's layer 1: Split, Small, brief, Of, Sign, Neg, Abs. -/
namespace Go.Proofs.YtdhcliekejiegaaGreatDoor
open Go.RowKit Go.Lib

end Go.Proofs.YtdhcliekejiegaaGreatDoor

/- The walks over the reference's layer 1: Small, brief. -/
namespace Go.Proofs.YtdhcliekejiegaaGreatDoor
open Go.RowKit Go.Lib

end Go.Proofs.YtdhcliekejiegaaGreatDoor

/- The walks over the reference's layer 1: Add, Sub, Compare, Mul. -/
namespace Go.Proofs.YtdhcliekejiegaaGreatDoor
open Go.RowKit Go.Lib

end Go.Proofs.YtdhcliekejiegaaGreatDoor

/- The walks over the reference's layer 1: Sub, Compare, Mul. -/
namespace Go.Proofs.YtdhcliekejiegaaGreatDoor
open Go.RowKit Go.Lib

theorem neg_size {n : Int} {k : Nat} (h : (IS n).size ≤ k) : (IS (-n)).size ≤ k + 1 := by
  have h1 := itoa_len n
  have h2 := itoa_len (-n)
  rw [IS_size] at h ⊢
  rw [Int.natAbs_neg] at h2
  split at h1 <;> split at h2 <;> omega

end Go.Proofs.YtdhcliekejiegaaGreatDoor

/- The walks over the reference's layer 1: DivMod. -/
namespace Go.Proofs.YtdhcliekejiegaaGreatDoor
open Go.RowKit Go.Lib

theorem tup2s {a b c d : ByteArray} (h1 : a = c) (h2 : b = d) : Value.tuple #[.string a, .string b] = Value.tuple #[.string c, .string d] := by rw [h1, h2]

theorem tdiv_lim {x y : Int} {M : Int} (hx : -M < x ∧ x < M) : -M < x.tdiv y ∧ x.tdiv y < M := by
  have h : (x.tdiv y).natAbs ≤ x.natAbs := by
    rw [Int.natAbs_tdiv]; exact Nat.div_le_self _ _
  omega

end Go.Proofs.YtdhcliekejiegaaGreatDoor

/- The walks over the reference's layer 1: Gcd. -/
namespace Go.Proofs.YtdhcliekejiegaaGreatDoor
open Go.RowKit Go.Lib

theorem nat_size_mono {a b k : Nat} (h : a ≤ b) (hb : (IS (b : Int)).size ≤ k) (hk : 0 < k) : (IS (a : Int)).size ≤ k := by
  rw [IS_size, itoa_nat] at *
  rw [len_decDigits_le _ _ hk] at *
  omega

theorem abs_size {n : Int} {k : Nat} (h : (IS n).size ≤ k) : (IS (n.natAbs : Int)).size ≤ k := by
  have h1 := itoa_len n
  rw [IS_size] at h
  rw [IS_size, itoa_nat, decDigits_length]
  split at h1 <;> omega

end Go.Proofs.YtdhcliekejiegaaGreatDoor

/- The walks over the reference's layer 1: Canonical, Right. -/
namespace Go.Proofs.YtdhcliekejiegaaGreatDoor
open Go.RowKit Go.Lib

end Go.Proofs.YtdhcliekejiegaaGreatDoor
