/- klippelaw38.ThicknessChecks returns true at every plan and change. -/
import Derived.Test.YtjfjkiibmfgplaaGreatDoorY10
namespace Go.Proofs.YtjfjkiibmfgplaaGreatDoor
open Go.RowKit Go.Lib

theorem txt_of {L : List Rat} (h : ∀ q ∈ L, Sz 2 q) (hl : L.length ≤ 1000000) : TxtOK (L.map RS) :=
  ⟨fun x hx => by
    obtain ⟨q, hq, rfl⟩ := List.mem_map.1 hx
    have := (h q hq).size (by omega)
    omega, by rw [List.length_map]; exact hl⟩

theorem checks_of (w : World) (kz s0 s1 : Int) (half : Bool) (a0 a1 a2 a3 a4 a5 : Int) (ah : Bool) (b0 b1 b2 b3 b4 b5 : Int) (bh even : Bool) (add : Int) (kd az : Int) (P : List PtQ) (T : List Tri) (L U : List Rat) (hkd : 0 ≤ kd ∧ kd ≤ 255) (haz : 0 ≤ az ∧ az ≤ 255)
    (hM : MeshOK P T 2) (hLs : ∀ q ∈ L, Sz 2 q) (hUs : ∀ q ∈ U, Sz 2 q) (hLl : L.length = P.length) (hUl : U.length = P.length)
    (HMK : Hid (∀ w, Good w → Calls Tryz.prog 11 #[.agg #[.int .u8 kz, .int .i8 s0, .int .i8 s1, .bool half, .int .i8 a0, .int .i8 a1, .int .i8 a2, .int .i8 a3, .int .i8 a4, .int .i8 a5, .bool ah, .int .i8 b0, .int .i8 b1, .int .i8 b2, .int .i8 b3, .int .i8 b4, .int .i8 b5, .bool bh, .bool even, .int .i8 add]] w (Ret (fun r w' => ∃ vp vt vl vu, r = .agg #[vp, vt, vl, vu] ∧ PairIn w' vp vt vl vu P T 2 L U) w))) (hg : Good w) :
    Calls Tryz.prog 9 #[.agg #[.int .u8 kz, .int .i8 s0, .int .i8 s1, .bool half, .int .i8 a0, .int .i8 a1, .int .i8 a2, .int .i8 a3, .int .i8 a4, .int .i8 a5, .bool ah, .int .i8 b0, .int .i8 b1, .int .i8 b2, .int .i8 b3, .int .i8 b4, .int .i8 b5, .bool bh, .bool even, .int .i8 add], .int .u8 kd, .int .u8 az] w (Ret (fun r _ => r = .bool true) w) := by
  have hpl := hM.plen
  have hP0 : 0 < P.length := by
    obtain ⟨tr, htr⟩ := List.exists_mem_of_ne_nil _ hM.some
    have := hM.idx tr htr tr.1 (by simp [idxOf])
    omega
  have hLne : L ≠ [] := by intro e; rw [e] at hLl; simp at hLl; omega
  have hUne : U ≠ [] := by intro e; rw [e] at hUl; simp at hUl; omega
  refine checks_walk w kz s0 s1 half a0 a1 a2 a3 a4 a5 ah b0 b1 b2 b3 b4 b5 bh even add kd az P T L U hLne (by omega) hUne (by omega) hM.some (txt_of hLs (by omega)) (txt_of hUs (by omega)) (by omega) hkd haz (Lib.hid fun T' h hne => ?_) HMK hg
  rcases h with rfl | rfl
  · exact hM.part (fun t ht => ht) (Nat.le_refl _) hne
  · exact hM.part (fun t ht => List.mem_of_mem_tail ht) (by rw [List.length_tail]; omega) hne

theorem checks_all (w : World) (kz s0 s1 : Int) (half : Bool) (a0 a1 a2 a3 a4 a5 : Int) (ah : Bool) (b0 b1 b2 b3 b4 b5 : Int) (bh even : Bool) (add : Int) (kd az : Int) (hkd : 0 ≤ kd ∧ kd ≤ 255) (haz : 0 ≤ az ∧ az ≤ 255)
    (hk0 : 0 ≤ kz) (hk1 : kz ≤ 255) (hs0 : -128 ≤ s0 ∧ s0 ≤ 127) (hs1 : -128 ≤ s1 ∧ s1 ≤ 127)
    (ha : ∀ x ∈ [a0, a1, a2, a3, a4, a5], -128 ≤ x ∧ x ≤ 127) (hb : ∀ x ∈ [b0, b1, b2, b3, b4, b5], -128 ≤ x ∧ x ≤ 127) (hadd : -128 ≤ add ∧ add ≤ 127) (hg : Good w) :
    Calls Tryz.prog 9 #[.agg #[.int .u8 kz, .int .i8 s0, .int .i8 s1, .bool half, .int .i8 a0, .int .i8 a1, .int .i8 a2, .int .i8 a3, .int .i8 a4, .int .i8 a5, .bool ah, .int .i8 b0, .int .i8 b1, .int .i8 b2, .int .i8 b3, .int .i8 b4, .int .i8 b5, .bool bh, .bool even, .int .i8 add], .int .u8 kd, .int .u8 az] w (Ret (fun r _ => r = .bool true) w) := by
  obtain ⟨k, hk⟩ : ∃ k : Nat, kz.tmod 8 = (k : Int) := ⟨(kz.tmod 8).toNat, by have := Int.tmod_nonneg 8 hk0; omega⟩
  exact checks_of w kz s0 s1 half a0 a1 a2 a3 a4 a5 ah b0 b1 b2 b3 b4 b5 bh even add kd az (sheetP k s0 s1 half) (shapeT k) (planL k [a0, a1, a2, a3, a4, a5] ah) (planU k [a0, a1, a2, a3, a4, a5] ah [b0, b1, b2, b3, b4, b5] bh even add) hkd haz
    (sheet_ok k s0 s1 half) (heights_Sz _ _ _) (planU_Sz _ _ _ _ _ _ _) (by rw [planL_length, sheetP_length]) (by rw [planU_length, sheetP_length]) (Lib.hid fun w hg => make38_any w kz s0 s1 half a0 a1 a2 a3 a4 a5 ah b0 b1 b2 b3 b4 b5 bh even add k hk hk0 hk1 hs0 hs1 ha hb hadd hg) hg
end Go.Proofs.YtjfjkiibmfgplaaGreatDoor
