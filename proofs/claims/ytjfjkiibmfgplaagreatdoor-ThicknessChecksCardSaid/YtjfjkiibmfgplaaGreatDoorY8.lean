/- klippelaw38.ThicknessFields returns true at every plan, number and mesh. -/
import Derived.Test.YtjfjkiibmfgplaaGreatDoorY7
namespace Go.Proofs.YtjfjkiibmfgplaaGreatDoor
open Go.RowKit Go.Lib

theorem lessT_sub {b : Bool} {T : List Tri} {t : Tri} (h : t ∈ lessT b T) : t ∈ T := by
  unfold lessT at h
  split at h
  · exact List.mem_of_mem_tail h
  · exact h
theorem MeshOK.part {P : List PtQ} {T T' : List Tri} (h : MeshOK P T 2) (hs : ∀ t ∈ T', t ∈ T) (hl : T'.length ≤ T.length) (hne : T' ≠ []) : MeshPre P T' 2 :=
  { kpos := h.kpos, klim := h.klim, sz := h.sz, plen := h.plen, tlen := Nat.le_trans hl h.tlen, idx := fun t ht => h.idx t (hs t ht), klim2 := h.klim2, some := hne, apart := h.apart, turns := fun t ht => h.turns t (hs t ht) }
theorem lessT_len (b : Bool) (T : List Tri) : (lessT b T).length ≤ T.length := by
  unfold lessT
  split
  · rw [List.length_tail]; omega
  · exact Nat.le_refl _
theorem checkE_zero {P : List PtQ} {T : List Tri} (h : checkE P T = 0) : T ≠ [] ∧ wholeB P T = true := by
  unfold checkE at h
  split at h
  · exact absurd h (by decide)
  · rename_i hne
    refine ⟨hne, ?_⟩
    unfold checkZ at h
    split at h
    · assumption
    · split at h <;> exact absurd h (by decide)

/-- An error of a field, handed on. -/
theorem bad_of {P : List PtQ} {T : List Tri} {l : List ByteArray} {e : Int} (he : e ≠ 0)
    (HFC : ∀ (w : World) (vp vt vf : Value), RdP w vp (strP P) → RdT w vt T → RdS w vf l → Good w → Calls Tryz.prog 39 #[.agg #[vp, vt], vf] w (Ret (fun r _ => r = .int .i64 e) w)) :
    (∀ (w : World) (vp vt vf : Value), RdP w vp (strP P) → RdT w vt T → RdS w vf l → Good w → Calls Tryz.prog 41 #[.agg #[vp, vt], vf, .agg #[.string ⟨#[48]⟩, .string ⟨#[49]⟩, .int .i64 1]] w (Ret (fun r _ => r = .tuple #[.slice none 0 0, .int .i64 e]) w)) ∧
    (∀ (w : World) (vp vt vf : Value), RdP w vp (strP P) → RdT w vt T → RdS w vf l → Good w → Calls Tryz.prog 42 #[.agg #[vp, vt], vf] w (Ret (fun r _ => r = .tuple #[.slice none 0 0, .int .i64 e]) w)) := by
  constructor
  · intro w vp vt vf hp ht hf hg
    obtain ⟨pp, cp, h1, -, -, -⟩ := hp.open
    obtain ⟨pt, ct, h2, -, -, -⟩ := ht.open
    obtain ⟨pf, cf, h3, -, -, -⟩ := hf.open
    exact contours_err w vp vt vf e pp pt pf _ cp _ ct _ cf h1 h2 h3 _ _ _ (fun w' hb hg' => HFC w' vp vt vf (RdC.below hp hb) (RdC.below ht hb) (RdC.below hf hb) hg') he hg
  · intro w vp vt vf hp ht hf hg
    obtain ⟨pp, cp, h1, -, -, -⟩ := hp.open
    obtain ⟨pt, ct, h2, -, -, -⟩ := ht.open
    obtain ⟨pf, cf, h3, -, -, -⟩ := hf.open
    exact dips_err w vp vt vf e pp pt pf _ cp _ ct _ cf h1 h2 h3 (fun w' hb hg' => HFC w' vp vt vf (RdC.below hp hb) (RdC.below ht hb) (RdC.below hf hb) hg') he hg

theorem fields_of (w : World) (kz s0 s1 : Int) (half : Bool) (a0 a1 a2 a3 a4 a5 : Int) (ah : Bool) (b0 b1 b2 b3 b4 b5 : Int) (bh even : Bool) (add : Int) (s : ByteArray) (less : Bool) (P : List PtQ) (T : List Tri) (L U : List Rat) (hs : s.size ≤ 20)
    (hM : MeshOK P T 2) (hLs : ∀ q ∈ L, Sz 2 q) (hLl : L.length = P.length)
    (HMK : Hid (∀ w, Good w → Calls Tryz.prog 11 #[.agg #[.int .u8 kz, .int .i8 s0, .int .i8 s1, .bool half, .int .i8 a0, .int .i8 a1, .int .i8 a2, .int .i8 a3, .int .i8 a4, .int .i8 a5, .bool ah, .int .i8 b0, .int .i8 b1, .int .i8 b2, .int .i8 b3, .int .i8 b4, .int .i8 b5, .bool bh, .bool even, .int .i8 add]] w (Ret (fun r w' => ∃ vp vt vl vu, r = .agg #[vp, vt, vl, vu] ∧ PairIn w' vp vt vl vu P T 2 L U) w))) (hg : Good w) :
    Calls Tryz.prog 7 #[.agg #[.int .u8 kz, .int .i8 s0, .int .i8 s1, .bool half, .int .i8 a0, .int .i8 a1, .int .i8 a2, .int .i8 a3, .int .i8 a4, .int .i8 a5, .bool ah, .int .i8 b0, .int .i8 b1, .int .i8 b2, .int .i8 b3, .int .i8 b4, .int .i8 b5, .bool bh, .bool even, .int .i8 add], .string s, .bool less] w (Ret (fun r _ => r = .bool true) w) := by
  have hpl := hM.plen
  have hP0 : 0 < P.length := by
    obtain ⟨tr, htr⟩ := List.exists_mem_of_ne_nil _ hM.some
    have := hM.idx tr htr tr.1 (by simp [idxOf])
    omega
  have hLne : L ≠ [] := by intro e; rw [e] at hLl; simp at hLl; omega
  have hL6 : L.length ≤ 1000000 := by omega
  have hpre : lessT less T ≠ [] → MeshPre P (lessT less T) 2 := fun h => hM.part (fun t ht => lessT_sub ht) (lessT_len _ _) h
  have hCK := fun (w : World) (vp vt : Value) (hp : RdP w vp (strP P)) (ht : RdT w vt (lessT less T)) (hg : Good w) => check_gen w vp vt P (lessT less T) hp ht hpre hg
  by_cases hc : checkE P (lessT less T) = 0
  · obtain ⟨hne, hwh⟩ := checkE_zero hc
    have hM2 := (hpre hne).ok hwh
    have hsz : ∀ x ∈ s :: (L.map RS).tail, x.size < 1000000000 := fun x hx => by
      rcases List.mem_cons.1 hx with rfl | hx
      · omega
      · obtain ⟨q, hq, rfl⟩ := List.mem_map.1 (List.mem_of_mem_tail hx)
        have := (hLs q hq).size (by omega)
        omega
    have hln : (s :: (L.map RS).tail).length ≤ 1000000 := by rw [List.length_cons, List.length_tail, List.length_map]; omega
    have hFC := fun (w : World) (vp vt vf : Value) (hp : RdP w vp (strP P)) (ht : RdT w vt (lessT less T)) (hf : RdS w vf (s :: (L.map RS).tail)) (hg : Good w) => fcheck_any w vp vt vf P (lessT less T) 2 (s :: (L.map RS).tail) hp ht hM2 hf hsz hln hg
    rw [hc] at hCK
    by_cases he : errF P.length (s :: (L.map RS).tail) = 0
    · rw [he] at hFC
      exact fields_ok w kz s0 s1 half a0 a1 a2 a3 a4 a5 ah b0 b1 b2 b3 b4 b5 bh even add s less P T L U hs hLne hL6 hM.some HMK (Lib.hid hFC) (Lib.hid hCK) hg
    · obtain ⟨h1, h2⟩ := bad_of he hFC
      exact fields_bad w kz s0 s1 half a0 a1 a2 a3 a4 a5 ah b0 b1 b2 b3 b4 b5 bh even add s less _ he P T L U hs hLne hL6 hM.some HMK (Lib.hid hFC) (Lib.hid h1) (Lib.hid h2) hg
  · have hFC : ∀ (w : World) (vp vt vf : Value), RdP w vp (strP P) → RdT w vt (lessT less T) → RdS w vf (s :: (L.map RS).tail) → Good w → Calls Tryz.prog 39 #[.agg #[vp, vt], vf] w (Ret (fun r _ => r = .int .i64 (checkE P (lessT less T))) w) := fun w vp vt vf hp ht hf hg => by
      obtain ⟨pp, cp, h1, -, -, -⟩ := hp.open
      obtain ⟨pt, ct, h2, -, -, -⟩ := ht.open
      obtain ⟨pf, cf, h3, -, -, -⟩ := hf.open
      exact fcheck_err w vp vt vf _ pp pt pf _ cp _ ct _ cf h1 h2 h3 (fun w' hb hg' => hCK w' vp vt (RdC.below hp hb) (RdC.below ht hb) hg') hc hg
    obtain ⟨h1, h2⟩ := bad_of hc hFC
    exact fields_bad w kz s0 s1 half a0 a1 a2 a3 a4 a5 ah b0 b1 b2 b3 b4 b5 bh even add s less _ hc P T L U hs hLne hL6 hM.some HMK (Lib.hid hFC) (Lib.hid h1) (Lib.hid h2) hg

theorem fields_all (w : World) (kz s0 s1 : Int) (half : Bool) (a0 a1 a2 a3 a4 a5 : Int) (ah : Bool) (b0 b1 b2 b3 b4 b5 : Int) (bh even : Bool) (add : Int) (s : ByteArray) (less : Bool) (_hs : s.size ≤ maxLen)
    (hk0 : 0 ≤ kz) (hk1 : kz ≤ 255) (hs0 : -128 ≤ s0 ∧ s0 ≤ 127) (hs1 : -128 ≤ s1 ∧ s1 ≤ 127)
    (ha : ∀ x ∈ [a0, a1, a2, a3, a4, a5], -128 ≤ x ∧ x ≤ 127) (hb : ∀ x ∈ [b0, b1, b2, b3, b4, b5], -128 ≤ x ∧ x ≤ 127) (hadd : -128 ≤ add ∧ add ≤ 127) (hg : Good w) :
    Calls Tryz.prog 7 #[.agg #[.int .u8 kz, .int .i8 s0, .int .i8 s1, .bool half, .int .i8 a0, .int .i8 a1, .int .i8 a2, .int .i8 a3, .int .i8 a4, .int .i8 a5, .bool ah, .int .i8 b0, .int .i8 b1, .int .i8 b2, .int .i8 b3, .int .i8 b4, .int .i8 b5, .bool bh, .bool even, .int .i8 add], .string s, .bool less] w (Ret (fun r _ => r = .bool true) w) := by
  by_cases hlen : 20 < s.size
  · exact fields_long w kz s0 s1 half a0 a1 a2 a3 a4 a5 ah b0 b1 b2 b3 b4 b5 bh even add s less hlen hg
  obtain ⟨k, hk⟩ : ∃ k : Nat, kz.tmod 8 = (k : Int) := ⟨(kz.tmod 8).toNat, by have := Int.tmod_nonneg 8 hk0; omega⟩
  exact fields_of w kz s0 s1 half a0 a1 a2 a3 a4 a5 ah b0 b1 b2 b3 b4 b5 bh even add s less (sheetP k s0 s1 half) (shapeT k) (planL k [a0, a1, a2, a3, a4, a5] ah) (planU k [a0, a1, a2, a3, a4, a5] ah [b0, b1, b2, b3, b4, b5] bh even add) (by omega)
    (sheet_ok k s0 s1 half) (heights_Sz _ _ _) (by rw [planL_length, sheetP_length]) (Lib.hid fun w hg => make38_any w kz s0 s1 half a0 a1 a2 a3 a4 a5 ah b0 b1 b2 b3 b4 b5 bh even add k hk hk0 hk1 hs0 hs1 ha hb hadd hg) hg
end Go.Proofs.YtjfjkiibmfgplaaGreatDoor
