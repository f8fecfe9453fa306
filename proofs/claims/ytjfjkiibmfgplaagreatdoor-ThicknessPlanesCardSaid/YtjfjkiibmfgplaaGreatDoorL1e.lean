/- klippelaw38.ThicknessPlanes returns true at every plan, triangle and direction. -/
import Derived.Test.YtjfjkiibmfgplaaGreatDoorL1a
import Derived.Test.YtjfjkiibmfgplaaGreatDoorL1b
import Derived.Test.YtjfjkiibmfgplaaGreatDoorL1c
import Derived.Test.YtjfjkiibmfgplaaGreatDoorL1d
namespace Go.Proofs.YtjfjkiibmfgplaaGreatDoor
open Go.RowKit Go.Lib

theorem errNum_two (b : Bool) : (errNum b = 0 ∧ b = true) ∨ (errNum b = 2 ∧ b = false) := by cases b <;> simp [errNum]

set_option maxHeartbeats 4000000 in
theorem planes_of (w : World) (kz s0 s1 : Int) (half : Bool) (a0 a1 a2 a3 a4 a5 : Int) (ah : Bool) (b0 b1 b2 b3 b4 b5 : Int) (bh even : Bool) (add tz : Int) (x y z : ByteArray) (P : List PtQ) (T : List Tri) (L U : List Rat) (hx : x.size ≤ 20) (hy : y.size ≤ 20) (hz : z.size ≤ 20)
    (hM : MeshOK P T 2) (hLs : ∀ q ∈ L, Sz 2 q) (hUs : ∀ q ∈ U, Sz 2 q) (hLl : L.length = P.length) (hUl : U.length = P.length)
    (HMK : Hid (∀ w, Good w → Calls Tryz.prog 11 #[.agg #[.int .u8 kz, .int .i8 s0, .int .i8 s1, .bool half, .int .i8 a0, .int .i8 a1, .int .i8 a2, .int .i8 a3, .int .i8 a4, .int .i8 a5, .bool ah, .int .i8 b0, .int .i8 b1, .int .i8 b2, .int .i8 b3, .int .i8 b4, .int .i8 b5, .bool bh, .bool even, .int .i8 add]] w (Ret (fun r w' => ∃ vp vt vl vu, r = .agg #[vp, vt, vl, vu] ∧ PairIn w' vp vt vl vu P T 2 L U) w))) (hg : Good w) :
    Calls Tryz.prog 3 #[.agg #[.int .u8 kz, .int .i8 s0, .int .i8 s1, .bool half, .int .i8 a0, .int .i8 a1, .int .i8 a2, .int .i8 a3, .int .i8 a4, .int .i8 a5, .bool ah, .int .i8 b0, .int .i8 b1, .int .i8 b2, .int .i8 b3, .int .i8 b4, .int .i8 b5, .bool bh, .bool even, .int .i8 add], .int .i64 tz, .agg #[.string x, .string y, .string z]] w (Ret (fun r _ => r = .bool true) w) := by
  have bx : x.size < 1000000000 := by omega
  have bY : y.size < 1000000000 := by omega
  have bz : z.size < 1000000000 := by omega
  by_cases hr : tz < 0 ∨ (T.length : Int) ≤ tz
  · have HPA := fun (w : World) (vp vt vl vu : Value) (h : PairIn w vp vt vl vu P T 2 L U) (hg : Good w) => parallel_range w vp vt vl vu P T 2 L U h tz hr hg
    have HSQ := fun (w : World) (vp vt vl vu : Value) (h : PairIn w vp vt vl vu P T 2 L U) (hg : Good w) => squared_err w vp vt vl vu P T 2 L U h tz 3 (by decide) (fun w h hg => par_range w vp vt vl vu P T 2 L U h tz hr hg) hg
    rcases errNum_two (allQ [x, y, z]) with ⟨hn, _⟩ | ⟨hn, _⟩
    · exact planes_range0 w kz s0 s1 half a0 a1 a2 a3 a4 a5 ah b0 b1 b2 b3 b4 b5 bh even add tz x y z P T L U hx hy hz hr HMK (Lib.hid HPA) (Lib.hid HSQ)
        (Lib.hid fun w vp vt vl vu h hg => toward_err w vp vt vl vu P T 2 L U h tz x y z bx bY bz hn 3 (by decide) (fun w h hg => par_range w vp vt vl vu P T 2 L U h tz hr hg) hg)
        (Lib.hid fun w hg => hn ▸ checkVector_any x y z bx bY bz w hg) hg
    · exact planes_range2 w kz s0 s1 half a0 a1 a2 a3 a4 a5 ah b0 b1 b2 b3 b4 b5 bh even add tz x y z P T L U hx hy hz hr HMK (Lib.hid HPA) (Lib.hid HSQ)
        (Lib.hid fun w vp vt vl vu h hg => toward_number w vp vt vl vu P T 2 L U h tz x y z bx bY bz 2 hn (by decide) hg)
        (Lib.hid fun w hg => hn ▸ checkVector_any x y z bx bY bz w hg) hg
  obtain ⟨t, htz⟩ : ∃ t : Nat, tz = (t : Int) := ⟨tz.toNat, by omega⟩
  have htl : t < T.length := by omega
  obtain ⟨tr, htr⟩ : ∃ tr, tr = T[t] := ⟨_, rfl⟩
  have hmem : tr ∈ T := by rw [htr]; exact List.getElem_mem htl
  have hs1 := slope_Sz hM rfl hLs hmem
  have hs2 := slope_Sz hM rfl hUs hmem
  have hs1' : SzP 200 (slopeT P L tr) := ⟨hs1.1.mono (by omega), hs1.2.mono (by omega)⟩
  have hs2' : SzP 200 (slopeT P U tr) := ⟨hs2.1.mono (by omega), hs2.2.mono (by omega)⟩
  have HPA := fun (w : World) (vp vt vl vu : Value) (h : PairIn w vp vt vl vu P T 2 L U) (hg : Good w) => parallel_ok w vp vt vl vu P T 2 L U h t tz htz htl tr htr hs1' hs2' hg
  have HS1 := fun (w : World) (vp vt vl vu : Value) (h : PairIn w vp vt vl vu P T 2 L U) (hg : Good w) => fslope_ok w vp vt vl P T 2 L h.l t tz htz htl tr htr hs1' hg
  have HS2 := fun (w : World) (vp vt vl vu : Value) (h : PairIn w vp vt vl vu P T 2 L U) (hg : Good w) => fslope_ok w vp vt vu P T 2 U h.u t tz htz htl tr htr hs2' hg
  by_cases hneq : slopeT P L tr ≠ slopeT P U tr
  · have heq := hneq
    have hdf : Hid ((¬ (RS (slopeT P L tr).1).toList = (RS (slopeT P U tr).1).toList) ∨ ((RS (slopeT P L tr).1).toList = (RS (slopeT P U tr).1).toList ∧ ¬ (RS (slopeT P L tr).2).toList = (RS (slopeT P U tr).2).toList)) := by
      rcases two_pts (slopeT P L tr) (slopeT P U tr) with ⟨e, _⟩ | ⟨_, e⟩
      · exact absurd e heq
      · exact e
    rw [decide_eq_false heq] at HPA
    have HSQ := fun (w : World) (vp vt vl vu : Value) (h : PairIn w vp vt vl vu P T 2 L U) (hg : Good w) => squared_err w vp vt vl vu P T 2 L U h tz 7 (by decide) (fun w h hg => par_form w vp vt vl vu P T 2 L U h t tz htz htl tr htr hs1' hs2' heq hg) hg
    rcases errNum_two (allQ [x, y, z]) with ⟨hn, _⟩ | ⟨hn, _⟩
    · exact planes_differ0 w kz s0 s1 half a0 a1 a2 a3 a4 a5 ah b0 b1 b2 b3 b4 b5 bh even add tz x y z P T L U hx hy hz t htz htl _ _ _ _ (Lib.hid HS1) (Lib.hid HS2) hdf HMK (Lib.hid HPA) (Lib.hid HSQ)
        (Lib.hid fun w vp vt vl vu h hg => toward_err w vp vt vl vu P T 2 L U h tz x y z bx bY bz hn 7 (by decide) (fun w h hg => par_form w vp vt vl vu P T 2 L U h t tz htz htl tr htr hs1' hs2' heq hg) hg)
        (Lib.hid fun w hg => hn ▸ checkVector_any x y z bx bY bz w hg) hg
    · exact planes_differ2 w kz s0 s1 half a0 a1 a2 a3 a4 a5 ah b0 b1 b2 b3 b4 b5 bh even add tz x y z P T L U hx hy hz t htz htl _ _ _ _ (Lib.hid HS1) (Lib.hid HS2) hdf HMK (Lib.hid HPA) (Lib.hid HSQ)
        (Lib.hid fun w vp vt vl vu h hg => toward_number w vp vt vl vu P T 2 L U h tz x y z bx bY bz 2 hn (by decide) hg)
        (Lib.hid fun w hg => hn ▸ checkVector_any x y z bx bY bz w hg) hg
  have heq : slopeT P L tr = slopeT P U tr := Decidable.not_not.1 hneq
  rw [decide_eq_true heq] at HPA
  rw [← heq] at HS2
  obtain ⟨h0, h1⟩ := hM.idx tr hmem tr.1 (by simp [idxOf])
  obtain ⟨m, hm⟩ : ∃ m : Nat, tr.1 = (m : Int) := ⟨tr.1.toNat, by omega⟩
  have hdz : Sz 5 (hI U tr.1 - hI L tr.1) := (hI_Sz (by omega) hUs _).sub (hI_Sz (by omega) hLs _)
  have HSQ := fun (w : World) (vp vt vl vu : Value) (h : PairIn w vp vt vl vu P T 2 L U) (hg : Good w) => squared_ok w vp vt vl vu P T 2 L U h t tz htz htl tr htr hs1 heq _ rfl (hdz.mono (by omega)) hg
  have fu := hI_Sz (by omega) hUs tr.1
  have fl := hI_Sz (by omega) hLs tr.1
  have HD := fun (w : World) (hg : Good w) => subQ_any (hI U tr.1) (hI L tr.1) 2 (by omega) (by omega) fu fl w hg
  have hT1 : T[t].1 = (m : Int) := by rw [← htr]; exact hm
  unfold sqQ dipQ at HSQ
  have hTP : ∀ (a b c : Rat), x = RS a → y = RS b → z = RS c → Sz 20 a → Sz 20 b → Sz 20 c → ∀ (res : Value), ((riseQ (slopeT P L tr) a b c = 0 ∧ res = .tuple #[.string ⟨#[]⟩, .int .i64 18]) ∨ (riseQ (slopeT P L tr) a b c ≠ 0 ∧ res = .tuple #[.string (RS ((hI U tr.1 - hI L tr.1) / riseQ (slopeT P L tr) a b c)), .int .i64 0])) →
      ∀ (w : World) (vp vt vl vu : Value), PairIn w vp vt vl vu P T 2 L U → Good w → Calls Tryz.prog 14 #[.agg #[vp, vt, vl, vu], .int .i64 tz, .agg #[.string x, .string y, .string z]] w (Ret (fun r _ => r = res) w) := fun a b c ea eb ec ha hb hc res hres w vp vt vl vu h hg => by
    rw [ea, eb, ec]
    exact toward_par w vp vt vl vu P T 2 L U h t tz htz htl tr htr hs1 heq _ rfl (hdz.mono (by omega)) a b c (ha.mono (by omega)) (hb.mono (by omega)) (hc.mono (by omega)) res (fun _ => toward_Sz hs1 hdz ha hb hc) hres hg
  rw [hm] at hdz fu fl HD HSQ hTP
  obtain ⟨S, hS⟩ : ∃ S, S = slopeT P L tr := ⟨_, rfl⟩
  rw [← hS] at hs1 HSQ HS1 HS2 hTP
  have q1 : Sz 87 (S.1 * S.1) := (hs1.1.mul hs1.1).mono (by omega)
  have q2 : Sz 87 (S.2 * S.2) := (hs1.2.mul hs1.2).mono (by omega)
  have q3 : Sz 175 (S.1 * S.1 + S.2 * S.2) := (q1.add q2).mono (by omega)
  have q4 : Sz 360 (1 + (S.1 * S.1 + S.2 * S.2)) := (Sz.one.add q3).mono (by omega)
  have hne : (1 + (S.1 * S.1 + S.2 * S.2)) ≠ 0 := by have := dipQ_nonneg S; unfold dipQ at this; grind
  have HM1 := fun (w : World) (hg : Good w) => mulQ_any S.1 S.1 43 (by omega) (by omega) hs1.1 hs1.1 w hg
  have HM2 := fun (w : World) (hg : Good w) => mulQ_any S.2 S.2 43 (by omega) (by omega) hs1.2 hs1.2 w hg
  have HA1 := fun (w : World) (hg : Good w) => addQ_any (S.1 * S.1) (S.2 * S.2) 87 (by omega) (by omega) q1 q2 w hg
  have HA2 := fun (w : World) (hg : Good w) => addQ_any 1 (S.1 * S.1 + S.2 * S.2) 175 (by omega) (by omega) (Sz.one.mono (by omega)) q3 w hg
  rw [RS_one] at HA2
  have HSD := fun (w : World) (hg : Good w) => mulQ_any (hI U (m : Int) - hI L (m : Int)) (hI U (m : Int) - hI L (m : Int)) 5 (by omega) (by omega) hdz hdz w hg
  have HQ := fun (w : World) (hg : Good w) => divQ_any ((hI U (m : Int) - hI L (m : Int)) * (hI U (m : Int) - hI L (m : Int))) (1 + (S.1 * S.1 + S.2 * S.2)) 360 (by omega) (by omega) ((hdz.mul hdz).mono (by omega)) q4 hne w hg
  rcases (errNum_two (allQ [x, y, z])).symm with ⟨hn, _⟩ | ⟨hn, hb⟩
  · exact planes_equal2 w kz s0 s1 half a0 a1 a2 a3 a4 a5 ah b0 b1 b2 b3 b4 b5 bh even add tz x y z P T L U hx hy hz t htz htl _ _ (Lib.hid HS1) (Lib.hid HS2) m hT1 (by omega) (by omega) _ _ rfl rfl _ _ _ _ _ _ _
      (Lib.hid HD) (Lib.hid HM1) (Lib.hid HM2) (Lib.hid HA1) (Lib.hid HA2) (Lib.hid HSD) (Lib.hid HQ) HMK (Lib.hid HPA) (Lib.hid HSQ)
      (Lib.hid fun w vp vt vl vu h hg => toward_number w vp vt vl vu P T 2 L U h tz x y z bx bY bz 2 hn (by decide) hg)
      (Lib.hid fun w hg => hn ▸ checkVector_any x y z bx bY bz w hg) hg
  have HV := fun (w : World) (hg : Good w) => checkVector_any x y z bx bY bz w hg
  rw [hn] at HV
  unfold allQ at hb
  simp only [List.all_cons, List.all_nil, Bool.and_true, Bool.and_eq_true] at hb
  obtain ⟨r1, r2, r3⟩ := hb
  obtain ⟨a, ea, ha⟩ := right20' r1 hx
  obtain ⟨b, eb, hb⟩ := right20' r2 hy
  obtain ⟨c, ec, hc⟩ := right20' r3 hz
  have hT := hTP a b c ea eb ec ha hb hc
  clear hTP
  subst ea eb ec
  unfold riseQ at hT
  have v1 : Sz 63 (S.1 * a) := (hs1.1.mul ha).mono (by omega)
  have v2 : Sz 63 (S.2 * b) := (hs1.2.mul hb).mono (by omega)
  have v3 : Sz 130 (S.1 * a + S.2 * b) := (v1.add v2).mono (by omega)
  have v4 : Sz 260 (c - (S.1 * a + S.2 * b)) := (hc.sub v3).mono (by omega)
  have HR1 := fun (w : World) (hg : Good w) => mulQ_any S.1 a 43 (by omega) (by omega) hs1.1 (ha.mono (by omega)) w hg
  have HR2 := fun (w : World) (hg : Good w) => mulQ_any S.2 b 43 (by omega) (by omega) hs1.2 (hb.mono (by omega)) w hg
  have HR3 := fun (w : World) (hg : Good w) => addQ_any (S.1 * a) (S.2 * b) 63 (by omega) (by omega) v1 v2 w hg
  have HR4 := fun (w : World) (hg : Good w) => subQ_any c (S.1 * a + S.2 * b) 130 (by omega) (by omega) (hc.mono (by omega)) v3 w hg
  by_cases h0 : c - (S.1 * a + S.2 * b) = 0
  · exact planes_equalz w kz s0 s1 half a0 a1 a2 a3 a4 a5 ah b0 b1 b2 b3 b4 b5 bh even add tz _ _ _ P T L U hx hy hz t htz htl _ _ (Lib.hid HS1) (Lib.hid HS2) m hT1 (by omega) (by omega) _ _ rfl rfl _ _ _ _ _ _ _
      (Lib.hid HD) (Lib.hid HM1) (Lib.hid HM2) (Lib.hid HA1) (Lib.hid HA2) (Lib.hid HSD) (Lib.hid HQ) _ _ _ _ (Lib.hid HR1) (Lib.hid HR2) (Lib.hid HR3) (Lib.hid HR4) (by rw [RS_eq48, decide_eq_true h0]) HMK (Lib.hid HPA) (Lib.hid HSQ)
      (Lib.hid (hT _ (.inl ⟨h0, rfl⟩))) (Lib.hid HV) hg
  · have HK := fun (w : World) (hg : Good w) => divQ_any (hI U (m : Int) - hI L (m : Int)) (c - (S.1 * a + S.2 * b)) 260 (by omega) (by omega) (hdz.mono (by omega)) v4 h0 w hg
    exact planes_equaln w kz s0 s1 half a0 a1 a2 a3 a4 a5 ah b0 b1 b2 b3 b4 b5 bh even add tz _ _ _ P T L U hx hy hz t htz htl _ _ (Lib.hid HS1) (Lib.hid HS2) m hT1 (by omega) (by omega) _ _ rfl rfl _ _ _ _ _ _ _
      (Lib.hid HD) (Lib.hid HM1) (Lib.hid HM2) (Lib.hid HA1) (Lib.hid HA2) (Lib.hid HSD) (Lib.hid HQ) _ _ _ _ (Lib.hid HR1) (Lib.hid HR2) (Lib.hid HR3) (Lib.hid HR4) (by rw [RS_eq48, decide_eq_false h0]) _ (Lib.hid HK) HMK (Lib.hid HPA) (Lib.hid HSQ)
      (Lib.hid (hT _ (.inr ⟨h0, rfl⟩))) (Lib.hid HV) hg

theorem planes_all (w : World) (kz s0 s1 : Int) (half : Bool) (a0 a1 a2 a3 a4 a5 : Int) (ah : Bool) (b0 b1 b2 b3 b4 b5 : Int) (bh even : Bool) (add tz : Int) (x y z : ByteArray) (hx : x.size ≤ maxLen) (hy : y.size ≤ maxLen) (hz : z.size ≤ maxLen)
    (hk0 : 0 ≤ kz) (hk1 : kz ≤ 255) (hs0 : -128 ≤ s0 ∧ s0 ≤ 127) (hs1 : -128 ≤ s1 ∧ s1 ≤ 127)
    (ha : ∀ x ∈ [a0, a1, a2, a3, a4, a5], -128 ≤ x ∧ x ≤ 127) (hb : ∀ x ∈ [b0, b1, b2, b3, b4, b5], -128 ≤ x ∧ x ≤ 127) (hadd : -128 ≤ add ∧ add ≤ 127) (hg : Good w) :
    Calls Tryz.prog 3 #[.agg #[.int .u8 kz, .int .i8 s0, .int .i8 s1, .bool half, .int .i8 a0, .int .i8 a1, .int .i8 a2, .int .i8 a3, .int .i8 a4, .int .i8 a5, .bool ah, .int .i8 b0, .int .i8 b1, .int .i8 b2, .int .i8 b3, .int .i8 b4, .int .i8 b5, .bool bh, .bool even, .int .i8 add], .int .i64 tz, .agg #[.string x, .string y, .string z]] w (Ret (fun r _ => r = .bool true) w) := by
  by_cases hlen : 20 < x.size ∨ 20 < y.size ∨ 20 < z.size
  · exact planes_long w kz s0 s1 half a0 a1 a2 a3 a4 a5 ah b0 b1 b2 b3 b4 b5 bh even add tz x y z hlen hx hy hz hg
  obtain ⟨k, hk⟩ : ∃ k : Nat, kz.tmod 8 = (k : Int) := ⟨(kz.tmod 8).toNat, by have := Int.tmod_nonneg 8 hk0; omega⟩
  exact planes_of w kz s0 s1 half a0 a1 a2 a3 a4 a5 ah b0 b1 b2 b3 b4 b5 bh even add tz x y z (sheetP k s0 s1 half) (shapeT k) (planL k [a0, a1, a2, a3, a4, a5] ah) (planU k [a0, a1, a2, a3, a4, a5] ah [b0, b1, b2, b3, b4, b5] bh even add)
    (by omega) (by omega) (by omega) (sheet_ok k s0 s1 half) (heights_Sz _ _ _) (planU_Sz _ _ _ _ _ _ _) (by rw [planL_length, sheetP_length]) (by rw [planU_length, sheetP_length])
    (Lib.hid fun w hg => make38_any w kz s0 s1 half a0 a1 a2 a3 a4 a5 ah b0 b1 b2 b3 b4 b5 bh even add k hk hk0 hk1 hs0 hs1 ha hb hadd hg) hg

end Go.Proofs.YtjfjkiibmfgplaaGreatDoor
