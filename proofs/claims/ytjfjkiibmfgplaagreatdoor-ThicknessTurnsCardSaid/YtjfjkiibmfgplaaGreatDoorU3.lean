/- klippelaw38.ThicknessTurns returns true at every plan and triangle. -/
import Derived.Test.YtjfjkiibmfgplaaGreatDoorU2
namespace Go.Proofs.YtjfjkiibmfgplaaGreatDoor
open Go.RowKit Go.Lib

theorem slopeQ_raise (A B C : PtQ) (za zb zc c : Rat) : slopeQ A B C (za + c) (zb + c) (zc + c) = slopeQ A B C za zb zc := by
  unfold slopeQ
  rw [show zb + c - (za + c) = zb - za by grind, show zc + c - (za + c) = zc - za by grind]
theorem hI_raise (add : Int) (L : List Rat) (z : Int) (h0 : 0 ≤ z) (h1 : z < (L.length : Int)) : hI (L.map (raiseQ add)) z = hI L z + mkRat (add.tmod 12) 2 := by
  obtain ⟨m, rfl⟩ : ∃ m : Nat, z = (m : Int) := ⟨z.toNat, by omega⟩
  rw [hI_nat _ m (by rw [List.length_map]; omega), hI_nat L m (by omega), List.getElem_map]
  rfl
theorem slopeT_raise {P : List PtQ} {T : List Tri} {k : Nat} (hM : MeshOK P T k) (L : List Rat) (hl : L.length = P.length) (add : Int) {tr : Tri} (htr : tr ∈ T) : slopeT P L tr = slopeT P (L.map (raiseQ add)) tr := by
  have hidx := hM.idx tr htr
  have e : ∀ z ∈ idxOf tr, hI (L.map (raiseQ add)) z = hI L z + mkRat (add.tmod 12) 2 := fun z hz => by
    obtain ⟨h0, h1⟩ := hidx z hz
    exact hI_raise add L z h0 (by rw [hl]; exact h1)
  unfold slopeT
  rw [e tr.1 (by simp [idxOf]), e tr.2.1 (by simp [idxOf]), e tr.2.2 (by simp [idxOf]), slopeQ_raise]

set_option maxHeartbeats 4000000 in
theorem turns_of (w : World) (kz s0 s1 : Int) (half : Bool) (a0 a1 a2 a3 a4 a5 : Int) (ah : Bool) (b0 b1 b2 b3 b4 b5 : Int) (bh even : Bool) (add tt : Int) (P : List PtQ) (T : List Tri) (L : List Rat) (ht0 : 0 ≤ tt ∧ tt ≤ 255)
    (hM : MeshOK P T 2) (hLs : ∀ q ∈ L, Sz 2 q) (hUs : ∀ q ∈ L.map (raiseQ add), Sz 2 q) (hLl : L.length = P.length)
    (HMK : Hid (∀ w, Good w → Calls Tryz.prog 11 #[.agg #[.int .u8 kz, .int .i8 s0, .int .i8 s1, .bool half, .int .i8 a0, .int .i8 a1, .int .i8 a2, .int .i8 a3, .int .i8 a4, .int .i8 a5, .bool ah, .int .i8 b0, .int .i8 b1, .int .i8 b2, .int .i8 b3, .int .i8 b4, .int .i8 b5, .bool bh, .bool true, .int .i8 add]] w (Ret (fun r w' => ∃ vp vt vl vu, r = .agg #[vp, vt, vl, vu] ∧ PairIn w' vp vt vl vu P T 2 L (L.map (raiseQ add))) w))) (hg : Good w) :
    Calls Tryz.prog 4 #[.agg #[.int .u8 kz, .int .i8 s0, .int .i8 s1, .bool half, .int .i8 a0, .int .i8 a1, .int .i8 a2, .int .i8 a3, .int .i8 a4, .int .i8 a5, .bool ah, .int .i8 b0, .int .i8 b1, .int .i8 b2, .int .i8 b3, .int .i8 b4, .int .i8 b5, .bool bh, .bool even, .int .i8 add], .int .u8 tt] w (Ret (fun r _ => r = .bool true) w) := by
  have hUl : (L.map (raiseQ add)).length = P.length := by rw [List.length_map, hLl]
  have hTne : 0 < T.length := List.length_pos_iff.2 hM.some
  obtain ⟨t, ht⟩ : ∃ t : Nat, tt % (T.length : Int) = (t : Int) := ⟨(tt % (T.length : Int)).toNat, by have := Int.emod_nonneg tt (show (T.length : Int) ≠ 0 by omega); omega⟩
  have htl : t < T.length := by have := Int.emod_lt_of_pos tt (show (0 : Int) < (T.length : Int) by omega); omega
  have heq : slopeT P L T[t] = slopeT P (L.map (raiseQ add)) T[t] := slopeT_raise hM L hLl add (List.getElem_mem htl)
  generalize L.map (raiseQ add) = U at *
  obtain ⟨tr, htr⟩ : ∃ tr, tr = T[t] := ⟨_, rfl⟩
  have hmem : tr ∈ T := by rw [htr]; exact List.getElem_mem htl
  rw [← htr] at heq
  have hs1 := slope_Sz hM rfl hLs hmem
  have hs1' : SzP 200 (slopeT P L tr) := ⟨hs1.1.mono (by omega), hs1.2.mono (by omega)⟩
  obtain ⟨h0, h1⟩ := hM.idx tr hmem tr.1 (by simp [idxOf])
  obtain ⟨m, hm⟩ : ∃ m : Nat, tr.1 = (m : Int) := ⟨tr.1.toNat, by omega⟩
  have hT1 : T[t].1 = (m : Int) := by rw [← htr]; exact hm
  have hmL : m < L.length := by omega
  have hmU : m < U.length := by omega
  have hdl : (difQ L U).length = P.length := by rw [difQ_length _ _ (by rw [hLl, hUl]), hUl]
  have hmD : m < (difQ L U).length := by omega
  have hDm : (difQ L U)[m] = hI U tr.1 - hI L tr.1 := by
    have e := difQ_get L U m hmL hmU
    rw [List.getElem?_eq_getElem hmD] at e
    rw [hm, hI_nat U m hmU, hI_nat L m hmL]
    exact Option.some.inj e
  have hdz : Sz 5 (hI U tr.1 - hI L tr.1) := (hI_Sz (by omega) hUs _).sub (hI_Sz (by omega) hLs _)
  have hdz' : Sz 5 (hI L tr.1 - hI U tr.1) := (hI_Sz (by omega) hLs _).sub (hI_Sz (by omega) hUs _)
  have hup : ∀ S : PtQ, riseQ S 0 0 1 = 1 := fun S => by unfold riseQ; grind
  have hno : riseQ (slopeT P L tr) (-(slopeT P L tr).1) (-(slopeT P L tr).2) 1 = 1 + dipQ (slopeT P L tr) := by unfold riseQ dipQ; grind
  have hdn := dipQ_nonneg (slopeT P L tr)
  have hne : 1 + dipQ (slopeT P L tr) ≠ 0 := by grind
  have q1 : Sz 87 ((slopeT P L tr).1 * (slopeT P L tr).1) := (hs1.1.mul hs1.1).mono (by omega)
  have q2 : Sz 87 ((slopeT P L tr).2 * (slopeT P L tr).2) := (hs1.2.mul hs1.2).mono (by omega)
  have q3 : Sz 177 (1 + dipQ (slopeT P L tr)) := (Sz.one.add (q1.add q2)).mono (by omega)
  have hk : Sz 183 ((hI U tr.1 - hI L tr.1) / (1 + dipQ (slopeT P L tr))) := (hdz.div q3 (by omega)).mono (by omega)
  have HTP := fun (w : World) (vp vt vl vu : Value) (h : PairIn w vp vt vl vu P T 2 L U) (hg : Good w) => toward_par w vp vt vl vu P T 2 L U h t t rfl htl tr htr hs1 heq _ rfl (hdz.mono (by omega)) 0 0 1 (Sz.zero _ (by omega)) (Sz.zero _ (by omega)) (Sz.one.mono (by omega)) _ (fun _ => by rw [hup]; exact (hdz.div Sz.one (by omega)).mono (by omega)) (.inr ⟨by rw [hup]; decide, rfl⟩) hg
  have HTQ := fun (w : World) (vp vt vl vu : Value) (h : PairIn w vp vt vl vu P T 2 L U) (hg : Good w) => toward_par w vp vt vu vl P T 2 U L ⟨h.u, h.l⟩ t t rfl htl tr htr (heq ▸ hs1) heq.symm _ rfl (hdz'.mono (by omega)) 0 0 1 (Sz.zero _ (by omega)) (Sz.zero _ (by omega)) (Sz.one.mono (by omega)) _ (fun _ => by rw [hup]; exact (hdz'.div Sz.one (by omega)).mono (by omega)) (.inr ⟨by rw [hup]; decide, rfl⟩) hg
  have HTN := fun (w : World) (vp vt vl vu : Value) (h : PairIn w vp vt vl vu P T 2 L U) (hg : Good w) => toward_par w vp vt vl vu P T 2 L U h t t rfl htl tr htr hs1 heq _ rfl (hdz.mono (by omega)) (-(slopeT P L tr).1) (-(slopeT P L tr).2) 1 hs1.1.neg hs1.2.neg (Sz.one.mono (by omega)) _ (fun _ => by rw [hno]; exact hk.mono (by omega)) (.inr ⟨by rw [hno]; exact hne, rfl⟩) hg
  have HSQ := fun (w : World) (vp vt vl vu : Value) (h : PairIn w vp vt vl vu P T 2 L U) (hg : Good w) => squared_ok w vp vt vl vu P T 2 L U h t t rfl htl tr htr hs1 heq _ rfl (hdz.mono (by omega)) hg
  have HVE := fun (w : World) (vp vt vl vu : Value) (h : PairIn w vp vt vl vu P T 2 L U) (hg : Good w) => vertical_ok w vp vt vl vu P T 2 L U h (by omega) hg
  have HNO := fun (w : World) (vp vt vl vu : Value) (h : PairIn w vp vt vl vu P T 2 L U) (hg : Good w) => normal_ok w vp vt vl P T 2 L h.l t t rfl htl tr htr hs1' hg
  have HDT := fun (w : World) (hg : Good w) => dot10_any (-(slopeT P L tr).1) (-(slopeT P L tr).2) 1 (-(slopeT P L tr).1) (-(slopeT P L tr).2) 1 43 (by omega) (by omega)
    (by intro q hq; simp only [List.mem_cons, List.not_mem_nil, or_false] at hq; rcases hq with rfl | rfl | rfl; exact hs1.1.neg; exact hs1.2.neg; exact Sz.one.mono (by omega))
    (by intro q hq; simp only [List.mem_cons, List.not_mem_nil, or_false] at hq; rcases hq with rfl | rfl | rfl; exact hs1.1.neg; exact hs1.2.neg; exact Sz.one.mono (by omega)) w hg
  have hdot : dotQ [-(slopeT P L tr).1, -(slopeT P L tr).2, 1] [-(slopeT P L tr).1, -(slopeT P L tr).2, 1] = 1 + dipQ (slopeT P L tr) := by
    simp only [dotQ, dipQ, List.zipWith_cons_cons, List.zipWith_nil_left, List.foldl_cons, List.foldl_nil]
    grind
  rw [hdot] at HDT
  rw [hup] at HTP HTQ
  rw [hno] at HTN
  have hd1 : (hI U tr.1 - hI L tr.1) / 1 = hI U tr.1 - hI L tr.1 := by grind
  have hd2 : (hI L tr.1 - hI U tr.1) / 1 = -(hI U tr.1 - hI L tr.1) := by grind
  rw [hd1] at HTP
  rw [hd2] at HTQ
  rw [RS_zero, RS_one] at HTP HTQ
  rw [RS_one] at HTN HDT
  unfold sqQ at HSQ
  generalize slopeT P L tr = S at *
  generalize 1 + dipQ S = od at *
  generalize hI U tr.1 - hI L tr.1 = d at *
  have hkk : Sz 366 (d / od * (d / od)) := (hk.mul hk).mono (by omega)
  have hss : d / od * (d / od) * od = d * d / od := by grind
  have HNG : ∀ (w : World), Good w → _ := fun (w : World) (_ : Good w) => (negQ_any d (by have := hdz.size (by omega); omega) w).mono fun _ _ h => h.ret
  have HM1 := fun (w : World) (hg : Good w) => mulQ_any (d / od) (d / od) 183 (by omega) (by omega) hk hk w hg
  have HM2 := fun (w : World) (hg : Good w) => mulQ_any (d / od * (d / od)) od 366 (by omega) (by omega) hkk (q3.mono (by omega)) w hg
  rw [hss] at HM2
  exact turns_walk w kz s0 s1 half a0 a1 a2 a3 a4 a5 ah b0 b1 b2 b3 b4 b5 bh even add tt P T L U t m ht0 ht htl hT1 (difQ L U) hmD _ _ _ _ _ _ _ _ (by rw [hDm]) HMK (Lib.hid HTP) (Lib.hid HTQ) (Lib.hid HVE) (Lib.hid HNO) (Lib.hid HTN) (Lib.hid HSQ) (Lib.hid HDT) (Lib.hid HNG) (Lib.hid HM1) (Lib.hid HM2) hg

theorem turns_all (w : World) (kz s0 s1 : Int) (half : Bool) (a0 a1 a2 a3 a4 a5 : Int) (ah : Bool) (b0 b1 b2 b3 b4 b5 : Int) (bh even : Bool) (add tt : Int) (ht0 : 0 ≤ tt ∧ tt ≤ 255)
    (hk0 : 0 ≤ kz) (hk1 : kz ≤ 255) (hs0 : -128 ≤ s0 ∧ s0 ≤ 127) (hs1 : -128 ≤ s1 ∧ s1 ≤ 127)
    (ha : ∀ x ∈ [a0, a1, a2, a3, a4, a5], -128 ≤ x ∧ x ≤ 127) (hb : ∀ x ∈ [b0, b1, b2, b3, b4, b5], -128 ≤ x ∧ x ≤ 127) (hadd : -128 ≤ add ∧ add ≤ 127) (hg : Good w) :
    Calls Tryz.prog 4 #[.agg #[.int .u8 kz, .int .i8 s0, .int .i8 s1, .bool half, .int .i8 a0, .int .i8 a1, .int .i8 a2, .int .i8 a3, .int .i8 a4, .int .i8 a5, .bool ah, .int .i8 b0, .int .i8 b1, .int .i8 b2, .int .i8 b3, .int .i8 b4, .int .i8 b5, .bool bh, .bool even, .int .i8 add], .int .u8 tt] w (Ret (fun r _ => r = .bool true) w) := by
  obtain ⟨k, hk⟩ : ∃ k : Nat, kz.tmod 8 = (k : Int) := ⟨(kz.tmod 8).toNat, by have := Int.tmod_nonneg 8 hk0; omega⟩
  exact turns_of w kz s0 s1 half a0 a1 a2 a3 a4 a5 ah b0 b1 b2 b3 b4 b5 bh even add tt (sheetP k s0 s1 half) (shapeT k) (planL k [a0, a1, a2, a3, a4, a5] ah) ht0
    (sheet_ok k s0 s1 half) (heights_Sz _ _ _) (raise_Sz _ _ _ _) (by rw [planL_length, sheetP_length])
    (Lib.hid fun w hg => make38_any w kz s0 s1 half a0 a1 a2 a3 a4 a5 ah b0 b1 b2 b3 b4 b5 bh true add k hk hk0 hk1 hs0 hs1 ha hb hadd hg) hg

end Go.Proofs.YtjfjkiibmfgplaaGreatDoor
