/- The walks over thickness.Vertical, field.Normal, klipperef10.Dot. -/
import Derived.Test.YtjfjkiibmfgplaaGreatDoorZ2
import Derived.Deep.RegionHeld3
namespace Go.Proofs.YtjfjkiibmfgplaaGreatDoor
open Go.RowKit Go.Lib

set_option maxHeartbeats 2000000 in
set_option maxRecDepth 100000 in
theorem vertical_ok (w : World) (vp vt vl vu : Value) (P : List PtQ) (T : List Tri) (k : Nat) (L U : List Rat) (h : PairIn w vp vt vl vu P T k L U) (hk : k ≤ 90) (hg : Good w) :
    Calls Tryz.prog 21 #[.agg #[vp, vt, vl, vu]] w (Ret (fun r w' => ∃ v, r = .tuple #[v, .int .i64 0] ∧ RdQ w' v (difQ L U)) w) := by
  have HH := Lib.hid h
  have hkp := h.l.m.kpos
  have hlen : L.length = U.length := by rw [h.l.fl, h.u.fl]
  have hul := h.u.fl
  have hpl := h.l.m.plen
  have HDZ : Hid (∀ q ∈ difQ L U, Sz 200 q) := fun q hq => (difQ_Sz h.l.fs h.u.fs q hq).mono (by omega)
  have HDL : Hid ((difQ L U).length = P.length) := by unfold Hid; rw [difQ_length _ _ hlen, hul]
  have HDF : Hid (∀ w, PairIn w vp vt vl vu P T k L U → Good w → _) := fun w h hg => differences_any w vp vt vl vu k L U hkp (by omega) h.l.f h.u.f hlen (by omega) h.l.fs h.u.fs hg
  obtain ⟨pp, cp, pt, ct, pl, cl, pu, cu, rfl, rfl, rfl, rfl⟩ := h.open
  obtain ⟨n, hn⟩ : ∃ n, n = (difQ L U).length := ⟨_, rfl⟩
  have HN := Lib.hid hn
  have hn4 : n ≤ 400 := by have := HDL.out; omega
  generalize hD : difQ L U = D at *
  clear h hD hlen hul hn
  go_enter Tryz.func21, Tryz.ntmps21
  go_wp2_with fail
  obtain ⟨W, hW⟩ : ∃ W, W = w.alloc (.cells #[.slice pp P.length cp, .slice pt T.length ct, .slice pl L.length cl, .slice pu U.length cu] 44) := ⟨_, rfl⟩
  have hB : Below w.heap.size w W := by rw [hW]; exact (Below.refl _ _).alloc (Nat.le_refl _) _
  have b0 : BoxN W w.heap.size 44 [.slice pp P.length cp, .slice pt T.length ct, .slice pl L.length cl, .slice pu U.length cu] := by rw [hW]; exact BoxN.new _ _ _ _ rfl
  rw [← hW]
  clear hW
  refine (tcheck_ok W _ _ _ _ P T k L U (HH.out.below hB) (hg.below hB)).mono ?_
  rintro e w1 ⟨_, rfl, rfl, hb1⟩
  have hB1 := hB.trans (hb1.mono hB.size)
  have b1 := b0.below hb1 b0.lt
  have c0 := b1.cell 0 rfl
  have c1 := b1.cell 1 rfl
  have c2 := b1.cell 2 rfl
  have c3 := b1.cell 3 rfl
  clear hb1 hB b0
  go_wp2_with fail
  refine (HDF.out w1 (HH.out.below hB1) (hg.below hB1)).mono ?_
  rintro e w2 ⟨vd, rfl, ⟨hrd, _⟩, hb2⟩
  have hB2 := hB1.trans (hb2.mono hB1.size)
  clear hb2 hB1 b1 c0 c1 c2 c3 HDF
  have HRD := Lib.hid hrd
  obtain ⟨pd, cd, rfl, hdc, hdm, hdr⟩ := hrd.open
  have HDR := Lib.hid hdr
  rw [← HN.out] at HRD ⊢
  clear hrd hdr hdc hdm
  go_wp2_with fail
  go_loopw [19] (fun t19 wr => ∃ i : Nat, t19 = .int .i64 i ∧ i ≤ n ∧ Below w2.heap.size w2 wr) (fun t19 _ => n - (RowKit.intOf t19).toNat)
  case atStart => exact ⟨0, rfl, Nat.zero_le _, Below.refl _ _⟩
  case round =>
    obtain ⟨i, rfl, hi, hbl⟩ := hrel
    have hbW := hB2.trans (hbl.mono hB2.size)
    have hgr := hg.below hbW
    rcases Nat.lt_or_ge i n with h | h
    · obtain ⟨bd, od, rfl, hbd, hdcell⟩ := HDR.out (by intro e; have := HN.out; rw [e] at this; simp at this; omega)
      have hl : i < D.length := by have := HN.out; omega
      have f0 := (hbl.cell (p := ⟨bd, od + i, none⟩) hbd).trans (hdcell i hl)
      have HSH : Hid (∀ w, Good w → _) := fun w hg => short_ok D[i] (HDZ.out _ (List.getElem_mem hl)) w hg
      generalize D[i]'_ = q at *
      have hin : (i : Int) < (n : Int) := by omega
      clear hdcell hl
      go_wp2_with fail
      refine (HSH.out wr hgr).mono ?_
      rintro e w3 ⟨_, rfl, rfl, hb3⟩
      have hb4 := hbl.trans (hb3.mono hbl.size)
      go_wp2_with fail
      go_roundw
      case rel => exact ⟨i + 1, by go_num, h, hb4⟩
      case measure => simp [RowKit.intOf]; omega
    · have hrd := RdC.below HRD.out hbl
      go_wp2_with fail
      go_ret2
      exact ⟨_, rfl, ⟨_, rfl, hrd⟩, hbW⟩

set_option maxHeartbeats 2000000 in
set_option maxRecDepth 100000 in
theorem normal_ok (w : World) (vp vt vf : Value) (P : List PtQ) (T : List Tri) (k : Nat) (F : List Rat) (h : FieldIn w vp vt vf P T k F) (t : Nat) (tz : Int) (htz : tz = (t : Int)) (htl : t < T.length) (tr : Tri) (htr : tr = T[t]) (hs : SzP 200 (slopeT P F tr)) (hg : Good w) :
    Calls Tryz.prog 22 #[.agg #[vp, vt], vf, .int .i64 tz] w (Ret (fun r _ => r = .tuple #[.agg #[.string (RS (-(slopeT P F tr).1)), .string (RS (-(slopeT P F tr).2)), .string ⟨#[49]⟩], .int .i64 0]) w) := by
  have HH := Lib.hid h
  obtain ⟨pp, cp, pt, ct, pf, cf, rfl, rfl, rfl⟩ := h.open
  have HS : Hid (∀ (w : World), FieldIn w (.slice pp P.length cp) (.slice pt T.length ct) (.slice pf F.length cf) P T k F → Good w → _) := fun w h hg => fslope_ok w _ _ _ P T k F h t tz htz htl tr htr hs hg
  have z1 := hs.1.size (by omega)
  have z2 := hs.2.size (by omega)
  have HN1 : Hid (∀ w, Good w → _) := fun w _ => (ratNeg_any (slopeT P F tr).1 (by omega) w).mono fun _ _ h => h.ret
  have HN2 : Hid (∀ w, Good w → _) := fun w _ => (ratNeg_any (slopeT P F tr).2 (by omega) w).mono fun _ _ h => h.ret
  generalize slopeT P F tr = S at *
  clear h htz htr hs z1 z2
  go_enter Tryz.func22, Tryz.ntmps22
  go_wp2_with fail
  obtain ⟨W, hW⟩ : ∃ W, W = (w.alloc (.cells #[.slice pp P.length cp, .slice pt T.length ct] 40)).alloc (.cells #[.string ⟨#[]⟩, .string ⟨#[]⟩, .string ⟨#[]⟩] 35) := ⟨_, rfl⟩
  have hB : Below w.heap.size w W := by rw [hW]; exact ((Below.refl _ _).alloc (Nat.le_refl _) _).alloc (by simp) _
  have b6 : BoxN W (w.heap.size + 1) 35 [.string ⟨#[]⟩, .string ⟨#[]⟩, .string ⟨#[]⟩] := by rw [hW]; exact BoxN.new _ _ _ _ (by simp)
  rw [← hW]
  clear hW
  refine (HS.out _ (HH.out.below hB) (hg.below hB)).mono ?_
  rintro e w1 ⟨_, rfl, rfl, hb1⟩
  have hB1 := hB.trans (hb1.mono hB.size)
  have b61 := b6.below hb1 b6.lt
  clear hb1 hB b6
  go_upto_region 4 with fail
  obtain ⟨W2, hW2⟩ : ∃ W, W = w1.alloc (.cells #[.string (RS S.1), .string (RS S.2)] 54) := ⟨_, rfl⟩
  have hb2 : Below w1.heap.size w1 W2 := by rw [hW2]; exact (Below.refl _ _).alloc (Nat.le_refl _) _
  have b8 : BoxN W2 w1.heap.size 54 [.string (RS S.1), .string (RS S.2)] := by rw [hW2]; exact BoxN.new _ _ _ _ rfl
  rw [← hW2]
  clear hW2
  have hB2 := hB1.trans (hb2.mono hB1.size)
  have b62 := b61.below hb2 b61.lt
  have x0 := b8.cell 0 rfl
  have x1 := b8.cell 1 rfl
  have y0 := b62.cell 0 rfl
  have y1 := b62.cell 1 rfl
  have y2 := b62.cell 2 rfl
  have y0f := b62.frozen 0
  have y1f := b62.frozen 1
  have y2f := b62.frozen 2
  have hz := b62.lt
  have hz8 := b8.lt
  have hz1 := b61.lt
  have hgd : Good W2.drew := (hg.below hB2).drewN 1
  have HF : Hid (∀ w', Below W2.heap.size W2 w' → (w'.cell? ⟨w1.heap.size, 0, none⟩ = some (.string (RS S.1)) ∧ w'.cell? ⟨w1.heap.size, 1, none⟩ = some (.string (RS S.2))) ∧ Good w' ∧ BoxN w' (w.heap.size + 1) 35 [.string ⟨#[]⟩, .string ⟨#[]⟩, .string ⟨#[]⟩] ∧ Below w.heap.size w w') := fun w' hb =>
    ⟨⟨(hb.cell (p := ⟨w1.heap.size, 0, none⟩) b8.lt).trans x0, (hb.cell (p := ⟨w1.heap.size, 1, none⟩) b8.lt).trans x1⟩, (hg.below hB2).below hb, b62.below hb b62.lt, hB2.trans (hb.mono hB2.size)⟩
  clear hb2 b61 hB1
  have hb0 := below_drewN W2 1
  have hxx := (HF.out _ hb0).1
  have HFAR : Hid (∀ (X : World) (i j l m : Nat) (u v x : Value), (((X.setCell ⟨w.heap.size + 1, i, none⟩ u).setCell ⟨w.heap.size + 1, j, none⟩ v).setCell ⟨w.heap.size + 1, l, none⟩ x).cell? ⟨w1.heap.size, m, none⟩ = X.cell? ⟨w1.heap.size, m, none⟩) := fun X i j l m u v x => by
    have hne : w.heap.size + 1 ≠ w1.heap.size := by omega
    rw [World.cell?_setCell_far _ _ _ _ hne, World.cell?_setCell_far _ _ _ _ hne, World.cell?_setCell_far _ _ _ _ hne]
  clear y0 y1 y2 y0f y1f y2f
  go_region_held3 (fun w' => w'.cell? ⟨w1.heap.size, 0, none⟩ = some (.string (RS S.1)) ∧ w'.cell? ⟨w1.heap.size, 1, none⟩ = some (.string (RS S.2)))
    (first | exact hxx | exact hx3 | exact hx4 | exact ⟨(HFAR.out _ _ _ _ _ _ _ _).trans hx4.1, (HFAR.out _ _ _ _ _ _ _ _).trans hx4.2⟩)
    (first
      | (go_at_call 69; refine (HN2.out w3 hg3).mono ?_; rintro e w4 ⟨_, rfl, rfl, hb4⟩
         have hb40 := hb30.trans (hb4.mono hb30.size)
         obtain ⟨hx4, hg4, b64, hB4⟩ := HF.out _ hb40
         have y0 := b64.cell 0 rfl
         have y1 := b64.cell 1 rfl
         have y2 := b64.cell 2 rfl
         have y0f := b64.frozen 0
         have y1f := b64.frozen 1
         have y2f := b64.frozen 2)
      | (go_at_call 69; refine (HN1.out _ hgd).mono ?_; rintro e w3 ⟨_, rfl, rfl, hb3⟩
         have hb30 := hb0.trans (hb3.mono hb0.size)
         obtain ⟨hx3, hg3, _, _⟩ := HF.out _ hb30))
  all_goals
    go_wp2_with fail
    have BF := ((b64.set 0 (.string (RS (-S.1)))).set 1 (.string (RS (-S.2)))).set 2 (.string ⟨#[49]⟩)
    have g0 := BF.cell 0 rfl
    have g1 := BF.cell 1 rfl
    have g2 := BF.cell 2 rfl
    have hBF := ((hB4.setCell (p := ⟨w.heap.size + 1, 0, none⟩) (by show w.heap.size ≤ w.heap.size + 1; omega) (.string (RS (-S.1)))).setCell (p := ⟨w.heap.size + 1, 1, none⟩) (by show w.heap.size ≤ w.heap.size + 1; omega) (.string (RS (-S.2)))).setCell (p := ⟨w.heap.size + 1, 2, none⟩) (by show w.heap.size ≤ w.heap.size + 1; omega) (.string ⟨#[49]⟩)
    exact bodyPost_ret (v := .tuple #[.agg #[.string (RS (-S.1)), .string (RS (-S.2)), .string ⟨#[49]⟩], .int .i64 0]) (by simp [results, Tryz.results22, go_sem, g0, g1, g2]) rfl ⟨_, rfl, rfl, hBF⟩

theorem list10_any (x y z : ByteArray) (w : World) :
    Calls Tryz.prog 71 #[.agg #[.string x, .string y, .string z]] w (Ret (fun r w' => RdS w' r [x, y, z] ∧ ∃ g, r = .slice (some ⟨g, 0, none⟩) 3 3) w) := by
  go_enter Tryz.func71, Tryz.ntmps71
  go_wp2_with fail
  have hb0 : Below w.heap.size w ((w.alloc (Obj.cells #[Value.string x, Value.string y, Value.string z] 35)).alloc (Obj.cells #[Value.string x, Value.string y, Value.string z] 33)) :=
    ((Below.refl _ _).alloc (Nat.le_refl _) _).alloc (by simp) _
  go_ret
  exact ⟨_, rfl, ⟨RdS.fresh _ [x, y, z] _ _ rfl (by simp) _ rfl _ (by simp), _, rfl⟩, hb0⟩

/-- The sum of products, from the left. -/
def dotQ (a b : List Rat) : Rat := (List.zipWith (· * ·) a b).foldl (· + ·) 0
theorem dotQ_step (A B : List Rat) (i : Nat) (h1 : i < A.length) (h2 : i < B.length) : dotQ (A.take (i + 1)) (B.take (i + 1)) = dotQ (A.take i) (B.take i) + A[i] * B[i] := by
  unfold dotQ
  rw [List.take_succ_eq_append_getElem h1, List.take_succ_eq_append_getElem h2, List.zipWith_append (by simp; omega), List.foldl_append]
  simp
theorem RdS.ofQ {w : World} {v : Value} {l : List Rat} (h : RdS w v (l.map RS)) : RdQ w v l := by
  have e : (l.map RS).map (fun x => Value.string x) = l.map fun q => Value.string (RS q) := by rw [List.map_map]; rfl
  unfold RdS at h
  rw [e, List.length_map] at h
  exact h
set_option maxHeartbeats 2000000 in
set_option maxRecDepth 100000 in
theorem dot6_any (A B : List Rat) (k : Nat) (hk : 0 < k) (hl : A.length = B.length) (hlen : A.length * (2 * k + 1) + 1 ≤ 20000) (hA : ∀ q ∈ A, Sz k q) (hB : ∀ q ∈ B, Sz k q) (va vb : Value) (w : World) (hra : RdQ w va A) (hrb : RdQ w vb B) (hg : Good w) :
    Calls Tryz.prog 70 #[va, vb] w (Ret (fun r _ => r = .string (RS (dotQ A B))) w) := by
  obtain ⟨pa, ca, rfl, hac, ham, har⟩ := hra.open
  obtain ⟨pb, cb, rfl, hbc, hbm, hbr⟩ := hrb.open
  obtain ⟨n, hn0⟩ : ∃ n, n = A.length := ⟨_, rfl⟩
  have HN1 : Hid (A.length = n) := hn0.symm
  have HN2 : Hid (B.length = n) := by unfold Hid; omega
  have HAR := Lib.hid har
  have HBR := Lib.hid hbr
  have HA := Lib.hid hA
  have HB := Lib.hid hB
  rw [← hl, ← hn0]
  rw [← hn0] at hlen
  have hnm : n ≤ 20000 := by
    have : n * 1 ≤ n * (2 * k + 1) := Nat.mul_le_mul_left _ (by omega)
    omega
  have hk2 : n = 0 ∨ 2 * k + 2 ≤ 20000 := by
    rcases Nat.eq_zero_or_pos n with h | h
    · exact .inl h
    · have : 1 * (2 * k + 1) ≤ n * (2 * k + 1) := Nat.mul_le_mul_right _ h
      omega
  have HLEN := Lib.hid hlen
  have HK2 := Lib.hid hk2
  clear hra hrb har hbr hA hB hl hn0 hlen hk2 hac hbc
  go_enter Tryz.func70, Tryz.ntmps70
  go_wp2_with fail
  go_loopw [5, 6] (fun t5 t6 wr => ∃ (i : Nat) (s : Rat), t5 = .string (RS s) ∧ t6 = .int .i64 i ∧ i ≤ n ∧ Hid (s = dotQ (A.take i) (B.take i)) ∧ Hid (Sz (i * (2 * k + 1) + 1) s) ∧ Below w.heap.size w wr) (fun _ t6 _ => n - (RowKit.intOf t6).toNat)
  case atStart => exact ⟨0, 0, congrArg Value.string RS_zero.symm, rfl, Nat.zero_le _, by simp [Hid, dotQ], Sz.zero _ (by omega), Below.refl _ _⟩
  case round =>
    obtain ⟨i, s, rfl, rfl, hi, HS, HZ, hbl⟩ := hrel
    rcases Nat.lt_or_ge i n with h | h
    · have h1 : i < A.length := by have := HN1.out; omega
      have h2 : i < B.length := by have := HN2.out; omega
      obtain ⟨ba, oa, rfl, hba, hca⟩ := HAR.out (List.ne_nil_of_length_pos (by omega))
      obtain ⟨bb, ob, rfl, hbb, hcb⟩ := HBR.out (List.ne_nil_of_length_pos (by omega))
      have xa := (hbl.cell (p := ⟨ba, oa + i, none⟩) hba).trans (hca i h1)
      have xb := (hbl.cell (p := ⟨bb, ob + i, none⟩) hbb).trans (hcb i h2)
      have za := HA.out _ (List.getElem_mem h1)
      have zb := HB.out _ (List.getElem_mem h2)
      have HST : Hid (dotQ (A.take (i + 1)) (B.take (i + 1)) = s + A[i] * B[i]) := by unfold Hid; rw [dotQ_step A B i h1 h2, HS.out]
      generalize A[i]'_ = x at *
      generalize B[i]'_ = y at *
      have hkk : 2 * k + 2 ≤ 20000 := by have := HK2.out; omega
      have hmul : (i + 1) * (2 * k + 1) ≤ n * (2 * k + 1) := Nat.mul_le_mul_right _ h
      have hexp : (i + 1) * (2 * k + 1) = i * (2 * k + 1) + (2 * k + 1) := Nat.succ_mul _ _
      have HZP : Hid (Sz (2 * k) (x * y)) := (za.mul zb).mono (by omega)
      have HZN : Hid (Sz ((i + 1) * (2 * k + 1) + 1) (s + x * y)) := (HZ.out.add HZP.out).mono (by omega)
      have HMUL : Hid (∀ w, Good w → _) := fun w hg => mulQ_any x y k hk (by omega) za zb w hg
      have HADD : Hid (∀ w, Good w → _) := fun w hg => addQ_any s (x * y) 20000 (by omega) (by omega) (HZ.out.mono (by have := HLEN.out; omega)) (HZP.out.mono (by omega)) w hg
      generalize x * y = xy at *
      generalize s + xy = sn at *
      have hz0 := hbl.size
      have hza : ba < wr.heap.size := by omega
      have hzb : bb < wr.heap.size := by omega
      have hin : (i : Int) < (n : Int) := by omega
      have hgd : Good wr.drew := (hg.below hbl).drewN 1
      clear hca hcb za zb HZP HZ HS hmul hexp hkk h1 h2
      go_upto_region 5 with fail
      go_region_held3 (fun w' => w'.cell? ⟨ba, oa + i, none⟩ = some (.string (RS x)) ∧ w'.cell? ⟨bb, ob + i, none⟩ = some (.string (RS y)))
        (first | exact ⟨xa, xb⟩ | exact ⟨p_1_0, p_1_1⟩ | exact ⟨p_2_0, p_2_1⟩)
        (first
        | (go_at_call 18; refine (HADD.out _ pg1).mono ?_; rintro e pw2 ⟨_, rfl, rfl, pb2⟩
           have p_2_0 := (pb2.cell (p := ⟨ba, oa + i, none⟩) (by show ba < pw1.heap.size; omega)).trans p_1_0
           have p_2_1 := (pb2.cell (p := ⟨bb, ob + i, none⟩) (by show bb < pw1.heap.size; omega)).trans p_1_1
           have ps2 : pw1.heap.size ≤ pw2.heap.size := pb2.size
           have pg2 : Good pw2 := pg1.below pb2)
        | (go_at_call 19; refine (HMUL.out _ hgd).mono ?_; rintro e pw1 ⟨_, rfl, rfl, pb1⟩
           have p_1_0 := (pb1.cell (p := ⟨ba, oa + i, none⟩) (by show ba < wr.heap.size; omega)).trans xa
           have p_1_1 := (pb1.cell (p := ⟨bb, ob + i, none⟩) (by show bb < wr.heap.size; omega)).trans xb
           have ps1 : wr.heap.size ≤ pw1.heap.size := pb1.size
           have pg1 : Good pw1 := hgd.below pb1))
      have pB : Below wr.heap.size wr pw2 := (((below_drewN wr 1).trans (pb1.mono (by show wr.heap.size ≤ wr.heap.size; omega))).trans (pb2.mono (by show wr.heap.size ≤ pw1.heap.size; omega)))
      have hbn := hbl.trans (pB.mono hbl.size)
      go_wp2_with fail
      go_roundw
      case rel => exact ⟨i + 1, sn, rfl, by go_num, h, HST.out.symm, HZN, hbn⟩
      case measure => simp [RowKit.intOf]; omega
    · have HF : Hid (s = dotQ A B) := by have := HS.out; rw [List.take_of_length_le (by have := HN1.out; omega), List.take_of_length_le (by have := HN2.out; omega)] at this; exact this
      clear HS HZ
      go_wp2_with fail
      go_ret
      exact ⟨_, rfl, congrArg (fun z => Value.string (RS z)) HF.out, hbl⟩

set_option maxHeartbeats 2000000 in
set_option maxRecDepth 100000 in
theorem dot10_any (a0 a1 a2 b0 b1 b2 : Rat) (k : Nat) (hk : 0 < k) (hk2 : k ≤ 3000) (hA : ∀ q ∈ [a0, a1, a2], Sz k q) (hB : ∀ q ∈ [b0, b1, b2], Sz k q) (w : World) (hg : Good w) :
    Calls Tryz.prog 23 #[.agg #[.string (RS a0), .string (RS a1), .string (RS a2)], .agg #[.string (RS b0), .string (RS b1), .string (RS b2)]] w (Ret (fun r _ => r = .string (RS (dotQ [a0, a1, a2] [b0, b1, b2]))) w) := by
  have HD : Hid (∀ (va vb : Value) (w : World), RdQ w va [a0, a1, a2] → RdQ w vb [b0, b1, b2] → Good w → _) := fun va vb w ha hb hg => dot6_any [a0, a1, a2] [b0, b1, b2] k hk rfl (by simp; omega) hA hB va vb w ha hb hg
  have HL : Hid (∀ (x y z : Rat) (w : World), Calls Tryz.prog 71 #[.agg #[.string (RS x), .string (RS y), .string (RS z)]] w (Ret (fun r w' => RdQ w' r [x, y, z] ∧ ∃ g, r = .slice (some ⟨g, 0, none⟩) 3 3) w)) := fun x y z w => (list10_any (RS x) (RS y) (RS z) w).mono fun e w' h => by
    obtain ⟨r, h1, ⟨h2, h3⟩, h4⟩ := h
    exact ⟨r, h1, ⟨RdS.ofQ (l := [x, y, z]) h2, h3⟩, h4⟩
  generalize dotQ [a0, a1, a2] [b0, b1, b2] = res at *
  clear hA hB
  generalize RS res = sres at *
  go_enter Tryz.func23, Tryz.ntmps23
  go_wp2_with fail
  obtain ⟨W, hW⟩ : ∃ W, W = (w.alloc (.cells #[.string (RS a0), .string (RS a1), .string (RS a2)] 35)).alloc (.cells #[.string (RS b0), .string (RS b1), .string (RS b2)] 35) := ⟨_, rfl⟩
  have hB : Below w.heap.size w W := by rw [hW]; exact ((Below.refl _ _).alloc (Nat.le_refl _) _).alloc (by simp) _
  have e3 : BoxN W (w.heap.size + 1) 35 [.string (RS b0), .string (RS b1), .string (RS b2)] := by rw [hW]; exact BoxN.new _ _ _ _ (by simp)
  have e2 : BoxN W w.heap.size 35 [.string (RS a0), .string (RS a1), .string (RS a2)] := by
    rw [hW]
    have h1 := (BoxN.new w #[.string (RS a0), .string (RS a1), .string (RS a2)] 35 _ rfl)
    exact h1.below ((Below.refl _ _).alloc (Nat.le_refl _) _) h1.lt
  rw [← hW]
  clear hW
  have hz2 := e2.lt
  have hz3 := e3.lt
  have x0 := e2.cell 0 rfl
  have x1 := e2.cell 1 rfl
  have x2 := e2.cell 2 rfl
  have y0 := e3.cell 0 rfl
  have y1 := e3.cell 1 rfl
  have y2 := e3.cell 2 rfl
  have hgd : Good W.drew := (hg.below hB).drewN 1
  go_region_held3 (fun w' => w'.cell? ⟨w.heap.size, 0, none⟩ = some (.string (RS a0)) ∧ w'.cell? ⟨w.heap.size, 1, none⟩ = some (.string (RS a1)) ∧ w'.cell? ⟨w.heap.size, 2, none⟩ = some (.string (RS a2)) ∧ w'.cell? ⟨w.heap.size + 1, 0, none⟩ = some (.string (RS b0)) ∧ w'.cell? ⟨w.heap.size + 1, 1, none⟩ = some (.string (RS b1)) ∧ w'.cell? ⟨w.heap.size + 1, 2, none⟩ = some (.string (RS b2)))
    (first | exact ⟨x0, x1, x2, y0, y1, y2⟩ | exact ⟨p_1_0, p_1_1, p_1_2, p_1_3, p_1_4, p_1_5⟩ | exact ⟨p_2_0, p_2_1, p_2_2, p_2_3, p_2_4, p_2_5⟩ | exact ⟨p_3_0, p_3_1, p_3_2, p_3_3, p_3_4, p_3_5⟩)
    (first
    | (go_at_call 70; refine (HD.out _ _ _ hr1' hr2 pg2).mono ?_; rintro e pw3 ⟨_, rfl, rfl, pb3⟩
       have p_3_0 := (pb3.cell (p := ⟨w.heap.size, 0, none⟩) (by show w.heap.size < pw2.heap.size; omega)).trans p_2_0
       have p_3_1 := (pb3.cell (p := ⟨w.heap.size, 1, none⟩) (by show w.heap.size < pw2.heap.size; omega)).trans p_2_1
       have p_3_2 := (pb3.cell (p := ⟨w.heap.size, 2, none⟩) (by show w.heap.size < pw2.heap.size; omega)).trans p_2_2
       have p_3_3 := (pb3.cell (p := ⟨w.heap.size + 1, 0, none⟩) (by show w.heap.size + 1 < pw2.heap.size; omega)).trans p_2_3
       have p_3_4 := (pb3.cell (p := ⟨w.heap.size + 1, 1, none⟩) (by show w.heap.size + 1 < pw2.heap.size; omega)).trans p_2_4
       have p_3_5 := (pb3.cell (p := ⟨w.heap.size + 1, 2, none⟩) (by show w.heap.size + 1 < pw2.heap.size; omega)).trans p_2_5
       have ps3 : pw2.heap.size ≤ pw3.heap.size := pb3.size
       have pg3 : Good pw3 := pg2.below pb3)
    | (go_at_call 71; refine (HL.out b0 b1 b2 _).mono ?_; rintro e pw2 ⟨_, rfl, ⟨hr2, g2, rfl⟩, pb2⟩
       have p_2_0 := (pb2.cell (p := ⟨w.heap.size, 0, none⟩) (by show w.heap.size < pw1.heap.size; omega)).trans p_1_0
       have p_2_1 := (pb2.cell (p := ⟨w.heap.size, 1, none⟩) (by show w.heap.size < pw1.heap.size; omega)).trans p_1_1
       have p_2_2 := (pb2.cell (p := ⟨w.heap.size, 2, none⟩) (by show w.heap.size < pw1.heap.size; omega)).trans p_1_2
       have p_2_3 := (pb2.cell (p := ⟨w.heap.size + 1, 0, none⟩) (by show w.heap.size + 1 < pw1.heap.size; omega)).trans p_1_3
       have p_2_4 := (pb2.cell (p := ⟨w.heap.size + 1, 1, none⟩) (by show w.heap.size + 1 < pw1.heap.size; omega)).trans p_1_4
       have p_2_5 := (pb2.cell (p := ⟨w.heap.size + 1, 2, none⟩) (by show w.heap.size + 1 < pw1.heap.size; omega)).trans p_1_5
       have ps2 : pw1.heap.size ≤ pw2.heap.size := pb2.size
       have pg2 : Good pw2 := pg1.below pb2
       have hr1' := RdC.below hr1 pb2)
    | (go_at_call 71; refine (HL.out a0 a1 a2 _).mono ?_; rintro e pw1 ⟨_, rfl, ⟨hr1, g1, rfl⟩, pb1⟩
       have p_1_0 := (pb1.cell (p := ⟨w.heap.size, 0, none⟩) (by show w.heap.size < W.heap.size; omega)).trans x0
       have p_1_1 := (pb1.cell (p := ⟨w.heap.size, 1, none⟩) (by show w.heap.size < W.heap.size; omega)).trans x1
       have p_1_2 := (pb1.cell (p := ⟨w.heap.size, 2, none⟩) (by show w.heap.size < W.heap.size; omega)).trans x2
       have p_1_3 := (pb1.cell (p := ⟨w.heap.size + 1, 0, none⟩) (by show w.heap.size + 1 < W.heap.size; omega)).trans y0
       have p_1_4 := (pb1.cell (p := ⟨w.heap.size + 1, 1, none⟩) (by show w.heap.size + 1 < W.heap.size; omega)).trans y1
       have p_1_5 := (pb1.cell (p := ⟨w.heap.size + 1, 2, none⟩) (by show w.heap.size + 1 < W.heap.size; omega)).trans y2
       have ps1 : W.heap.size ≤ pw1.heap.size := pb1.size
       have pg1 : Good pw1 := hgd.below pb1))
  have pB : Below W.heap.size W pw3 := ((((below_drewN W 1).trans (pb1.mono (by show W.heap.size ≤ W.heap.size; omega))).trans (pb2.mono (by show W.heap.size ≤ pw1.heap.size; omega))).trans (pb3.mono (by show W.heap.size ≤ pw2.heap.size; omega)))
  go_wp2_with fail
  go_ret
  exact ⟨_, rfl, rfl, hB.trans (pB.mono hB.size)⟩

end Go.Proofs.YtjfjkiibmfgplaaGreatDoor
