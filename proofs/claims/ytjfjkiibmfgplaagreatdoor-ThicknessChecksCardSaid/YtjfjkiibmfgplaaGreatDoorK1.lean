/- Thickness: Check, Parallel. -/
import Derived.Test.YtjfjkiibmfgplaaGreatDoorH1
import Derived.RegionTactic
import Derived.ChangeAlike
import Derived.BigRegion
/- The walks over thickness: Check, short, dip, slopes. -/
namespace Go.Proofs.YtjfjkiibmfgplaaGreatDoor
open Go.RowKit Go.Lib

set_option maxHeartbeats 400000 in
theorem short_ok (q : Rat) (h : Sz 200 q) (w : World) (hg : Good w) :
    Calls Tryz.prog 56 #[.string (RS q)] w (Ret (fun r _ => r = .tuple #[.string (RS q), .int .i64 0]) w) := by
  have hs := h.size (by omega)
  have HE : Hid (errNum (rightQ (RS q).data.toList) = 0) := by unfold Hid; rw [RS_list, rightQ_RL h]; rfl
  clear h
  go_enter Tryz.func56, Tryz.ntmps56
  go_wp2_with fail
  refine (checkQ_any (RS q) (by omega) _ hg).mono ?_
  rintro e w1 ⟨_, rfl, rfl, hb1⟩
  rw [HE.out]
  go_wp2_with fail
  go_ret2
  exact ⟨_, rfl, rfl, hb1⟩

/-- The squared tangent of a dip. -/
def dipQ (s : PtQ) : Rat := s.1 * s.1 + s.2 * s.2

set_option maxHeartbeats 1000000 in
set_option maxRecDepth 100000 in
theorem dip_any (s : PtQ) (k : Nat) (hk : 0 < k) (hk2 : k ≤ 4000) (hs : SzP k s) (w : World) (hg : Good w) :
    Calls Tryz.prog 55 #[.agg #[.string (RS s.1), .string (RS s.2)]] w (Ret (fun r _ => r = .string (RS (dipQ s))) w) := by
  unfold dipQ
  obtain ⟨sx, sy⟩ := s
  have HS1 := Lib.hid hs.1
  have HS2 := Lib.hid hs.2
  have HM1 : Hid (Sz (2 * k) (sx * sx)) := (hs.1.mul hs.1).mono (by omega)
  have HM2 : Hid (Sz (2 * k) (sy * sy)) := (hs.2.mul hs.2).mono (by omega)
  clear hs
  dsimp only at *
  go_enter Tryz.func55, Tryz.ntmps55
  go_wp2_with fail
  obtain ⟨W, hW⟩ : ∃ W, W = w.alloc (.cells #[.string (RS sx), .string (RS sy)] 54) := ⟨_, rfl⟩
  have hB : Below w.heap.size w W := by rw [hW]; exact (Below.refl _ _).alloc (Nat.le_refl _) _
  have b0 : BoxN W w.heap.size 54 [.string (RS sx), .string (RS sy)] := by rw [hW]; exact BoxN.new _ _ _ _ rfl
  rw [← hW]
  clear hW
  have hz := b0.lt
  have c0 := b0.cell 0 rfl
  have c1 := b0.cell 1 rfl
  have hgd : Good W.drew := (hg.below hB).drewN 1
  go_region_held3 (fun w' => w'.cell? ⟨w.heap.size, 0, none⟩ = some (.string (RS sx)) ∧ w'.cell? ⟨w.heap.size, 1, none⟩ = some (.string (RS sy)))
    (first | exact ⟨c0, c1⟩ | exact ⟨q_1_0, q_1_1⟩ | exact ⟨q_2_0, q_2_1⟩ | exact ⟨q_3_0, q_3_1⟩)
    (first
    | (go_at_call 54; refine (ratAdd_any (sx * sx) (sy * sy) (2 * k) (by omega) (by omega) HM1.out HM2.out _ qg2).mono ?_; rintro e qw3 ⟨_, rfl, rfl, qb3⟩
       have q_3_0 := (qb3.cell (p := ⟨w.heap.size, 0, none⟩) (by show w.heap.size < qw2.heap.size; omega)).trans q_2_0
       have q_3_1 := (qb3.cell (p := ⟨w.heap.size, 1, none⟩) (by show w.heap.size < qw2.heap.size; omega)).trans q_2_1
       have qs3 : qw2.heap.size ≤ qw3.heap.size := qb3.size
       have qg3 : Good qw3 := qg2.below qb3)
    | (go_at_call 53; refine (ratMul_any sy sy k hk (by omega) HS2.out HS2.out _ qg1).mono ?_; rintro e qw2 ⟨_, rfl, rfl, qb2⟩
       have q_2_0 := (qb2.cell (p := ⟨w.heap.size, 0, none⟩) (by show w.heap.size < qw1.heap.size; omega)).trans q_1_0
       have q_2_1 := (qb2.cell (p := ⟨w.heap.size, 1, none⟩) (by show w.heap.size < qw1.heap.size; omega)).trans q_1_1
       have qs2 : qw1.heap.size ≤ qw2.heap.size := qb2.size
       have qg2 : Good qw2 := qg1.below qb2)
    | (go_at_call 53; refine (ratMul_any sx sx k hk (by omega) HS1.out HS1.out _ hgd).mono ?_; rintro e qw1 ⟨_, rfl, rfl, qb1⟩
       have q_1_0 := (qb1.cell (p := ⟨w.heap.size, 0, none⟩) (by show w.heap.size < W.heap.size; omega)).trans c0
       have q_1_1 := (qb1.cell (p := ⟨w.heap.size, 1, none⟩) (by show w.heap.size < W.heap.size; omega)).trans c1
       have qs1 : W.heap.size ≤ qw1.heap.size := qb1.size
       have qg1 : Good qw1 := hgd.below qb1))
  have qB : Below W.heap.size W qw3 := ((((below_drewN W 1).trans (qb1.mono (by show W.heap.size ≤ W.heap.size; omega))).trans (qb2.mono (by show W.heap.size ≤ qw1.heap.size; omega))).trans (qb3.mono (by show W.heap.size ≤ qw2.heap.size; omega)))
  go_wp2_with fail
  go_ret
  exact ⟨_, rfl, rfl, hB.trans (qB.mono hB.size)⟩

/-- A right pair in memory. -/
structure PairIn (w : World) (vp vt vl vu : Value) (P : List PtQ) (T : List Tri) (k : Nat) (L U : List Rat) : Prop where
  l : FieldIn w vp vt vl P T k L
  u : FieldIn w vp vt vu P T k U
theorem PairIn.below {w w' : World} {vp vt vl vu : Value} {P : List PtQ} {T : List Tri} {k : Nat} {L U : List Rat} (h : PairIn w vp vt vl vu P T k L U) (hb : Below w.heap.size w w') : PairIn w' vp vt vl vu P T k L U :=
  ⟨h.l.below hb, h.u.below hb⟩
theorem PairIn.open {w : World} {vp vt vl vu : Value} {P : List PtQ} {T : List Tri} {k : Nat} {L U : List Rat} (h : PairIn w vp vt vl vu P T k L U) : ∃ pp cp pt ct pl cl pu cu, vp = .slice pp P.length cp ∧ vt = .slice pt T.length ct ∧ vl = .slice pl L.length cl ∧ vu = .slice pu U.length cu := by
  obtain ⟨pp, cp, pt, ct, pf, cf, e1, e2, e3⟩ := h.l.open
  obtain ⟨_, _, _, _, pg, cg, _, _, e6⟩ := h.u.open
  exact ⟨pp, cp, pt, ct, pf, cf, pg, cg, e1, e2, e3, e6⟩

theorem fcheck_ok {w : World} {vp vt vf : Value} {P : List PtQ} {T : List Tri} {k : Nat} {F : List Rat} (h : FieldIn w vp vt vf P T k F) (hg : Good w) :
    Calls Tryz.prog 39 #[.agg #[vp, vt], vf] w (Ret (fun r _ => r = .int .i64 0) w) := by
  have := fcheck_any w vp vt vf P T k (F.map RS) h.p h.t h.m h.f.toS (size_ok h.m.kpos h.m.klim2 h.fs) (by rw [List.length_map, h.fl]; have := h.m.plen; omega) hg
  rw [h.err] at this
  exact this

set_option maxHeartbeats 1000000 in
theorem tcheck_ok (w : World) (vp vt vl vu : Value) (P : List PtQ) (T : List Tri) (k : Nat) (L U : List Rat) (h : PairIn w vp vt vl vu P T k L U) (hg : Good w) :
    Calls Tryz.prog 46 #[.agg #[vp, vt, vl, vu]] w (Ret (fun r _ => r = .int .i64 0) w) := by
  have HH := Lib.hid h
  obtain ⟨pp, cp, pt, ct, pl, cl, pu, cu, rfl, rfl, rfl, rfl⟩ := h.open
  clear h
  go_enter Tryz.func46, Tryz.ntmps46
  go_wp2_with fail
  obtain ⟨W, hW⟩ : ∃ W, W = w.alloc (.cells #[.slice pp P.length cp, .slice pt T.length ct, .slice pl L.length cl, .slice pu U.length cu] 44) := ⟨_, rfl⟩
  have hB : Below w.heap.size w W := by rw [hW]; exact (Below.refl _ _).alloc (Nat.le_refl _) _
  have b0 : BoxN W w.heap.size 44 [.slice pp P.length cp, .slice pt T.length ct, .slice pl L.length cl, .slice pu U.length cu] := by rw [hW]; exact BoxN.new _ _ _ _ rfl
  rw [← hW]
  clear hW
  refine (fcheck_ok (HH.out.below hB).l (hg.below hB)).mono ?_
  rintro e w1 ⟨_, rfl, rfl, hb1⟩
  have hB1 := hB.trans (hb1.mono hB.size)
  have b1 := b0.below hb1 b0.lt
  have c0 := b1.cell 0 rfl
  have c1 := b1.cell 1 rfl
  have c3 := b1.cell 3 rfl
  clear hb1 hB b0
  go_wp2_with fail
  refine (fcheck_ok (HH.out.below hB1).u (hg.below hB1)).mono ?_
  rintro e w2 ⟨_, rfl, rfl, hb2⟩
  go_wp2_with fail
  go_ret
  exact ⟨_, rfl, rfl, hB1.trans (hb2.mono hB1.size)⟩

end Go.Proofs.YtjfjkiibmfgplaaGreatDoor

/- The walks over thickness.slopes, Parallel, parallel. -/
namespace Go.Proofs.YtjfjkiibmfgplaaGreatDoor
open Go.RowKit Go.Lib

/-- The value of a place. -/
abbrev VQ (p : PtQ) : Value := .agg #[.string (RS p.1), .string (RS p.2)]
def noPt : Value := .agg #[.string ⟨#[]⟩, .string ⟨#[]⟩]

set_option maxHeartbeats 4000000 in
set_option maxRecDepth 100000 in
theorem slopes_ok (w : World) (vp vt vl vu : Value) (P : List PtQ) (T : List Tri) (k : Nat) (L U : List Rat) (h : PairIn w vp vt vl vu P T k L U) (t : Nat) (tz : Int) (htz : tz = (t : Int)) (htl : t < T.length) (tr : Tri) (htr : tr = T[t])
    (hs1 : SzP 200 (slopeT P L tr)) (hs2 : SzP 200 (slopeT P U tr)) (hg : Good w) :
    Calls Tryz.prog 50 #[.agg #[vp, vt, vl, vu], .int .i64 tz] w (Ret (fun r _ => r = .tuple #[.agg #[.string (RS (slopeT P L tr).1), .string (RS (slopeT P L tr).2)], .agg #[.string (RS (slopeT P U tr).1), .string (RS (slopeT P U tr).2)], .int .i64 0]) w) := by
  have HH := Lib.hid h
  obtain ⟨pp, cp, pt, ct, pl, cl, pu, cu, rfl, rfl, rfl, rfl⟩ := h.open
  have ht1 : ¬ tz < 0 := by omega
  have ht2 : tz < (T.length : Int) := by omega
  have HL : Hid (∀ (w : World), PairIn w (.slice pp P.length cp) (.slice pt T.length ct) (.slice pl L.length cl) (.slice pu U.length cu) P T k L U → Good w → Calls Tryz.prog 16 #[.agg #[.slice pp P.length cp, .slice pt T.length ct], .slice pl L.length cl, .int .i64 tz] w
      (Ret (fun r _ => r = .tuple #[.agg #[.string (RS (slopeT P L tr).1), .string (RS (slopeT P L tr).2)], .int .i64 0]) w)) := fun w h hg => fslope_ok w _ _ _ P T k L h.l t tz htz htl tr htr hs1 hg
  have HU : Hid (∀ (w : World), PairIn w (.slice pp P.length cp) (.slice pt T.length ct) (.slice pl L.length cl) (.slice pu U.length cu) P T k L U → Good w → Calls Tryz.prog 16 #[.agg #[.slice pp P.length cp, .slice pt T.length ct], .slice pu U.length cu, .int .i64 tz] w
      (Ret (fun r _ => r = .tuple #[.agg #[.string (RS (slopeT P U tr).1), .string (RS (slopeT P U tr).2)], .int .i64 0]) w)) := fun w h hg => fslope_ok w _ _ _ P T k U h.u t tz htz htl tr htr hs2 hg
  generalize slopeT P L tr = S1 at *
  generalize slopeT P U tr = S2 at *
  clear h htz htr hs1 hs2
  go_enter Tryz.func50, Tryz.ntmps50
  go_wp2_with fail
  obtain ⟨W, hW⟩ : ∃ W, W = ((w.alloc (.cells #[.slice pp P.length cp, .slice pt T.length ct, .slice pl L.length cl, .slice pu U.length cu] 44)).alloc (.cells #[.string ⟨#[]⟩, .string ⟨#[]⟩] 54)).alloc (.cells #[.string ⟨#[]⟩, .string ⟨#[]⟩] 54) := ⟨_, rfl⟩
  have hB : Below w.heap.size w W := by rw [hW]; exact (((Below.refl _ _).alloc (Nat.le_refl _) _).alloc (by simp) _).alloc (by simp; omega) _
  have b2 : BoxN W w.heap.size 44 [.slice pp P.length cp, .slice pt T.length ct, .slice pl L.length cl, .slice pu U.length cu] := by
    rw [hW]
    have h1 := (BoxN.new w #[.slice pp P.length cp, .slice pt T.length ct, .slice pl L.length cl, .slice pu U.length cu] 44 _ rfl)
    exact (h1.below ((Below.refl _ _).alloc (Nat.le_refl _) _) h1.lt).below (((Below.refl _ _).alloc (Nat.le_refl _) _)) (by simp; omega)
  have b4 : BoxN W (w.heap.size + 1) 54 [.string ⟨#[]⟩, .string ⟨#[]⟩] := by
    rw [hW]
    have h1 := (BoxN.new (w.alloc (.cells #[.slice pp P.length cp, .slice pt T.length ct, .slice pl L.length cl, .slice pu U.length cu] 44)) #[.string ⟨#[]⟩, .string ⟨#[]⟩] 54 (w.heap.size + 1) (by simp))
    exact h1.below ((Below.refl _ _).alloc (Nat.le_refl _) _) h1.lt
  have b5 : BoxN W (w.heap.size + 2) 54 [.string ⟨#[]⟩, .string ⟨#[]⟩] := by rw [hW]; exact BoxN.new _ _ _ _ (by simp)
  rw [← hW]
  clear hW
  refine (tcheck_ok W _ _ _ _ P T k L U (HH.out.below hB) (hg.below hB)).mono ?_
  rintro e w1 ⟨_, rfl, rfl, hb1⟩
  have hB1 := hB.trans (hb1.mono hB.size)
  have b21 := b2.below hb1 b2.lt
  have b41 := b4.below hb1 b4.lt
  have b51 := b5.below hb1 b5.lt
  have c0 := b21.cell 0 rfl
  have c1 := b21.cell 1 rfl
  have c2 := b21.cell 2 rfl
  clear hb1 hB b2 b4 b5
  go_wp2_with fail
  refine (HL.out w1 (HH.out.below hB1) (hg.below hB1)).mono ?_
  rintro e w2 ⟨_, rfl, rfl, hb2⟩
  have hB2 := hB1.trans (hb2.mono hB1.size)
  have b22 := b21.below hb2 b21.lt
  have b42 := b41.below hb2 b41.lt
  have b52 := b51.below hb2 b51.lt
  have hz2 := b52.lt
  clear c0 c1 c2 hb2 hB1 b21 b41 b51
  have d0 := b42.cell 0 rfl
  have d1 := b42.cell 1 rfl
  have d2 := b42.frozen 0
  have d3 := b42.frozen 1
  have c0 := b22.cell 0 rfl
  have c1 := b22.cell 1 rfl
  have c3 := b22.cell 3 rfl
  obtain ⟨W3, hW3⟩ : ∃ W3, W3 = (w2.setCell ⟨w.heap.size + 1, 0, none⟩ (.string (RS S1.1))).setCell ⟨w.heap.size + 1, 1, none⟩ (.string (RS S1.2)) := ⟨_, rfl⟩
  have hB3 : Below w.heap.size w W3 := by rw [hW3]; exact (hB2.setCell (p := ⟨w.heap.size + 1, 0, none⟩) (by show w.heap.size ≤ w.heap.size + 1; omega) _).setCell (p := ⟨w.heap.size + 1, 1, none⟩) (by show w.heap.size ≤ w.heap.size + 1; omega) _
  have b43 : BoxN W3 (w.heap.size + 1) 54 [.string (RS S1.1), .string (RS S1.2)] := by rw [hW3]; exact (b42.set 0 (.string (RS S1.1))).set 1 (.string (RS S1.2))
  have b53 : BoxN W3 (w.heap.size + 2) 54 [.string ⟨#[]⟩, .string ⟨#[]⟩] := by
    rw [hW3]
    show (((w2.setCell _ _).setCell _ _).heap)[w.heap.size + 2]? = _
    rw [Below.heap_setCell _ _ _ _ (by simp), Below.heap_setCell _ _ _ _ (by simp)]; exact b52
  have hz3 : W3.heap.size = w2.heap.size := by rw [hW3]; simp
  go_wp2_with fail
  rw [← hW3]
  clear hW3 b42 b52 b22 d0 d1 d2 d3 c0 c1 c3 hB2
  refine (HU.out W3 (HH.out.below hB3) (hg.below hB3)).mono ?_
  rintro e w4 ⟨_, rfl, rfl, hb4⟩
  have hB4 := hB3.trans (hb4.mono hB3.size)
  have b44 := b43.below hb4 b43.lt
  have b54 := b53.below hb4 b53.lt
  have d0 := b54.cell 0 rfl
  have d1 := b54.cell 1 rfl
  have d2 := b54.frozen 0
  have d3 := b54.frozen 1
  clear hb4 hB3 b43 b53 hz3 hz2
  obtain ⟨W5, hW5⟩ : ∃ W5, W5 = (w4.setCell ⟨w.heap.size + 2, 0, none⟩ (.string (RS S2.1))).setCell ⟨w.heap.size + 2, 1, none⟩ (.string (RS S2.2)) := ⟨_, rfl⟩
  have hB5 : Below w.heap.size w W5 := by rw [hW5]; exact (hB4.setCell (p := ⟨w.heap.size + 2, 0, none⟩) (by show w.heap.size ≤ w.heap.size + 2; omega) _).setCell (p := ⟨w.heap.size + 2, 1, none⟩) (by show w.heap.size ≤ w.heap.size + 2; omega) _
  have b55 : BoxN W5 (w.heap.size + 2) 54 [.string (RS S2.1), .string (RS S2.2)] := by rw [hW5]; exact (b54.set 0 (.string (RS S2.1))).set 1 (.string (RS S2.2))
  have b45 : BoxN W5 (w.heap.size + 1) 54 [.string (RS S1.1), .string (RS S1.2)] := by
    rw [hW5]
    show (((w4.setCell _ _).setCell _ _).heap)[w.heap.size + 1]? = _
    rw [Below.heap_setCell _ _ _ _ (by simp), Below.heap_setCell _ _ _ _ (by simp)]; exact b44
  go_wp2_with fail
  rw [← hW5]
  clear hW5 b44 b54 d0 d1 d2 d3 hB4
  have e0 := b45.cell 0 rfl
  have e1 := b45.cell 1 rfl
  have e2 := b45.frozen 0
  have e3 := b45.frozen 1
  have f0 := b55.cell 0 rfl
  have f1 := b55.cell 1 rfl
  have f2 := b55.frozen 0
  have f3 := b55.frozen 1
  obtain ⟨WF, hWF⟩ : ∃ WF, WF = ((((W5.setCell ⟨w.heap.size + 1, 0, none⟩ (.string (RS S1.1))).setCell ⟨w.heap.size + 1, 1, none⟩ (.string (RS S1.2))).setCell ⟨w.heap.size + 2, 0, none⟩ (.string (RS S2.1))).setCell ⟨w.heap.size + 2, 1, none⟩ (.string (RS S2.2))).drew := ⟨_, rfl⟩
  have bF4 : BoxN WF (w.heap.size + 1) 54 [.string (RS S1.1), .string (RS S1.2)] := by
    rw [hWF]
    show ((((W5.setCell _ _).setCell _ _).setCell _ _).setCell _ _).heap[w.heap.size + 1]? = _
    rw [Below.heap_setCell _ _ _ _ (by simp), Below.heap_setCell _ _ _ _ (by simp)]
    exact (b45.set 0 (.string (RS S1.1))).set 1 (.string (RS S1.2))
  have bF5 : BoxN WF (w.heap.size + 2) 54 [.string (RS S2.1), .string (RS S2.2)] := by
    rw [hWF]
    have h1 : BoxN ((W5.setCell ⟨w.heap.size + 1, 0, none⟩ (.string (RS S1.1))).setCell ⟨w.heap.size + 1, 1, none⟩ (.string (RS S1.2))) (w.heap.size + 2) 54 [.string (RS S2.1), .string (RS S2.2)] := by
      show ((W5.setCell _ _).setCell _ _).heap[w.heap.size + 2]? = _
      rw [Below.heap_setCell _ _ _ _ (by simp), Below.heap_setCell _ _ _ _ (by simp)]; exact b55
    exact (h1.set 0 (.string (RS S2.1))).set 1 (.string (RS S2.2))
  have hBF : Below w.heap.size w WF := by
    rw [hWF]
    exact ((((hB5.setCell (p := ⟨w.heap.size + 1, 0, none⟩) (by show w.heap.size ≤ w.heap.size + 1; omega) _).setCell (p := ⟨w.heap.size + 1, 1, none⟩) (by show w.heap.size ≤ w.heap.size + 1; omega) _).setCell (p := ⟨w.heap.size + 2, 0, none⟩) (by show w.heap.size ≤ w.heap.size + 2; omega) _).setCell (p := ⟨w.heap.size + 2, 1, none⟩) (by show w.heap.size ≤ w.heap.size + 2; omega) _).drew
  go_region
  go_wp2_with fail
  rw [show ((((W5.setCell ⟨w.heap.size + 1, 0, none⟩ (.string (RS S1.1))).setCell ⟨w.heap.size + 1, 1, none⟩ (.string (RS S1.2))).setCell ⟨w.heap.size + 1 + 1, 0, none⟩ (.string (RS S2.1))).setCell ⟨w.heap.size + 1 + 1, 1, none⟩ (.string (RS S2.2))).drew = WF from hWF.symm]
  have g0 := bF4.cell 0 rfl
  have g1 := bF4.cell 1 rfl
  have g2 := bF5.cell 0 rfl
  have g3 := bF5.cell 1 rfl
  exact bodyPost_ret (v := .tuple #[.agg #[.string (RS S1.1), .string (RS S1.2)], .agg #[.string (RS S2.1), .string (RS S2.2)], .int .i64 0]) (by simp [results, Tryz.results50, go_sem, g0, g1, g2, g3]) rfl ⟨_, rfl, rfl, hBF⟩

set_option maxHeartbeats 2000000 in
set_option maxRecDepth 100000 in
theorem slopes_range (w : World) (vp vt vl vu : Value) (P : List PtQ) (T : List Tri) (k : Nat) (L U : List Rat) (h : PairIn w vp vt vl vu P T k L U) (tz : Int) (htz : tz < 0 ∨ (T.length : Int) ≤ tz) (hg : Good w) :
    Calls Tryz.prog 50 #[.agg #[vp, vt, vl, vu], .int .i64 tz] w (Ret (fun r _ => r = .tuple #[.agg #[.string ⟨#[]⟩, .string ⟨#[]⟩], .agg #[.string ⟨#[]⟩, .string ⟨#[]⟩], .int .i64 3]) w) := by
  have HH := Lib.hid h
  obtain ⟨pp, cp, pt, ct, pl, cl, pu, cu, rfl, rfl, rfl, rfl⟩ := h.open
  have htest : (tz < 0) ∨ (¬ tz < 0 ∧ (T.length : Int) ≤ tz) := by omega
  clear h htz
  go_enter Tryz.func50, Tryz.ntmps50
  go_wp2_with fail
  obtain ⟨W, hW⟩ : ∃ W, W = ((w.alloc (.cells #[.slice pp P.length cp, .slice pt T.length ct, .slice pl L.length cl, .slice pu U.length cu] 44)).alloc (.cells #[.string ⟨#[]⟩, .string ⟨#[]⟩] 54)).alloc (.cells #[.string ⟨#[]⟩, .string ⟨#[]⟩] 54) := ⟨_, rfl⟩
  have hB : Below w.heap.size w W := by rw [hW]; exact (((Below.refl _ _).alloc (Nat.le_refl _) _).alloc (by simp) _).alloc (by simp; omega) _
  have b2 : BoxN W w.heap.size 44 [.slice pp P.length cp, .slice pt T.length ct, .slice pl L.length cl, .slice pu U.length cu] := by
    rw [hW]
    have h1 := (BoxN.new w #[.slice pp P.length cp, .slice pt T.length ct, .slice pl L.length cl, .slice pu U.length cu] 44 _ rfl)
    exact (h1.below ((Below.refl _ _).alloc (Nat.le_refl _) _) h1.lt).below (((Below.refl _ _).alloc (Nat.le_refl _) _)) (by simp; omega)
  have b4 : BoxN W (w.heap.size + 1) 54 [.string ⟨#[]⟩, .string ⟨#[]⟩] := by
    rw [hW]
    have h1 := (BoxN.new (w.alloc (.cells #[.slice pp P.length cp, .slice pt T.length ct, .slice pl L.length cl, .slice pu U.length cu] 44)) #[.string ⟨#[]⟩, .string ⟨#[]⟩] 54 (w.heap.size + 1) (by simp))
    exact h1.below ((Below.refl _ _).alloc (Nat.le_refl _) _) h1.lt
  have b5 : BoxN W (w.heap.size + 2) 54 [.string ⟨#[]⟩, .string ⟨#[]⟩] := by rw [hW]; exact BoxN.new _ _ _ _ (by simp)
  rw [← hW]
  clear hW
  refine (tcheck_ok W _ _ _ _ P T k L U (HH.out.below hB) (hg.below hB)).mono ?_
  rintro e w1 ⟨_, rfl, rfl, hb1⟩
  have hB1 := hB.trans (hb1.mono hB.size)
  have b21 := b2.below hb1 b2.lt
  have b41 := b4.below hb1 b4.lt
  have b51 := b5.below hb1 b5.lt
  have c1 := b21.cell 1 rfl
  have d0 := b41.cell 0 rfl
  have d1 := b41.cell 1 rfl
  have d2 := b41.frozen 0
  have d3 := b41.frozen 1
  have e0 := b51.cell 0 rfl
  have e1 := b51.cell 1 rfl
  have e2 := b51.frozen 0
  have e3 := b51.frozen 1
  clear hb1 hB b2 b4 b5
  obtain ⟨WF, hWF⟩ : ∃ WF, WF = (((w1.setCell ⟨w.heap.size + 1, 0, none⟩ (.string ⟨#[]⟩)).setCell ⟨w.heap.size + 1, 1, none⟩ (.string ⟨#[]⟩)).setCell ⟨w.heap.size + 2, 0, none⟩ (.string ⟨#[]⟩)).setCell ⟨w.heap.size + 2, 1, none⟩ (.string ⟨#[]⟩) := ⟨_, rfl⟩
  have bF4 : BoxN WF (w.heap.size + 1) 54 [.string ⟨#[]⟩, .string ⟨#[]⟩] := by
    rw [hWF]
    show ((((w1.setCell _ _).setCell _ _).setCell _ _).setCell _ _).heap[w.heap.size + 1]? = _
    rw [Below.heap_setCell _ _ _ _ (by simp), Below.heap_setCell _ _ _ _ (by simp)]
    exact (b41.set 0 (.string ⟨#[]⟩)).set 1 (.string ⟨#[]⟩)
  have bF5 : BoxN WF (w.heap.size + 2) 54 [.string ⟨#[]⟩, .string ⟨#[]⟩] := by
    rw [hWF]
    have h1 : BoxN ((w1.setCell ⟨w.heap.size + 1, 0, none⟩ (.string ⟨#[]⟩)).setCell ⟨w.heap.size + 1, 1, none⟩ (.string ⟨#[]⟩)) (w.heap.size + 2) 54 [.string ⟨#[]⟩, .string ⟨#[]⟩] := by
      show ((w1.setCell _ _).setCell _ _).heap[w.heap.size + 2]? = _
      rw [Below.heap_setCell _ _ _ _ (by simp), Below.heap_setCell _ _ _ _ (by simp)]; exact b51
    exact (h1.set 0 (.string ⟨#[]⟩)).set 1 (.string ⟨#[]⟩)
  have hBF : Below w.heap.size w WF := by
    rw [hWF]
    exact (((hB1.setCell (p := ⟨w.heap.size + 1, 0, none⟩) (by show w.heap.size ≤ w.heap.size + 1; omega) _).setCell (p := ⟨w.heap.size + 1, 1, none⟩) (by show w.heap.size ≤ w.heap.size + 1; omega) _).setCell (p := ⟨w.heap.size + 2, 0, none⟩) (by show w.heap.size ≤ w.heap.size + 2; omega) _).setCell (p := ⟨w.heap.size + 2, 1, none⟩) (by show w.heap.size ≤ w.heap.size + 2; omega) _
  have g0 := bF4.cell 0 rfl
  have g1 := bF4.cell 1 rfl
  have g2 := bF5.cell 0 rfl
  have g3 := bF5.cell 1 rfl
  have HWF := Lib.hid hWF
  clear hWF b21 b41 b51
  rcases htest with h | ⟨h, h2⟩
  all_goals
    go_wp2_with fail
    rw [show (((w1.setCell ⟨w.heap.size + 1, 0, none⟩ (.string ⟨#[]⟩)).setCell ⟨w.heap.size + 1, 1, none⟩ (.string ⟨#[]⟩)).setCell ⟨w.heap.size + 1 + 1, 0, none⟩ (.string ⟨#[]⟩)).setCell ⟨w.heap.size + 1 + 1, 1, none⟩ (.string ⟨#[]⟩) = WF from HWF.out.symm]
    exact bodyPost_ret (v := .tuple #[.agg #[.string ⟨#[]⟩, .string ⟨#[]⟩], .agg #[.string ⟨#[]⟩, .string ⟨#[]⟩], .int .i64 3]) (by simp [results, Tryz.results50, go_sem, g0, g1, g2, g3]) rfl ⟨_, rfl, rfl, hBF⟩

end Go.Proofs.YtjfjkiibmfgplaaGreatDoor

/- The walks over thickness.Parallel, parallel. -/
namespace Go.Proofs.YtjfjkiibmfgplaaGreatDoor
open Go.RowKit Go.Lib

theorem RS_toList_inj {p q : Rat} (h : (RS p).toList = (RS q).toList) : p = q := by
  rw [ba_toList, ba_toList, RS_list, RS_list] at h
  exact RL_inj h

/-- Two places: the tests that tell them apart. -/
theorem two_pts (S1 S2 : PtQ) : (S1 = S2 ∧ (RS S1.1).toList = (RS S2.1).toList ∧ (RS S1.2).toList = (RS S2.2).toList) ∨ (S1 ≠ S2 ∧ ((¬ (RS S1.1).toList = (RS S2.1).toList) ∨ ((RS S1.1).toList = (RS S2.1).toList ∧ ¬ (RS S1.2).toList = (RS S2.2).toList))) := by
  by_cases h1 : S1.1 = S2.1
  · by_cases h2 : S1.2 = S2.2
    · exact .inl ⟨Prod.ext h1 h2, by rw [h1], by rw [h2]⟩
    · exact .inr ⟨fun e => h2 (by rw [e]), .inr ⟨by rw [h1], fun e => h2 (RS_toList_inj e)⟩⟩
  · exact .inr ⟨fun e => h1 (by rw [e]), .inl fun e => h1 (RS_toList_inj e)⟩

set_option maxHeartbeats 2000000 in
set_option maxRecDepth 100000 in
theorem parallel_ok (w : World) (vp vt vl vu : Value) (P : List PtQ) (T : List Tri) (k : Nat) (L U : List Rat) (h : PairIn w vp vt vl vu P T k L U) (t : Nat) (tz : Int) (htz : tz = (t : Int)) (htl : t < T.length) (tr : Tri) (htr : tr = T[t])
    (hs1 : SzP 200 (slopeT P L tr)) (hs2 : SzP 200 (slopeT P U tr)) (hg : Good w) :
    Calls Tryz.prog 12 #[.agg #[vp, vt, vl, vu], .int .i64 tz] w (Ret (fun r _ => r = .tuple #[.bool (decide (slopeT P L tr = slopeT P U tr)), .int .i64 0]) w) := by
  have HH := Lib.hid h
  obtain ⟨pp, cp, pt, ct, pl, cl, pu, cu, rfl, rfl, rfl, rfl⟩ := h.open
  have HS : Hid (∀ (w : World), PairIn w (.slice pp P.length cp) (.slice pt T.length ct) (.slice pl L.length cl) (.slice pu U.length cu) P T k L U → Good w → _) := fun w h hg => slopes_ok w _ _ _ _ P T k L U h t tz htz htl tr htr hs1 hs2 hg
  generalize slopeT P L tr = S1 at *
  generalize slopeT P U tr = S2 at *
  clear h htz htr hs1 hs2
  obtain ⟨bz, hbz⟩ : ∃ bz, bz = decide (S1 = S2) := ⟨_, rfl⟩
  rw [← hbz]
  have HBZ := Lib.hid hbz
  clear hbz
  go_enter Tryz.func12, Tryz.ntmps12
  go_wp2_with fail
  have hB : Below w.heap.size w (w.alloc (.cells #[.slice pp P.length cp, .slice pt T.length ct, .slice pl L.length cl, .slice pu U.length cu] 44)) := (Below.refl _ _).alloc (Nat.le_refl _) _
  refine (HS.out _ (HH.out.below hB) (hg.below hB)).mono ?_
  rintro e w1 ⟨_, rfl, rfl, hb1⟩
  have hB1 := hB.trans (hb1.mono hB.size)
  clear hb1 hB
  have hBF := (hB1.alloc hB1.size (.cells #[.string (RS S1.1), .string (RS S1.2)] 54)).alloc (by have := hB1.size; simp; omega) (.cells #[.string (RS S2.1), .string (RS S2.2)] 54)
  rcases two_pts S1 S2 with ⟨e, e1, e2⟩ | ⟨e, e1 | ⟨e1, e2⟩⟩
  · have HB : Hid (true = bz) := by unfold Hid; rw [HBZ.out, decide_eq_true e]
    clear e
    go_wp2_with fail
    go_ret2
    exact ⟨_, rfl, by rw [← HB.out]; rfl, hBF⟩
  · have HB : Hid (false = bz) := by unfold Hid; rw [HBZ.out, decide_eq_false e]
    clear e
    go_wp2_with fail
    go_ret2
    exact ⟨_, rfl, by rw [← HB.out]; rfl, hBF⟩
  · have HB : Hid (false = bz) := by unfold Hid; rw [HBZ.out, decide_eq_false e]
    clear e
    go_wp2_with fail
    go_ret2
    exact ⟨_, rfl, by rw [← HB.out]; rfl, hBF⟩

set_option maxHeartbeats 2000000 in
set_option maxRecDepth 100000 in
theorem parallel_range (w : World) (vp vt vl vu : Value) (P : List PtQ) (T : List Tri) (k : Nat) (L U : List Rat) (h : PairIn w vp vt vl vu P T k L U) (tz : Int) (htz : tz < 0 ∨ (T.length : Int) ≤ tz) (hg : Good w) :
    Calls Tryz.prog 12 #[.agg #[vp, vt, vl, vu], .int .i64 tz] w (Ret (fun r _ => r = .tuple #[.bool false, .int .i64 3]) w) := by
  have HH := Lib.hid h
  obtain ⟨pp, cp, pt, ct, pl, cl, pu, cu, rfl, rfl, rfl, rfl⟩ := h.open
  have HZ := Lib.hid htz
  clear h htz
  go_enter Tryz.func12, Tryz.ntmps12
  go_wp2_with fail
  have hB : Below w.heap.size w (w.alloc (.cells #[.slice pp P.length cp, .slice pt T.length ct, .slice pl L.length cl, .slice pu U.length cu] 44)) := (Below.refl _ _).alloc (Nat.le_refl _) _
  refine (slopes_range _ _ _ _ _ P T k L U (HH.out.below hB) tz HZ.out (hg.below hB)).mono ?_
  rintro e w1 ⟨_, rfl, rfl, hb1⟩
  have hB1 := hB.trans (hb1.mono hB.size)
  clear hb1 hB
  go_wp2_with fail
  go_ret2
  exact ⟨_, rfl, rfl, (hB1.alloc hB1.size _).alloc (by have := hB1.size; simp; omega) _⟩

set_option maxHeartbeats 2000000 in
set_option maxRecDepth 100000 in
theorem par_range (w : World) (vp vt vl vu : Value) (P : List PtQ) (T : List Tri) (k : Nat) (L U : List Rat) (h : PairIn w vp vt vl vu P T k L U) (tz : Int) (htz : tz < 0 ∨ (T.length : Int) ≤ tz) (hg : Good w) :
    Calls Tryz.prog 51 #[.agg #[vp, vt, vl, vu], .int .i64 tz] w (Ret (fun r _ => r = .tuple #[.agg #[.string ⟨#[]⟩, .string ⟨#[]⟩], .string ⟨#[]⟩, .int .i64 3]) w) := by
  have HH := Lib.hid h
  obtain ⟨pp, cp, pt, ct, pl, cl, pu, cu, rfl, rfl, rfl, rfl⟩ := h.open
  have HZ := Lib.hid htz
  clear h htz
  go_enter Tryz.func51, Tryz.ntmps51
  go_wp2_with fail
  obtain ⟨W, hW⟩ : ∃ W, W = (w.alloc (.cells #[.slice pp P.length cp, .slice pt T.length ct, .slice pl L.length cl, .slice pu U.length cu] 44)).alloc (.cells #[.string ⟨#[]⟩, .string ⟨#[]⟩] 54) := ⟨_, rfl⟩
  have hB : Below w.heap.size w W := by rw [hW]; exact ((Below.refl _ _).alloc (Nat.le_refl _) _).alloc (by simp) _
  have b4 : BoxN W (w.heap.size + 1) 54 [.string ⟨#[]⟩, .string ⟨#[]⟩] := by rw [hW]; exact BoxN.new _ _ _ _ (by simp)
  rw [← hW]
  clear hW
  refine (slopes_range _ _ _ _ _ P T k L U (HH.out.below hB) tz HZ.out (hg.below hB)).mono ?_
  rintro e w1 ⟨_, rfl, rfl, hb1⟩
  have hB1 := hB.trans (hb1.mono hB.size)
  have b41 := b4.below hb1 b4.lt
  have hz := b41.lt
  clear hb1 hB b4
  obtain ⟨W2, hW2⟩ : ∃ W2, W2 = (w1.alloc (.cells #[.string ⟨#[]⟩, .string ⟨#[]⟩] 54)).alloc (.cells #[.string ⟨#[]⟩, .string ⟨#[]⟩] 54) := ⟨_, rfl⟩
  have hb2 : Below w1.heap.size w1 W2 := by rw [hW2]; exact ((Below.refl _ _).alloc (Nat.le_refl _) _).alloc (by simp) _
  have b42 := b41.below hb2 hz
  have hB2 := hB1.trans (hb2.mono hB1.size)
  have d0 := b42.cell 0 rfl
  have d1 := b42.cell 1 rfl
  have d2 := b42.frozen 0
  have d3 := b42.frozen 1
  go_upto_region 2 with fail
  rw [← hW2]
  clear hW2 b41 hb2 hB1
  go_wp2_with fail
  have BF := (b42.set 0 (.string ⟨#[]⟩)).set 1 (.string ⟨#[]⟩)
  have hBF := (hB2.setCell (p := ⟨w.heap.size + 1, 0, none⟩) (by show w.heap.size ≤ w.heap.size + 1; omega) (.string ⟨#[]⟩)).setCell (p := ⟨w.heap.size + 1, 1, none⟩) (by show w.heap.size ≤ w.heap.size + 1; omega) (.string ⟨#[]⟩)
  have g0 := BF.cell 0 rfl
  have g1 := BF.cell 1 rfl
  exact bodyPost_ret (v := .tuple #[.agg #[.string ⟨#[]⟩, .string ⟨#[]⟩], .string ⟨#[]⟩, .int .i64 3]) (by simp [results, Tryz.results51, go_sem, g0, g1]) rfl ⟨_, rfl, rfl, hBF⟩

set_option maxHeartbeats 4000000 in
set_option maxRecDepth 100000 in
theorem par_form (w : World) (vp vt vl vu : Value) (P : List PtQ) (T : List Tri) (k : Nat) (L U : List Rat) (h : PairIn w vp vt vl vu P T k L U) (t : Nat) (tz : Int) (htz : tz = (t : Int)) (htl : t < T.length) (tr : Tri) (htr : tr = T[t])
    (hs1 : SzP 200 (slopeT P L tr)) (hs2 : SzP 200 (slopeT P U tr)) (hne : slopeT P L tr ≠ slopeT P U tr) (hg : Good w) :
    Calls Tryz.prog 51 #[.agg #[vp, vt, vl, vu], .int .i64 tz] w (Ret (fun r _ => r = .tuple #[.agg #[.string ⟨#[]⟩, .string ⟨#[]⟩], .string ⟨#[]⟩, .int .i64 7]) w) := by
  have HH := Lib.hid h
  obtain ⟨pp, cp, pt, ct, pl, cl, pu, cu, rfl, rfl, rfl, rfl⟩ := h.open
  have HS : Hid (∀ (w : World), PairIn w (.slice pp P.length cp) (.slice pt T.length ct) (.slice pl L.length cl) (.slice pu U.length cu) P T k L U → Good w → _) := fun w h hg => slopes_ok w _ _ _ _ P T k L U h t tz htz htl tr htr hs1 hs2 hg
  generalize slopeT P L tr = S1 at *
  generalize slopeT P U tr = S2 at *
  have htp := (two_pts S1 S2).resolve_left (fun e => hne e.1)
  have HTP := Lib.hid htp.2
  clear h htz htr hs1 hs2 hne htp
  go_enter Tryz.func51, Tryz.ntmps51
  go_wp2_with fail
  obtain ⟨W, hW⟩ : ∃ W, W = (w.alloc (.cells #[.slice pp P.length cp, .slice pt T.length ct, .slice pl L.length cl, .slice pu U.length cu] 44)).alloc (.cells #[.string ⟨#[]⟩, .string ⟨#[]⟩] 54) := ⟨_, rfl⟩
  have hB : Below w.heap.size w W := by rw [hW]; exact ((Below.refl _ _).alloc (Nat.le_refl _) _).alloc (by simp) _
  have b4 : BoxN W (w.heap.size + 1) 54 [.string ⟨#[]⟩, .string ⟨#[]⟩] := by rw [hW]; exact BoxN.new _ _ _ _ (by simp)
  rw [← hW]
  clear hW
  refine (HS.out _ (HH.out.below hB) (hg.below hB)).mono ?_
  rintro e w1 ⟨_, rfl, rfl, hb1⟩
  have hB1 := hB.trans (hb1.mono hB.size)
  have b41 := b4.below hb1 b4.lt
  have hz := b41.lt
  clear hb1 hB b4
  obtain ⟨W2, hW2⟩ : ∃ W2, W2 = (w1.alloc (.cells #[.string (RS S1.1), .string (RS S1.2)] 54)).alloc (.cells #[.string (RS S2.1), .string (RS S2.2)] 54) := ⟨_, rfl⟩
  have hb2 : Below w1.heap.size w1 W2 := by rw [hW2]; exact ((Below.refl _ _).alloc (Nat.le_refl _) _).alloc (by simp) _
  have b7 : BoxN W2 w1.heap.size 54 [.string (RS S1.1), .string (RS S1.2)] := by rw [hW2]; exact (BoxN.new w1 #[.string (RS S1.1), .string (RS S1.2)] 54 _ rfl).below ((Below.refl _ _).alloc (Nat.le_refl _) _) (by simp)
  have b8 : BoxN W2 (w1.heap.size + 1) 54 [.string (RS S2.1), .string (RS S2.2)] := by rw [hW2]; exact BoxN.new _ _ _ _ (by simp)
  have b42 := b41.below hb2 hz
  have hB2 := hB1.trans (hb2.mono hB1.size)
  have d0 := b42.cell 0 rfl
  have d1 := b42.cell 1 rfl
  have d2 := b42.frozen 0
  have d3 := b42.frozen 1
  have x0 := b7.cell 0 rfl
  have x1 := b7.cell 1 rfl
  have y0 := b8.cell 0 rfl
  have y1 := b8.cell 1 rfl
  go_upto_region 2 with fail
  rw [← hW2]
  clear hW2 b41 hb2 hB1 b7 b8
  have BF := (b42.set 0 (.string ⟨#[]⟩)).set 1 (.string ⟨#[]⟩)
  have hBF := (hB2.setCell (p := ⟨w.heap.size + 1, 0, none⟩) (by show w.heap.size ≤ w.heap.size + 1; omega) (.string ⟨#[]⟩)).setCell (p := ⟨w.heap.size + 1, 1, none⟩) (by show w.heap.size ≤ w.heap.size + 1; omega) (.string ⟨#[]⟩)
  have g0 := BF.cell 0 rfl
  have g1 := BF.cell 1 rfl
  rcases HTP.out with e1 | ⟨e1, e2⟩
  all_goals
    go_wp2_with fail
    exact bodyPost_ret (v := .tuple #[.agg #[.string ⟨#[]⟩, .string ⟨#[]⟩], .string ⟨#[]⟩, .int .i64 7]) (by simp [results, Tryz.results51, go_sem, g0, g1]) rfl ⟨_, rfl, rfl, hBF⟩

end Go.Proofs.YtjfjkiibmfgplaaGreatDoor
