/- The walks over thickness.Isopach, slices.Equal of segments, klippelaw38.same. -/
import Derived.Test.YtjfjkiibmfgplaaGreatDoorE6
import Derived.Test.YtjfjkiibmfgplaaGreatDoorU1
import Derived.Test.YtjfjkiibmfgplaaGreatDoorX1
namespace Go.Proofs.YtjfjkiibmfgplaaGreatDoor
open Go.RowKit Go.Lib

set_option maxHeartbeats 2000000 in
set_option maxRecDepth 100000 in
theorem isopach_ok (w : World) (vp vt vl vu : Value) (P : List PtQ) (T : List Tri) (L U : List Rat) (h : PairIn w vp vt vl vu P T 2 L U) (z : Rat) (hz : Sz 20 z) (hg : Good w) :
    Calls Tryz.prog 25 #[.agg #[vp, vt, vl, vu], .string (RS z)] w (Ret (fun r w' => ∃ v, r = .tuple #[v, .int .i64 0] ∧ SegV w' w.heap.size v (levelL P T (difQ L U) z)) w) := by
  have HH := Lib.hid h
  have hs := hz.size (by omega)
  have HE : Hid (errNum (rightQ (RS z).data.toList) = 0) := by unfold Hid; rw [RS_list, rightQ_RL (hz.mono (by omega))]; rfl
  have hM5 : MeshOK P T 5 :=
    { kpos := by omega, klim := by omega, sz := fun p hp => ⟨(h.l.m.sz p hp).1.mono (by omega), (h.l.m.sz p hp).2.mono (by omega)⟩, plen := h.l.m.plen, tlen := h.l.m.tlen, idx := h.l.m.idx, klim2 := by omega, some := h.l.m.some, apart := h.l.m.apart, turns := h.l.m.turns, whole := h.l.m.whole }
  have hlen : L.length = U.length := by rw [h.l.fl, h.u.fl]
  have hDl : (difQ L U).length = P.length := by rw [difQ_length _ _ hlen, h.u.fl]
  have hDs : ∀ q ∈ difQ L U, Sz 5 q := fun q hq => difQ_Sz h.l.fs h.u.fs q hq
  have HVE : Hid (∀ w, PairIn w vp vt vl vu P T 2 L U → Good w → _) := fun w h hg => vertical_ok w vp vt vl vu P T 2 L U h (by omega) hg
  have HLV : Hid (∀ (w : World) (vd : Value), PairIn w vp vt vl vu P T 2 L U → RdQ w vd (difQ L U) → Good w → _) := fun w vd h hd hg => level_ok w vp vt vd P T 5 (difQ L U) ⟨h.l.p, h.l.t, hM5, hd, hDs, hDl⟩ z 20 hz (by omega) hg
  obtain ⟨pp, cp, pt, ct, pl, cl, pu, cu, rfl, rfl, rfl, rfl⟩ := h.open
  generalize levelL P T (difQ L U) z = LV at *
  generalize RS z = sz at *
  generalize difQ L U = D at *
  clear h hz hM5 hlen hDl hDs
  go_enter Tryz.func25, Tryz.ntmps25
  go_wp2_with fail
  obtain ⟨W, hW⟩ : ∃ W, W = w.alloc (.cells #[.slice pp P.length cp, .slice pt T.length ct, .slice pl L.length cl, .slice pu U.length cu] 44) := ⟨_, rfl⟩
  have hB : Below w.heap.size w W := by rw [hW]; exact (Below.refl _ _).alloc (Nat.le_refl _) _
  have b0 : BoxN W w.heap.size 44 [.slice pp P.length cp, .slice pt T.length ct, .slice pl L.length cl, .slice pu U.length cu] := by rw [hW]; exact BoxN.new _ _ _ _ rfl
  rw [← hW]
  clear hW
  refine (tcheck_ok W _ _ _ _ P T 2 L U (HH.out.below hB) (hg.below hB)).mono ?_
  rintro e w1 ⟨_, rfl, rfl, hb1⟩
  have hB1 := hB.trans (hb1.mono hB.size)
  have b1 := b0.below hb1 b0.lt
  clear hb1 hB b0
  go_wp2_with fail
  refine (checkQ_any sz (by omega) _ (hg.below hB1)).mono ?_
  rintro e w2 ⟨_, rfl, rfl, hb2⟩
  rw [HE.out]
  have hB2 := hB1.trans (hb2.mono hB1.size)
  have b2 := b1.below hb2 b1.lt
  have c0 := b2.cell 0 rfl
  have c1 := b2.cell 1 rfl
  have c2 := b2.cell 2 rfl
  have c3 := b2.cell 3 rfl
  clear hb2 hB1 b1
  go_wp2_with fail
  refine (HVE.out w2 (HH.out.below hB2) (hg.below hB2)).mono ?_
  rintro e w3 ⟨_, rfl, ⟨vd, rfl, hrd⟩, hb3⟩
  have hB3 := hB2.trans (hb3.mono hB2.size)
  have b3 := b2.below hb3 b2.lt
  have d0 := b3.cell 0 rfl
  have d1 := b3.cell 1 rfl
  have HRD := Lib.hid hrd
  clear hb3 hB2 b2 c0 c1 c2 c3 hrd
  go_wp2_with fail
  refine (HLV.out w3 vd (HH.out.below hB3) HRD.out (hg.below hB3)).mono ?_
  rintro e w4 ⟨_, rfl, ⟨v, rfl, hsv⟩, hb4⟩
  have hB4 := hB3.trans (hb4.mono hB3.size)
  have hsv' : SegV w4 w.heap.size v LV := ownsRow_base hsv hB3.size
  clear d0 d1 hsv
  have HSV := Lib.hid hsv'
  clear hsv'
  go_wp2_with fail
  go_ret2
  exact ⟨_, rfl, ⟨_, rfl, HSV.out⟩, hB4⟩

theorem isopach_number (w : World) (vp vt vl vu : Value) (P : List PtQ) (T : List Tri) (k : Nat) (L U : List Rat) (h : PairIn w vp vt vl vu P T k L U) (s : ByteArray) (hs : s.size < 1000000000) (hr : rightQ s.data.toList = false) (hg : Good w) :
    Calls Tryz.prog 25 #[.agg #[vp, vt, vl, vu], .string s] w (Ret (fun r _ => r = .tuple #[.slice none 0 0, .int .i64 2]) w) := by
  have HH := Lib.hid h
  have HE : Hid (errNum (rightQ s.data.toList) = 2) := by unfold Hid; rw [hr]; rfl
  obtain ⟨pp, cp, pt, ct, pl, cl, pu, cu, rfl, rfl, rfl, rfl⟩ := h.open
  clear h hr
  go_enter Tryz.func25, Tryz.ntmps25
  go_wp2_with fail
  obtain ⟨W, hW⟩ : ∃ W, W = w.alloc (.cells #[.slice pp P.length cp, .slice pt T.length ct, .slice pl L.length cl, .slice pu U.length cu] 44) := ⟨_, rfl⟩
  have hB : Below w.heap.size w W := by rw [hW]; exact (Below.refl _ _).alloc (Nat.le_refl _) _
  rw [← hW]
  clear hW
  refine (tcheck_ok W _ _ _ _ P T k L U (HH.out.below hB) (hg.below hB)).mono ?_
  rintro e w1 ⟨_, rfl, rfl, hb1⟩
  have hB1 := hB.trans (hb1.mono hB.size)
  clear hb1 hB
  go_wp2_with fail
  refine (checkQ_any s hs _ (hg.below hB1)).mono ?_
  rintro e w2 ⟨_, rfl, rfl, hb2⟩
  rw [HE.out]
  have hB2 := hB1.trans (hb2.mono hB1.size)
  go_wp2_with fail
  go_ret2
  exact ⟨_, rfl, rfl, hB2⟩

theorem segRow_open {w : World} {base e : Nat} {v : Value} {l : List Seg} (h : w.ownsRow base e 5 v l.length (cellsG l)) : ∃ p c, v = .slice p l.length c ∧ (l ≠ [] → ∃ g, p = some ⟨g, 0, none⟩ ∧ g < w.heap.size ∧
    ∀ (i : Nat) (hi : i < l.length), w.cell? ⟨g, i * 5, none⟩ = some (.int .i64 l[i].1) ∧ w.cell? ⟨g, i * 5 + 1, none⟩ = some (.string (RS l[i].2.1.1)) ∧ w.cell? ⟨g, i * 5 + 2, none⟩ = some (.string (RS l[i].2.1.2)) ∧ w.cell? ⟨g, i * 5 + 3, none⟩ = some (.string (RS l[i].2.2.1)) ∧ w.cell? ⟨g, i * 5 + 4, none⟩ = some (.string (RS l[i].2.2.2))) := by
  rcases h.2 with ⟨hv, h0⟩ | ⟨g, cap, cur, rfl, _, hg, _⟩
  · exact ⟨none, 0, by rw [hv, h0], fun hne => absurd (List.length_eq_zero_iff.1 h0) hne⟩
  · refine ⟨_, cap, rfl, fun _ => ⟨g, rfl, (Array.getElem?_eq_some_iff.1 hg).1, fun i hi => ?_⟩⟩
    have hc := World.ownsRow.cells h (g := g) rfl
    have hadd : ∀ j, (⟨g, 0, none⟩ : Addr).add j = ⟨g, j, none⟩ := fun j => by unfold Addr.add; split <;> simp_all
    have e := getElem?_flatMap_const cellG 5 (fun _ => rfl) l i
    have key : ∀ (j : Nat) (hj : j < 5) (u : Value), (cellG l[i])[j]? = some u → w.cell? ⟨g, i * 5 + j, none⟩ = some u := fun j hj u hu => by
      have := hc (i * 5 + j) u (by unfold cellsG; rw [e j hj, List.getElem?_eq_getElem hi]; exact hu)
      rw [hadd] at this
      exact this
    exact ⟨key 0 (by omega) _ rfl, key 1 (by omega) _ rfl, key 2 (by omega) _ rfl, key 3 (by omega) _ rfl, key 4 (by omega) _ rfl⟩
theorem SegV.below {w w' : World} {b : Nat} {v : Value} {l : List Seg} (h : SegV w b v l) (hb : Below w.heap.size w w') : SegV w' b v l := World.ownsRow.belowAll h hb

set_option maxHeartbeats 2000000 in
set_option maxRecDepth 100000 in
/-- Two slices that read as the same segments. -/
theorem equalG_same (v1 v2 : Value) (b1 b2 : Nat) (l : List Seg) (hl : l.length ≤ 1000000) (w : World) (h1 : SegV w b1 v1 l) (h2 : SegV w b2 v2 l) :
    Calls Tryz.prog 82 #[v1, v2] w (Ret (fun r _ => r = .bool true) w) := by
  obtain ⟨p1, c1, rfl, hr1⟩ := segRow_open h1
  obtain ⟨p2, c2, rfl, hr2⟩ := segRow_open h2
  have H1 := Lib.hid hr1
  have H2 := Lib.hid hr2
  clear hr1 hr2 h1 h2
  go_enter Tryz.func82, Tryz.ntmps82
  go_wp2_with fail
  go_loopw [13] (fun t13 wr => ∃ i : Nat, t13 = .int .i64 i ∧ i ≤ l.length ∧ Below w.heap.size w wr) (fun t13 _ => l.length - (RowKit.intOf t13).toNat)
  case atStart => exact ⟨0, rfl, Nat.zero_le _, Below.refl _ _⟩
  case round =>
    obtain ⟨i, rfl, hi, hbl⟩ := hrel
    rcases Nat.lt_or_ge i l.length with h | h
    · obtain ⟨b1, rfl, hb1, hc1⟩ := H1.out (List.ne_nil_of_length_pos (by omega))
      obtain ⟨b2, rfl, hb2, hc2⟩ := H2.out (List.ne_nil_of_length_pos (by omega))
      obtain ⟨x0, x1, x2, x3, x4⟩ := hc1 i h
      obtain ⟨y0, y1, y2, y3, y4⟩ := hc2 i h
      replace x0 := (hbl.cell (p := ⟨b1, i * 5, none⟩) hb1).trans x0
      replace x1 := (hbl.cell (p := ⟨b1, i * 5 + 1, none⟩) hb1).trans x1
      replace x2 := (hbl.cell (p := ⟨b1, i * 5 + 2, none⟩) hb1).trans x2
      replace x3 := (hbl.cell (p := ⟨b1, i * 5 + 3, none⟩) hb1).trans x3
      replace x4 := (hbl.cell (p := ⟨b1, i * 5 + 4, none⟩) hb1).trans x4
      replace y0 := (hbl.cell (p := ⟨b2, i * 5, none⟩) hb2).trans y0
      replace y1 := (hbl.cell (p := ⟨b2, i * 5 + 1, none⟩) hb2).trans y1
      replace y2 := (hbl.cell (p := ⟨b2, i * 5 + 2, none⟩) hb2).trans y2
      replace y3 := (hbl.cell (p := ⟨b2, i * 5 + 3, none⟩) hb2).trans y3
      replace y4 := (hbl.cell (p := ⟨b2, i * 5 + 4, none⟩) hb2).trans y4
      generalize RS l[i].2.1.1 = s1 at *
      generalize RS l[i].2.1.2 = s2 at *
      generalize RS l[i].2.2.1 = s3 at *
      generalize RS l[i].2.2.2 = s4 at *
      generalize l[i].1 = s0 at *
      have hin : (i : Int) < (l.length : Int) := by omega
      clear hc1 hc2
      go_upto_region 6 with fail
      go_quiet (fail)
      obtain ⟨w2, hw2⟩ : ∃ w2, w2 = wr.drewN nq := ⟨_, rfl⟩
      have hb3 : Below w.heap.size w w2 := by rw [hw2]; exact hbl.trans ((below_drewN wr nq).mono hbl.size)
      rw [← hw2]
      clear hw2 x0 x1 x2 x3 x4 y0 y1 y2 y3 y4
      go_wp2_with fail
      go_roundw
      case rel => exact ⟨i + 1, by go_num, h, hb3⟩
      case measure => simp [RowKit.intOf]; omega
    · go_wp2_with fail
      go_ret
      exact ⟨_, rfl, rfl, hbl⟩

theorem same38_ok (v1 v2 : Value) (b1 b2 : Nat) (l : List Seg) (hl : l.length ≤ 1000000) (w : World) (h1 : SegV w b1 v1 l) (h2 : SegV w b2 v2 l) :
    Calls Tryz.prog 29 #[v1, v2] w (Ret (fun r _ => r = .bool true) w) := by
  have HEQ := Lib.hid (equalG_same v1 v2 b1 b2 l hl w h1 h2)
  clear h1 h2 hl
  go_enter Tryz.func29, Tryz.ntmps29
  go_wp2_with fail
  refine HEQ.out.mono ?_
  rintro e w1 ⟨_, rfl, rfl, hb1⟩
  go_wp2_with fail
  go_ret
  exact ⟨_, rfl, rfl, hb1⟩
end Go.Proofs.YtjfjkiibmfgplaaGreatDoor
