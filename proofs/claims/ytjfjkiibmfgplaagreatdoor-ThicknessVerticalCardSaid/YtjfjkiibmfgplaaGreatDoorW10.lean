/- klippelaw38.ThicknessVertical returns true at every plan and place. -/
import Derived.Test.YtjfjkiibmfgplaaGreatDoorW9
namespace Go.Proofs.YtjfjkiibmfgplaaGreatDoor
open Go.RowKit Go.Lib

theorem MeshOK.mono {P : List PtQ} {T : List Tri} {k m : Nat} (h : MeshOK P T k) (hkm : k ≤ m) (hm : m ≤ 200) : MeshOK P T m :=
  { kpos := by have := h.kpos; omega, klim := by omega, sz := fun p hp => ⟨(h.sz p hp).1.mono hkm, (h.sz p hp).2.mono hkm⟩, plen := h.plen, tlen := h.tlen, idx := h.idx, klim2 := hm, some := h.some, apart := h.apart, turns := h.turns, whole := h.whole }
theorem locN_mem {P : List PtQ} {T : List Tri} {p : PtQ} {n : Nat} {x : Int} (h : x ∈ locN P T p n) : ∃ t : Nat, x = (t : Int) ∧ t < n := by
  unfold locN at h
  obtain ⟨t, ht, rfl⟩ := List.mem_map.1 h
  obtain ⟨h1, _⟩ := List.mem_filter.1 ht
  exact ⟨t, rfl, List.mem_range.1 h1⟩
theorem errNum_pt (x y : ByteArray) : (errNum (allQ [x, y]) = 2) ∨ (rightQ x.data.toList = true ∧ rightQ y.data.toList = true) := by
  unfold allQ
  simp only [List.all_cons, List.all_nil, Bool.and_true]
  cases h1 : rightQ x.data.toList <;> cases h2 : rightQ y.data.toList <;> simp [errNum]
/-- The size of a slope, of heights of up to m digits. -/
theorem slope_Szm {P : List PtQ} {T : List Tri} (hM : MeshOK P T 2) {F : List Rat} {m : Nat} (hm0 : 0 < m) (hF : ∀ q ∈ F, Sz m q) {tr : Tri} (htr : tr ∈ T) : SzP (4 * m + 40) (slopeT P F tr) := by
  have hidx := hM.idx tr htr
  have hp : ∀ z ∈ idxOf tr, SzP 2 (ptI P z) := fun z hz => by
    obtain ⟨h0, h1⟩ := hidx z hz
    obtain ⟨q, rfl⟩ : ∃ q : Nat, z = (q : Int) := ⟨z.toNat, by omega⟩
    rw [ptI_nat P q (by omega)]
    exact hM.sz _ (List.getElem_mem _)
  have h0 := hp tr.1 (by simp [idxOf])
  have h1 := hp tr.2.1 (by simp [idxOf])
  have h2 := hp tr.2.2 (by simp [idxOf])
  have f0 := hI_Sz hm0 hF tr.1
  have f1 := hI_Sz hm0 hF tr.2.1
  have f2 := hI_Sz hm0 hF tr.2.2
  have dx1 := h1.1.sub h0.1
  have dy1 := h1.2.sub h0.2
  have dx2 := h2.1.sub h0.1
  have dy2 := h2.2.sub h0.2
  have g1 := f1.sub f0
  have g2 := f2.sub f0
  have md := (dx1.mul dy2).sub (dy1.mul dx2)
  have m1 := (g1.mul dy2).sub (dy1.mul g2)
  have m2 := (dx1.mul g2).sub (g1.mul dx2)
  have iv := Sz.one.div md (by omega)
  unfold slopeT slopeQ minorQ
  exact ⟨(iv.mul m1).mono (by omega), (iv.mul m2).mono (by omega)⟩
theorem onQ_Sz {P : List PtQ} {T : List Tri} (hM : MeshOK P T 2) {F : List Rat} {m : Nat} (hm0 : 0 < m) (hF : ∀ q ∈ F, Sz m q) {tr : Tri} (htr : tr ∈ T) {p : PtQ} (hp : SzP 20 p) : Sz (9 * m + 140) (onQ P F tr p) := by
  have hs := slope_Szm hM hm0 hF htr
  have ho : SzP 2 (ptI P tr.1) := by
    obtain ⟨h0, h1⟩ := hM.idx tr htr tr.1 (by simp [idxOf])
    obtain ⟨q, hq⟩ : ∃ q : Nat, tr.1 = (q : Int) := ⟨tr.1.toNat, by omega⟩
    rw [hq, ptI_nat P q (by omega)]
    exact hM.sz _ (List.getElem_mem _)
  have f := hI_Sz hm0 hF tr.1
  have a := hs.1.mul (hp.1.sub ho.1)
  have b := hs.2.mul (hp.2.sub ho.2)
  unfold onQ
  exact ((f.add a).add b).mono (by omega)

set_option maxHeartbeats 4000000 in
theorem vertical_of (w : World) (kz s0 s1 : Int) (half : Bool) (a0 a1 a2 a3 a4 a5 : Int) (ah : Bool) (b0 b1 b2 b3 b4 b5 : Int) (bh even : Bool) (add : Int) (x y : ByteArray) (P : List PtQ) (T : List Tri) (L U : List Rat) (hx : x.size ≤ 20) (hy : y.size ≤ 20)
    (hM : MeshOK P T 2) (hLs : ∀ q ∈ L, Sz 2 q) (hUs : ∀ q ∈ U, Sz 2 q) (hLl : L.length = P.length) (hUl : U.length = P.length) (hT : T.length ≤ 20) (hfp : ∀ p ∈ P, FrP 2 26 p) (hfl : ∀ q ∈ L, Fr 2 49 q) (hfu : ∀ q ∈ U, Fr 2 49 q)
    (HMK : Hid (∀ w, Good w → Calls Tryz.prog 11 #[.agg #[.int .u8 kz, .int .i8 s0, .int .i8 s1, .bool half, .int .i8 a0, .int .i8 a1, .int .i8 a2, .int .i8 a3, .int .i8 a4, .int .i8 a5, .bool ah, .int .i8 b0, .int .i8 b1, .int .i8 b2, .int .i8 b3, .int .i8 b4, .int .i8 b5, .bool bh, .bool even, .int .i8 add]] w (Ret (fun r w' => ∃ vp vt vl vu, r = .agg #[vp, vt, vl, vu] ∧ PairIn w' vp vt vl vu P T 2 L U) w))) (hg : Good w) :
    Calls Tryz.prog 6 #[.agg #[.int .u8 kz, .int .i8 s0, .int .i8 s1, .bool half, .int .i8 a0, .int .i8 a1, .int .i8 a2, .int .i8 a3, .int .i8 a4, .int .i8 a5, .bool ah, .int .i8 b0, .int .i8 b1, .int .i8 b2, .int .i8 b3, .int .i8 b4, .int .i8 b5, .bool bh, .bool even, .int .i8 add], .agg #[.string x, .string y]] w (Ret (fun r _ => r = .bool true) w) := by
  have hlen : L.length = U.length := by rw [hLl, hUl]
  have hDl : (difQ L U).length = P.length := by rw [difQ_length _ _ hlen, hUl]
  have hDs : ∀ q ∈ difQ L U, Sz 5 q := fun q hq => difQ_Sz hLs hUs q hq
  have hidx := hM.idx
  have hM5 := hM.mono (show 2 ≤ 5 by omega) (by omega)
  have hpos : ∀ tr ∈ T, 0 < areaT P tr := fun tr htr => by
    have h1 := hM.turns tr htr
    refine (cmpQ_pos (areaT P tr) 0).1 ?_
    rw [← sub_num_sign, show areaT P tr - 0 = areaT P tr by grind]
    exact h1
  have hall : allM P T ≠ 0 := by have := allM_pos hM.some hpos; grind
  have hmz := mean_Sz hfp hidx hfl hfu hT hall
  have hP0 : 0 < P.length := by
    obtain ⟨tr, htr⟩ := List.exists_mem_of_ne_nil _ hM.some
    have := hidx tr htr tr.1 (by simp [idxOf])
    omega
  have hDne : difQ L U ≠ [] := by intro e; rw [e] at hDl; simp at hDl; omega
  obtain ⟨hlo, hhi⟩ := mean_between (D := difQ L U) hM.some hpos (fun t ht z hz => by rw [hDl]; exact hidx t ht z hz)
  have hlosz : Sz 5 (lowQ (difQ L U)) := by
    have key : ∀ (l : List Rat) (a : Rat), Sz 5 a → (∀ q ∈ l, Sz 5 q) → Sz 5 (l.foldl minQ a) := by
      intro l
      induction l with
      | nil => intro a ha _; exact ha
      | cons b l ih => intro a ha h; exact ih _ (Sz.min ha (h b (List.mem_cons_self ..))) (fun q hq => h q (List.mem_cons_of_mem _ hq))
    unfold lowQ
    cases e : difQ L U with
    | nil => exact absurd e hDne
    | cons a l => rw [e] at hDs; exact key l a (hDs a (List.mem_cons_self ..)) (fun q hq => hDs q (List.mem_cons_of_mem _ hq))
  have hhisz : Sz 5 (highQ (difQ L U)) := by
    have key : ∀ (l : List Rat) (a : Rat), Sz 5 a → (∀ q ∈ l, Sz 5 q) → Sz 5 (l.foldl maxQ a) := by
      intro l
      induction l with
      | nil => intro a ha _; exact ha
      | cons b l ih => intro a ha h; exact ih _ (Sz.max ha (h b (List.mem_cons_self ..))) (fun q hq => h q (List.mem_cons_of_mem _ hq))
    unfold highQ
    cases e : difQ L U with
    | nil => exact absurd e hDne
    | cons a l => rw [e] at hDs; exact key l a (hDs a (List.mem_cons_self ..)) (fun q hq => hDs q (List.mem_cons_of_mem _ hq))
  have FD : ∀ (w : World) (vp vt vl vu vd : Value), PairIn w vp vt vl vu P T 2 L U → RdQ w vd (difQ L U) → FieldIn w vp vt vd P T 5 (difQ L U) := fun w vp vt vl vu vd h hd => ⟨h.l.p, h.l.t, hM5, hd, hDs, hDl⟩
  have HDI := fun (w : World) (vp vt vl vu : Value) (h : PairIn w vp vt vl vu P T 2 L U) (hg : Good w) => (difference_any w vp vt vl vu 2 L U (by omega) (by omega) h.l.f h.u.f hlen (by have := hM.plen; omega) hLs hUs hg).mono fun e w' (h : Ret (fun r w' => RdQ w' r (difQ L U) ∧ FreshV w.heap.size r) w e w') => (show Ret (fun r w' => RdQ w' r (difQ L U)) w e w' from by obtain ⟨v, h1, h2, h3⟩ := h; exact ⟨v, h1, h2.1, h3⟩)
  have HVE := fun (w : World) (vp vt vl vu : Value) (h : PairIn w vp vt vl vu P T 2 L U) (hg : Good w) => vertical_ok w vp vt vl vu P T 2 L U h (by omega) hg
  have HEX := fun (w : World) (vp vt vl vu : Value) (h : PairIn w vp vt vl vu P T 2 L U) (hg : Good w) => extremes_ok w vp vt vl vu P T 2 L U h (by omega) hg
  have HME := fun (w : World) (vp vt vl vu : Value) (h : PairIn w vp vt vl vu P T 2 L U) (hg : Good w) => mean_ok w vp vt vl vu P T 2 L U h (by omega) hT hall hmz hg
  have HRA := fun (w : World) (vp vt vl vu vd : Value) (h : PairIn w vp vt vl vu P T 2 L U) (hd : RdQ w vd (difQ L U)) (hg : Good w) => range_ok w vp vt vd P T 5 (difQ L U) (FD w vp vt vl vu vd h hd) hDne hg
  have HRM := fun (w : World) (vp vt vl vu vd : Value) (h : PairIn w vp vt vl vu P T 2 L U) (hd : RdQ w vd (difQ L U)) (hg : Good w) => refmean_ok w vp vt vd P T 2 (difQ L U) h.l.p h.l.t hM.toMeshIn hpos hd hDl (fun q hq => (hDs q hq).mono (by omega)) (by omega) hT hall hg
  have HC1 := fun (w : World) (hg : Good w) => compareQ_any (lowQ (difQ L U)) (meanQ P (difQ L U) T) 200 (by omega) (by omega) (hlosz.mono (by omega)) hmz w hg
  have HC2 := fun (w : World) (hg : Good w) => compareQ_any (meanQ P (difQ L U) T) (highQ (difQ L U)) 200 (by omega) (by omega) hmz (hhisz.mono (by omega)) w hg
  have fin2 := fun (sz : ByteArray) (ee : Int) HAT HVA => vertical_walk w kz s0 s1 half a0 a1 a2 a3 a4 a5 ah b0 b1 b2 b3 b4 b5 bh even add x y P T L U (difQ L U) hx hy sz (RS (lowQ (difQ L U))) (RS (highQ (difQ L U))) (RS (meanQ P (difQ L U) T)) ee (cmpQ (lowQ (difQ L U)) (meanQ P (difQ L U) T)) (cmpQ (meanQ P (difQ L U) T) (highQ (difQ L U))) (cmpQ_le hlo) (cmpQ_le hhi) HMK (Lib.hid HDI) (Lib.hid HVE) HAT (Lib.hid HEX) (Lib.hid HME) HVA (Lib.hid HRA) (Lib.hid HRM) (Lib.hid HC1) (Lib.hid HC2) hg
  clear HDI HVE HEX HME HRA HRM HC1 HC2
  have bx : x.size < 1000000000 := by omega
  have bY : y.size < 1000000000 := by omega
  rcases errNum_pt x y with he | ⟨r1, r2⟩
  · exact fin2 ⟨#[]⟩ 2 (Lib.hid fun w vp vt vl vu h hg => at_err w vp vt vl vu P T 2 L U h x y 2 (by decide) (fun w h hg => value_number w vp vt vl P T 2 L h.l x y bx bY he hg) hg)
      (Lib.hid fun w vp vt vl vu vd h hd hg => value_number w vp vt vd P T 5 (difQ L U) (FD w vp vt vl vu vd h hd) x y bx bY he hg)
  obtain ⟨a, ea, ha⟩ := right20' r1 hx
  obtain ⟨b, eb, hb⟩ := right20' r2 hy
  subst ea eb
  have hp : SzP 20 (a, b) := ⟨ha, hb⟩
  have hp2 : SzP 200 (a, b) := ⟨ha.mono (by omega), hb.mono (by omega)⟩
  cases hl : locN P T (a, b) T.length with
  | nil =>
    exact fin2 ⟨#[]⟩ 28 (Lib.hid fun w vp vt vl vu h hg => at_err w vp vt vl vu P T 2 L U h (RS a) (RS b) 28 (by decide) (fun w h hg => value_out w vp vt vl P T 2 L h.l (a, b) hp2 hl hg) hg)
      (Lib.hid fun w vp vt vl vu vd h hd hg => value_out w vp vt vd P T 5 (difQ L U) (FD w vp vt vl vu vd h hd) (a, b) hp2 hl hg)
  | cons z l =>
    obtain ⟨t, rfl, htl⟩ := locN_mem (show z ∈ locN P T (a, b) T.length by rw [hl]; exact List.mem_cons_self ..)
    have hmem := List.getElem_mem htl
    have sL := slope_Szm hM (m := 2) (by omega) hLs hmem
    have sU := slope_Szm hM (m := 2) (by omega) hUs hmem
    have sD := slope_Szm hM (m := 5) (by omega) hDs hmem
    have oL := onQ_Sz hM (m := 2) (by omega) hLs hmem hp
    have oU := onQ_Sz hM (m := 2) (by omega) hUs hmem hp
    have oD := onQ_Sz hM (m := 5) (by omega) hDs hmem hp
    have eD := onQ_difQ hlen hUl hidx hmem (a, b)
    have HVD := fun (w : World) (vp vt vl vu vd : Value) (h : PairIn w vp vt vl vu P T 2 L U) (hd : RdQ w vd (difQ L U)) (hg : Good w) => value_in w vp vt vd P T 5 (difQ L U) (FD w vp vt vl vu vd h hd) (a, b) hp2 t l hl htl ⟨sD.1.mono (by omega), sD.2.mono (by omega)⟩ (oD.mono (by omega)) hg
    have HAT := fun (w : World) (vp vt vl vu : Value) (h : PairIn w vp vt vl vu P T 2 L U) (hg : Good w) => at_ok w vp vt vl vu P T 2 L U h (RS a) (RS b) (onQ P L T[t] (a, b)) (onQ P U T[t] (a, b)) 160 (by omega) (by omega) (oL.mono (by omega)) (oU.mono (by omega)) (by rw [← eD]; exact oD.mono (by omega))
      (fun w h hg => value_in w vp vt vl P T 2 L h.l (a, b) hp2 t l hl htl ⟨sL.1.mono (by omega), sL.2.mono (by omega)⟩ (oL.mono (by omega)) hg)
      (fun w h hg => value_in w vp vt vu P T 2 U h.u (a, b) hp2 t l hl htl ⟨sU.1.mono (by omega), sU.2.mono (by omega)⟩ (oU.mono (by omega)) hg) hg
    rw [← eD] at HAT
    exact fin2 _ 0 (Lib.hid HAT) (Lib.hid HVD)

theorem vertical_all (w : World) (kz s0 s1 : Int) (half : Bool) (a0 a1 a2 a3 a4 a5 : Int) (ah : Bool) (b0 b1 b2 b3 b4 b5 : Int) (bh even : Bool) (add : Int) (x y : ByteArray) (_hx : x.size ≤ maxLen) (_hy : y.size ≤ maxLen)
    (hk0 : 0 ≤ kz) (hk1 : kz ≤ 255) (hs0 : -128 ≤ s0 ∧ s0 ≤ 127) (hs1 : -128 ≤ s1 ∧ s1 ≤ 127)
    (ha : ∀ x ∈ [a0, a1, a2, a3, a4, a5], -128 ≤ x ∧ x ≤ 127) (hb : ∀ x ∈ [b0, b1, b2, b3, b4, b5], -128 ≤ x ∧ x ≤ 127) (hadd : -128 ≤ add ∧ add ≤ 127) (hg : Good w) :
    Calls Tryz.prog 6 #[.agg #[.int .u8 kz, .int .i8 s0, .int .i8 s1, .bool half, .int .i8 a0, .int .i8 a1, .int .i8 a2, .int .i8 a3, .int .i8 a4, .int .i8 a5, .bool ah, .int .i8 b0, .int .i8 b1, .int .i8 b2, .int .i8 b3, .int .i8 b4, .int .i8 b5, .bool bh, .bool even, .int .i8 add], .agg #[.string x, .string y]] w (Ret (fun r _ => r = .bool true) w) := by
  by_cases hlen : 20 < x.size ∨ 20 < y.size
  · exact vertical_long w kz s0 s1 half a0 a1 a2 a3 a4 a5 ah b0 b1 b2 b3 b4 b5 bh even add x y hlen hg
  obtain ⟨k, hk⟩ : ∃ k : Nat, kz.tmod 8 = (k : Int) := ⟨(kz.tmod 8).toNat, by have := Int.tmod_nonneg 8 hk0; omega⟩
  exact vertical_of w kz s0 s1 half a0 a1 a2 a3 a4 a5 ah b0 b1 b2 b3 b4 b5 bh even add x y (sheetP k s0 s1 half) (shapeT k) (planL k [a0, a1, a2, a3, a4, a5] ah) (planU k [a0, a1, a2, a3, a4, a5] ah [b0, b1, b2, b3, b4, b5] bh even add)
    (by omega) (by omega) (sheet_ok k s0 s1 half) (heights_Sz _ _ _) (planU_Sz _ _ _ _ _ _ _) (by rw [planL_length, sheetP_length]) (by rw [planU_length, sheetP_length]) (by unfold shapeT; split <;> decide) (fr_sheet k s0 s1 half) (fun q hq => (fr_height _ _ _ q hq).mono (by omega)) (fr_planU _ _ _ _ _ _ _)
    (Lib.hid fun w hg => make38_any w kz s0 s1 half a0 a1 a2 a3 a4 a5 ah b0 b1 b2 b3 b4 b5 bh even add k hk hk0 hk1 hs0 hs1 ha hb hadd hg) hg

end Go.Proofs.YtjfjkiibmfgplaaGreatDoor
