import Derived.Test.YtegiemcnfbchoaaGreatDoorF34
import Derived.Test.YtegiemcnfbchoaaGreatDoorW3
import Derived.Test.YtegiemcnfbchoaaGreatDoorE2
import Derived.Test.YtegiemcnfbchoaaGreatDoorK3
import Derived.Test.YtegiemcnfbchoaaGreatDoorF30
/- klippelaw12.Place by 3; where the cells of points, triangles and numbers lie; sizes of what FieldLaws sums. The walks over klipperef05.Area, klippelaw13.corners, klippelaw13.On. klippelaw13.FieldLaws: the walk. klippelaw13.FieldLaws returns true: any described mesh with two fields, any small place. -/
set_option maxHeartbeats 16000000
set_option maxRecDepth 100000
namespace Go.Proofs.YtegiemcnfbchoaaGreatDoor
open Go.RowKit Go.Lib
def placeB3 (s : Int) (half : Bool) (x : Int) : Rat := mkRat (x + s.tmod 8 * ((3 : Nat) : Int)) (halfD half * 3)
theorem placeB3_Sz (s : Int) (half : Bool) (x : Int) (hx : -128 ≤ x ∧ x ≤ 127) : Sz 3 (placeB3 s half x) := by
 have h := tmod8_bound s
 refine Sz.mkRat ?_ (by omega) ?_
 ·cases half <;> simp [halfD]
 ·cases half <;> simp [halfD]
theorem place3_any (w : World) (kz s0 s1 : Int) (half : Bool) (x y : Int) (_hs0 : -128 ≤ s0 ∧ s0 ≤ 127) (_hs1 : -128 ≤ s1 ∧ s1 ≤ 127) (hx : -128 ≤ x ∧ x ≤ 127) (hy : -128 ≤ y ∧ y ≤ 127) (hg : Good w) :
 Calls Tryz.prog 20 #[.agg #[.int .u8 kz, .int .i8 s0, .int .i8 s1, .bool half], .agg #[.int .i8 x, .int .i8 y], .int .i64 3] w (Ret (fun r _ => r = .agg #[.string (RS (placeB3 s0 half x)), .string (RS (placeB3 s1 half y))]) w) := by
 have hb0 := tmod8_bound s0
 have hb1 := tmod8_bound s1
 have HO0 : Hid (∀ w, Good w → _) := fun w hg => ratOf_any (x + s0.tmod 8 * (3 : Nat)) ((halfD half * 3 : Nat) : Int) (x + s0.tmod 8 * (3 : Nat)) (halfD half * 3) ((halfD half * 3 : Nat) : Int) rfl (by cases half <;> decide) (by omega) (by cases half <;> decide) (.inl ⟨rfl, rfl⟩) w hg
 have HO1 : Hid (∀ w, Good w → _) := fun w hg => ratOf_any (y + s1.tmod 8 * (3 : Nat)) ((halfD half * 3 : Nat) : Int) (y + s1.tmod 8 * (3 : Nat)) (halfD half * 3) ((halfD half * 3 : Nat) : Int) rfl (by cases half <;> decide) (by omega) (by cases half <;> decide) (.inl ⟨rfl, rfl⟩) w hg
 unfold placeB3
 obtain ⟨p0, hp0⟩ : ∃ p, p = mkRat (x + s0.tmod 8 * (3 : Nat)) (halfD half * 3) := ⟨_, rfl⟩
 obtain ⟨p1, hp1⟩ : ∃ p, p = mkRat (y + s1.tmod 8 * (3 : Nat)) (halfD half * 3) := ⟨_, rfl⟩
 rw [← hp0] at HO0 ⊢
 rw [← hp1] at HO1 ⊢
 obtain ⟨m0, hm0⟩ : ∃ m, m = s0.tmod 8 := ⟨_, rfl⟩
 obtain ⟨m1, hm1⟩ : ∃ m, m = s1.tmod 8 := ⟨_, rfl⟩
 rw [← hm0] at HO0 hb0
 rw [← hm1] at HO1 hb1
 have hw0 : IntKind.i8.wrap m0 = m0 := by unfold IntKind.wrap; simp [IntKind.signed, IntKind.bits]; omega
 have hw1 : IntKind.i8.wrap m1 = m1 := by unfold IntKind.wrap; simp [IntKind.signed, IntKind.bits]; omega
 have ha0 : IntKind.i64.wrap m0 = m0 := IntWalk.i64_in _ (by omega)
 have ha1 : IntKind.i64.wrap m1 = m1 := IntWalk.i64_in _ (by omega)
 have hx1 : IntKind.i64.wrap x = x := IntWalk.i64_in _ (by omega)
 have hy1 : IntKind.i64.wrap y = y := IntWalk.i64_in _ (by omega)
 have hmm0 : IntKind.i64.wrap (m0 * 3) = m0 * 3 := IntWalk.i64_in _ (by omega)
 have hmm1 : IntKind.i64.wrap (m1 * 3) = m1 * 3 := IntWalk.i64_in _ (by omega)
 have hxm : IntKind.i64.wrap (x + m0 * 3) = x + m0 * 3 := IntWalk.i64_in _ (by omega)
 have hym : IntKind.i64.wrap (y + m1 * 3) = y + m1 * 3 := IntWalk.i64_in _ (by omega)
 have hs0' := hm0.symm
 have hs1' := hm1.symm
 clear hp0 hp1 hm0 hm1
 cases half
 ·simp only [halfD, Bool.false_eq_true, if_false, Nat.one_mul, Int.cast_ofNat_Int] at HO0 HO1
  go_enter Tryz.func20, Tryz.ntmps20
  go_wp2_with fail
  obtain ⟨W, hW⟩ : ∃ W, W = ((w.alloc (.cells #[.int .u8 kz, .int .i8 s0, .int .i8 s1, .bool false] 25)).alloc (.cells #[.int .i8 x, .int .i8 y] 23)).alloc (.cells #[.string ⟨#[]⟩, .string ⟨#[]⟩] 33) := ⟨_, rfl⟩
  have hB : Below w.heap.size w W := by rw [hW]; exact (((Below.refl _ _).alloc (Nat.le_refl _) _).alloc (by simp) _).alloc (by simp; omega) _
  have b3 : BoxN W w.heap.size 25 [.int .u8 kz, .int .i8 s0, .int .i8 s1, .bool false] := by
   rw [hW]
   have h1 := (BoxN.new w #[.int .u8 kz, .int .i8 s0, .int .i8 s1, .bool false] 25 _ rfl)
   exact (h1.below ((Below.refl _ _).alloc (Nat.le_refl _) _) h1.lt).below ((Below.refl _ _).alloc (Nat.le_refl _) _) (by simp; omega)
  have b4 : BoxN W (w.heap.size + 1) 23 [.int .i8 x, .int .i8 y] := by
   rw [hW]
   have h1 := (BoxN.new (w.alloc (.cells #[.int .u8 kz, .int .i8 s0, .int .i8 s1, .bool false] 25)) #[.int .i8 x, .int .i8 y] 23 (w.heap.size + 1) (by simp))
   exact h1.below (zal _ _) h1.lt
  have b6 : BoxN W (w.heap.size + 2) 33 [.string ⟨#[]⟩, .string ⟨#[]⟩] := by rw [hW]; exact BoxN.new _ _ _ _ (by simp)
  rw [← hW]
  clear hW
  refine (HO0.out W (hg.below hB)).mono ?_
  rintro e w1 ⟨_, rfl, rfl, hb1'⟩
  have hB1 := hB.trans (hb1'.mono hB.size)
  have b31 := b3.below hb1' b3.lt
  have b41 := b4.below hb1' b4.lt
  have b61 := b6.below hb1' b6.lt
  have c0 := b41.cell 1 rfl
  have c1 := b31.cell 2 rfl
  clear b3 b4 b6 hb1' hB
  go_wp2_with fail
  refine (HO1.out w1 (hg.below hB1)).mono ?_
  rintro e w2 ⟨_, rfl, rfl, hb2'⟩
  have hB2 := hB1.trans (hb2'.mono hB1.size)
  have b62 := b61.below hb2' b61.lt
  have d0 := b62.cell 0 rfl
  have d1 := b62.cell 1 rfl
  have d2 := b62.frozen 0
  have d3 := b62.frozen 1
  clear c0 c1 b31 b41 b61 hb2' hB1
  go_wp2_with fail
  have BF := (b62.set 0 (.string (RS p0))).set 1 (.string (RS p1))
  have hBF := (hB2.setCell (p := ⟨w.heap.size + 2, 0, none⟩) (by show w.heap.size ≤ w.heap.size + 2; omega) (.string (RS p0))).setCell (p := ⟨w.heap.size + 2, 1, none⟩) (by show w.heap.size ≤ w.heap.size + 2; omega) (.string (RS p1))
  have g0 := BF.cell 0 rfl
  have g1 := BF.cell 1 rfl
  exact bodyPost_ret (v := .agg #[.string (RS p0), .string (RS p1)]) (by simp [results, Tryz.results20, go_sem, g0, g1]) rfl ⟨_, rfl, rfl, hBF⟩
 ·simp only [halfD, if_true, Nat.reduceMul, Int.cast_ofNat_Int] at HO0 HO1
  go_enter Tryz.func20, Tryz.ntmps20
  go_wp2_with fail
  obtain ⟨W, hW⟩ : ∃ W, W = ((w.alloc (.cells #[.int .u8 kz, .int .i8 s0, .int .i8 s1, .bool true] 25)).alloc (.cells #[.int .i8 x, .int .i8 y] 23)).alloc (.cells #[.string ⟨#[]⟩, .string ⟨#[]⟩] 33) := ⟨_, rfl⟩
  have hB : Below w.heap.size w W := by rw [hW]; exact (((Below.refl _ _).alloc (Nat.le_refl _) _).alloc (by simp) _).alloc (by simp; omega) _
  have b3 : BoxN W w.heap.size 25 [.int .u8 kz, .int .i8 s0, .int .i8 s1, .bool true] := by
   rw [hW]
   have h1 := (BoxN.new w #[.int .u8 kz, .int .i8 s0, .int .i8 s1, .bool true] 25 _ rfl)
   exact (h1.below ((Below.refl _ _).alloc (Nat.le_refl _) _) h1.lt).below ((Below.refl _ _).alloc (Nat.le_refl _) _) (by simp; omega)
  have b4 : BoxN W (w.heap.size + 1) 23 [.int .i8 x, .int .i8 y] := by
   rw [hW]
   have h1 := (BoxN.new (w.alloc (.cells #[.int .u8 kz, .int .i8 s0, .int .i8 s1, .bool true] 25)) #[.int .i8 x, .int .i8 y] 23 (w.heap.size + 1) (by simp))
   exact h1.below (zal _ _) h1.lt
  have b6 : BoxN W (w.heap.size + 2) 33 [.string ⟨#[]⟩, .string ⟨#[]⟩] := by rw [hW]; exact BoxN.new _ _ _ _ (by simp)
  rw [← hW]
  clear hW
  refine (HO0.out W (hg.below hB)).mono ?_
  rintro e w1 ⟨_, rfl, rfl, hb1'⟩
  have hB1 := hB.trans (hb1'.mono hB.size)
  have b31 := b3.below hb1' b3.lt
  have b41 := b4.below hb1' b4.lt
  have b61 := b6.below hb1' b6.lt
  have c0 := b41.cell 1 rfl
  have c1 := b31.cell 2 rfl
  clear b3 b4 b6 hb1' hB
  go_wp2_with fail
  refine (HO1.out w1 (hg.below hB1)).mono ?_
  rintro e w2 ⟨_, rfl, rfl, hb2'⟩
  have hB2 := hB1.trans (hb2'.mono hB1.size)
  have b62 := b61.below hb2' b61.lt
  have d0 := b62.cell 0 rfl
  have d1 := b62.cell 1 rfl
  have d2 := b62.frozen 0
  have d3 := b62.frozen 1
  clear c0 c1 b31 b41 b61 hb2' hB1
  go_wp2_with fail
  have BF := (b62.set 0 (.string (RS p0))).set 1 (.string (RS p1))
  have hBF := (hB2.setCell (p := ⟨w.heap.size + 2, 0, none⟩) (by show w.heap.size ≤ w.heap.size + 2; omega) (.string (RS p0))).setCell (p := ⟨w.heap.size + 2, 1, none⟩) (by show w.heap.size ≤ w.heap.size + 2; omega) (.string (RS p1))
  have g0 := BF.cell 0 rfl
  have g1 := BF.cell 1 rfl
  exact bodyPost_ret (v := .agg #[.string (RS p0), .string (RS p1)]) (by simp [results, Tryz.results20, go_sem, g0, g1]) rfl ⟨_, rfl, rfl, hBF⟩
theorem RdQ.cells {w : World} {v : Value} {l : List Rat} (h : RdQ w v l) (hn : 0 < l.length) : ∃ b o c : Nat, v = .slice (some ⟨b, o, none⟩) l.length c ∧ b < w.heap.size ∧ ∀ i : Nat, i < l.length → w.cell? ⟨b, o + i, none⟩ = some (.string (RS (hI l i))) := by
 obtain ⟨p, c, rfl, -, -, hr⟩ := h.open
 obtain ⟨b, o, rfl, hb, hc⟩ := hr (List.ne_nil_of_length_pos hn)
 exact ⟨b, o, c, rfl, hb, fun i hi => by rw [hI_nat l i hi]; exact hc i hi⟩
theorem RdP.cells {w : World} {v : Value} {P : List PtQ} (h : RdP w v (strP P)) (hn : 0 < P.length) : ∃ b o c : Nat, v = .slice (some ⟨b, o, none⟩) P.length c ∧ b < w.heap.size ∧ ∀ i : Nat, i < P.length → w.cell? ⟨b, o + i * 2, none⟩ = some (.string (RS (ptI P i).1)) ∧ w.cell? ⟨b, o + i * 2 + 1, none⟩ = some (.string (RS (ptI P i).2)) := by
 obtain ⟨p, c, rfl, -, -, hr⟩ := h.open
 obtain ⟨b, o, rfl, hb, hc⟩ := hr (List.ne_nil_of_length_pos (by rw [strP_length]; exact hn))
 refine ⟨b, o, c, by rw [strP_length], hb, fun i hi => ?_⟩
 have h1 := hc i (by rw [strP_length]; exact hi)
 rw [strP_get P i hi] at h1
 rw [ptI_nat P i hi]
 exact h1
theorem RdT.cells {w : World} {v : Value} {T : List Tri} (h : RdT w v T) (hn : 0 < T.length) : ∃ b o c : Nat, v = .slice (some ⟨b, o, none⟩) T.length c ∧ b < w.heap.size ∧ ∀ t : Nat, t < T.length → w.cell? ⟨b, o + t * 3, none⟩ = some (.int .i64 (triI T t).1) ∧ w.cell? ⟨b, o + t * 3 + 1, none⟩ = some (.int .i64 (triI T t).2.1) ∧ w.cell? ⟨b, o + t * 3 + 2, none⟩ = some (.int .i64 (triI T t).2.2) := by
 obtain ⟨p, c, rfl, -, -, hr⟩ := h.open
 obtain ⟨b, o, rfl, hb, hc⟩ := hr (List.ne_nil_of_length_pos hn)
 refine ⟨b, o, c, rfl, hb, fun t ht => ?_⟩
 rw [triI_nat T t ht]
 exact hc t ht
def whole3 (P : List PtQ) (T : List Tri) (F G : List Rat) (t : Nat) : Nat → Rat
 | 0 => wholeTo P T F G t
 | k + 1 => whole3 P T F G t k + areaQ (ptI P (triI T t).1) (ptI P (triI T t).2.1) (ptI P (triI T t).2.2) * (hI F ((idxOf (triI T t))[k]?.getD 0) - hI G ((idxOf (triI T t))[k]?.getD 0))
theorem whole3_next (P : List PtQ) (T : List Tri) (F G : List Rat) (t : Nat) : whole3 P T F G t 3 = wholeTo P T F G (t + 1) := rfl
theorem whole3_Sz {P : List PtQ} {T : List Tri} {F G : List Rat} {t : Nat} (hA : Sz 21 (areaQ (ptI P (triI T t).1) (ptI P (triI T t).2.1) (ptI P (triI T t).2.2))) (hF : ∀ z : Int, Sz 2 (hI F z)) (hG : ∀ z : Int, Sz 2 (hI G z)) {c : Nat} (h0 : Sz c (wholeTo P T F G t)) : ∀ k, Sz (c + k * 40) (whole3 P T F G t k)
 | 0 => h0.mono (by omega)
 | k + 1 => ((whole3_Sz hA hF hG h0 k).add (hA.mul ((hF ((idxOf (triI T t))[k]?.getD 0)).sub (hG ((idxOf (triI T t))[k]?.getD 0))))).mono (by omega)
theorem whole_Sz {P : List PtQ} {T : List Tri} {F G : List Rat} (hA : ∀ t, t < T.length → Sz 21 (areaQ (ptI P (triI T t).1) (ptI P (triI T t).2.1) (ptI P (triI T t).2.2))) (hF : ∀ z : Int, Sz 2 (hI F z)) (hG : ∀ z : Int, Sz 2 (hI G z)) : ∀ t, t ≤ T.length → Sz (t * 120 + 1) (wholeTo P T F G t)
 | 0, _ => Sz.zero _ (by omega)
 | t + 1, ht => by
   have h := whole3_Sz (hA t (by omega)) hF hG (whole_Sz hA hF hG t (by omega)) 3
   rw [whole3_next] at h
   exact h.mono (by omega)
theorem sz_of_fr {q : Rat} (h : Fr 2 76 q) : Sz 2 q := by
 obtain ⟨n, h1, h2⟩ := h
 exact sz_of_div (n := 2) (m := n) (by decide) (by omega) (by decide) (by rw [← h1]; rfl)
theorem fr_sumQ {F G : List Rat} (hF : ∀ q ∈ F, Fr 2 38 q) (hG : ∀ q ∈ G, Fr 2 38 q) : ∀ q ∈ sumQ F G, Fr 2 76 q := fun q hq => by
 unfold sumQ at hq
 obtain ⟨i, hi, rfl⟩ := List.getElem_of_mem hq
 rw [List.getElem_zipWith]
 rw [List.length_zipWith] at hi
 exact (hF _ (List.getElem_mem (by omega))).add (hG _ (List.getElem_mem (by omega)))
theorem fr_subQ {F G : List Rat} (hF : ∀ q ∈ F, Fr 2 38 q) (hG : ∀ q ∈ G, Fr 2 38 q) : ∀ q ∈ subQ F G, Fr 2 76 q := fun q hq => by
 unfold subQ at hq
 obtain ⟨i, hi, rfl⟩ := List.getElem_of_mem hq
 rw [List.getElem_zipWith]
 rw [List.length_zipWith] at hi
 exact (hF _ (List.getElem_mem (by omega))).sub (hG _ (List.getElem_mem (by omega)))
theorem minor05_any (a b c d : Rat) (k : Nat) (hk : 0 < k) (hk2 : k ≤ 4000) (ha : Sz k a) (hb : Sz k b) (hc : Sz k c) (hd : Sz k d) (w : World) (hg : Good w) :
 Calls Tryz.prog 72 #[.string (RS a), .string (RS b), .string (RS c), .string (RS d)] w (Ret (fun r _ => r = .string (RS (a * b - c * d))) w) := by
 have H1 : Hid (∀ w, Good w → _) := fun w hg => mulQ_any a b k hk (by omega) ha hb w hg
 have H2 : Hid (∀ w, Good w → _) := fun w hg => mulQ_any c d k hk (by omega) hc hd w hg
 have z1 : Sz (2 * k) (a * b) := (ha.mul hb).mono (by omega)
 have z2 : Sz (2 * k) (c * d) := (hc.mul hd).mono (by omega)
 have H3 : Hid (∀ w, Good w → _) := fun w hg => subQ_any (a * b) (c * d) (2 * k) (by omega) (by omega) z1 z2 w hg
 generalize a * b = x at *
 generalize c * d = y at *
 clear ha hb hc hd z1 z2
 go_enter Tryz.func72, Tryz.ntmps72
 go_wp2_with fail
 refine (H1.out w hg).mono ?_
 rintro e w1 ⟨_, rfl, rfl, hb1⟩
 go_wp2_with fail
 refine (H2.out w1 (hg.below hb1)).mono ?_
 rintro e w2 ⟨_, rfl, rfl, hb2⟩
 have hB2 := hb1.trans (hb2.mono hb1.size)
 go_wp2_with fail
 refine (H3.out w2 (hg.below hB2)).mono ?_
 rintro e w3 ⟨_, rfl, rfl, hb3⟩
 go_wp2_with fail
 go_ret
 exact ⟨_, rfl, rfl, hB2.trans (hb3.mono hB2.size)⟩
theorem area05_any (a b c : PtQ) (k : Nat) (hk : 0 < k) (hk2 : k ≤ 1000) (ha : SzP k a) (hb : SzP k b) (hc : SzP k c) (w : World) (hg : Good w) :
 Calls Tryz.prog 25 #[VP a, VP b, VP c] w (Ret (fun r _ => r = .string (RS (areaQ a b c))) w) := by
 obtain ⟨W, hW, ⟨a0, a1⟩, ⟨b0, b1⟩, ⟨c0, c1⟩, hbW, hsz⟩ := three_boxes w a b c 33
 have hgW := hg.below hbW
 obtain ⟨ax, ay⟩ := a
 obtain ⟨bx, bY⟩ := b
 obtain ⟨cx, cy⟩ := c
 unfold VP areaQ
 dsimp only [SzP] at *
 have HW := Lib.hid hW
 have H1 : Hid (∀ w, Good w → _) := fun w hg => subQ_any bx ax k hk (by omega) hb.1 ha.1 w hg
 have H2 : Hid (∀ w, Good w → _) := fun w hg => subQ_any cy ay k hk (by omega) hc.2 ha.2 w hg
 have H3 : Hid (∀ w, Good w → _) := fun w hg => subQ_any bY ay k hk (by omega) hb.2 ha.2 w hg
 have H4 : Hid (∀ w, Good w → _) := fun w hg => subQ_any cx ax k hk (by omega) hc.1 ha.1 w hg
 have d1 : Sz (2 * k + 1) (bx - ax) := (hb.1.sub ha.1).mono (by omega)
 have d2 : Sz (2 * k + 1) (cy - ay) := (hc.2.sub ha.2).mono (by omega)
 have d3 : Sz (2 * k + 1) (bY - ay) := (hb.2.sub ha.2).mono (by omega)
 have d4 : Sz (2 * k + 1) (cx - ax) := (hc.1.sub ha.1).mono (by omega)
 have H5 : Hid (∀ w, Good w → _) := fun w hg => minor05_any (bx - ax) (cy - ay) (bY - ay) (cx - ax) (2 * k + 1) (by omega) (by omega) d1 d2 d3 d4 w hg
 generalize bx - ax = x1 at *
 generalize cy - ay = x2 at *
 generalize bY - ay = x3 at *
 generalize cx - ax = x4 at *
 clear hW ha hb hc d1 d2 d3 d4
 go_enter Tryz.func25, Tryz.ntmps25
 have hgd : Good W.drew := hgW.drewN 1
 go_upto_region 1 with fail
 rw [← HW.out]
 go_region_held3 (fun w' => w'.cell? ⟨w.heap.size, 0, none⟩ = some (.string (RS ax)) ∧ w'.cell? ⟨w.heap.size, 1, none⟩ = some (.string (RS ay)) ∧ w'.cell? ⟨w.heap.size + 1, 0, none⟩ = some (.string (RS bx)) ∧ w'.cell? ⟨w.heap.size + 1, 1, none⟩ = some (.string (RS bY)) ∧ w'.cell? ⟨w.heap.size + 2, 0, none⟩ = some (.string (RS cx)) ∧ w'.cell? ⟨w.heap.size + 2, 1, none⟩ = some (.string (RS cy)))
  (first | exact ⟨a0, a1, b0, b1, c0, c1⟩ | exact ⟨p_1_0, p_1_1, p_1_2, p_1_3, p_1_4, p_1_5⟩ | exact ⟨p_2_0, p_2_1, p_2_2, p_2_3, p_2_4, p_2_5⟩ | exact ⟨p_3_0, p_3_1, p_3_2, p_3_3, p_3_4, p_3_5⟩ | exact ⟨p_4_0, p_4_1, p_4_2, p_4_3, p_4_4, p_4_5⟩ | exact ⟨p_5_0, p_5_1, p_5_2, p_5_3, p_5_4, p_5_5⟩)
  (first
  | (go_at_call 72; refine (H5.out _ pg4).mono ?_; rintro e pw5 ⟨_, rfl, rfl, pb5⟩
     have p_5_0 := zct pb5 p_4_0
     have p_5_1 := zct pb5 p_4_1
     have p_5_2 := zct pb5 p_4_2
     have p_5_3 := zct pb5 p_4_3
     have p_5_4 := zct pb5 p_4_4
     have p_5_5 := zct pb5 p_4_5
     have ps5 : pw4.heap.size ≤ pw5.heap.size := pb5.size
     have pg5 : Good pw5 := pg4.below pb5)
  | (go_at_call 16; refine (H4.out _ pg3).mono ?_; rintro e pw4 ⟨_, rfl, rfl, pb4⟩
     have p_4_0 := zct pb4 p_3_0
     have p_4_1 := zct pb4 p_3_1
     have p_4_2 := zct pb4 p_3_2
     have p_4_3 := zct pb4 p_3_3
     have p_4_4 := zct pb4 p_3_4
     have p_4_5 := zct pb4 p_3_5
     have ps4 : pw3.heap.size ≤ pw4.heap.size := pb4.size
     have pg4 : Good pw4 := pg3.below pb4)
  | (go_at_call 16; refine (H3.out _ pg2).mono ?_; rintro e pw3 ⟨_, rfl, rfl, pb3⟩
     have p_3_0 := zct pb3 p_2_0
     have p_3_1 := zct pb3 p_2_1
     have p_3_2 := zct pb3 p_2_2
     have p_3_3 := zct pb3 p_2_3
     have p_3_4 := zct pb3 p_2_4
     have p_3_5 := zct pb3 p_2_5
     have ps3 : pw2.heap.size ≤ pw3.heap.size := pb3.size
     have pg3 : Good pw3 := pg2.below pb3)
  | (go_at_call 16; refine (H2.out _ pg1).mono ?_; rintro e pw2 ⟨_, rfl, rfl, pb2⟩
     have p_2_0 := zct pb2 p_1_0
     have p_2_1 := zct pb2 p_1_1
     have p_2_2 := zct pb2 p_1_2
     have p_2_3 := zct pb2 p_1_3
     have p_2_4 := zct pb2 p_1_4
     have p_2_5 := zct pb2 p_1_5
     have ps2 : pw1.heap.size ≤ pw2.heap.size := pb2.size
     have pg2 : Good pw2 := pg1.below pb2)
  | (go_at_call 16; refine (H1.out _ hgd).mono ?_; rintro e pw1 ⟨_, rfl, rfl, pb1⟩
     have p_1_0 := zct pb1 a0
     have p_1_1 := zct pb1 a1
     have p_1_2 := zct pb1 b0
     have p_1_3 := zct pb1 b1
     have p_1_4 := zct pb1 c0
     have p_1_5 := zct pb1 c1
     have ps1 : W.heap.size ≤ pw1.heap.size := pb1.size
     have pg1 : Good pw1 := hgd.below pb1))
 have pB : Below W.heap.size W pw5 := zbt (zbt (zbt (zbt (zbt (below_drewN W 1) pb1) pb2) pb3) pb4) pb5
 have hB7 := hbW.trans (pB.mono hbW.size)
 go_wp2_with fail
 go_ret
 exact ⟨_, rfl, rfl, hB7⟩
theorem lcorn13_any (w : World) (vp vt : Value) (P : List PtQ) (T : List Tri) (k : Nat) (hp : RdP w vp (strP P)) (ht : RdT w vt T) (hm : MeshIn P T k) (t : Nat) (htl : t < T.length) (tr : Tri) (htr : tr = T[t]) (_hg : Good w) :
 Calls Tryz.prog 23 #[.agg #[vp, vt], .int .i64 (t : Int)] w (Ret (fun r w' => RdP w' r (strP [ptI P tr.1, ptI P tr.2.1, ptI P tr.2.2])) w) := by
 obtain ⟨pp, cp, rfl, hpc, hpm, hpr⟩ := hp.open
 obtain ⟨pt, ct, rfl, htc, htm, htr'⟩ := ht.open
 rw [strP_length] at hpc ⊢
 obtain ⟨bt, ot, rfl, hbt, hcell⟩ := htr' (List.ne_nil_of_length_pos (by omega))
 obtain ⟨e0, e1, e2⟩ := hcell t htl
 rw [← htr] at e0 e1 e2
 have hidx := hm.idx tr (by rw [htr]; exact List.getElem_mem htl)
 obtain ⟨q0z, q1z, q2z⟩ := tr
 dsimp only at hidx e0 e1 e2 ⊢
 obtain ⟨a00, a01⟩ := hidx q0z (by simp [idxOf])
 obtain ⟨a10, a11⟩ := hidx q1z (by simp [idxOf])
 obtain ⟨a20, a21⟩ := hidx q2z (by simp [idxOf])
 obtain ⟨q0, rfl⟩ : ∃ q : Nat, q0z = (q : Int) := ⟨q0z.toNat, by omega⟩
 obtain ⟨q1, rfl⟩ : ∃ q : Nat, q1z = (q : Int) := ⟨q1z.toNat, by omega⟩
 obtain ⟨q2, rfl⟩ : ∃ q : Nat, q2z = (q : Int) := ⟨q2z.toNat, by omega⟩
 have g0 : q0 < P.length := by omega
 have g1 : q1 < P.length := by omega
 have g2 : q2 < P.length := by omega
 obtain ⟨bp, op, rfl, hbp, hpc'⟩ := hpr (by intro e; have h := strP_length P; rw [e] at h; simp at h; omega)
 rw [ptI_nat P q0 g0, ptI_nat P q1 g1, ptI_nat P q2 g2]
 obtain ⟨k00, k01⟩ := hpc' q0 (by rw [strP_length]; exact g0)
 obtain ⟨k10, k11⟩ := hpc' q1 (by rw [strP_length]; exact g1)
 obtain ⟨k20, k21⟩ := hpc' q2 (by rw [strP_length]; exact g2)
 rw [strP_get P q0 g0] at k00 k01
 rw [strP_get P q1 g1] at k10 k11
 rw [strP_get P q2 g2] at k20 k21
 dsimp only at k00 k01 k10 k11 k20 k21
 have f0 : (q0 : Int) < (P.length : Int) := by omega
 have f1 : (q1 : Int) < (P.length : Int) := by omega
 have f2 : (q2 : Int) < (P.length : Int) := by omega
 generalize P[q0] = p0 at *
 generalize P[q1] = p1 at *
 generalize P[q2] = p2 at *
 have htz : (t : Int) < (T.length : Int) := by omega
 have hwt : IntKind.i64.wrap (t : Int) = (t : Int) := IntWalk.i64_in _ (by have := hm.tlen; omega)
 clear htr hidx hpr hpc' hp hm ht htr' hcell a00 a01 a10 a11 a20 a21
 go_enter Tryz.func23, Tryz.ntmps23
 go_upto_region 1 with fail
 obtain ⟨W, hW⟩ : ∃ W, W = w.alloc (.cells #[.slice (some ⟨bp, op, none⟩) P.length cp, .slice (some ⟨bt, ot, none⟩) T.length ct] 38) := ⟨_, rfl⟩
 have hB : Below w.heap.size w W := by rw [hW]; exact zal _ _
 have b1 : BoxN W w.heap.size 38 [.slice (some ⟨bp, op, none⟩) P.length cp, .slice (some ⟨bt, ot, none⟩) T.length ct] := by rw [hW]; exact BoxN.new _ _ _ _ rfl
 rw [← hW]
 clear hW
 have m0 := b1.cell 0 rfl
 have m1 := b1.cell 1 rfl
 have t0 := zcq hB hbt e0
 have t1 := zcq hB hbt e1
 have t2 := zcq hB hbt e2
 go_upto_region 2 with fail
 obtain ⟨V, hV⟩ : ∃ V, V = W.alloc (.cells #[.int .i64 (q0 : Int), .int .i64 (q1 : Int), .int .i64 (q2 : Int)] 71) := ⟨_, rfl⟩
 have hbV : Below W.heap.size W V := by rw [hV]; exact zal _ _
 have bT : BoxN V W.heap.size 71 [.int .i64 (q0 : Int), .int .i64 (q1 : Int), .int .i64 (q2 : Int)] := by rw [hV]; exact BoxN.new _ _ _ _ rfl
 rw [← hV]
 clear hV m0 m1 t0 t1 t2
 have hB2 := hB.trans (hbV.mono hB.size)
 have b2 := b1.below hbV b1.lt
 have m0 := b2.cell 0 rfl
 have t0 := bT.cell 0 rfl
 have t1 := bT.cell 1 rfl
 have t2 := bT.cell 2 rfl
 have l00 := zcq hB2 hbp k00
 have l01 := zcq hB2 hbp k01
 have l10 := zcq hB2 hbp k10
 have l11 := zcq hB2 hbp k11
 have l20 := zcq hB2 hbp k20
 have l21 := zcq hB2 hbp k21
 have lb := b2.lt
 have lt := bT.lt
 have lp : bp < V.heap.size := Nat.lt_of_lt_of_le hbp hB2.size
 have HS : Hid (∀ w', Below V.heap.size V w' → w'.cell? ⟨w.heap.size, 0, none⟩ = some (.slice (some ⟨bp, op, none⟩) P.length cp) ∧ w'.cell? ⟨W.heap.size, 0, none⟩ = some (.int .i64 (q0 : Int)) ∧ w'.cell? ⟨W.heap.size, 1, none⟩ = some (.int .i64 (q1 : Int)) ∧ w'.cell? ⟨W.heap.size, 2, none⟩ = some (.int .i64 (q2 : Int)) ∧ w'.cell? ⟨bp, op + q0 * 2, none⟩ = some (.string (RS p0.1)) ∧ w'.cell? ⟨bp, op + q0 * 2 + 1, none⟩ = some (.string (RS p0.2)) ∧ w'.cell? ⟨bp, op + q1 * 2, none⟩ = some (.string (RS p1.1)) ∧ w'.cell? ⟨bp, op + q1 * 2 + 1, none⟩ = some (.string (RS p1.2)) ∧ w'.cell? ⟨bp, op + q2 * 2, none⟩ = some (.string (RS p2.1)) ∧ w'.cell? ⟨bp, op + q2 * 2 + 1, none⟩ = some (.string (RS p2.2))) := fun w' hb => ⟨(zcq hb lb m0 :), (zcq hb lt t0 :), (zcq hb lt t1 :), (zcq hb lt t2 :), (zcq hb lp l00 :), (zcq hb lp l01 :), (zcq hb lp l10 :), (zcq hb lp l11 :), (zcq hb lp l20 :), (zcq hb lp l21 :)⟩
 have hq00 : Below V.heap.size V V.drew := below_drewN V 1
 clear k00 k01 k10 k11 k20 k21 e0 e1 e2 b1 b2 bT hbt hbp
 go_region_held3 (fun w' => w'.cell? ⟨w.heap.size, 0, none⟩ = some (.slice (some ⟨bp, op, none⟩) P.length cp) ∧ w'.cell? ⟨W.heap.size, 0, none⟩ = some (.int .i64 (q0 : Int)) ∧ w'.cell? ⟨W.heap.size, 1, none⟩ = some (.int .i64 (q1 : Int)) ∧ w'.cell? ⟨W.heap.size, 2, none⟩ = some (.int .i64 (q2 : Int)) ∧ w'.cell? ⟨bp, op + q0 * 2, none⟩ = some (.string (RS p0.1)) ∧ w'.cell? ⟨bp, op + q0 * 2 + 1, none⟩ = some (.string (RS p0.2)) ∧ w'.cell? ⟨bp, op + q1 * 2, none⟩ = some (.string (RS p1.1)) ∧ w'.cell? ⟨bp, op + q1 * 2 + 1, none⟩ = some (.string (RS p1.2)) ∧ w'.cell? ⟨bp, op + q2 * 2, none⟩ = some (.string (RS p2.1)) ∧ w'.cell? ⟨bp, op + q2 * 2 + 1, none⟩ = some (.string (RS p2.2)))
  ((refine HS.out _ ?_; repeat (first | with_reducible exact hq00 | with_reducible exact Below.refl _ _ | with_reducible refine Below.drew ?_ | ((with_reducible refine Below.setCell ?_ ?_ _); rotate_left; (first | omega | (simp <;> omega))) | ((with_reducible refine Below.alloc ?_ ?_ _); rotate_left; (first | exact Nat.le_refl _ | omega | (simp <;> omega))))))
  (first | fail)
 all_goals
  go_wp2_with fail
  have hBV : Below w.heap.size w V.drew := hB2.trans ((below_drewN V 1).mono hB2.size)
  go_ret
  first
   | exact ⟨_, rfl, RdC.fresh 2 _ _ _ 3 rfl (by omega) _ rfl _ rfl, hBV.alloc hBV.size _⟩
   | exact ⟨_, rfl, (RdC.fresh 2 _ _ _ 3 rfl (by omega) _ rfl _ rfl).below (below_drewN _ 1), (hB2.alloc hB2.size _).trans ((below_drewN _ 1).mono (hB2.alloc hB2.size _).size)⟩
theorem ptF_sz {P : List PtQ} {m : Nat} (h : ∀ p ∈ P, SzP m p) (hk : 0 < m) (z : Int) : SzP m (ptI P z) := by
 unfold ptI
 rcases Nat.lt_or_ge z.toNat P.length with h1 | h1
 ·rw [List.getElem?_eq_getElem h1]; exact h _ (List.getElem_mem h1)
 ·rw [List.getElem?_eq_none h1]; exact ⟨Sz.zero _ hk, Sz.zero _ hk⟩
theorem fieldLaws_walk (w : World) (kz s0 s1 : Int) (half : Bool) (a0 a1 a2 a3 a4 a5 : Int) (ah : Bool) (b0 b1 b2 b3 b4 b5 : Int) (bh : Bool) (x y : Int) (P : List PtQ) (T : List Tri) (F G : List Rat) (hF : F.length = P.length) (hG : G.length = P.length) (hn0 : 0 < P.length) (hn6 : P.length ≤ 6) (hT0 : 0 < T.length) (hT8 : T.length ≤ 8) (hm : MeshOK P T 2) (zF : ∀ q ∈ F, Sz 2 q) (zG : ∀ q ∈ G, Sz 2 q) (ba : Bool) (px py sf sg ss su sv ds : ByteArray)
 (HMK : Hid (∀ w, Good w → Calls Tryz.prog 7 #[.agg #[.int .u8 kz, .int .i8 s0, .int .i8 s1, .bool half]] w (Ret (fun r w' => ∃ vp vt, r = .agg #[vp, vt] ∧ RdP w' vp (strP P) ∧ RdT w' vt T) w)))
 (HMF : Hid (∀ w vp vt, RdP w vp (strP P) → RdT w vt T → Good w → Calls Tryz.prog 8 #[.agg #[vp, vt], .agg #[.int .i8 a0, .int .i8 a1, .int .i8 a2, .int .i8 a3, .int .i8 a4, .int .i8 a5, .bool ah]] w (Ret (fun r w' => FieldIn w' vp vt r P T 2 F) w)))
 (HMG : Hid (∀ w vp vt, RdP w vp (strP P) → RdT w vt T → Good w → Calls Tryz.prog 8 #[.agg #[vp, vt], .agg #[.int .i8 b0, .int .i8 b1, .int .i8 b2, .int .i8 b3, .int .i8 b4, .int .i8 b5, .bool bh]] w (Ret (fun r w' => FieldIn w' vp vt r P T 2 G) w)))
 (HAD : Hid (∀ w vp vt vf vg, FieldIn w vp vt vf P T 2 F → FieldIn w vp vt vg P T 2 G → Good w → Calls Tryz.prog 19 #[.agg #[vp, vt], vf, vg] w (Ret (fun r w' => ∃ v, r = .tuple #[v, .int .i64 0] ∧ FieldIn w' vp vt v P T 2 (sumQ F G)) w)))
 (HPL : Hid (∀ w, Good w → Calls Tryz.prog 20 #[.agg #[.int .u8 kz, .int .i8 s0, .int .i8 s1, .bool half], .agg #[.int .i8 x, .int .i8 y], .int .i64 3] w (Ret (fun r _ => r = .agg #[.string px, .string py]) w)))
 (HVF : Hid (∀ w vp vt vf, FieldIn w vp vt vf P T 2 F → Good w → Calls Tryz.prog 21 #[.agg #[vp, vt], vf, .agg #[.string px, .string py]] w (Ret (fun r _ => r = .tuple #[.string sf, .int .i64 (if ba then 0 else 28)]) w)))
 (HVG : Hid (∀ w vp vt vf, FieldIn w vp vt vf P T 2 G → Good w → Calls Tryz.prog 21 #[.agg #[vp, vt], vf, .agg #[.string px, .string py]] w (Ret (fun r _ => r = .tuple #[.string sg, .int .i64 (if ba then 0 else 28)]) w)))
 (HVS : Hid (∀ w vp vt vf, FieldIn w vp vt vf P T 2 (sumQ F G) → Good w → Calls Tryz.prog 21 #[.agg #[vp, vt], vf, .agg #[.string px, .string py]] w (Ret (fun r _ => r = .tuple #[.string ss, .int .i64 (if ba then 0 else 28)]) w)))
 (HAA : Hid (ba = true → ∀ w, Good w → Calls Tryz.prog 22 #[.string sf, .string sg] w (Ret (fun r _ => r = .string ss) w)))
 (HVK : Hid (∀ i : Nat, i < P.length → ∀ w vp vt vf, FieldIn w vp vt vf P T 2 F → Good w → Calls Tryz.prog 21 #[.agg #[vp, vt], vf, .agg #[.string (RS (ptI P i).1), .string (RS (ptI P i).2)]] w (Ret (fun r _ => r = .tuple #[.string (RS (hI F i)), .int .i64 0]) w)))
 (HX1 : Hid (∀ w vp vt vf vg, FieldIn w vp vt vf P T 2 F → FieldIn w vp vt vg P T 2 G → Good w → Calls Tryz.prog 15 #[.agg #[vp, vt], vf, vg] w (Ret (fun r _ => r = .tuple #[.string su, .int .i64 0]) w)))
 (HX2 : Hid (∀ w vp vt vf vg, FieldIn w vp vt vf P T 2 F → FieldIn w vp vt vg P T 2 G → Good w → Calls Tryz.prog 15 #[.agg #[vp, vt], vg, vf] w (Ret (fun r _ => r = .tuple #[.string sv, .int .i64 0]) w)))
 (HFS : Hid (∀ w, Good w → Calls Tryz.prog 16 #[.string su, .string sv] w (Ret (fun r _ => r = .string ds) w)))
 (HFM : Hid (∀ w, Good w → Calls Tryz.prog 24 #[.string (RS (wholeTo P T F G T.length)), .string ⟨#[49, 47, 54]⟩] w (Ret (fun r _ => r = .string ds) w)))
 (hg : Good w) :
 Calls Tryz.prog 5 #[.agg #[.int .u8 kz, .int .i8 s0, .int .i8 s1, .bool half, .int .i8 a0, .int .i8 a1, .int .i8 a2, .int .i8 a3, .int .i8 a4, .int .i8 a5, .bool ah, .int .i8 b0, .int .i8 b1, .int .i8 b2, .int .i8 b3, .int .i8 b4, .int .i8 b5, .bool bh], .agg #[.int .i8 x, .int .i8 y]] w (Ret (fun r _ => r = .bool true) w) := by
 have HZF : Hid (∀ z : Int, Sz 2 (hI F z)) := fun z => hI_Sz (by omega) zF z
 have HZG : Hid (∀ z : Int, Sz 2 (hI G z)) := fun z => hI_Sz (by omega) zG z
 have HIX : Hid (∀ t : Nat, t < T.length → ∃ j0 j1 j2 : Nat, triI T t = ((j0 : Int), (j1 : Int), (j2 : Int)) ∧ j0 < P.length ∧ j1 < P.length ∧ j2 < P.length) := fun t ht => by
  have h := hm.idx (triI T t) (by rw [triI_nat T t ht]; exact List.getElem_mem ht)
  obtain ⟨h00, h01⟩ := h (triI T t).1 (by simp [idxOf])
  obtain ⟨h10, h11⟩ := h (triI T t).2.1 (by simp [idxOf])
  obtain ⟨h20, h21⟩ := h (triI T t).2.2 (by simp [idxOf])
  exact ⟨(triI T t).1.toNat, (triI T t).2.1.toNat, (triI T t).2.2.toNat, by rw [Int.toNat_of_nonneg h00, Int.toNat_of_nonneg h10, Int.toNat_of_nonneg h20], by omega, by omega, by omega⟩
 have HZP : Hid (∀ z : Int, SzP 2 (ptI P z)) := fun z => ptF_sz hm.sz (by omega) z
 have HZA : Hid (∀ t : Nat, t < T.length → Sz 21 (areaQ (ptI P (triI T t).1) (ptI P (triI T t).2.1) (ptI P (triI T t).2.2))) := fun t _ => (area_Sz3 (n := 2) (HZP.out _) (HZP.out _) (HZP.out _)).mono (by omega)
 have HWS := Lib.hid (whole_Sz HZA.out HZF.out HZG.out)
 have HCN : Hid (∀ t : Nat, t < T.length → ∀ (w' : World) (vp vt : Value), RdP w' vp (strP P) → RdT w' vt T → Good w' → Calls Tryz.prog 23 #[.agg #[vp, vt], .int .i64 (t : Int)] w' (Ret (fun r w' => RdP w' r (strP [ptI P (triI T t).1, ptI P (triI T t).2.1, ptI P (triI T t).2.2])) w')) := fun t ht w' vp vt hp hvt hg => lcorn13_any w' vp vt P T 2 hp hvt hm.toMeshIn t ht _ (triI_nat T t ht) hg
 clear zF zG hm
 go_enter Tryz.func5, Tryz.ntmps5
 go_wp2_with fail
 obtain ⟨W, hW⟩ : ∃ W, W = (w.alloc (.cells #[.int .u8 kz, .int .i8 s0, .int .i8 s1, .bool half, .int .i8 a0, .int .i8 a1, .int .i8 a2, .int .i8 a3, .int .i8 a4, .int .i8 a5, .bool ah, .int .i8 b0, .int .i8 b1, .int .i8 b2, .int .i8 b3, .int .i8 b4, .int .i8 b5, .bool bh] 30)).alloc (.cells #[.int .i8 x, .int .i8 y] 23) := ⟨_, rfl⟩
 have hB : Below w.heap.size w W := by rw [hW]; exact zal2 _ _ _
 have by3 : BoxN W (w.heap.size + 1) 23 [.int .i8 x, .int .i8 y] := by rw [hW]; exact BoxN.new _ _ _ _ (by simp)
 have bx : BoxN W w.heap.size 30 [.int .u8 kz, .int .i8 s0, .int .i8 s1, .bool half, .int .i8 a0, .int .i8 a1, .int .i8 a2, .int .i8 a3, .int .i8 a4, .int .i8 a5, .bool ah, .int .i8 b0, .int .i8 b1, .int .i8 b2, .int .i8 b3, .int .i8 b4, .int .i8 b5, .bool bh] := by
  rw [hW]
  have h1 := BoxN.new w #[.int .u8 kz, .int .i8 s0, .int .i8 s1, .bool half, .int .i8 a0, .int .i8 a1, .int .i8 a2, .int .i8 a3, .int .i8 a4, .int .i8 a5, .bool ah, .int .i8 b0, .int .i8 b1, .int .i8 b2, .int .i8 b3, .int .i8 b4, .int .i8 b5, .bool bh] 30 _ rfl
  exact h1.below (zal _ _) h1.lt
 rw [← hW]
 clear hW
 refine (known13_any W (hg.below hB)).mono ?_
 rintro e o1 ⟨_, rfl, rfl, hb1⟩
 have hB1 := hB.trans (hb1.mono hB.size)
 have bx1 := bx.below hb1 bx.lt
 have by31 := by3.below hb1 by3.lt
 clear hb1 hB bx by3
 have k0 := bx1.cell 0 rfl
 have k1 := bx1.cell 1 rfl
 have k2 := bx1.cell 2 rfl
 have k3 := bx1.cell 3 rfl
 go_wp2_with fail
 refine (HMK.out o1 (hg.below hB1)).mono ?_
 rintro e o2 ⟨_, rfl, ⟨vp, vt, rfl, hp, ht⟩, hb2⟩
 have hB2 := hB1.trans (hb2.mono hB1.size)
 have bx2 := bx1.below hb2 bx1.lt
 have by32 := by31.below hb2 by31.lt
 have HP2 := Lib.hid hp
 have HT2 := Lib.hid ht
 obtain ⟨bp, op, cp, rfl, hbp, hpc⟩ := hp.cells (by omega)
 obtain ⟨bt, ot, ct, rfl, hbt, htc⟩ := ht.cells hT0
 have HPC := Lib.hid hpc
 have HTC := Lib.hid htc
 clear hb2 hB1 bx1 by31 k0 k1 k2 k3 HMK hp ht hpc htc
 go_upto_region 4 with fail
 obtain ⟨o3, ho3⟩ : ∃ W, W = o2.alloc (.cells #[.slice (some ⟨bp, op, none⟩) P.length cp, .slice (some ⟨bt, ot, none⟩) T.length ct] 38) := ⟨_, rfl⟩
 have h23 : Below o2.heap.size o2 o3 := by rw [ho3]; exact zal _ _
 have zb5 : BoxN o3 o2.heap.size 38 [.slice (some ⟨bp, op, none⟩) P.length cp, .slice (some ⟨bt, ot, none⟩) T.length ct] := by rw [ho3]; exact BoxN.new _ _ _ _ rfl
 have hB3 := hB2.trans (h23.mono hB2.size)
 have bx3 := bx2.below h23 bx2.lt
 have by33 := by32.below h23 by32.lt
 rw [← ho3]
 clear ho3
 have m0 := zb5.cell 0 rfl
 have m1 := zb5.cell 1 rfl
 have k4 := bx3.cell 4 rfl
 have k5 := bx3.cell 5 rfl
 have k6 := bx3.cell 6 rfl
 have k7 := bx3.cell 7 rfl
 have k8 := bx3.cell 8 rfl
 have k9 := bx3.cell 9 rfl
 have k10 := bx3.cell 10 rfl
 have k11 := bx3.cell 11 rfl
 have k12 := bx3.cell 12 rfl
 have k13 := bx3.cell 13 rfl
 have k14 := bx3.cell 14 rfl
 have k15 := bx3.cell 15 rfl
 have k16 := bx3.cell 16 rfl
 have k17 := bx3.cell 17 rfl
 have lm := zb5.lt
 have lx := bx3.lt
 have HPT : Hid (∀ w', Below o2.heap.size o2 w' → RdP w' (.slice (some ⟨bp, op, none⟩) P.length cp) (strP P) ∧ RdT w' (.slice (some ⟨bt, ot, none⟩) T.length ct) T) := fun w' hb => ⟨RdC.below HP2.out hb, RdC.below HT2.out hb⟩
 have hgd : Good o3.drew := (hg.below hB3).drewN 1
 go_cut [6, 7] (fun s6 s7 wx => ∃ (bf of bg og cf cg : Nat), s6 = .slice (some ⟨bf, of, none⟩) P.length cf ∧ s7 = .slice (some ⟨bg, og, none⟩) P.length cg ∧ FieldIn wx (.slice (some ⟨bp, op, none⟩) P.length cp) (.slice (some ⟨bt, ot, none⟩) T.length ct) (.slice (some ⟨bf, of, none⟩) P.length cf) P T 2 F ∧ FieldIn wx (.slice (some ⟨bp, op, none⟩) P.length cp) (.slice (some ⟨bt, ot, none⟩) T.length ct) (.slice (some ⟨bg, og, none⟩) P.length cg) P T 2 G ∧ Below o3.heap.size o3 wx)
 case first =>
  go_region_held3 (fun w' => w'.cell? ⟨o2.heap.size, 0, none⟩ = some (.slice (some ⟨bp, op, none⟩) P.length cp) ∧ w'.cell? ⟨o2.heap.size, 1, none⟩ = some (.slice (some ⟨bt, ot, none⟩) T.length ct) ∧ w'.cell? ⟨w.heap.size, 4, none⟩ = some (.int .i8 a0) ∧ w'.cell? ⟨w.heap.size, 5, none⟩ = some (.int .i8 a1) ∧ w'.cell? ⟨w.heap.size, 6, none⟩ = some (.int .i8 a2) ∧ w'.cell? ⟨w.heap.size, 7, none⟩ = some (.int .i8 a3) ∧ w'.cell? ⟨w.heap.size, 8, none⟩ = some (.int .i8 a4) ∧ w'.cell? ⟨w.heap.size, 9, none⟩ = some (.int .i8 a5) ∧ w'.cell? ⟨w.heap.size, 10, none⟩ = some (.bool ah) ∧ w'.cell? ⟨w.heap.size, 11, none⟩ = some (.int .i8 b0) ∧ w'.cell? ⟨w.heap.size, 12, none⟩ = some (.int .i8 b1) ∧ w'.cell? ⟨w.heap.size, 13, none⟩ = some (.int .i8 b2) ∧ w'.cell? ⟨w.heap.size, 14, none⟩ = some (.int .i8 b3) ∧ w'.cell? ⟨w.heap.size, 15, none⟩ = some (.int .i8 b4) ∧ w'.cell? ⟨w.heap.size, 16, none⟩ = some (.int .i8 b5) ∧ w'.cell? ⟨w.heap.size, 17, none⟩ = some (.bool bh))
   (first | exact ⟨m0, m1, k4, k5, k6, k7, k8, k9, k10, k11, k12, k13, k14, k15, k16, k17⟩ | exact ⟨p_1_0, p_1_1, p_1_2, p_1_3, p_1_4, p_1_5, p_1_6, p_1_7, p_1_8, p_1_9, p_1_10, p_1_11, p_1_12, p_1_13, p_1_14, p_1_15⟩ | exact ⟨p_2_0, p_2_1, p_2_2, p_2_3, p_2_4, p_2_5, p_2_6, p_2_7, p_2_8, p_2_9, p_2_10, p_2_11, p_2_12, p_2_13, p_2_14, p_2_15⟩)
   (first
   | (go_at_call 8; refine (HMG.out _ _ _ (HPT.out _ (h23.trans (((below_drewN o3 1).trans (pb1.mono (Nat.le_refl _))).mono h23.size))).1 (HPT.out _ (h23.trans (((below_drewN o3 1).trans (pb1.mono (Nat.le_refl _))).mono h23.size))).2 pg1).mono ?_; rintro e pw2 ⟨vg, rfl, hG2, pb2⟩
      have p_2_0 := zct pb2 p_1_0
      have p_2_1 := zct pb2 p_1_1
      have p_2_2 := zct pb2 p_1_2
      have p_2_3 := zct pb2 p_1_3
      have p_2_4 := zct pb2 p_1_4
      have p_2_5 := zct pb2 p_1_5
      have p_2_6 := zct pb2 p_1_6
      have p_2_7 := zct pb2 p_1_7
      have p_2_8 := zct pb2 p_1_8
      have p_2_9 := zct pb2 p_1_9
      have p_2_10 := zct pb2 p_1_10
      have p_2_11 := zct pb2 p_1_11
      have p_2_12 := zct pb2 p_1_12
      have p_2_13 := zct pb2 p_1_13
      have p_2_14 := zct pb2 p_1_14
      have p_2_15 := zct pb2 p_1_15
      have ps2 : pw1.heap.size ≤ pw2.heap.size := pb2.size
      have pg2 : Good pw2 := pg1.below pb2
      have HG2 := Lib.hid hG2)
   | (go_at_call 8; refine (HMF.out _ _ _ (HPT.out _ (h23.trans ((below_drewN o3 1).mono h23.size))).1 (HPT.out _ (h23.trans ((below_drewN o3 1).mono h23.size))).2 hgd).mono ?_; rintro e pw1 ⟨vf, rfl, hF1, pb1⟩
      have p_1_0 := zct pb1 m0
      have p_1_1 := zct pb1 m1
      have p_1_2 := zct pb1 k4
      have p_1_3 := zct pb1 k5
      have p_1_4 := zct pb1 k6
      have p_1_5 := zct pb1 k7
      have p_1_6 := zct pb1 k8
      have p_1_7 := zct pb1 k9
      have p_1_8 := zct pb1 k10
      have p_1_9 := zct pb1 k11
      have p_1_10 := zct pb1 k12
      have p_1_11 := zct pb1 k13
      have p_1_12 := zct pb1 k14
      have p_1_13 := zct pb1 k15
      have p_1_14 := zct pb1 k16
      have p_1_15 := zct pb1 k17
      have ps1 : o3.heap.size ≤ pw1.heap.size := pb1.size
      have pg1 : Good pw1 := hgd.below pb1
      have HF1 := Lib.hid hF1))
  have pB : Below o3.heap.size o3 pw2 := zbt (zbt (below_drewN o3 1) pb1) pb2
  have hF2 := HF1.out.below pb2
  have hG2' := HG2.out
  obtain ⟨bf, of, cf, rfl, -, -⟩ := RdQ.cells hF2.f (by omega)
  obtain ⟨bg, og, cg, rfl, -, -⟩ := RdQ.cells hG2'.f (by omega)
  rw [hF] at *
  rw [hG] at *
  go_wp2_with fail
  go_meet
  exact ⟨bf, of, bg, og, cf, cg, rfl, rfl, hF2, hG2', pB⟩
 case rest =>
 obtain ⟨bf, of, bg, og, cf, cg, rfl, rfl, hF4, hG4, hb4⟩ := hcut
 have hB4 := hB3.trans (hb4.mono hB3.size)
 have h24 := h23.trans (hb4.mono h23.size)
 have zb54 := zb5.below hb4 zb5.lt
 have bx4 := bx3.below hb4 bx3.lt
 have by34 := by33.below hb4 by33.lt
 have HF4 := Lib.hid hF4
 have HG4 := Lib.hid hG4
 clear m0 m1 k4 k5 k6 k7 k8 k9 k10 k11 k12 k13 k14 k15 k16 k17 hb4 hB3 bx3 bx2 by33 by32 zb5 h23 hB2 hF4 hG4 hgd lm lx HMF HMG
 have m0 := zb54.cell 0 rfl
 have m1 := zb54.cell 1 rfl
 go_wp2_with fail
 refine (HAD.out wc _ _ _ _ HF4.out HG4.out (hg.below hB4)).mono ?_
 rintro e o5 ⟨_, rfl, ⟨v8, rfl, hs8⟩, hb5⟩
 have hB5 := hB4.trans (hb5.mono hB4.size)
 have h25 := h24.trans (hb5.mono h24.size)
 have zb55 := zb54.below hb5 zb54.lt
 have bx5 := bx4.below hb5 bx4.lt
 have by35 := by34.below hb5 by34.lt
 have HF5 := Lib.hid (HF4.out.below hb5)
 have HG5 := Lib.hid (HG4.out.below hb5)
 have HS5 := Lib.hid hs8
 obtain ⟨p8, c8, rfl, -, -, -⟩ := hs8.f.open
 clear m0 m1 hb5 zb54 HF4 HG4 HAD hs8 hB4 bx4 by34 h24
 have k0 := bx5.cell 0 rfl
 have k1 := bx5.cell 1 rfl
 have k2 := bx5.cell 2 rfl
 have k3 := bx5.cell 3 rfl
 have p0 := by35.cell 0 rfl
 have p1 := by35.cell 1 rfl
 go_wp2_with fail
 refine (HPL.out o5 (hg.below hB5)).mono ?_
 rintro e o6 ⟨_, rfl, rfl, hb6⟩
 have hB6 := hB5.trans (hb6.mono hB5.size)
 have h26 := h25.trans (hb6.mono h25.size)
 have zb56 := zb55.below hb6 zb55.lt
 have HF6 := Lib.hid (HF5.out.below hb6)
 have HG6 := Lib.hid (HG5.out.below hb6)
 have HS6 := Lib.hid (HS5.out.below hb6)
 clear hb6 zb55 HF5 HG5 HS5 hB5 bx5 by35 h25 k0 k1 k2 k3 p0 p1 HPL
 go_upto_region 7 with fail
 obtain ⟨o7, ho7⟩ : ∃ W, W = o6.alloc (.cells #[.string px, .string py] 33) := ⟨_, rfl⟩
 have h67 : Below o6.heap.size o6 o7 := by rw [ho7]; exact zal _ _
 have bq : BoxN o7 o6.heap.size 33 [.string px, .string py] := by rw [ho7]; exact BoxN.new _ _ _ _ rfl
 rw [← ho7]
 clear ho7
 have hB7 := hB6.trans (h67.mono hB6.size)
 have h27 := h26.trans (h67.mono h26.size)
 have zb57 := zb56.below h67 zb56.lt
 have HF7 := Lib.hid (HF6.out.below h67)
 have HG7 := Lib.hid (HG6.out.below h67)
 have HS7 := Lib.hid (HS6.out.below h67)
 clear h67 zb56 HF6 HG6 HS6 hB6 h26
 obtain ⟨ez, hez⟩ : ∃ ez : Int, ez = (if ba then 0 else 28) := ⟨_, rfl⟩
 have HEZ := Lib.hid hez
 rw [← hez] at HVF HVG HVS
 clear hez
 have m0 := zb57.cell 0 rfl
 have m1 := zb57.cell 1 rfl
 have q0 := bq.cell 0 rfl
 have q1 := bq.cell 1 rfl
 go_wp2_with fail
 refine (HVF.out o7 _ _ _ HF7.out (hg.below hB7)).mono ?_
 rintro e o8 ⟨_, rfl, rfl, hb8⟩
 have hB8 := hB7.trans (hb8.mono hB7.size)
 have h28 := h27.trans (hb8.mono h27.size)
 have zb58 := zb57.below hb8 zb57.lt
 have bq8 := bq.below hb8 bq.lt
 have HF8 := Lib.hid (HF7.out.below hb8)
 have HG8 := Lib.hid (HG7.out.below hb8)
 have HS8 := Lib.hid (HS7.out.below hb8)
 clear m0 m1 q0 q1 hb8 zb57 bq HF7 HG7 HS7 hB7 h27 HVF
 have m0 := zb58.cell 0 rfl
 have m1 := zb58.cell 1 rfl
 have q0 := bq8.cell 0 rfl
 have q1 := bq8.cell 1 rfl
 go_wp2_with fail
 refine (HVG.out o8 _ _ _ HG8.out (hg.below hB8)).mono ?_
 rintro e o9 ⟨_, rfl, rfl, hb9⟩
 have hB9 := hB8.trans (hb9.mono hB8.size)
 have h29 := h28.trans (hb9.mono h28.size)
 have zb59 := zb58.below hb9 zb58.lt
 have bq9 := bq8.below hb9 bq8.lt
 have HF9 := Lib.hid (HF8.out.below hb9)
 have HG9 := Lib.hid (HG8.out.below hb9)
 have HS9 := Lib.hid (HS8.out.below hb9)
 clear m0 m1 q0 q1 hb9 zb58 bq8 HF8 HG8 HS8 hB8 h28 HVG
 have m0 := zb59.cell 0 rfl
 have m1 := zb59.cell 1 rfl
 have q0 := bq9.cell 0 rfl
 have q1 := bq9.cell 1 rfl
 go_wp2_with fail
 refine (HVS.out o9 _ _ _ HS9.out (hg.below hB9)).mono ?_
 rintro e o10 ⟨_, rfl, rfl, hb10⟩
 have hB10 := hB9.trans (hb10.mono hB9.size)
 have h210 := h29.trans (hb10.mono h29.size)
 have zb510 := zb59.below hb10 zb59.lt
 have bq10 := bq9.below hb10 bq9.lt
 have HF10 := Lib.hid (HF9.out.below hb10)
 have HG10 := Lib.hid (HG9.out.below hb10)
 clear m0 m1 q0 q1 hb10 zb59 bq9 HF9 HG9 HS9 hB9 h29 HVS
 go_upto_region 10 with fail
 go_cut [96] (fun s96 wx => s96 = .bool false ∧ Below o10.heap.size o10 wx)
 case first =>
  clear HF10 HG10 HPC HTC HPT HVK HX1 HX2 HFS HFM HCN zb510 HZF HZG HIX HZP HZA HWS
  cases ba
  ·obtain rfl : ez = 28 := HEZ.out
   go_wp2_with fail
   go_meet
   exact ⟨rfl, Below.refl _ _⟩
  ·obtain rfl : ez = 0 := HEZ.out
   go_wp2_with fail
   refine (HAA.out (by first | rfl | trivial) o10 (hg.below hB10)).mono ?_
   rintro e oa ⟨_, rfl, rfl, hba⟩
   go_wp2_with fail
   go_meet
   exact ⟨rfl, hba⟩
 case rest =>
 obtain ⟨rfl, hb11⟩ := hcut
 obtain ⟨o11, ho11⟩ : ∃ W : World, W = wc := ⟨_, rfl⟩
 subst ho11
 have hB11 := hB10.trans (hb11.mono hB10.size)
 have h211 := h210.trans (hb11.mono h210.size)
 have zb511 := zb510.below hb11 zb510.lt
 have hF11 := HF10.out.below hb11
 have hG11 := HG10.out.below hb11
 have HF11 := Lib.hid hF11
 have HG11 := Lib.hid hG11
 obtain ⟨_, _, _, evf, hbf, hfc⟩ := RdQ.cells hF11.f (by omega)
 obtain ⟨_, _, _, evg, hbg, hgc⟩ := RdQ.cells hG11.f (by omega)
 injection evf with evf1 evf3 evf4
 injection evf1 with evf1
 injection evf1 with evf1 evf2 evf5
 clear evf3 evf4 evf5
 subst evf1; subst evf2
 injection evg with evg1 evg3 evg4
 injection evg1 with evg1
 injection evg1 with evg1 evg2 evg5
 clear evg3 evg4 evg5
 subst evg1; subst evg2
 rw [hF] at hfc
 rw [hG] at hgc
 have HFC : Hid (∀ w', Below o11.heap.size o11 w' → ∀ i : Nat, i < P.length → w'.cell? ⟨bf, of + i, none⟩ = some (.string (RS (hI F i)))) := fun w' hb i hi => (zcq hb hbf (hfc i hi) :)
 have HGC : Hid (∀ w', Below o11.heap.size o11 w' → ∀ i : Nat, i < P.length → w'.cell? ⟨bg, og + i, none⟩ = some (.string (RS (hI G i)))) := fun w' hb i hi => (zcq hb hbg (hgc i hi) :)
 have HPC2 : Hid (∀ w', Below o11.heap.size o11 w' → ∀ i : Nat, i < P.length → w'.cell? ⟨bp, op + i * 2, none⟩ = some (.string (RS (ptI P i).1)) ∧ w'.cell? ⟨bp, op + i * 2 + 1, none⟩ = some (.string (RS (ptI P i).2))) := fun w' hb i hi => by
  have h := HPC.out i (by omega)
  have hb' := h211.trans (hb.mono h211.size)
  exact ⟨(zcq hb' hbp h.1 :), (zcq hb' hbp h.2 :)⟩
 have HTC2 : Hid (∀ w', Below o11.heap.size o11 w' → ∀ t : Nat, t < T.length → w'.cell? ⟨bt, ot + t * 3, none⟩ = some (.int .i64 (triI T t).1) ∧ w'.cell? ⟨bt, ot + t * 3 + 1, none⟩ = some (.int .i64 (triI T t).2.1) ∧ w'.cell? ⟨bt, ot + t * 3 + 2, none⟩ = some (.int .i64 (triI T t).2.2)) := fun w' hb t ht => by
  have h := HTC.out t ht
  have hb' := h211.trans (hb.mono h211.size)
  exact ⟨(zcq hb' hbt h.1 :), (zcq hb' hbt h.2.1 :), (zcq hb' hbt h.2.2 :)⟩
 have HPT2 : Hid (∀ w', Below o11.heap.size o11 w' → RdP w' (.slice (some ⟨bp, op, none⟩) P.length cp) (strP P) ∧ RdT w' (.slice (some ⟨bt, ot, none⟩) T.length ct) T) := fun w' hb => HPT.out w' (h211.trans (hb.mono h211.size))
 have hlbp : bp < o11.heap.size := Nat.lt_of_lt_of_le hbp h211.size
 have hlbt : bt < o11.heap.size := Nat.lt_of_lt_of_le hbt h211.size
 clear hb11 hB10 h210 zb510 HF10 HG10 hF11 hG11 hfc hgc HPC HTC HPT HAA HEZ h211 hbp hbt
 go_wp2_with fail
 go_loopw [17] (fun t17 wr => ∃ i : Nat, t17 = .int .i64 i ∧ i ≤ P.length ∧ Below o11.heap.size o11 wr) (fun t17 _ => P.length - (RowKit.intOf t17).toNat)
 case atStart => exact ⟨0, rfl, Nat.zero_le _, Below.refl _ _⟩
 case round =>
  obtain ⟨i, rfl, hin, hbr⟩ := hrel
  have hBr := hB11.trans (hbr.mono hB11.size)
  have zb5r := zb511.below hbr zb511.lt
  have m0 := zb5r.cell 0 rfl
  have m1 := zb5r.cell 1 rfl
  rcases Nat.lt_or_ge i P.length with hlt | hlt
  ·have hiz : (i : Int) < (P.length : Int) := by omega
   have hizn : (i : Int) < (P.length : Int) := by omega
   obtain ⟨e0, e1⟩ := HPC2.out _ hbr i hlt
   have HFI : Hid (∀ w', Below o11.heap.size o11 w' → w'.cell? ⟨bf, of + i, none⟩ = some (.string (RS (hI F i)))) := fun w' hb => HFC.out w' hb i hlt
   have HV : Hid (∀ w vp vt vf, FieldIn w vp vt vf P T 2 F → Good w → _) := HVK.out i hlt
   generalize RS (ptI P (i : Int)).1 = xs at *
   generalize RS (ptI P (i : Int)).2 = ys at *
   generalize RS (hI F (i : Int)) = fs at *
   have hgd : Good wr.drew := (hg.below hBr).drewN 1
   have HFd := Lib.hid (HF11.out.below (hbr.trans ((below_drewN wr 1).mono hbr.size)))
   have lm := zb5r.lt
   have lp : bp < wr.heap.size := Nat.lt_of_lt_of_le hlbp hbr.size
   go_upto_region 15 with fail
   go_cut [18, 19] (fun s18 s19 wx => s18 = .string fs ∧ s19 = .int .i64 0 ∧ Below wr.heap.size wr wx)
   case first =>
    go_region_held3 (fun w' => w'.cell? ⟨o2.heap.size, 0, none⟩ = some (.slice (some ⟨bp, op, none⟩) P.length cp) ∧ w'.cell? ⟨o2.heap.size, 1, none⟩ = some (.slice (some ⟨bt, ot, none⟩) T.length ct) ∧ w'.cell? ⟨bp, op + i * 2, none⟩ = some (.string xs) ∧ w'.cell? ⟨bp, op + i * 2 + 1, none⟩ = some (.string ys))
     (first | exact ⟨m0, m1, e0, e1⟩ | exact ⟨p_1_0, p_1_1, p_1_2, p_1_3⟩)
     (first
     | (go_at_call 21; refine (HV.out _ _ _ _ HFd.out hgd).mono ?_; rintro e pw1 ⟨_, rfl, rfl, pb1⟩
        have p_1_0 := zct pb1 m0
        have p_1_1 := zct pb1 m1
        have p_1_2 := zct pb1 e0
        have p_1_3 := zct pb1 e1
        have ps1 : wr.heap.size ≤ pw1.heap.size := pb1.size
        have pg1 : Good pw1 := hgd.below pb1))
    have pB : Below wr.heap.size wr pw1 := zbt (below_drewN wr 1) pb1
    go_wp2_with fail
    go_meet
    exact ⟨rfl, rfl, pB⟩
   case rest =>
   obtain ⟨rfl, rfl, hbx⟩ := hcut
   have hbr2 := hbr.trans (hbx.mono hbr.size)
   have f0 := HFI.out _ hbr2
   clear e0 e1 m0 m1 hgd HFd zb5r HV
   go_wp2_with fail
   go_roundw
   case rel => exact ⟨i + 1, by go_num, by omega, hbr2⟩
   case measure => simp [RowKit.intOf]; omega
  ·have hil : ¬ (i : Int) < (P.length : Int) := by omega
   go_wp2_with fail
   refine (HX1.out wr _ _ _ _ (HF11.out.below hbr) (HG11.out.below hbr) (hg.below hBr)).mono ?_
   rintro e u1 ⟨_, rfl, rfl, hc1⟩
   have hbu1 := hbr.trans (hc1.mono hbr.size)
   have hBu1 := hB11.trans (hbu1.mono hB11.size)
   clear m0 m1 zb5r hc1 hbr hBr
   have zb5r := zb511.below hbu1 zb511.lt
   have m0 := zb5r.cell 0 rfl
   have m1 := zb5r.cell 1 rfl
   go_wp2_with fail
   refine (HX2.out u1 _ _ _ _ (HF11.out.below hbu1) (HG11.out.below hbu1) (hg.below hBu1)).mono ?_
   rintro e u2 ⟨_, rfl, rfl, hc2⟩
   have hbu2 := hbu1.trans (hc2.mono hbu1.size)
   have hBu2 := hB11.trans (hbu2.mono hB11.size)
   clear m0 m1 zb5r hc2 hbu1 hBu1 HX1 HX2 HVK
   have hw0 : RS (wholeTo P T F G 0) = ⟨#[48]⟩ := by show RS 0 = _; exact RS_zero
   go_wp2_with fail
   go_loopw [24, 25] (fun t24 t25 wr => ∃ t : Nat, t25 = .int .i64 t ∧ t ≤ T.length ∧ t24 = .string (RS (wholeTo P T F G t)) ∧ Below o11.heap.size o11 wr) (fun _ t25 _ => T.length - (RowKit.intOf t25).toNat)
   case atStart => exact ⟨0, rfl, Nat.zero_le _, by rw [hw0], hbu2⟩
   case round =>
    obtain ⟨t, rfl, htl, rfl, hbr⟩ := hrel
    obtain ⟨wo, hwo⟩ : ∃ wo : World, wo = wr := ⟨_, rfl⟩
    subst hwo
    have hBr := hB11.trans (hbr.mono hB11.size)
    have zb5r := zb511.below hbr zb511.lt
    have m0 := zb5r.cell 0 rfl
    have m1 := zb5r.cell 1 rfl
    rcases Nat.lt_or_ge t T.length with hlt2 | hlt2
    ·have htz : (t : Int) < (T.length : Int) := by omega
     obtain ⟨j0, j1, j2, hj, g0, g1, g2⟩ := HIX.out t hlt2
     obtain ⟨e0, e1, e2⟩ := HTC2.out _ hbr t hlt2
     have HC := Lib.hid (HCN.out t hlt2)
     have HA := Lib.hid (HZA.out t hlt2)
     have HW0 := Lib.hid (HWS.out t (by omega))
     have HN := Lib.hid (whole3_next P T F G t)
     have HW3 : Hid (∀ k : Nat, k < 3 → ∀ j : Nat, [j0, j1, j2][k]? = some j → whole3 P T F G t (k + 1) = whole3 P T F G t k + areaQ (ptI P (triI T t).1) (ptI P (triI T t).2.1) (ptI P (triI T t).2.2) * (hI F j - hI G j)) := fun k hk j hjk => by
      show whole3 P T F G t k + _ = _
      have : (idxOf (triI T t))[k]?.getD 0 = (j : Int) := by
       rw [hj]
       rcases (by omega : k = 0 ∨ k = 1 ∨ k = 2) with rfl | rfl | rfl <;> (simp at hjk; subst hjk; rfl)
      rw [this]
     have HZ3 := Lib.hid (whole3_Sz HA.out HZF.out HZG.out HW0.out)
     have hw30 : whole3 P T F G t 0 = wholeTo P T F G t := rfl
     rw [hj] at HC HA HW3 e0 e1 e2
     dsimp only at HC HA HW3 e0 e1 e2
     have SZ0 := HZP.out (j0 : Int)
     have SZ1 := HZP.out (j1 : Int)
     have SZ2 := HZP.out (j2 : Int)
     generalize ptI P (j0 : Int) = c0 at *
     generalize ptI P (j1 : Int) = c1 at *
     generalize ptI P (j2 : Int) = c2 at *
     have HAR : Hid (∀ w, Good w → _) := fun w hg => area05_any c0 c1 c2 2 (by omega) (by omega) SZ0 SZ1 SZ2 w hg
     generalize areaQ c0 c1 c2 = ar at *
     clear hj
     go_upto_region 25 with fail
     obtain ⟨V, hV⟩ : ∃ V, V = wo.alloc (.cells #[.int .i64 (j0 : Int), .int .i64 (j1 : Int), .int .i64 (j2 : Int)] 71) := ⟨_, rfl⟩
     have hbV : Below wo.heap.size wo V := by rw [hV]; exact zal _ _
     have bT : BoxN V wo.heap.size 71 [.int .i64 (j0 : Int), .int .i64 (j1 : Int), .int .i64 (j2 : Int)] := by rw [hV]; exact BoxN.new _ _ _ _ rfl
     rw [← hV]
     clear hV m0 m1 e0 e1 e2
     have hbv := hbr.trans (hbV.mono hbr.size)
     have hBv := hB11.trans (hbv.mono hB11.size)
     have zb5v := zb511.below hbv zb511.lt
     have m0 := zb5v.cell 0 rfl
     have m1 := zb5v.cell 1 rfl
     go_wp2_with fail
     refine (HC.out V _ _ (HPT2.out _ hbv).1 (HPT2.out _ hbv).2 (hg.below hBv)).mono ?_
     rintro e U ⟨_, rfl, hrc, hbU⟩
     have hbu := hbv.trans (hbU.mono hbv.size)
     have hBu := hB11.trans (hbu.mono hB11.size)
     have bTu := bT.below hbU bT.lt
     obtain ⟨bc, oc, cc, rfl, hbc, hcel⟩ := RdP.cells hrc (by simp)
     have HCC : Hid (∀ w', Below U.heap.size U w' → w'.cell? ⟨bc, oc, none⟩ = some (.string (RS c0.1)) ∧ w'.cell? ⟨bc, oc + 1, none⟩ = some (.string (RS c0.2)) ∧ w'.cell? ⟨bc, oc + 2, none⟩ = some (.string (RS c1.1)) ∧ w'.cell? ⟨bc, oc + 3, none⟩ = some (.string (RS c1.2)) ∧ w'.cell? ⟨bc, oc + 4, none⟩ = some (.string (RS c2.1)) ∧ w'.cell? ⟨bc, oc + 5, none⟩ = some (.string (RS c2.2))) := fun w' hb =>
      ⟨(hb.cell (p := ⟨bc, oc, none⟩) hbc).trans (hcel 0 (by simp)).1, (hb.cell (p := ⟨bc, oc + 1, none⟩) hbc).trans (hcel 0 (by simp)).2, (hb.cell (p := ⟨bc, oc + 2, none⟩) hbc).trans (hcel 1 (by simp)).1, (hb.cell (p := ⟨bc, oc + 3, none⟩) hbc).trans (hcel 1 (by simp)).2, (hb.cell (p := ⟨bc, oc + 4, none⟩) hbc).trans (hcel 2 (by simp)).1, (hb.cell (p := ⟨bc, oc + 5, none⟩) hbc).trans (hcel 2 (by simp)).2⟩
     rw [show ([c0, c1, c2] : List PtQ).length = 3 from rfl]
     have lbc := hbc
     clear hrc hcel hbU m0 m1 zb5v zb5r hbV hbv hBv bT hbr hBr HC hbc
     go_wp2_with fail
     go_loopw [24, 28] (fun t24 t28 wr => ∃ k : Nat, t28 = .int .i64 k ∧ k ≤ 3 ∧ t24 = .string (RS (whole3 P T F G t k)) ∧ Below U.heap.size U wr) (fun _ t28 _ => 3 - (RowKit.intOf t28).toNat)
     case atStart => exact ⟨0, rfl, Nat.zero_le _, by rw [hw30], Below.refl _ _⟩
     case round =>
      obtain ⟨k, rfl, hk3, rfl, hbk⟩ := hrel
      have hbw := hbu.trans (hbk.mono hbu.size)
      have hBw := hB11.trans (hbw.mono hB11.size)
      clear hw0 hw30
      rcases Nat.lt_or_ge k 3 with hk | hk
      ·have hkz : (k : Int) < 3 := by omega
       have bTw := bTu.below hbk bTu.lt
       obtain ⟨j, hjk, hjn, y0⟩ : ∃ j : Nat, [j0, j1, j2][k]? = some j ∧ j < P.length ∧ wr.cell? ⟨wo.heap.size, k, none⟩ = some (.int .i64 (j : Int)) := by
        rcases (by omega : k = 0 ∨ k = 1 ∨ k = 2) with rfl | rfl | rfl
        ·exact ⟨j0, rfl, g0, bTw.cell 0 rfl⟩
        ·exact ⟨j1, rfl, g1, bTw.cell 1 rfl⟩
        ·exact ⟨j2, rfl, g2, bTw.cell 2 rfl⟩
       have HS1 := Lib.hid (HW3.out k hk j hjk)
       obtain ⟨x0, x1, x2, x3, x4, x5⟩ := HCC.out _ hbk
       have f0 := HFC.out _ hbw j hjn
       have f1 := HGC.out _ hbw j hjn
       have hjz : (j : Int) < (P.length : Int) := by omega
       have HSB : Hid (∀ w, Good w → _) := fun w hg => subQ_any (hI F (j : Int)) (hI G (j : Int)) 2 (by omega) (by omega) (HZF.out _) (HZG.out _) w hg
       have HMU : Hid (∀ w, Good w → _) := fun w hg => mulQ_any ar (hI F (j : Int) - hI G (j : Int)) 21 (by omega) (by omega) HA.out (((HZF.out (j : Int)).sub (HZG.out (j : Int))).mono (by omega)) w hg
       have HAD : Hid (∀ w, Good w → _) := fun w hg => addQ_any (whole3 P T F G t k) (ar * (hI F (j : Int) - hI G (j : Int))) 2000 (by omega) (by omega) ((HZ3.out k).mono (by omega)) ((HA.out.mul ((HZF.out (j : Int)).sub (HZG.out (j : Int)))).mono (by omega)) w hg
       generalize hI F (j : Int) = fj at *
       generalize hI G (j : Int) = gj at *
       have hgd : Good wr.drew := (hg.below hBw).drewN 1
       have lc : bc < wr.heap.size := Nat.lt_of_lt_of_le lbc hbk.size
       have lt : wo.heap.size < wr.heap.size := bTw.lt
       have lf : bf < wr.heap.size := Nat.lt_of_lt_of_le hbf hbw.size
       have lg : bg < wr.heap.size := Nat.lt_of_lt_of_le hbg hbw.size
       clear bTw hjk hjn HW3
       go_upto_region 29 with fail
       generalize hwk : whole3 P T F G t k = wk at *
       go_region_held3 (fun w' => w'.cell? ⟨bc, oc, none⟩ = some (.string (RS c0.1)) ∧ w'.cell? ⟨bc, oc + 1, none⟩ = some (.string (RS c0.2)) ∧ w'.cell? ⟨bc, oc + 2, none⟩ = some (.string (RS c1.1)) ∧ w'.cell? ⟨bc, oc + 3, none⟩ = some (.string (RS c1.2)) ∧ w'.cell? ⟨bc, oc + 4, none⟩ = some (.string (RS c2.1)) ∧ w'.cell? ⟨bc, oc + 5, none⟩ = some (.string (RS c2.2)) ∧ w'.cell? ⟨wo.heap.size, k, none⟩ = some (.int .i64 (j : Int)) ∧ w'.cell? ⟨bf, of + j, none⟩ = some (.string (RS fj)) ∧ w'.cell? ⟨bg, og + j, none⟩ = some (.string (RS gj)))
        (first | exact ⟨x0, x1, x2, x3, x4, x5, y0, f0, f1⟩ | exact ⟨q_1_0, q_1_1, q_1_2, q_1_3, q_1_4, q_1_5, q_1_6, q_1_7, q_1_8⟩ | exact ⟨q_2_0, q_2_1, q_2_2, q_2_3, q_2_4, q_2_5, q_2_6, q_2_7, q_2_8⟩ | exact ⟨q_3_0, q_3_1, q_3_2, q_3_3, q_3_4, q_3_5, q_3_6, q_3_7, q_3_8⟩ | exact ⟨q_4_0, q_4_1, q_4_2, q_4_3, q_4_4, q_4_5, q_4_6, q_4_7, q_4_8⟩)
        (first
        | (go_at_call 22; refine (HAD.out _ qg3).mono ?_; rintro e qw4 ⟨_, rfl, rfl, qb4⟩
           have q_4_0 := zct qb4 q_3_0
           have q_4_1 := zct qb4 q_3_1
           have q_4_2 := zct qb4 q_3_2
           have q_4_3 := zct qb4 q_3_3
           have q_4_4 := zct qb4 q_3_4
           have q_4_5 := zct qb4 q_3_5
           have q_4_6 := zct qb4 q_3_6
           have q_4_7 := zct qb4 q_3_7
           have q_4_8 := zct qb4 q_3_8
           have qs4 : qw3.heap.size ≤ qw4.heap.size := qb4.size
           have qg4 : Good qw4 := qg3.below qb4)
        | (go_at_call 24; refine (HMU.out _ qg2).mono ?_; rintro e qw3 ⟨_, rfl, rfl, qb3⟩
           have q_3_0 := zct qb3 q_2_0
           have q_3_1 := zct qb3 q_2_1
           have q_3_2 := zct qb3 q_2_2
           have q_3_3 := zct qb3 q_2_3
           have q_3_4 := zct qb3 q_2_4
           have q_3_5 := zct qb3 q_2_5
           have q_3_6 := zct qb3 q_2_6
           have q_3_7 := zct qb3 q_2_7
           have q_3_8 := zct qb3 q_2_8
           have qs3 : qw2.heap.size ≤ qw3.heap.size := qb3.size
           have qg3 : Good qw3 := qg2.below qb3)
        | (go_at_call 16; refine (HSB.out _ qg1).mono ?_; rintro e qw2 ⟨_, rfl, rfl, qb2⟩
           have q_2_0 := zct qb2 q_1_0
           have q_2_1 := zct qb2 q_1_1
           have q_2_2 := zct qb2 q_1_2
           have q_2_3 := zct qb2 q_1_3
           have q_2_4 := zct qb2 q_1_4
           have q_2_5 := zct qb2 q_1_5
           have q_2_6 := zct qb2 q_1_6
           have q_2_7 := zct qb2 q_1_7
           have q_2_8 := zct qb2 q_1_8
           have qs2 : qw1.heap.size ≤ qw2.heap.size := qb2.size
           have qg2 : Good qw2 := qg1.below qb2)
        | (go_at_call 25; refine (HAR.out _ hgd).mono ?_; rintro e qw1 ⟨_, rfl, rfl, qb1⟩
           have q_1_0 := zct qb1 x0
           have q_1_1 := zct qb1 x1
           have q_1_2 := zct qb1 x2
           have q_1_3 := zct qb1 x3
           have q_1_4 := zct qb1 x4
           have q_1_5 := zct qb1 x5
           have q_1_6 := zct qb1 y0
           have q_1_7 := zct qb1 f0
           have q_1_8 := zct qb1 f1
           have qs1 : wr.heap.size ≤ qw1.heap.size := qb1.size
           have qg1 : Good qw1 := hgd.below qb1))
       have qB : Below wr.heap.size wr qw4 := zbt (zbt (zbt (zbt (below_drewN wr 1) qb1) qb2) qb3) qb4
       go_wp2_with fail
       go_roundw
       case rel => exact ⟨k + 1, by go_num, by omega, by rw [HS1.out], hbk.trans (qB.mono hbk.size)⟩
       case measure => simp [RowKit.intOf]; omega
      ·have hkz : ¬ (k : Int) < 3 := by omega
       obtain rfl : k = 3 := by omega
       go_wp2_with fail
       go_roundw
       case rel => exact ⟨t + 1, by go_num, by omega, by rw [HN.out], hbw⟩
       case measure => simp [RowKit.intOf]; omega
    ·have hte : ¬ (t : Int) < (T.length : Int) := by omega
     obtain rfl : t = T.length := by omega
     go_wp2_with fail
     refine (HFS.out wo (hg.below hBr)).mono ?_
     rintro e u3 ⟨_, rfl, rfl, hc3⟩
     have hbu3 := hbr.trans (hc3.mono hbr.size)
     have hBu3 := hB11.trans (hbu3.mono hB11.size)
     clear m0 m1
     go_wp2_with fail
     refine (HFM.out u3 (hg.below hBu3)).mono ?_
     rintro e u4 ⟨_, rfl, rfl, hc4⟩
     go_wp2_with fail
     go_ret
     exact ⟨_, rfl, rfl, hBu3.trans (hc4.mono hBu3.size)⟩
theorem RS_sixth : RS (1 / 6) = ⟨#[49, 47, 54]⟩ := by decide +kernel
theorem sz_sixth : Sz 2 (1 / 6) := ⟨by decide +kernel, by decide +kernel⟩
theorem fieldLaws_all (w : World) (kz s0 s1 : Int) (half : Bool) (a0 a1 a2 a3 a4 a5 : Int) (ah : Bool) (b0 b1 b2 b3 b4 b5 : Int) (bh : Bool) (x y : Int) (hk0 : 0 ≤ kz) (hk1 : kz ≤ 255) (hs0 : -128 ≤ s0 ∧ s0 ≤ 127) (hs1 : -128 ≤ s1 ∧ s1 ≤ 127) (ha : ∀ x ∈ [a0, a1, a2, a3, a4, a5], -128 ≤ x ∧ x ≤ 127) (hb : ∀ x ∈ [b0, b1, b2, b3, b4, b5], -128 ≤ x ∧ x ≤ 127) (hx : -128 ≤ x ∧ x ≤ 127) (hy : -128 ≤ y ∧ y ≤ 127) (hg : Good w) :
 Calls Tryz.prog 5 #[.agg #[.int .u8 kz, .int .i8 s0, .int .i8 s1, .bool half, .int .i8 a0, .int .i8 a1, .int .i8 a2, .int .i8 a3, .int .i8 a4, .int .i8 a5, .bool ah, .int .i8 b0, .int .i8 b1, .int .i8 b2, .int .i8 b3, .int .i8 b4, .int .i8 b5, .bool bh], .agg #[.int .i8 x, .int .i8 y]] w (Ret (fun r _ => r = .bool true) w) := by
 obtain ⟨kk, hk⟩ : ∃ k : Nat, kz.tmod 8 = (k : Int) := ⟨(kz.tmod 8).toNat, by have := Int.tmod_nonneg 8 hk0; omega⟩
 have HMK := Lib.hid fun w hg => make12_any w kz s0 s1 half kk hk hk0 hk1 hs0 hs1 hg
 have hM : MeshOK (sheetP kk s0 s1 half) (shapeT kk) 2 := sheet_ok kk s0 s1 half
 have hP6 : (sheetP kk s0 s1 half).length ≤ 6 := by rw [sheetP_length]; exact shapeP_len kk
 have hP0 : 0 < (sheetP kk s0 s1 half).length := by
  obtain ⟨t, ht⟩ := List.exists_mem_of_ne_nil _ hM.some
  have := hM.idx t ht t.1 (by simp [idxOf])
  omega
 have hT0 : 0 < (shapeT kk).length := List.length_pos_iff.2 hM.some
 have hT8 : (shapeT kk).length ≤ 8 := by unfold shapeT; split <;> decide
 have hFs := heights_Sz [a0, a1, a2, a3, a4, a5] ah (sheetP kk s0 s1 half).length
 have hGs := heights_Sz [b0, b1, b2, b3, b4, b5] bh (sheetP kk s0 s1 half).length
 have fF := fr_height [a0, a1, a2, a3, a4, a5] ah (sheetP kk s0 s1 half).length
 have fG := fr_height [b0, b1, b2, b3, b4, b5] bh (sheetP kk s0 s1 half).length
 have fP := fr_sheet kk s0 s1 half
 have hFl : (heightsF [a0, a1, a2, a3, a4, a5] ah (sheetP kk s0 s1 half).length).length = (sheetP kk s0 s1 half).length := heightsF_length _ _ _
 have hGl : (heightsF [b0, b1, b2, b3, b4, b5] bh (sheetP kk s0 s1 half).length).length = (sheetP kk s0 s1 half).length := heightsF_length _ _ _
 have HMF : ∀ (v0 v1 v2 v3 v4 v5 : Int) (h : Bool), (∀ x ∈ [v0, v1, v2, v3, v4, v5], -128 ≤ x ∧ x ≤ 127) → ∀ w vp vt, RdP w vp (strP (sheetP kk s0 s1 half)) → RdT w vt (shapeT kk) → Good w → Calls Tryz.prog 8 #[.agg #[vp, vt], .agg #[.int .i8 v0, .int .i8 v1, .int .i8 v2, .int .i8 v3, .int .i8 v4, .int .i8 v5, .bool h]] w (Ret (fun r w' => FieldIn w' vp vt r (sheetP kk s0 s1 half) (shapeT kk) 2 (heightsF [v0, v1, v2, v3, v4, v5] h (sheetP kk s0 s1 half).length)) w) := fun v0 v1 v2 v3 v4 v5 h hv w vp vt hp ht hg => by
  obtain ⟨pp, cp, rfl, -, -, -⟩ := hp.open
  rw [strP_length]
  rw [strP_length] at hp
  refine (make13_any w pp _ cp vt v0 v1 v2 v3 v4 v5 h hv hP6 hg).mono ?_
  rintro e w' ⟨r, rfl, ⟨hf, -⟩, hb⟩
  exact ⟨r, rfl, make_in (RdC.below hp hb) (RdC.below ht hb) hf, hb⟩
 have hA := Lib.hid (HMF a0 a1 a2 a3 a4 a5 ah ha)
 have hB := Lib.hid (HMF b0 b1 b2 b3 b4 b5 bh hb)
 have hCor := sheet_corner kk s0 s1 half
 have HPL := Lib.hid fun w hg => place3_any w kz s0 s1 half x y hs0 hs1 hx hy hg
 have hpz : SzP 3 ((placeB3 s0 half x, placeB3 s1 half y) : PtQ) := ⟨placeB3_Sz s0 half x hx, placeB3_Sz s1 half y hy⟩
 clear HMF
 generalize heightsF [a0, a1, a2, a3, a4, a5] ah (sheetP kk s0 s1 half).length = F at *
 generalize heightsF [b0, b1, b2, b3, b4, b5] bh (sheetP kk s0 s1 half).length = G at *
 generalize sheetP kk s0 s1 half = P at *
 generalize shapeT kk = T at *
 generalize placeB3 s0 half x = qx at *
 generalize placeB3 s1 half y = qy at *
 have hp : SzP 40 ((qx, qy) : PtQ) := ⟨hpz.1.mono (by omega), hpz.2.mono (by omega)⟩
 have hp2 : SzP 200 ((qx, qy) : PtQ) := ⟨hpz.1.mono (by omega), hpz.2.mono (by omega)⟩
 have zS : ∀ q ∈ sumQ F G, Sz 2 q := fun q hq => sz_of_fr (fr_sumQ fF fG q hq)
 have hSl : (sumQ F G).length = P.length := by rw [sumQ_length _ _ (by omega), hGl]
 have HAD : Hid (∀ w vp vt vf vg, FieldIn w vp vt vf P T 2 F → FieldIn w vp vt vg P T 2 G → Good w → Calls Tryz.prog 19 #[.agg #[vp, vt], vf, vg] w (Ret (fun r w' => ∃ v, r = .tuple #[v, .int .i64 0] ∧ FieldIn w' vp vt v P T 2 (sumQ F G)) w)) := fun w vp vt vf vg h1 h2 hg => (fadd_ok w vp vt vf vg P T 2 F G h1 h2 (fun q hq => (zS q hq).mono (by omega)) hg).mono (by
  rintro e w' ⟨r, rfl, ⟨v, rfl, h, -⟩, hb⟩
  exact ⟨_, rfl, ⟨v, rfl, RdC.below h1.p hb, RdC.below h1.t hb, hM, h, zS, hSl⟩, hb⟩)
 have V1 : Sz 200 (volTo P T (subQ F G) 0 T.length) := vol_Sz fP hM.idx (fr_subQ fF fG) hT8 (Sz.zero _ (by omega))
 have V2 : Sz 200 (volTo P T (subQ G F) 0 T.length) := vol_Sz fP hM.idx (fr_subQ fG fF) hT8 (Sz.zero _ (by omega))
 have HX1 := Lib.hid fun w vp vt vf vg h1 h2 hg => fexcess_ok w vp vt vf vg P T 2 F G h1 h2 (Nat.le_refl _) hT8 V1 hg
 have HX2 := Lib.hid fun w vp vt vf vg h1 h2 hg => fexcess_ok w vp vt vg vf P T 2 G F h2 h1 (Nat.le_refl _) hT8 V2 hg
 have HFS := Lib.hid fun w hg => subQ_any (volTo P T (subQ F G) 0 T.length) (volTo P T (subQ G F) 0 T.length) 200 (by omega) (by omega) V1 V2 w hg
 have zF : ∀ z : Int, Sz 2 (hI F z) := fun z => hI_Sz (by omega) hFs z
 have zG : ∀ z : Int, Sz 2 (hI G z) := fun z => hI_Sz (by omega) hGs z
 have zP : ∀ z : Int, SzP 2 (ptI P z) := fun z => ptF_sz hM.sz (by omega) z
 have zW := whole_Sz (P := P) (T := T) (F := F) (G := G) (fun t _ => (area_Sz3 (n := 2) (zP _) (zP _) (zP _)).mono (by omega)) zF zG T.length (Nat.le_refl _)
 have HFM : Hid (∀ w, Good w → Calls Tryz.prog 24 #[.string (RS (wholeTo P T F G T.length)), .string ⟨#[49, 47, 54]⟩] w (Ret (fun r _ => r = .string (RS (volTo P T (subQ F G) 0 T.length - volTo P T (subQ G F) 0 T.length))) w)) := fun w hg => by
  rw [excess_dif (by omega) T.length, ← RS_sixth]
  exact mulQ_any _ _ 2000 (by omega) (by omega) (zW.mono (by omega)) (sz_sixth.mono (by omega)) w hg
 have HVK : Hid (∀ i : Nat, i < P.length → ∀ w vp vt vf, FieldIn w vp vt vf P T 2 F → Good w → Calls Tryz.prog 21 #[.agg #[vp, vt], vf, .agg #[.string (RS (ptI P i).1), .string (RS (ptI P i).2)]] w (Ret (fun r _ => r = .tuple #[.string (RS (hI F i)), .int .i64 0]) w)) := fun i hi w vp vt vf h hg => by
  obtain ⟨t, tr, l, h1, h2, h3⟩ := hCor i hi
  obtain ⟨ht, rfl⟩ := List.getElem?_eq_some_iff.1 h1
  have hmem : T[t] ∈ T := List.getElem_mem ht
  have hne : areaQ (ptI P T[t].1) (ptI P T[t].2.1) (ptI P T[t].2.2) ≠ 0 := by have := areaQ_pos hM hmem; intro e; rw [e] at this; exact absurd this (by decide)
  have ho : onQ P F T[t] (ptI P i) = hI F i := onQ_corner hne h2
  have hs : SzP 200 (slopeT P F T[t]) := by
   have := slope_Sz hM rfl hFs hmem
   exact ⟨this.1.mono (by omega), this.2.mono (by omega)⟩
  have h5 := value_in w vp vt vf P T 2 F h (ptI P i) ⟨(zP i).1.mono (by omega), (zP i).2.mono (by omega)⟩ t l h3 ht hs (by rw [ho]; exact (zF i).mono (by omega)) hg
  rw [ho] at h5
  exact h5
 have HV : ∀ (D : List Rat), (∀ q ∈ D, Sz 2 q) → ∀ (t : Nat) (l : List Int), locN P T (qx, qy) T.length = (t : Int) :: l → ∀ ht : t < T.length, ∀ w vp vt vf, FieldIn w vp vt vf P T 2 D → Good w → Calls Tryz.prog 21 #[.agg #[vp, vt], vf, .agg #[.string (RS qx), .string (RS qy)]] w (Ret (fun r _ => r = .tuple #[.string (RS (onQ P D T[t] (qx, qy))), .int .i64 0]) w) := fun D hD t l hl ht w vp vt vf h hg => by
  have hmem : T[t] ∈ T := List.getElem_mem ht
  have hs : SzP 200 (slopeT P D T[t]) := by
   have := slope_Sz hM rfl hD hmem
   exact ⟨this.1.mono (by omega), this.2.mono (by omega)⟩
  exact value_in w vp vt vf P T 2 D h (qx, qy) hp2 t l hl ht hs (onQ_Sz hM hD hmem hp) hg
 cases hl : locN P T (qx, qy) T.length with
 | nil =>
   exact fieldLaws_walk w kz s0 s1 half a0 a1 a2 a3 a4 a5 ah b0 b1 b2 b3 b4 b5 bh x y P T F G hFl hGl hP0 hP6 hT0 hT8 hM hFs hGs false (RS qx) (RS qy) ⟨#[]⟩ ⟨#[]⟩ ⟨#[]⟩ _ _ _ HMK hA hB HAD HPL
    (fun w vp vt vf h hg => value_out w vp vt vf P T 2 F h (qx, qy) hp2 hl hg) (fun w vp vt vf h hg => value_out w vp vt vf P T 2 G h (qx, qy) hp2 hl hg) (fun w vp vt vf h hg => value_out w vp vt vf P T 2 (sumQ F G) h (qx, qy) hp2 hl hg)
    (fun h => by cases h) HVK HX1 HX2 HFS HFM hg
 | cons z l =>
   have hzm : z ∈ locN P T (qx, qy) T.length := by rw [hl]; exact List.mem_cons_self ..
   obtain ⟨t, ht, rfl⟩ : ∃ t : Nat, t < T.length ∧ z = (t : Int) := by
    unfold locN at hzm
    obtain ⟨t, ht, rfl⟩ := List.mem_map.1 hzm
    exact ⟨t, List.mem_range.1 (List.mem_filter.1 ht).1, rfl⟩
   have hmem : T[t] ∈ T := List.getElem_mem ht
   refine fieldLaws_walk w kz s0 s1 half a0 a1 a2 a3 a4 a5 ah b0 b1 b2 b3 b4 b5 bh x y P T F G hFl hGl hP0 hP6 hT0 hT8 hM hFs hGs true (RS qx) (RS qy) (RS (onQ P F T[t] (qx, qy))) (RS (onQ P G T[t] (qx, qy))) (RS (onQ P (sumQ F G) T[t] (qx, qy))) _ _ _ HMK hA hB HAD HPL
    (HV F hFs t l hl ht) (HV G hGs t l hl ht) (HV (sumQ F G) zS t l hl ht) (fun _ w hg => ?_) HVK HX1 HX2 HFS HFM hg
   rw [onQ_sum (by omega)]
   exact addQ_any _ _ 200 (by omega) (by omega) (onQ_Sz hM hFs hmem hp) (onQ_Sz hM hGs hmem hp) w hg
end Go.Proofs.YtegiemcnfbchoaaGreatDoor
