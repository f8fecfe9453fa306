/- The walks over the predicate of mesh.Along and over slices.IndexFunc at spans. -/
import Derived.Test.YtdhcliekejiegaaGreatDoorM6
namespace Go.Proofs.YtdhcliekejiegaaGreatDoor
open Go.RowKit Go.Lib

/-- A span: a triangle, and the shares between which it lies. -/
abbrev SpanQ := Nat × Rat × Rat
def cellS (s : SpanQ) : List Value := [.int .i64 (s.1 : Int), .string (RS s.2.1), .string (RS s.2.2)]
def cellsS (l : List SpanQ) : List Value := l.flatMap cellS
def RdSp (w : World) (v : Value) (l : List SpanQ) : Prop := RdC 3 w v l.length (cellsS l)
theorem cellsS_snoc (l : List SpanQ) (s : SpanQ) : cellsS (l ++ [s]) = cellsS l ++ cellS s := by simp [cellsS]
theorem cellsS_get (l : List SpanQ) (i : Nat) (s : SpanQ) (h : l[i]? = some s) (k : Nat) (hk : k < 3) : (cellsS l)[i * 3 + k]? = (cellS s)[k]? := by
  unfold cellsS
  rw [getElem?_flatMap_const cellS 3 (fun _ => rfl) l i k hk, h]
  rfl
theorem RdSp.cells {w : World} {v : Value} {l : List SpanQ} (h : RdSp w v l) : ∃ p c, v = .slice p l.length c ∧ (l ≠ [] → ∃ b off, p = some ⟨b, off, none⟩ ∧ b < w.heap.size ∧
    ∀ i s, l[i]? = some s → w.cell? ⟨b, off + i * 3, none⟩ = some (.int .i64 (s.1 : Int)) ∧ w.cell? ⟨b, off + i * 3 + 1, none⟩ = some (.string (RS s.2.1)) ∧ w.cell? ⟨b, off + i * 3 + 2, none⟩ = some (.string (RS s.2.2))) := by
  obtain ⟨p, c, hv, _, _, _, h4⟩ := h
  refine ⟨p, c, hv, fun hne => ?_⟩
  have hne2 : cellsS l ≠ [] := by
    intro e
    rcases l with _ | ⟨a, l⟩
    · exact hne rfl
    · simp [cellsS, cellS] at e
  obtain ⟨b, off, hp, hc⟩ := h4 hne2
  have key : ∀ i s, l[i]? = some s → w.cell? ⟨b, off + i * 3, none⟩ = some (.int .i64 (s.1 : Int)) ∧ w.cell? ⟨b, off + i * 3 + 1, none⟩ = some (.string (RS s.2.1)) ∧ w.cell? ⟨b, off + i * 3 + 2, none⟩ = some (.string (RS s.2.2)) := fun i s hs => by
    have k0 := hc (i * 3 + 0) _ ((cellsS_get l i s hs 0 (by omega)).trans rfl)
    have k1 := hc (i * 3 + 1) _ ((cellsS_get l i s hs 1 (by omega)).trans rfl)
    have k2 := hc (i * 3 + 2) _ ((cellsS_get l i s hs 2 (by omega)).trans rfl)
    rw [← Nat.add_assoc] at k0 k1 k2
    exact ⟨k0, k1, k2⟩
  refine ⟨b, off, hp, ?_, key⟩
  obtain ⟨s, hs⟩ : ∃ s, l[0]? = some s := ⟨_, List.getElem?_eq_getElem (List.length_pos_iff.2 hne)⟩
  exact World.block_lt_of_cell? w _ (key 0 s hs).1

/-- A span covers a part. -/
def coverB (x y : Rat) (s : SpanQ) : Bool := decide (s.2.1 ≤ x) && decide (y ≤ s.2.2)
theorem cmpQ_le0 (p q : Rat) : decide (cmpQ p q ≤ 0) = decide (p ≤ q) := by
  have h := cmpQ_pos p q
  by_cases h1 : p ≤ q
  · rw [decide_eq_true h1, decide_eq_true]
    have : ¬ 0 < cmpQ p q := fun h2 => absurd (h.1 h2) (Rat.not_lt.2 h1)
    omega
  · rw [decide_eq_false h1, decide_eq_false]
    have := h.2 (Rat.not_le.1 h1)
    omega

set_option maxHeartbeats 1000000 in
set_option maxRecDepth 100000 in
theorem alongF_any (w : World) (s : SpanQ) (hs1 : Sz 200 s.2.1) (hs2 : Sz 200 s.2.2) (Be Bi g n cap ip : Nat) (x y : Rat) (zx : Sz 200 x) (zy : Sz 200 y) (hip : ip + 1 < n) (hn : n ≤ 1000)
    (ce : w.cell? ⟨Be, 0, none⟩ = some (.slice (some ⟨g, 0, none⟩) n cap)) (ci : w.cell? ⟨Bi, 0, none⟩ = some (.int .i64 ((ip : Int) + 1))) (cx : w.cell? ⟨g, ip, none⟩ = some (.string (RS x))) (cy : w.cell? ⟨g, ip + 1, none⟩ = some (.string (RS y))) (hg : Good w) :
    Calls Tryz.prog 109 #[.agg #[.int .i64 (s.1 : Int), .string (RS s.2.1), .string (RS s.2.2)], .pointer (some ⟨Be, 0, none⟩), .pointer (some ⟨Bi, 0, none⟩)] w (Ret (fun r _ => r = .bool (coverB x y s)) w) := by
  have H1 : Hid (∀ w, Good w → _) := fun w hg => ratCompare_any s.2.1 x 200 (by omega) (by omega) hs1 zx w hg
  have H2 : Hid (∀ w, Good w → _) := fun w hg => ratCompare_any y s.2.2 200 (by omega) (by omega) zy hs2 w hg
  have E1 := cmpQ_le0 s.2.1 x
  have E2 := cmpQ_le0 y s.2.2
  have HE : Hid (coverB x y s = (decide (cmpQ s.2.1 x ≤ 0) && decide (cmpQ y s.2.2 ≤ 0))) := by unfold Hid coverB; rw [E1, E2]
  rw [HE.out]
  have hzr := cmpQ_range s.2.1 x
  generalize cmpQ s.2.1 x = z1 at *
  generalize cmpQ y s.2.2 = z2 at *
  generalize RS s.2.1 = sf at *
  generalize RS s.2.2 = st at *
  generalize RS x = sx at *
  generalize RS y = sy at *
  have hiz1 : (ip : Int) + 1 < (n : Int) := by omega
  have hiz2 : (ip : Int) < (n : Int) := by omega
  have hiz3 : (0 : Int) ≤ (ip : Int) + 1 := by omega
  have hw1 : IntKind.i64.wrap ((ip : Int) + 1 - 1) = (ip : Int) := by rw [show (ip : Int) + 1 - 1 = (ip : Int) by omega]; exact IntWalk.i64_in _ (by omega)
  have hw2 : IntKind.i64.wrap (ip : Int) = (ip : Int) := IntWalk.i64_in _ (by omega)
  have hw3 : ((ip : Int) + 1).toNat = ip + 1 := by omega
  clear E1 E2 HE hs1 hs2 zx zy hip hn
  by_cases hz : z1 ≤ 0
  · have hd1 : decide (z1 ≤ 0) = true := decide_eq_true hz
    rw [hd1, Bool.true_and]
    clear hz
    go_enter Tryz.func109, Tryz.ntmps109
    go_wp2_with fail
    obtain ⟨W, hW⟩ : ∃ W, W = w.alloc (.cells #[.int .i64 (s.1 : Int), .string sf, .string st] 104) := ⟨_, rfl⟩
    have hB : Below w.heap.size w W := by rw [hW]; exact (Below.refl _ _).alloc (Nat.le_refl _) _
    have b3 : BoxN W w.heap.size 104 [.int .i64 (s.1 : Int), .string sf, .string st] := by rw [hW]; exact BoxN.new _ _ _ _ rfl
    have le := World.block_lt_of_cell? w _ ce
    have li := World.block_lt_of_cell? w _ ci
    have lg := World.block_lt_of_cell? w _ cx
    rw [← hW]
    clear hW
    have d0 := b3.cell 1 rfl
    have d1 := b3.cell 2 rfl
    have d2 := (hB.cell (p := ⟨Be, 0, none⟩) le).trans ce
    have d3 := (hB.cell (p := ⟨Bi, 0, none⟩) li).trans ci
    have d4 := (hB.cell (p := ⟨g, ip, none⟩) lg).trans cx
    have d5 := (hB.cell (p := ⟨g, ip + 1, none⟩) lg).trans cy
    have hzW := b3.lt
    have hle : Be < W.heap.size := Nat.lt_trans le hzW
    have hli : Bi < W.heap.size := Nat.lt_trans li hzW
    have hlg : g < W.heap.size := Nat.lt_trans lg hzW
    have hgd : Good W.drew := (hg.below hB).drewN 1
    clear ce ci cx cy le li lg b3
    go_region_held3 (fun w' => w'.cell? ⟨w.heap.size, 1, none⟩ = some (.string sf) ∧ w'.cell? ⟨w.heap.size, 2, none⟩ = some (.string st) ∧ w'.cell? ⟨Be, 0, none⟩ = some (.slice (some ⟨g, 0, none⟩) n cap) ∧ w'.cell? ⟨Bi, 0, none⟩ = some (.int .i64 ((ip : Int) + 1)) ∧ w'.cell? ⟨g, ip, none⟩ = some (.string sx) ∧ w'.cell? ⟨g, ip + 1, none⟩ = some (.string sy))
      (first | exact ⟨d0, d1, d2, d3, d4, d5⟩ | exact ⟨p_1_0, p_1_1, p_1_2, p_1_3, p_1_4, p_1_5⟩ | exact ⟨p_2_0, p_2_1, p_2_2, p_2_3, p_2_4, p_2_5⟩)
      (first
      | (go_at_call 96; refine (H2.out _ pg1).mono ?_; rintro e pw2 ⟨_, rfl, rfl, pb2⟩
         have p_2_0 := (pb2.cell (p := ⟨w.heap.size, 1, none⟩) (by show w.heap.size < pw1.heap.size; omega)).trans p_1_0
         have p_2_1 := (pb2.cell (p := ⟨w.heap.size, 2, none⟩) (by show w.heap.size < pw1.heap.size; omega)).trans p_1_1
         have p_2_2 := (pb2.cell (p := ⟨Be, 0, none⟩) (by show Be < pw1.heap.size; omega)).trans p_1_2
         have p_2_3 := (pb2.cell (p := ⟨Bi, 0, none⟩) (by show Bi < pw1.heap.size; omega)).trans p_1_3
         have p_2_4 := (pb2.cell (p := ⟨g, ip, none⟩) (by show g < pw1.heap.size; omega)).trans p_1_4
         have p_2_5 := (pb2.cell (p := ⟨g, ip + 1, none⟩) (by show g < pw1.heap.size; omega)).trans p_1_5
         have ps2 : pw1.heap.size ≤ pw2.heap.size := pb2.size
         have pg2 : Good pw2 := pg1.below pb2)
      | (go_at_call 96; refine (H1.out _ hgd).mono ?_; rintro e pw1 ⟨_, rfl, rfl, pb1⟩
         have p_1_0 := (pb1.cell (p := ⟨w.heap.size, 1, none⟩) (by show w.heap.size < W.heap.size; omega)).trans d0
         have p_1_1 := (pb1.cell (p := ⟨w.heap.size, 2, none⟩) (by show w.heap.size < W.heap.size; omega)).trans d1
         have p_1_2 := (pb1.cell (p := ⟨Be, 0, none⟩) (by show Be < W.heap.size; omega)).trans d2
         have p_1_3 := (pb1.cell (p := ⟨Bi, 0, none⟩) (by show Bi < W.heap.size; omega)).trans d3
         have p_1_4 := (pb1.cell (p := ⟨g, ip, none⟩) (by show g < W.heap.size; omega)).trans d4
         have p_1_5 := (pb1.cell (p := ⟨g, ip + 1, none⟩) (by show g < W.heap.size; omega)).trans d5
         have ps1 : W.heap.size ≤ pw1.heap.size := pb1.size
         have pg1 : Good pw1 := hgd.below pb1))
    have pB : Below W.heap.size W pw2 := (((below_drewN W 1).trans (pb1.mono (by show W.heap.size ≤ W.heap.size; omega))).trans (pb2.mono (by show W.heap.size ≤ pw1.heap.size; omega)))
    go_wp2_with fail
    go_ret
    exact ⟨_, rfl, rfl, hB.trans (pB.mono hB.size)⟩
  · have hd1 : decide (z1 ≤ 0) = false := decide_eq_false hz
    rw [hd1, Bool.false_and]
    obtain rfl : z1 = 1 := by omega
    clear hd1 hz
    go_enter Tryz.func109, Tryz.ntmps109
    go_wp2_with fail
    obtain ⟨W, hW⟩ : ∃ W, W = w.alloc (.cells #[.int .i64 (s.1 : Int), .string sf, .string st] 104) := ⟨_, rfl⟩
    have hB : Below w.heap.size w W := by rw [hW]; exact (Below.refl _ _).alloc (Nat.le_refl _) _
    have b3 : BoxN W w.heap.size 104 [.int .i64 (s.1 : Int), .string sf, .string st] := by rw [hW]; exact BoxN.new _ _ _ _ rfl
    have le := World.block_lt_of_cell? w _ ce
    have li := World.block_lt_of_cell? w _ ci
    have lg := World.block_lt_of_cell? w _ cx
    rw [← hW]
    clear hW
    have d0 := b3.cell 1 rfl
    have d1 := b3.cell 2 rfl
    have d2 := (hB.cell (p := ⟨Be, 0, none⟩) le).trans ce
    have d3 := (hB.cell (p := ⟨Bi, 0, none⟩) li).trans ci
    have d4 := (hB.cell (p := ⟨g, ip, none⟩) lg).trans cx
    have d5 := (hB.cell (p := ⟨g, ip + 1, none⟩) lg).trans cy
    have hzW := b3.lt
    have hle : Be < W.heap.size := Nat.lt_trans le hzW
    have hli : Bi < W.heap.size := Nat.lt_trans li hzW
    have hlg : g < W.heap.size := Nat.lt_trans lg hzW
    have hgd : Good W.drew := (hg.below hB).drewN 1
    clear ce ci cx cy le li lg b3
    have HF : Hid (∀ w', Below W.heap.size W w' → w'.cell? ⟨w.heap.size, 1, none⟩ = some (.string sf) ∧ w'.cell? ⟨Be, 0, none⟩ = some (.slice (some ⟨g, 0, none⟩) n cap) ∧ w'.cell? ⟨Bi, 0, none⟩ = some (.int .i64 ((ip : Int) + 1)) ∧ w'.cell? ⟨g, ip, none⟩ = some (.string sx)) := fun w' hb => ⟨(hb.cell (p := ⟨w.heap.size, 1, none⟩) hzW).trans d0, (hb.cell (p := ⟨Be, 0, none⟩) hle).trans d2, (hb.cell (p := ⟨Bi, 0, none⟩) hli).trans d3, (hb.cell (p := ⟨g, ip, none⟩) hlg).trans d4⟩
    have b0 : Below W.heap.size W W.drew := below_drewN W 1
    refine wp_region_held_drew (S := (fun w' => w'.cell? ⟨w.heap.size, 1, none⟩ = some (.string sf) ∧ w'.cell? ⟨Be, 0, none⟩ = some (.slice (some ⟨g, 0, none⟩) n cap) ∧ w'.cell? ⟨Bi, 0, none⟩ = some (.int .i64 ((ip : Int) + 1)) ∧ w'.cell? ⟨g, ip, none⟩ = some (.string sx))) (by kernel_rfl) ?_ (fun hHeld => ?_)
    · (refine HF.out _ ?_; assumption)
    refine wpAnyH_take (i := 0) (oi := _) (v := ?_) rfl (by kernel_rfl) (by kernel_rfl) (by kernel_rfl) (fun _ _ _ h => h) (Or.inl ⟨by rfl, ?_⟩) (by assumption) ?_
    rotate_left
    · intro w hSw; (try dsimp only at hSw); first | (go_simp; done) | (go_simp; with_reducible rfl)
    try simp only [Act.put, List.getElem_toArray, List.getElem_cons_zero, List.setIfInBounds_toArray, List.set_cons_zero, List.set_cons_succ]
    refine wpAnyH_take (i := 1) (oi := _) (v := ?_) rfl (by kernel_rfl) (by kernel_rfl) (by kernel_rfl) (fun _ _ _ h => h) (Or.inl ⟨by rfl, ?_⟩) (by assumption) ?_
    rotate_left
    · intro w hSw; (try dsimp only at hSw); first | (go_simp; done) | (go_simp; with_reducible rfl)
    try simp only [Act.put, List.getElem_toArray, List.getElem_cons_zero, List.getElem_cons_succ, List.setIfInBounds_toArray, List.set_cons_zero, List.set_cons_succ]
    refine wpAnyH_take (i := 2) (oi := _) (v := ?_) rfl (by kernel_rfl) (by kernel_rfl) (by kernel_rfl) (fun _ _ _ h => h) (Or.inl ⟨by rfl, ?_⟩) (by assumption) ?_
    rotate_left
    · intro w hSw; (try dsimp only at hSw); first | (go_simp; done) | (go_simp; with_reducible rfl)
    try simp only [Act.put, List.getElem_toArray, List.getElem_cons_zero, List.getElem_cons_succ, List.setIfInBounds_toArray, List.set_cons_zero, List.set_cons_succ]
    refine wpAnyH_take (i := 3) (oi := _) (v := ?_) rfl (by kernel_rfl) (by kernel_rfl) (by kernel_rfl) (fun _ _ _ h => h) (Or.inl ⟨by rfl, ?_⟩) (by assumption) ?_
    rotate_left
    · intro w hSw; (try dsimp only at hSw); first | (go_simp; done) | (go_simp; with_reducible rfl)
    try simp only [Act.put, List.getElem_toArray, List.getElem_cons_zero, List.getElem_cons_succ, List.setIfInBounds_toArray, List.set_cons_zero, List.set_cons_succ]
    refine wpAnyH_take (i := 4) (oi := _) (v := ?_) rfl (by kernel_rfl) (by kernel_rfl) (by kernel_rfl) (fun _ _ _ h => h) (Or.inl ⟨by rfl, ?_⟩) (by assumption) ?_
    rotate_left
    · intro w hSw; (try dsimp only at hSw); first | (go_simp; done) | (go_simp; with_reducible rfl)
    try simp only [Act.put, List.getElem_toArray, List.getElem_cons_zero, List.getElem_cons_succ, List.setIfInBounds_toArray, List.set_cons_zero, List.set_cons_succ]
    refine wpAnyH_take (i := 5) (oi := _) (v := ?_) rfl (by kernel_rfl) (by kernel_rfl) (by kernel_rfl) (fun _ _ _ h => h) (Or.inl ⟨by rfl, ?_⟩) (by assumption) ?_
    rotate_left
    · intro w hSw; (try dsimp only at hSw); first | (go_simp; done) | (go_simp; with_reducible rfl)
    try simp only [Act.put, List.getElem_toArray, List.getElem_cons_zero, List.getElem_cons_succ, List.setIfInBounds_toArray, List.set_cons_zero, List.set_cons_succ]
    refine wpAnyH_take (i := 6) (oi := _) (v := ?_) rfl (by kernel_rfl) (by kernel_rfl) (by kernel_rfl) (fun _ _ _ h => h) (Or.inl ⟨by rfl, ?_⟩) (by assumption) ?_
    rotate_left
    · intro w hSw; (try dsimp only at hSw); first | (go_simp; done) | (go_simp; with_reducible rfl)
    try simp only [Act.put, List.getElem_toArray, List.getElem_cons_zero, List.getElem_cons_succ, List.setIfInBounds_toArray, List.set_cons_zero, List.set_cons_succ]
    refine wpAnyH_ready (rs := [7]) (by kernel_rfl) (by simp) ?_
    refine AllReadyH.cons (o := _) rfl (fun K hK => ?_) AllReadyH.nil
    go_simp
    (refine (H1.out _ hgd).mono ?_; rintro e w4 ⟨_, rfl, rfl, hb4⟩; have h4 : Below W.heap.size W w4 := b0.trans hb4)
    refine hK.out _ _ ?_ (fun hHeld => ?_)
    · (refine HF.out _ ?_; assumption)
    clear hK K
    try simp only [Act.put, List.getElem_toArray, List.getElem_cons_zero, List.getElem_cons_succ, List.setIfInBounds_toArray, List.set_cons_zero, List.set_cons_succ]
    refine wpAnyH_take (i := 8) (oi := _) (v := ?_) rfl (by kernel_rfl) (by kernel_rfl) (by kernel_rfl) (fun _ _ _ h => h) (Or.inl ⟨by rfl, ?_⟩) (by assumption) ?_
    rotate_left
    · intro w hSw; (try dsimp only at hSw); first | (go_simp; done) | (go_simp; with_reducible rfl)
    try simp only [Act.put, List.getElem_toArray, List.getElem_cons_zero, List.getElem_cons_succ, List.setIfInBounds_toArray, List.set_cons_zero, List.set_cons_succ]
    refine wpAnyH_take (i := 9) (oi := _) (v := ?_) rfl (by kernel_rfl) (by kernel_rfl) (by kernel_rfl) (fun _ _ _ h => h) (Or.inl ⟨by rfl, ?_⟩) (by assumption) ?_
    rotate_left
    · intro w hSw; (try dsimp only at hSw); first | (go_simp; done) | (go_simp; with_reducible rfl)
    try simp only [Act.put, List.getElem_toArray, List.getElem_cons_zero, List.getElem_cons_succ, List.setIfInBounds_toArray, List.set_cons_zero, List.set_cons_succ]
    refine wpAnyH_take (i := 10) (oi := _) (v := undef) rfl (by kernel_rfl) (by kernel_rfl) (by kernel_rfl) (fun _ _ _ h => h) (Or.inr ⟨by rfl, rfl⟩) (by assumption) ?_
    try simp only [Act.put, List.getElem_toArray, List.getElem_cons_zero, List.getElem_cons_succ, List.setIfInBounds_toArray, List.set_cons_zero, List.set_cons_succ]
    refine wpAnyH_take (i := 11) (oi := _) (v := undef) rfl (by kernel_rfl) (by kernel_rfl) (by kernel_rfl) (fun _ _ _ h => h) (Or.inr ⟨by rfl, rfl⟩) (by assumption) ?_
    try simp only [Act.put, List.getElem_toArray, List.getElem_cons_zero, List.getElem_cons_succ, List.setIfInBounds_toArray, List.set_cons_zero, List.set_cons_succ]
    refine wpAnyH_take (i := 12) (oi := _) (v := undef) rfl (by kernel_rfl) (by kernel_rfl) (by kernel_rfl) (fun _ _ _ h => h) (Or.inr ⟨by rfl, rfl⟩) (by assumption) ?_
    try simp only [Act.put, List.getElem_toArray, List.getElem_cons_zero, List.getElem_cons_succ, List.setIfInBounds_toArray, List.set_cons_zero, List.set_cons_succ]
    refine wpAnyH_take (i := 13) (oi := _) (v := undef) rfl (by kernel_rfl) (by kernel_rfl) (by kernel_rfl) (fun _ _ _ h => h) (Or.inr ⟨by rfl, rfl⟩) (by assumption) ?_
    try simp only [Act.put, List.getElem_toArray, List.getElem_cons_zero, List.getElem_cons_succ, List.setIfInBounds_toArray, List.set_cons_zero, List.set_cons_succ]
    refine wpAnyH_take (i := 14) (oi := _) (v := undef) rfl (by kernel_rfl) (by kernel_rfl) (by kernel_rfl) (fun _ _ _ h => h) (Or.inr ⟨by rfl, rfl⟩) (by assumption) ?_
    try simp only [Act.put, List.getElem_toArray, List.getElem_cons_zero, List.getElem_cons_succ, List.setIfInBounds_toArray, List.set_cons_zero, List.set_cons_succ]
    refine wpAnyH_take (i := 15) (oi := _) (v := undef) rfl (by kernel_rfl) (by kernel_rfl) (by kernel_rfl) (fun _ _ _ h => h) (Or.inr ⟨by rfl, rfl⟩) (by assumption) ?_
    try simp only [Act.put, List.getElem_toArray, List.getElem_cons_zero, List.getElem_cons_succ, List.setIfInBounds_toArray, List.set_cons_zero, List.set_cons_succ]
    refine wpAnyH_ready (rs := [16]) (by kernel_rfl) (by simp) ?_
    refine AllReadyH.cons (o := _) rfl (fun K hK => ?_) AllReadyH.nil
    go_simp
    refine hK.out _ _ (by assumption) (fun hHeld => ?_)
    clear hK K
    try simp only [Act.put, List.getElem_toArray, List.getElem_cons_zero, List.getElem_cons_succ, List.setIfInBounds_toArray, List.set_cons_zero, List.set_cons_succ]
    refine wpAnyH_take (i := 17) (oi := _) (v := undef) rfl (by kernel_rfl) (by kernel_rfl) (by kernel_rfl) (fun _ _ _ h => h) (Or.inr ⟨by rfl, rfl⟩) (by assumption) ?_
    try simp only [Act.put, List.getElem_toArray, List.getElem_cons_zero, List.getElem_cons_succ, List.setIfInBounds_toArray, List.set_cons_zero, List.set_cons_succ]
    refine wpAnyH_take (i := 18) (oi := _) (v := ?_) rfl (by kernel_rfl) (by kernel_rfl) (by kernel_rfl) (fun _ _ _ h => h) (Or.inl ⟨by rfl, ?_⟩) (by assumption) ?_
    rotate_left
    · intro w hSw; (try dsimp only at hSw); first | (go_simp; done) | (go_simp; with_reducible rfl)
    try simp only [Act.put, List.getElem_toArray, List.getElem_cons_zero, List.getElem_cons_succ, List.setIfInBounds_toArray, List.set_cons_zero, List.set_cons_succ]
    refine wpAnyH_take (i := 19) (oi := _) (v := ?_) rfl (by kernel_rfl) (by kernel_rfl) (by kernel_rfl) (fun _ _ _ h => h) (Or.inl ⟨by rfl, ?_⟩) (by assumption) ?_
    rotate_left
    · intro w hSw; (try dsimp only at hSw); first | (go_simp; done) | (go_simp; with_reducible rfl)
    try simp only [Act.put, List.getElem_toArray, List.getElem_cons_zero, List.getElem_cons_succ, List.setIfInBounds_toArray, List.set_cons_zero, List.set_cons_succ]
    refine wpAnyH_done (by kernel_rfl) ?_ _
    go_wp2_with fail
    go_ret
    exact ⟨_, rfl, rfl, hB.trans (h4.mono hB.size)⟩

/-- The first span that covers a part. -/
def findK (x y : Rat) (A : List SpanQ) : Option Nat := A.findIdx? (coverB x y)

set_option maxHeartbeats 1000000 in
set_option maxRecDepth 100000 in
theorem indexSpan_any (w : World) (va : Value) (A : List SpanQ) (hA : RdSp w va A) (hAl : A.length ≤ 1000) (hsz : ∀ s ∈ A, Sz 200 s.2.1 ∧ Sz 200 s.2.2) (Be Bi g n cap ip : Nat) (x y : Rat) (zx : Sz 200 x) (zy : Sz 200 y) (hip : ip + 1 < n) (hn : n ≤ 1000)
    (ce : w.cell? ⟨Be, 0, none⟩ = some (.slice (some ⟨g, 0, none⟩) n cap)) (ci : w.cell? ⟨Bi, 0, none⟩ = some (.int .i64 ((ip : Int) + 1))) (cx : w.cell? ⟨g, ip, none⟩ = some (.string (RS x))) (cy : w.cell? ⟨g, ip + 1, none⟩ = some (.string (RS y))) (hg : Good w) :
    Calls Tryz.prog 108 #[va, .func (.func 109) #[] #[.pointer (some ⟨Be, 0, none⟩), .pointer (some ⟨Bi, 0, none⟩)]] w (Ret (fun r _ => (∃ k, findK x y A = some k ∧ k < A.length ∧ r = .int .i64 (k : Int)) ∨ (findK x y A = none ∧ r = .int .i64 (-1))) w) := by
  have le := World.block_lt_of_cell? w _ ce
  have li := World.block_lt_of_cell? w _ ci
  have lg := World.block_lt_of_cell? w _ cx
  have HF : Hid (∀ s ∈ A, ∀ w', Below w.heap.size w w' → Calls Tryz.prog 109 #[.agg #[.int .i64 (s.1 : Int), .string (RS s.2.1), .string (RS s.2.2)], .pointer (some ⟨Be, 0, none⟩), .pointer (some ⟨Bi, 0, none⟩)] w' (Ret (fun r _ => r = .bool (coverB x y s)) w')) := fun s hs w' hb =>
    alongF_any w' s (hsz s hs).1 (hsz s hs).2 Be Bi g n cap ip x y zx zy hip hn ((hb.cell (p := ⟨Be, 0, none⟩) le).trans ce) ((hb.cell (p := ⟨Bi, 0, none⟩) li).trans ci) ((hb.cell (p := ⟨g, ip, none⟩) lg).trans cx) ((hb.cell (p := ⟨g, ip + 1, none⟩) lg).trans cy) (hg.below hb)
  obtain ⟨pa, ca, rfl, hcell⟩ := hA.cells
  have HCL := Lib.hid hcell
  have HFK : Hid (∀ k s, A[k]? = some s → coverB x y s = true → (∀ j t, j < k → A[j]? = some t → coverB x y t = false) → findK x y A = some k) := fun k s hk hc hno => by
    obtain ⟨hlt, rfl⟩ := List.getElem?_eq_some_iff.1 hk
    unfold findK
    rw [List.findIdx?_eq_some_iff_getElem]
    exact ⟨hlt, hc, fun j hj => by rw [hno j _ hj (List.getElem?_eq_getElem (by omega))]; simp⟩
  have HFN : Hid ((∀ j t, A[j]? = some t → coverB x y t = false) → findK x y A = none) := fun hno => by
    unfold findK
    rw [List.findIdx?_eq_none_iff]
    intro t ht
    obtain ⟨j, hj⟩ := List.mem_iff_getElem?.1 ht
    exact hno j t hj
  generalize findK x y A = fk at *
  clear hA hcell ce ci cx cy le li lg hsz zx zy hip hn
  go_enter Tryz.func108, Tryz.ntmps108
  go_wp2_with fail
  go_loopw [5, 8] (fun _ t8 wr => ∃ i : Nat, t8 = .int .i64 i ∧ i ≤ A.length ∧ Hid (∀ j t, j < i → A[j]? = some t → coverB x y t = false) ∧ Below w.heap.size w wr) (fun _ t8 _ => A.length - (RowKit.intOf t8).toNat)
  case atStart => exact ⟨0, rfl, Nat.zero_le _, (fun j t h => by omega), Below.refl _ _⟩
  case round =>
    obtain ⟨i, rfl, hi, HNO, hbr⟩ := hrel
    rcases Nat.lt_or_ge i A.length with h | h
    · obtain ⟨s, hs⟩ : ∃ s, A[i]? = some s := ⟨_, List.getElem?_eq_getElem h⟩
      obtain ⟨b, off, rfl, hbl, hc⟩ := HCL.out (List.ne_nil_of_length_pos (by omega))
      obtain ⟨k0, k1, k2⟩ := hc i s hs
      have d0 := (hbr.cell (p := ⟨b, off + i * 3, none⟩) hbl).trans k0
      have d1 := (hbr.cell (p := ⟨b, off + i * 3 + 1, none⟩) hbl).trans k1
      have d2 := (hbr.cell (p := ⟨b, off + i * 3 + 2, none⟩) hbl).trans k2
      have HC := Lib.hid (HF.out s (List.mem_of_getElem? hs) wr hbr)
      have hiz : (i : Int) < (A.length : Int) := by omega
      have HSI := Lib.hid hs
      clear hc k0 k1 k2 hs
      generalize hcb : coverB x y s = cb at HC
      have HCB := Lib.hid hcb
      clear hcb
      go_wp2_with fail
      refine HC.out.mono ?_
      rintro e w1 ⟨_, rfl, rfl, hb1⟩
      have hbr1 := hbr.trans (hb1.mono hbr.size)
      clear d0 d1 d2 hb1
      cases cb
      · have HN1 : Hid (∀ j t, j < i + 1 → A[j]? = some t → coverB x y t = false) := fun j t hj ht => by
          by_cases e : j = i
          · subst e; rw [HSI.out] at ht; cases ht; exact HCB.out
          · exact HNO.out j t (by omega) ht
        go_wp2_with fail
        go_roundw
        case rel => exact ⟨i + 1, by go_num, by omega, HN1, hbr1⟩
        case measure =>
          show A.length - ((i : Int) + 1).toNat < A.length - (i : Int).toNat
          omega
      · have HK := Lib.hid (HFK.out i s HSI.out HCB.out HNO.out)
        go_wp2_with fail
        go_ret
        exact ⟨_, rfl, .inl ⟨i, HK.out, h, rfl⟩, hbr1⟩
    · have HK := Lib.hid (HFN.out (fun j t ht => HNO.out j t (by have := (List.getElem?_eq_some_iff.1 ht).1; omega) ht))
      have hge : (A.length : Int) ≤ (i : Int) := by omega
      go_wp2_with fail
      go_ret
      exact ⟨_, rfl, .inr ⟨HK.out, rfl⟩, hbr⟩

end Go.Proofs.YtdhcliekejiegaaGreatDoor
