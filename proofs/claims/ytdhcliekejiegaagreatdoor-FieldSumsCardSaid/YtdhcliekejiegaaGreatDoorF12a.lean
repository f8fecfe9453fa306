import Derived.Test.YtdhcliekejiegaaGreatDoorF9
import Derived.BigRegion
set_option maxHeartbeats 8000000
set_option maxRecDepth 100000
namespace Go.Proofs.YtdhcliekejiegaaGreatDoor
open Go.RowKit Go.Lib List
theorem known13_any (w : World) (hg : Good w) :
 Calls Tryz.prog 19 #[] w (Ret (fun r _ => r = .bool true) w) := by
 have HA21 : Hid (∀ w, Good w → _) := fun w hg => ex_at 2 1 _ _ rs2 rs1 (by omega) (by omega) w hg
 have HA01 : Hid (∀ w, Good w → _) := fun w hg => ex_at 0 1 _ _ rs0 rs1 (by omega) (by omega) w hg
 have HA11 : Hid (∀ w, Good w → _) := fun w hg => ex_at 1 1 _ _ rs1 rs1 (by omega) (by omega) w hg
 have HA20 : Hid (∀ w, Good w → _) := fun w hg => ex_at 2 0 _ _ rs2 rs0 (by omega) (by omega) w hg
 go_enter Tryz.func19, Tryz.ntmps19
 go_wp2_with fail
 refine (example_any w hg).mono ?_
 rintro e o1 ⟨_, rfl, ⟨vp, vt, vf, rfl, hF⟩, hb1⟩
 have HF1 := Lib.hid hF
 obtain ⟨pp, cp, pt, ct, pf, cf, rfl, rfl, rfl⟩ := hF.open
 rw [show exP.length = 4 from rfl, show exT.length = 2 from rfl, show exF.length = 4 from rfl] at *
 clear hF
 go_upto_region 2 with fail
 obtain ⟨o2, ho2⟩ : ∃ W, W = o1.alloc (.cells #[.slice pp 4 cp, .slice pt 2 ct] 30) := ⟨_, rfl⟩
 have hb2 : Below o1.heap.size o1 o2 := by rw [ho2]; exact zal _ _
 have m2 : BoxN o2 o1.heap.size 30 [.slice pp 4 cp, .slice pt 2 ct] := by rw [ho2]; exact BoxN.new _ _ _ _ rfl
 rw [← ho2]
 clear ho2
 have hB2 := hb1.trans (hb2.mono hb1.size)
 have HFI : Hid (∀ w', Below o2.heap.size o2 w' → FieldIn w' (.slice pp 4 cp) (.slice pt 2 ct) (.slice pf 4 cf) exP exT 2 exF) := fun w' hb => HF1.out.below (hb2.trans (hb.mono hb2.size))
 have hgd : Good o2.drew := (hg.below hB2).drewN 1
 have x0 := m2.cell 0 rfl
 have x1 := m2.cell 1 rfl
 have hl2 := m2.lt
 clear HF1 hb1 hb2
 go_region_held3 (fun w' => w'.cell? ⟨o1.heap.size, 0, none⟩ = some (.slice pp 4 cp) ∧ w'.cell? ⟨o1.heap.size, 1, none⟩ = some (.slice pt 2 ct))
  (first | exact ⟨x0, x1⟩ | exact ⟨p_1_0, p_1_1⟩ | exact ⟨p_2_0, p_2_1⟩)
  (first
  | (go_at_call 21; refine (ex_value _ _ _ _ (HFI.out _ ((below_drewN o2 1).trans (pb1.mono (Nat.le_refl _)))) pg1).mono ?_; rintro e pw2 ⟨_, rfl, rfl, pb2⟩
     have p_2_0 := zct pb2 p_1_0
     have p_2_1 := zct pb2 p_1_1
     have ps2 : pw1.heap.size ≤ pw2.heap.size := pb2.size
     have pg2 : Good pw2 := pg1.below pb2)
  | (go_at_call 64; refine (HA21.out _ hgd).mono ?_; rintro e pw1 ⟨_, rfl, rfl, pb1⟩
     have p_1_0 := zct pb1 x0
     have p_1_1 := zct pb1 x1
     have ps1 : o2.heap.size ≤ pw1.heap.size := pb1.size
     have pg1 : Good pw1 := hgd.below pb1))
 have pB : Below o2.heap.size o2 pw2 := zbt (zbt (below_drewN o2 1) pb1) pb2
 have hB3 := hB2.trans (pB.mono hB2.size)
 have m3 := m2.below pB m2.lt
 have HF3 : Hid (∀ w', Below pw2.heap.size pw2 w' → FieldIn w' (.slice pp 4 cp) (.slice pt 2 ct) (.slice pf 4 cf) exP exT 2 exF) := fun w' hb => HFI.out w' (pB.trans (hb.mono pB.size))
 obtain ⟨o3, ho3⟩ : ∃ W, W = pw2 := ⟨_, rfl⟩
 rw [← ho3] at hB3 m3 HF3 ⊢
 clear ho3 x0 x1 HFI hgd pB pb1 pb2 pg1 pg2 ps1 ps2 p_1_0 p_1_1 p_2_0 p_2_1
 have x0 := m3.cell 0 rfl
 have x1 := m3.cell 1 rfl
 go_wp2_with fail
 refine (ex_slope0 o3 _ _ _ (HF3.out o3 (Below.refl _ _)) (hg.below hB3)).mono ?_
 rintro e o4 ⟨_, rfl, rfl, hb4⟩
 have hB4 := hB3.trans (hb4.mono hB3.size)
 have m4 := m3.below hb4 m3.lt
 clear x0 x1
 go_upto_region 4 with fail
 obtain ⟨o5, ho5⟩ : ∃ W, W = o4.alloc (.cells #[.string ⟨#[49]⟩, .string ⟨#[49]⟩] 59) := ⟨_, rfl⟩
 have hb5 : Below o4.heap.size o4 o5 := by rw [ho5]; exact zal _ _
 have s5 : BoxN o5 o4.heap.size 59 [.string ⟨#[49]⟩, .string ⟨#[49]⟩] := by rw [ho5]; exact BoxN.new _ _ _ _ rfl
 rw [← ho5]
 clear ho5
 have hB5 := hB4.trans (hb5.mono hB4.size)
 have m5 := m4.below hb5 m4.lt
 have h35 := hb4.trans (hb5.mono hb4.size)
 have x0 := m5.cell 0 rfl
 have x1 := m5.cell 1 rfl
 go_wp2_with fail
 refine (ex_level2 o5 _ _ _ (HF3.out o5 h35) (hg.below hB5)).mono ?_
 rintro e o6 ⟨_, rfl, ⟨bl, ol, cl, rfl, ll6, y0, y1, y2, y3, y4⟩, hb6⟩
 have hB6 := hB5.trans (hb6.mono hB5.size)
 have m6 := m5.below hb6 m5.lt
 have s6 := s5.below hb6 s5.lt
 have h36 := h35.trans (hb6.mono h35.size)
 clear x0 x1
 have x0 := m6.cell 0 rfl
 have x1 := m6.cell 1 rfl
 go_wp2_with fail
 refine (ex_volume o6 _ _ _ (HF3.out o6 h36) (hg.below hB6)).mono ?_
 rintro e o7 ⟨_, rfl, rfl, hb7⟩
 have hB7 := hB6.trans (hb7.mono hB6.size)
 have m7 := m6.below hb7 m6.lt
 have s7 := s6.below hb7 s6.lt
 have h37 := h36.trans (hb7.mono h36.size)
 have HY7 : Hid (∀ w', Below o7.heap.size o7 w' → w'.cell? ⟨bl, ol, none⟩ = some (.int .i64 0) ∧ w'.cell? ⟨bl, ol + 1, none⟩ = some (.string ⟨#[49]⟩) ∧ w'.cell? ⟨bl, ol + 2, none⟩ = some (.string ⟨#[49]⟩) ∧ w'.cell? ⟨bl, ol + 3, none⟩ = some (.string ⟨#[50]⟩) ∧ w'.cell? ⟨bl, ol + 4, none⟩ = some (.string ⟨#[48]⟩)) := fun w' hb => by
  have h := hb7.trans (hb.mono hb7.size)
  exact ⟨(zcq h ll6 y0 :), (zcq h ll6 y1 :), (zcq h ll6 y2 :), (zcq h ll6 y3 :), (zcq h ll6 y4 :)⟩
 have ll7 : bl < o7.heap.size := Nat.lt_of_lt_of_le ll6 hb7.size
 clear x0 x1 y0 y1 y2 y3 y4 m3 m4 m5 m6 s5 s6 hb4 hb5 hb6 hb7 h35 h36 hB2 hB3 hB4 hB5 hB6 ll6
 have x0 := m7.cell 0 rfl
 have x1 := m7.cell 1 rfl
 have hgd : Good o7.drew := (hg.below hB7).drewN 1
 have hl7 := m7.lt
 go_wp2_with fail
 go_region_held3 (fun w' => w'.cell? ⟨o1.heap.size, 0, none⟩ = some (.slice pp 4 cp) ∧ w'.cell? ⟨o1.heap.size, 1, none⟩ = some (.slice pt 2 ct))
  (first | exact ⟨x0, x1⟩ | exact ⟨q_1_0, q_1_1⟩ | exact ⟨q_2_0, q_2_1⟩ | exact ⟨q_3_0, q_3_1⟩)
  (first
  | (go_at_call 67; refine (ex_profile _ _ _ _ (HF3.out _ (h37.trans (((below_drewN o7 1).trans ((qb1.trans (qb2.mono qb1.size)).mono (Nat.le_refl _))).mono h37.size))) qg2).mono ?_; rintro e qw3 ⟨_, rfl, ⟨bk, ok, ck, rfl, lk8, z0, z1⟩, qb3⟩
     have q_3_0 := zct qb3 q_2_0
     have q_3_1 := zct qb3 q_2_1
     have qs3 : qw2.heap.size ≤ qw3.heap.size := qb3.size
     have qg3 : Good qw3 := qg2.below qb3)
  | (go_at_call 64; refine (HA21.out _ qg1).mono ?_; rintro e qw2 ⟨_, rfl, rfl, qb2⟩
     have q_2_0 := zct qb2 q_1_0
     have q_2_1 := zct qb2 q_1_1
     have qs2 : qw1.heap.size ≤ qw2.heap.size := qb2.size
     have qg2 : Good qw2 := qg1.below qb2)
  | (go_at_call 64; refine (HA01.out _ hgd).mono ?_; rintro e qw1 ⟨_, rfl, rfl, qb1⟩
     have q_1_0 := zct qb1 x0
     have q_1_1 := zct qb1 x1
     have qs1 : o7.heap.size ≤ qw1.heap.size := qb1.size
     have qg1 : Good qw1 := hgd.below qb1))
 have qB : Below o7.heap.size o7 qw3 := zbt (zbt (zbt (below_drewN o7 1) qb1) qb2) qb3
 have hB8 := hB7.trans (qB.mono hB7.size)
 have s8 := s7.below qB s7.lt
 obtain ⟨y0, y1, y2, y3, y4⟩ := HY7.out _ qB
 have ll : bl < qw3.heap.size := Nat.lt_of_lt_of_le ll7 qB.size
 obtain ⟨o8, ho8⟩ : ∃ W, W = qw3 := ⟨_, rfl⟩
 rw [← ho8] at hB8 s8 y0 y1 y2 y3 y4 ll z0 z1 lk8 ⊢
 clear ho8 x0 x1 hgd qB qb1 qb2 qb3 qg1 qg2 qg3 qs1 qs2 qs3 q_1_0 q_1_1 q_2_0 q_2_1 q_3_0 q_3_1 HF3 HY7 m7 s7 h37 ll7 hB7
 have lk := lk8
 have l5 := s8.lt
 have v0 := s8.cell 0 rfl
 have v1 := s8.cell 1 rfl
 obtain ⟨b5, hb5⟩ : ∃ b, b = o4.heap.size := ⟨_, rfl⟩
 rw [← hb5] at l5 v0 v1 ⊢
 clear hb5 s8 lk8
 have HS : Hid (∀ w', Below o8.heap.size o8 w' → w'.cell? ⟨b5, 0, none⟩ = some (.string ⟨#[49]⟩) ∧ w'.cell? ⟨b5, 1, none⟩ = some (.string ⟨#[49]⟩) ∧ w'.cell? ⟨bl, ol, none⟩ = some (.int .i64 0) ∧ w'.cell? ⟨bl, ol + 1, none⟩ = some (.string ⟨#[49]⟩) ∧ w'.cell? ⟨bl, ol + 2, none⟩ = some (.string ⟨#[49]⟩) ∧ w'.cell? ⟨bl, ol + 3, none⟩ = some (.string ⟨#[50]⟩) ∧ w'.cell? ⟨bl, ol + 4, none⟩ = some (.string ⟨#[48]⟩) ∧ w'.cell? ⟨bk, ok + 2, none⟩ = some (.string ⟨#[49, 47, 50]⟩) ∧ w'.cell? ⟨bk, ok + 3, none⟩ = some (.string ⟨#[50]⟩)) := fun w' hb => ⟨(zcq hb l5 v0 :), (zcq hb l5 v1 :), (zcq hb ll y0 :), (zcq hb ll y1 :), (zcq hb ll y2 :), (zcq hb ll y3 :), (zcq hb ll y4 :), (zcq hb lk z0 :), (zcq hb lk z1 :)⟩
 have q0 : Below o8.heap.size o8 o8.drew := below_drewN o8 1
 have hg8 := hg.below hB8
 clear y0 y1 y2 y3 y4 z0 z1 v0 v1
 have eqP : ∀ w : World, Sem.run Tryz.prog (Op.equalIn 10000 59 (.agg #[.string ⟨#[49]⟩, .string ⟨#[49]⟩]) (.agg #[.string ⟨#[49]⟩, .string ⟨#[49]⟩])) w = .ok true w := fun w => by kernel_rfl
 have eqS : ∀ w : World, Sem.run Tryz.prog (Op.equalIn 10000 138 (.agg #[.int .i64 0, .string ⟨#[49]⟩, .string ⟨#[49]⟩, .string ⟨#[50]⟩, .string ⟨#[48]⟩]) (.agg #[.int .i64 0, .string ⟨#[49]⟩, .string ⟨#[49]⟩, .string ⟨#[50]⟩, .string ⟨#[48]⟩])) w = .ok true w := fun w => by kernel_rfl
 have eqK : ∀ w : World, Sem.run Tryz.prog (Op.equalIn 10000 140 (.agg #[.string ⟨#[49, 47, 50]⟩, .string ⟨#[50]⟩]) (.agg #[.string ⟨#[49, 47, 50]⟩, .string ⟨#[50]⟩])) w = .ok true w := fun w => by kernel_rfl
 go_upto_region 7 with fail
 refine wp_region_held_drew (S := (fun w' => w'.cell? ⟨b5, 0, none⟩ = some (.string ⟨#[49]⟩) ∧ w'.cell? ⟨b5, 1, none⟩ = some (.string ⟨#[49]⟩) ∧ w'.cell? ⟨bl, ol, none⟩ = some (.int .i64 0) ∧ w'.cell? ⟨bl, ol + 1, none⟩ = some (.string ⟨#[49]⟩) ∧ w'.cell? ⟨bl, ol + 2, none⟩ = some (.string ⟨#[49]⟩) ∧ w'.cell? ⟨bl, ol + 3, none⟩ = some (.string ⟨#[50]⟩) ∧ w'.cell? ⟨bl, ol + 4, none⟩ = some (.string ⟨#[48]⟩) ∧ w'.cell? ⟨bk, ok + 2, none⟩ = some (.string ⟨#[49, 47, 50]⟩) ∧ w'.cell? ⟨bk, ok + 3, none⟩ = some (.string ⟨#[50]⟩))) (by kernel_rfl) ?_ (fun hHeld => ?_)
 ·first | exact HS.out _ q3 | exact HS.out _ q2 | exact HS.out _ q1 | exact HS.out _ q0
 refine wpAnyH_take (i := 0) (oi := _) (v := ?_) rfl (by kernel_rfl) (by kernel_rfl) (by kernel_rfl) (fun _ _ _ h => h) (Or.inl ⟨by rfl, ?_⟩) (by assumption) ?_
 rotate_left
 ·intro w h; (try dsimp only at h); first | (go_simp; done) | (go_simp; with_reducible rfl)
 try simp only [Act.put, getElem_toArray, getElem_cons_zero, setIfInBounds_toArray, set_cons_zero, set_cons_succ]
 refine wpAnyH_take (i := 1) (oi := _) (v := ?_) rfl (by kernel_rfl) (by kernel_rfl) (by kernel_rfl) (fun _ _ _ h => h) (Or.inl ⟨by rfl, ?_⟩) (by assumption) ?_
 rotate_left
 ·intro w h; (try dsimp only at h); first | (go_simp; done) | (go_simp; with_reducible rfl)
 try simp only [Act.put, getElem_toArray, getElem_cons_zero, getElem_cons_succ, setIfInBounds_toArray, set_cons_zero, set_cons_succ]
 refine wpAnyH_take (i := 2) (oi := _) (v := ?_) rfl (by kernel_rfl) (by kernel_rfl) (by kernel_rfl) (fun _ _ _ h => h) (Or.inl ⟨by rfl, ?_⟩) (by assumption) ?_
 rotate_left
 ·intro w h; (try dsimp only at h); first | (go_simp; done) | (go_simp; with_reducible rfl)
 try simp only [Act.put, getElem_toArray, getElem_cons_zero, getElem_cons_succ, setIfInBounds_toArray, set_cons_zero, set_cons_succ]
 refine wpAnyH_take (i := 3) (oi := _) (v := ?_) rfl (by kernel_rfl) (by kernel_rfl) (by kernel_rfl) (fun _ _ _ h => h) (Or.inl ⟨by rfl, ?_⟩) (by assumption) ?_
 rotate_left
 ·intro w h; (try dsimp only at h); first | (go_simp; done) | (go_simp; with_reducible rfl)
 try simp only [Act.put, getElem_toArray, getElem_cons_zero, getElem_cons_succ, setIfInBounds_toArray, set_cons_zero, set_cons_succ]
 refine wpAnyH_take (i := 4) (oi := _) (v := ?_) rfl (by kernel_rfl) (by kernel_rfl) (by kernel_rfl) (fun _ _ _ h => h) (Or.inl ⟨by rfl, ?_⟩) (by assumption) ?_
 rotate_left
 ·intro w h; (try dsimp only at h); first | (go_simp; done) | (go_simp; with_reducible rfl)
 try simp only [Act.put, getElem_toArray, getElem_cons_zero, getElem_cons_succ, setIfInBounds_toArray, set_cons_zero, set_cons_succ]
 refine wpAnyH_take (i := 5) (oi := _) (v := ?_) rfl (by kernel_rfl) (by kernel_rfl) (by kernel_rfl) (fun _ _ _ h => h) (Or.inl ⟨by rfl, ?_⟩) (by assumption) ?_
 rotate_left
 ·intro w h; (try dsimp only at h); first | (go_simp; done) | (go_simp; with_reducible rfl)
 try simp only [Act.put, getElem_toArray, getElem_cons_zero, getElem_cons_succ, setIfInBounds_toArray, set_cons_zero, set_cons_succ]
 refine wpAnyH_take (i := 6) (oi := _) (v := ?_) rfl (by kernel_rfl) (by kernel_rfl) (by kernel_rfl) (fun _ _ _ h => h) (Or.inl ⟨by rfl, ?_⟩) (by assumption) ?_
 rotate_left
 ·intro w h; (try dsimp only at h); first | (go_simp; done) | (go_simp; with_reducible rfl)
 try simp only [Act.put, getElem_toArray, getElem_cons_zero, getElem_cons_succ, setIfInBounds_toArray, set_cons_zero, set_cons_succ]
 refine wpAnyH_take (i := 7) (oi := _) (v := ?_) rfl (by kernel_rfl) (by kernel_rfl) (by kernel_rfl) (fun _ _ _ h => h) (Or.inl ⟨by rfl, ?_⟩) (by assumption) ?_
 rotate_left
 ·intro w h; (try dsimp only at h); first | (go_simp; done) | (go_simp; with_reducible rfl)
 try simp only [Act.put, getElem_toArray, getElem_cons_zero, getElem_cons_succ, setIfInBounds_toArray, set_cons_zero, set_cons_succ]
 refine wpAnyH_take (i := 8) (oi := _) (v := ?_) rfl (by kernel_rfl) (by kernel_rfl) (by kernel_rfl) (fun _ _ _ h => h) (Or.inl ⟨by rfl, ?_⟩) (by assumption) ?_
 rotate_left
 ·intro w h; (try dsimp only at h); first | (go_simp; done) | (go_simp; with_reducible rfl)
 try simp only [Act.put, getElem_toArray, getElem_cons_zero, getElem_cons_succ, setIfInBounds_toArray, set_cons_zero, set_cons_succ]
 refine wpAnyH_take (i := 9) (oi := _) (v := ?_) rfl (by kernel_rfl) (by kernel_rfl) (by kernel_rfl) (fun _ _ _ h => h) (Or.inl ⟨by rfl, ?_⟩) (by assumption) ?_
 rotate_left
 ·intro w h; (try dsimp only at h); first | (go_simp; done) | (go_simp; with_reducible rfl)
 try simp only [Act.put, getElem_toArray, getElem_cons_zero, getElem_cons_succ, setIfInBounds_toArray, set_cons_zero, set_cons_succ]
 refine wpAnyH_take (i := 10) (oi := _) (v := ?_) rfl (by kernel_rfl) (by kernel_rfl) (by kernel_rfl) (fun _ _ _ h => h) (Or.inl ⟨by rfl, ?_⟩) (by assumption) ?_
 rotate_left
 ·intro w h; (try dsimp only at h); first | (go_simp; done) | (go_simp; with_reducible rfl)
 try simp only [Act.put, getElem_toArray, getElem_cons_zero, getElem_cons_succ, setIfInBounds_toArray, set_cons_zero, set_cons_succ]
 refine wpAnyH_take (i := 11) (oi := _) (v := ?_) rfl (by kernel_rfl) (by kernel_rfl) (by kernel_rfl) (fun _ _ _ h => h) (Or.inl ⟨by rfl, ?_⟩) (by assumption) ?_
 rotate_left
 ·intro w h; (try dsimp only at h); first | (go_simp; done) | (go_simp; with_reducible rfl)
 try simp only [Act.put, getElem_toArray, getElem_cons_zero, getElem_cons_succ, setIfInBounds_toArray, set_cons_zero, set_cons_succ]
 refine wpAnyH_ready (rs := [12]) (by kernel_rfl) (by simp) ?_
 refine AllReadyH.cons (o := _) rfl (fun K hK => ?_) AllReadyH.nil
 go_simp
 (refine (HA11.out _ (hg8.below q0)).mono ?_; rintro e w1 ⟨_, rfl, rfl, hw1⟩; have q1 := q0.trans (hw1.mono q0.size))
 refine hK.out _ _ ?_ (fun hHeld => ?_)
 ·first | exact HS.out _ q3 | exact HS.out _ q2 | exact HS.out _ q1 | exact HS.out _ q0
 clear hK K
 try simp only [Act.put, getElem_toArray, getElem_cons_zero, getElem_cons_succ, setIfInBounds_toArray, set_cons_zero, set_cons_succ]
 refine wpAnyH_take (i := 13) (oi := _) (v := ?_) rfl (by kernel_rfl) (by kernel_rfl) (by kernel_rfl) (fun _ _ _ h => h) (Or.inl ⟨by rfl, ?_⟩) (by assumption) ?_
 rotate_left
 ·intro w h; (try dsimp only at h); first | (go_simp; done) | (go_simp; with_reducible rfl)
 try simp only [Act.put, getElem_toArray, getElem_cons_zero, getElem_cons_succ, setIfInBounds_toArray, set_cons_zero, set_cons_succ]
 refine wpAnyH_take (i := 14) (oi := _) (v := ?_) rfl (by kernel_rfl) (by kernel_rfl) (by kernel_rfl) (fun _ _ _ h => h) (Or.inl ⟨by rfl, ?_⟩) (by assumption) ?_
 rotate_left
 ·intro w h; (try dsimp only at h); first | (go_simp; done) | (go_simp; with_reducible rfl)
 try simp only [Act.put, getElem_toArray, getElem_cons_zero, getElem_cons_succ, setIfInBounds_toArray, set_cons_zero, set_cons_succ]
 refine wpAnyH_take (i := 15) (oi := _) (v := ?_) rfl (by kernel_rfl) (by kernel_rfl) (by kernel_rfl) (fun _ _ _ h => h) (Or.inl ⟨by rfl, ?_⟩) (by assumption) ?_
 rotate_left
 ·intro w h; (try dsimp only at h); first | (go_simp; done) | (go_simp; with_reducible rfl)
 try simp only [Act.put, getElem_toArray, getElem_cons_zero, getElem_cons_succ, setIfInBounds_toArray, set_cons_zero, set_cons_succ]
 refine wpAnyH_take (i := 16) (oi := _) (v := ?_) rfl (by kernel_rfl) (by kernel_rfl) (by kernel_rfl) (fun _ _ _ h => h) (Or.inl ⟨by rfl, ?_⟩) (by assumption) ?_
 rotate_left
 ·intro w h; (try dsimp only at h); first | (go_simp; done) | (go_simp; with_reducible rfl)
 try simp only [Act.put, getElem_toArray, getElem_cons_zero, getElem_cons_succ, setIfInBounds_toArray, set_cons_zero, set_cons_succ]
 refine wpAnyH_take (i := 17) (oi := _) (v := ?_) rfl (by kernel_rfl) (by kernel_rfl) (by kernel_rfl) (fun _ _ _ h => h) (Or.inl ⟨by rfl, ?_⟩) (by assumption) ?_
 rotate_left
 ·intro w h; (try dsimp only at h); first | (go_simp; done) | (go_simp; with_reducible rfl)
 try simp only [Act.put, getElem_toArray, getElem_cons_zero, getElem_cons_succ, setIfInBounds_toArray, set_cons_zero, set_cons_succ]
 refine wpAnyH_take (i := 18) (oi := _) (v := ?_) rfl (by kernel_rfl) (by kernel_rfl) (by kernel_rfl) (fun _ _ _ h => h) (Or.inl ⟨by rfl, ?_⟩) (by assumption) ?_
 rotate_left
 ·intro w h; (try dsimp only at h); first | (go_simp; done) | (go_simp; with_reducible rfl)
 try simp only [Act.put, getElem_toArray, getElem_cons_zero, getElem_cons_succ, setIfInBounds_toArray, set_cons_zero, set_cons_succ]
 refine wpAnyH_take (i := 19) (oi := _) (v := ?_) rfl (by kernel_rfl) (by kernel_rfl) (by kernel_rfl) (fun _ _ _ h => h) (Or.inl ⟨by rfl, ?_⟩) (by assumption) ?_
 rotate_left
 ·intro w h; (try dsimp only at h); first | (go_simp; done) | (go_simp; with_reducible rfl)
 try simp only [Act.put, getElem_toArray, getElem_cons_zero, getElem_cons_succ, setIfInBounds_toArray, set_cons_zero, set_cons_succ]
 refine wpAnyH_take (i := 20) (oi := _) (v := ?_) rfl (by kernel_rfl) (by kernel_rfl) (by kernel_rfl) (fun _ _ _ h => h) (Or.inl ⟨by rfl, ?_⟩) (by assumption) ?_
 rotate_left
 ·intro w h; (try dsimp only at h); first | (go_simp; done) | (go_simp; with_reducible rfl)
 try simp only [Act.put, getElem_toArray, getElem_cons_zero, getElem_cons_succ, setIfInBounds_toArray, set_cons_zero, set_cons_succ]
 refine wpAnyH_take (i := 21) (oi := _) (v := ?_) rfl (by kernel_rfl) (by kernel_rfl) (by kernel_rfl) (fun _ _ _ h => h) (Or.inl ⟨by rfl, ?_⟩) (by assumption) ?_
 rotate_left
 ·intro w h; (try dsimp only at h); first | (go_simp; done) | (go_simp; with_reducible rfl)
 try simp only [Act.put, getElem_toArray, getElem_cons_zero, getElem_cons_succ, setIfInBounds_toArray, set_cons_zero, set_cons_succ]
 refine wpAnyH_take (i := 22) (oi := _) (v := ?_) rfl (by kernel_rfl) (by kernel_rfl) (by kernel_rfl) (fun _ _ _ h => h) (Or.inl ⟨by rfl, ?_⟩) (by assumption) ?_
 rotate_left
 ·intro w h; (try dsimp only at h); first | (go_simp; done) | (go_simp; with_reducible rfl)
 try simp only [Act.put, getElem_toArray, getElem_cons_zero, getElem_cons_succ, setIfInBounds_toArray, set_cons_zero, set_cons_succ]
 refine wpAnyH_take (i := 23) (oi := _) (v := ?_) rfl (by kernel_rfl) (by kernel_rfl) (by kernel_rfl) (fun _ _ _ h => h) (Or.inl ⟨by rfl, ?_⟩) (by assumption) ?_
 rotate_left
 ·intro w h; (try dsimp only at h); first | (go_simp; done) | (go_simp; with_reducible rfl)
 try simp only [Act.put, getElem_toArray, getElem_cons_zero, getElem_cons_succ, setIfInBounds_toArray, set_cons_zero, set_cons_succ]
 refine wpAnyH_take (i := 24) (oi := _) (v := ?_) rfl (by kernel_rfl) (by kernel_rfl) (by kernel_rfl) (fun _ _ _ h => h) (Or.inl ⟨by rfl, ?_⟩) (by assumption) ?_
 rotate_left
 ·intro w h; (try dsimp only at h); first | (go_simp; done) | (go_simp; with_reducible rfl)
 try simp only [Act.put, getElem_toArray, getElem_cons_zero, getElem_cons_succ, setIfInBounds_toArray, set_cons_zero, set_cons_succ]
 refine wpAnyH_take (i := 25) (oi := _) (v := ?_) rfl (by kernel_rfl) (by kernel_rfl) (by kernel_rfl) (fun _ _ _ h => h) (Or.inl ⟨by rfl, ?_⟩) (by assumption) ?_
 rotate_left
 ·intro w h; (try dsimp only at h); first | (go_simp; done) | (go_simp; with_reducible rfl)
 try simp only [Act.put, getElem_toArray, getElem_cons_zero, getElem_cons_succ, setIfInBounds_toArray, set_cons_zero, set_cons_succ]
 refine wpAnyH_take (i := 26) (oi := _) (v := ?_) rfl (by kernel_rfl) (by kernel_rfl) (by kernel_rfl) (fun _ _ _ h => h) (Or.inl ⟨by rfl, ?_⟩) (by assumption) ?_
 rotate_left
 ·intro w h; (try dsimp only at h); first | (go_simp; done) | (go_simp; with_reducible rfl)
 try simp only [Act.put, getElem_toArray, getElem_cons_zero, getElem_cons_succ, setIfInBounds_toArray, set_cons_zero, set_cons_succ]
 refine wpAnyH_take (i := 27) (oi := _) (v := ?_) rfl (by kernel_rfl) (by kernel_rfl) (by kernel_rfl) (fun _ _ _ h => h) (Or.inl ⟨by rfl, ?_⟩) (by assumption) ?_
 rotate_left
 ·intro w h; (try dsimp only at h); first | (go_simp; done) | (go_simp; with_reducible rfl)
 try simp only [Act.put, getElem_toArray, getElem_cons_zero, getElem_cons_succ, setIfInBounds_toArray, set_cons_zero, set_cons_succ]
 refine wpAnyH_ready (rs := [28]) (by kernel_rfl) (by simp) ?_
 refine AllReadyH.cons (o := _) rfl (fun K hK => ?_) AllReadyH.nil
 go_simp
 (refine (HA11.out _ (hg8.below q1)).mono ?_; rintro e w2 ⟨_, rfl, rfl, hw2⟩; have q2 := q1.trans (hw2.mono q1.size))
 refine hK.out _ _ ?_ (fun hHeld => ?_)
 ·first | exact HS.out _ q3 | exact HS.out _ q2 | exact HS.out _ q1 | exact HS.out _ q0
 clear hK K
 try simp only [Act.put, getElem_toArray, getElem_cons_zero, getElem_cons_succ, setIfInBounds_toArray, set_cons_zero, set_cons_succ]
 refine wpAnyH_ready (rs := [29]) (by kernel_rfl) (by simp) ?_
 refine AllReadyH.cons (o := _) rfl (fun K hK => ?_) AllReadyH.nil
 go_simp
 (refine (HA20.out _ (hg8.below q2)).mono ?_; rintro e w3 ⟨_, rfl, rfl, hw3⟩; have q3 := q2.trans (hw3.mono q2.size))
 refine hK.out _ _ ?_ (fun hHeld => ?_)
 ·first | exact HS.out _ q3 | exact HS.out _ q2 | exact HS.out _ q1 | exact HS.out _ q0
 clear hK K
 try simp only [Act.put, getElem_toArray, getElem_cons_zero, getElem_cons_succ, setIfInBounds_toArray, set_cons_zero, set_cons_succ]
 refine wpAnyH_take (i := 30) (oi := _) (v := ?_) rfl (by kernel_rfl) (by kernel_rfl) (by kernel_rfl) (fun _ _ _ h => h) (Or.inl ⟨by rfl, ?_⟩) (by assumption) ?_
 rotate_left
 ·intro w h; (try dsimp only at h); first | (go_simp; done) | (go_simp; with_reducible rfl)
 try simp only [Act.put, getElem_toArray, getElem_cons_zero, getElem_cons_succ, setIfInBounds_toArray, set_cons_zero, set_cons_succ]
 refine wpAnyH_take (i := 31) (oi := _) (v := ?_) rfl (by kernel_rfl) (by kernel_rfl) (by kernel_rfl) (fun _ _ _ h => h) (Or.inl ⟨by rfl, ?_⟩) (by assumption) ?_
 rotate_left
 ·intro w h; (try dsimp only at h); first | (go_simp; done) | (go_simp; with_reducible rfl)
 try simp only [Act.put, getElem_toArray, getElem_cons_zero, getElem_cons_succ, setIfInBounds_toArray, set_cons_zero, set_cons_succ]
 refine wpAnyH_take (i := 32) (oi := _) (v := ?_) rfl (by kernel_rfl) (by kernel_rfl) (by kernel_rfl) (fun _ _ _ h => h) (Or.inl ⟨by rfl, ?_⟩) (by assumption) ?_
 rotate_left
 ·intro w h; (try dsimp only at h); first | (go_simp; done) | (go_simp; with_reducible rfl)
 try simp only [Act.put, getElem_toArray, getElem_cons_zero, getElem_cons_succ, setIfInBounds_toArray, set_cons_zero, set_cons_succ]
 refine wpAnyH_take (i := 33) (oi := _) (v := ?_) rfl (by kernel_rfl) (by kernel_rfl) (by kernel_rfl) (fun _ _ _ h => h) (Or.inl ⟨by rfl, ?_⟩) (by assumption) ?_
 rotate_left
 ·intro w h; (try dsimp only at h); first | (go_simp; done) | (go_simp; with_reducible rfl)
 try simp only [Act.put, getElem_toArray, getElem_cons_zero, getElem_cons_succ, setIfInBounds_toArray, set_cons_zero, set_cons_succ]
 refine wpAnyH_take (i := 34) (oi := _) (v := ?_) rfl (by kernel_rfl) (by kernel_rfl) (by kernel_rfl) (fun _ _ _ h => h) (Or.inl ⟨by rfl, ?_⟩) (by assumption) ?_
 rotate_left
 ·intro w h; (try dsimp only at h); first | (go_simp; done) | (go_simp; with_reducible rfl)
 try simp only [Act.put, getElem_toArray, getElem_cons_zero, getElem_cons_succ, setIfInBounds_toArray, set_cons_zero, set_cons_succ]
 refine wpAnyH_take (i := 35) (oi := _) (v := ?_) rfl (by kernel_rfl) (by kernel_rfl) (by kernel_rfl) (fun _ _ _ h => h) (Or.inl ⟨by rfl, ?_⟩) (by assumption) ?_
 rotate_left
 ·intro w h; (try dsimp only at h); first | (go_simp; done) | (go_simp; with_reducible rfl)
 try simp only [Act.put, getElem_toArray, getElem_cons_zero, getElem_cons_succ, setIfInBounds_toArray, set_cons_zero, set_cons_succ]
 refine wpAnyH_take (i := 36) (oi := _) (v := ?_) rfl (by kernel_rfl) (by kernel_rfl) (by kernel_rfl) (fun _ _ _ h => h) (Or.inl ⟨by rfl, ?_⟩) (by assumption) ?_
 rotate_left
 ·intro w h; (try dsimp only at h); first | (go_simp; done) | (go_simp; with_reducible rfl)
 try simp only [Act.put, getElem_toArray, getElem_cons_zero, getElem_cons_succ, setIfInBounds_toArray, set_cons_zero, set_cons_succ]
 refine wpAnyH_take (i := 37) (oi := _) (v := ?_) rfl (by kernel_rfl) (by kernel_rfl) (by kernel_rfl) (fun _ _ _ h => h) (Or.inl ⟨by rfl, ?_⟩) (by assumption) ?_
 rotate_left
 ·intro w h; (try dsimp only at h); first | (go_simp; done) | (go_simp; with_reducible rfl)
 try simp only [Act.put, getElem_toArray, getElem_cons_zero, getElem_cons_succ, setIfInBounds_toArray, set_cons_zero, set_cons_succ]
 refine wpAnyH_take (i := 38) (oi := _) (v := ?_) rfl (by kernel_rfl) (by kernel_rfl) (by kernel_rfl) (fun _ _ _ h => h) (Or.inl ⟨by rfl, ?_⟩) (by assumption) ?_
 rotate_left
 ·intro w h; (try dsimp only at h); first | (go_simp; done) | (go_simp; with_reducible rfl)
 try simp only [Act.put, getElem_toArray, getElem_cons_zero, getElem_cons_succ, setIfInBounds_toArray, set_cons_zero, set_cons_succ]
 refine wpAnyH_take (i := 39) (oi := _) (v := ?_) rfl (by kernel_rfl) (by kernel_rfl) (by kernel_rfl) (fun _ _ _ h => h) (Or.inl ⟨by rfl, ?_⟩) (by assumption) ?_
 rotate_left
 ·intro w h; (try dsimp only at h); first | (go_simp; done) | (go_simp; with_reducible rfl)
 try simp only [Act.put, getElem_toArray, getElem_cons_zero, getElem_cons_succ, setIfInBounds_toArray, set_cons_zero, set_cons_succ]
 refine wpAnyH_take (i := 40) (oi := _) (v := ?_) rfl (by kernel_rfl) (by kernel_rfl) (by kernel_rfl) (fun _ _ _ h => h) (Or.inl ⟨by rfl, ?_⟩) (by assumption) ?_
 rotate_left
 ·intro w h; (try dsimp only at h); first | (go_simp; done) | (go_simp; with_reducible rfl)
 try simp only [Act.put, getElem_toArray, getElem_cons_zero, getElem_cons_succ, setIfInBounds_toArray, set_cons_zero, set_cons_succ]
 refine wpAnyH_take (i := 41) (oi := _) (v := ?_) rfl (by kernel_rfl) (by kernel_rfl) (by kernel_rfl) (fun _ _ _ h => h) (Or.inl ⟨by rfl, ?_⟩) (by assumption) ?_
 rotate_left
 ·intro w h; (try dsimp only at h); first | (go_simp; done) | (go_simp; with_reducible rfl)
 try simp only [Act.put, getElem_toArray, getElem_cons_zero, getElem_cons_succ, setIfInBounds_toArray, set_cons_zero, set_cons_succ]
 refine wpAnyH_take (i := 42) (oi := _) (v := ?_) rfl (by kernel_rfl) (by kernel_rfl) (by kernel_rfl) (fun _ _ _ h => h) (Or.inl ⟨by rfl, ?_⟩) (by assumption) ?_
 rotate_left
 ·intro w h; (try dsimp only at h); first | (go_simp; done) | (go_simp; with_reducible rfl)
 try simp only [Act.put, getElem_toArray, getElem_cons_zero, getElem_cons_succ, setIfInBounds_toArray, set_cons_zero, set_cons_succ]
 refine wpAnyH_take (i := 43) (oi := _) (v := ?_) rfl (by kernel_rfl) (by kernel_rfl) (by kernel_rfl) (fun _ _ _ h => h) (Or.inl ⟨by rfl, ?_⟩) (by assumption) ?_
 rotate_left
 ·intro w h; (try dsimp only at h); first | (go_simp; done) | (go_simp; with_reducible rfl)
 try simp only [Act.put, getElem_toArray, getElem_cons_zero, getElem_cons_succ, setIfInBounds_toArray, set_cons_zero, set_cons_succ]
 refine wpAnyH_take (i := 44) (oi := _) (v := ?_) rfl (by kernel_rfl) (by kernel_rfl) (by kernel_rfl) (fun _ _ _ h => h) (Or.inl ⟨by rfl, ?_⟩) (by assumption) ?_
 rotate_left
 ·intro w h; (try dsimp only at h); first | (go_simp; done) | (go_simp; with_reducible rfl)
 try simp only [Act.put, getElem_toArray, getElem_cons_zero, getElem_cons_succ, setIfInBounds_toArray, set_cons_zero, set_cons_succ]
 refine wpAnyH_take (i := 45) (oi := _) (v := ?_) rfl (by kernel_rfl) (by kernel_rfl) (by kernel_rfl) (fun _ _ _ h => h) (Or.inl ⟨by rfl, ?_⟩) (by assumption) ?_
 rotate_left
 ·intro w h; (try dsimp only at h); first | (go_simp; done) | (go_simp; with_reducible rfl)
 try simp only [Act.put, getElem_toArray, getElem_cons_zero, getElem_cons_succ, setIfInBounds_toArray, set_cons_zero, set_cons_succ]
 refine wpAnyH_take (i := 46) (oi := _) (v := ?_) rfl (by kernel_rfl) (by kernel_rfl) (by kernel_rfl) (fun _ _ _ h => h) (Or.inl ⟨by rfl, ?_⟩) (by assumption) ?_
 rotate_left
 ·intro w h; (try dsimp only at h); first | (go_simp; done) | (go_simp; with_reducible rfl)
 try simp only [Act.put, getElem_toArray, getElem_cons_zero, getElem_cons_succ, setIfInBounds_toArray, set_cons_zero, set_cons_succ]
 refine wpAnyH_take (i := 47) (oi := _) (v := ?_) rfl (by kernel_rfl) (by kernel_rfl) (by kernel_rfl) (fun _ _ _ h => h) (Or.inl ⟨by rfl, ?_⟩) (by assumption) ?_
 rotate_left
 ·intro w h; (try dsimp only at h); first | (go_simp; done) | (go_simp; with_reducible rfl)
 try simp only [Act.put, getElem_toArray, getElem_cons_zero, getElem_cons_succ, setIfInBounds_toArray, set_cons_zero, set_cons_succ]
 refine wpAnyH_take (i := 48) (oi := _) (v := ?_) rfl (by kernel_rfl) (by kernel_rfl) (by kernel_rfl) (fun _ _ _ h => h) (Or.inl ⟨by rfl, ?_⟩) (by assumption) ?_
 rotate_left
 ·intro w h; (try dsimp only at h); first | (go_simp; done) | (go_simp; with_reducible rfl)
 try simp only [Act.put, getElem_toArray, getElem_cons_zero, getElem_cons_succ, setIfInBounds_toArray, set_cons_zero, set_cons_succ]
 refine wpAnyH_take (i := 49) (oi := _) (v := ?_) rfl (by kernel_rfl) (by kernel_rfl) (by kernel_rfl) (fun _ _ _ h => h) (Or.inl ⟨by rfl, ?_⟩) (by assumption) ?_
 rotate_left
 ·intro w h; (try dsimp only at h); first | (go_simp; done) | (go_simp; with_reducible rfl)
 try simp only [Act.put, getElem_toArray, getElem_cons_zero, getElem_cons_succ, setIfInBounds_toArray, set_cons_zero, set_cons_succ]
 refine wpAnyH_take (i := 50) (oi := _) (v := ?_) rfl (by kernel_rfl) (by kernel_rfl) (by kernel_rfl) (fun _ _ _ h => h) (Or.inl ⟨by rfl, ?_⟩) (by assumption) ?_
 rotate_left
 ·intro w h; (try dsimp only at h); first | (go_simp; done) | (go_simp; with_reducible rfl)
 try simp only [Act.put, getElem_toArray, getElem_cons_zero, getElem_cons_succ, setIfInBounds_toArray, set_cons_zero, set_cons_succ]
 refine wpAnyH_take (i := 51) (oi := _) (v := ?_) rfl (by kernel_rfl) (by kernel_rfl) (by kernel_rfl) (fun _ _ _ h => h) (Or.inl ⟨by rfl, ?_⟩) (by assumption) ?_
 rotate_left
 ·intro w h; (try dsimp only at h); first | (go_simp; done) | (go_simp; with_reducible rfl)
 try simp only [Act.put, getElem_toArray, getElem_cons_zero, getElem_cons_succ, setIfInBounds_toArray, set_cons_zero, set_cons_succ]
 refine wpAnyH_take (i := 52) (oi := _) (v := ?_) rfl (by kernel_rfl) (by kernel_rfl) (by kernel_rfl) (fun _ _ _ h => h) (Or.inl ⟨by rfl, ?_⟩) (by assumption) ?_
 rotate_left
 ·intro w h; (try dsimp only at h); first | (go_simp; done) | (go_simp; with_reducible rfl)
 try simp only [Act.put, getElem_toArray, getElem_cons_zero, getElem_cons_succ, setIfInBounds_toArray, set_cons_zero, set_cons_succ]
 refine wpAnyH_take (i := 53) (oi := _) (v := ?_) rfl (by kernel_rfl) (by kernel_rfl) (by kernel_rfl) (fun _ _ _ h => h) (Or.inl ⟨by rfl, ?_⟩) (by assumption) ?_
 rotate_left
 ·intro w h; (try dsimp only at h); first | (go_simp; done) | (go_simp; with_reducible rfl)
 try simp only [Act.put, getElem_toArray, getElem_cons_zero, getElem_cons_succ, setIfInBounds_toArray, set_cons_zero, set_cons_succ]
 refine wpAnyH_take (i := 54) (oi := _) (v := ?_) rfl (by kernel_rfl) (by kernel_rfl) (by kernel_rfl) (fun _ _ _ h => h) (Or.inl ⟨by rfl, ?_⟩) (by assumption) ?_
 rotate_left
 ·intro w h; (try dsimp only at h); first | (go_simp; done) | (go_simp; with_reducible rfl)
 try simp only [Act.put, getElem_toArray, getElem_cons_zero, getElem_cons_succ, setIfInBounds_toArray, set_cons_zero, set_cons_succ]
 refine wpAnyH_take (i := 55) (oi := _) (v := ?_) rfl (by kernel_rfl) (by kernel_rfl) (by kernel_rfl) (fun _ _ _ h => h) (Or.inl ⟨by rfl, ?_⟩) (by assumption) ?_
 rotate_left
 ·intro w h; (try dsimp only at h); first | (go_simp; done) | (go_simp; with_reducible rfl)
 try simp only [Act.put, getElem_toArray, getElem_cons_zero, getElem_cons_succ, setIfInBounds_toArray, set_cons_zero, set_cons_succ]
 refine wpAnyH_take (i := 56) (oi := _) (v := ?_) rfl (by kernel_rfl) (by kernel_rfl) (by kernel_rfl) (fun _ _ _ h => h) (Or.inl ⟨by rfl, ?_⟩) (by assumption) ?_
 rotate_left
 ·intro w h; (try dsimp only at h); first | (go_simp; done) | (go_simp; with_reducible rfl)
 try simp only [Act.put, getElem_toArray, getElem_cons_zero, getElem_cons_succ, setIfInBounds_toArray, set_cons_zero, set_cons_succ]
 refine wpAnyH_take (i := 57) (oi := _) (v := ?_) rfl (by kernel_rfl) (by kernel_rfl) (by kernel_rfl) (fun _ _ _ h => h) (Or.inl ⟨by rfl, ?_⟩) (by assumption) ?_
 rotate_left
 ·intro w h; (try dsimp only at h); first | (go_simp; done) | (go_simp; with_reducible rfl)
 try simp only [Act.put, getElem_toArray, getElem_cons_zero, getElem_cons_succ, setIfInBounds_toArray, set_cons_zero]
 refine wpAnyH_done (by kernel_rfl) ?_ _
 have hB9 := hB8.trans (q3.mono hB8.size)
 go_wp2_with fail
 go_ret
 exact ⟨_, rfl, rfl, hB9⟩
end Go.Proofs.YtdhcliekejiegaaGreatDoor
namespace Go.Proofs.YtdhcliekejiegaaGreatDoor
open Go.RowKit Go.Lib
theorem make_in {w : World} {vp vt vf : Value} {kk : Nat} {s0 s1 : Int} {half : Bool} {a0 a1 a2 a3 a4 a5 : Int} {ah : Bool} (hp : RdP w vp (strP (sheetP kk s0 s1 half))) (ht : RdT w vt (shapeT kk)) (hf : RdQ w vf (heightsF [a0, a1, a2, a3, a4, a5] ah (sheetP kk s0 s1 half).length)) :
 FieldIn w vp vt vf (sheetP kk s0 s1 half) (shapeT kk) 2 (heightsF [a0, a1, a2, a3, a4, a5] ah (sheetP kk s0 s1 half).length) :=
 ⟨hp, ht, sheet_ok kk s0 s1 half, hf, heights_Sz _ _ _, heightsF_length _ _ _⟩
end Go.Proofs.YtdhcliekejiegaaGreatDoor
