import Derived.Test.YtegiemcnfbchoaaGreatDoorF9
import Derived.BigRegion
import Derived.Test.YtegiemcnfbchoaaGreatDoorK3
import Derived.Laws.EntriesVeiled
import Derived.Test.YtegiemcnfbchoaaGreatDoorW3
import Derived.Test.YtegiemcnfbchoaaGreatDoorE2
import Derived.Test.YtegiemcnfbchoaaGreatDoorM15
/- The walk over klippelaw13.known. The beginning that the laws of klippelaw13 have alike. The walk over field.checks of two fields. The walks over field.combine (with rational.Add, with Scale's closure), slices.ContainsFunc over field's closure, field.field. The walks over field.Add, field.Scale, field.Below. Plain: right texts up to a length; where a place lies; the size of a field's value. Plain: sharper sizes of the shares at which a segment meets a triangle's sides. -/
set_option maxHeartbeats 8000000
set_option maxRecDepth 100000
namespace Go.Proofs.YtegiemcnfbchoaaGreatDoor
open Go.RowKit Go.Lib List
theorem known13_any (w : World) (hg : Good w) :
 Calls Tryz.prog 6 #[] w (Ret (fun r _ => r = .bool true) w) := by
 have HA21 : Hid (∀ w, Good w → _) := fun w hg => ex_at 2 1 _ _ rs2 rs1 (by omega) (by omega) w hg
 have HA01 : Hid (∀ w, Good w → _) := fun w hg => ex_at 0 1 _ _ rs0 rs1 (by omega) (by omega) w hg
 have HA11 : Hid (∀ w, Good w → _) := fun w hg => ex_at 1 1 _ _ rs1 rs1 (by omega) (by omega) w hg
 have HA20 : Hid (∀ w, Good w → _) := fun w hg => ex_at 2 0 _ _ rs2 rs0 (by omega) (by omega) w hg
 go_enter Tryz.func6, Tryz.ntmps6
 go_wp2_with fail
 refine (example_any w hg).mono ?_
 rintro e o1 ⟨_, rfl, ⟨vp, vt, vf, rfl, hF⟩, hb1⟩
 have HF1 := Lib.hid hF
 obtain ⟨pp, cp, pt, ct, pf, cf, rfl, rfl, rfl⟩ := hF.open
 rw [show exP.length = 4 from rfl, show exT.length = 2 from rfl, show exF.length = 4 from rfl] at *
 clear hF
 go_upto_region 2 with fail
 obtain ⟨o2, ho2⟩ : ∃ W, W = o1.alloc (.cells #[.slice pp 4 cp, .slice pt 2 ct] 38) := ⟨_, rfl⟩
 have hb2 : Below o1.heap.size o1 o2 := by rw [ho2]; exact zal _ _
 have m2 : BoxN o2 o1.heap.size 38 [.slice pp 4 cp, .slice pt 2 ct] := by rw [ho2]; exact BoxN.new _ _ _ _ rfl
 rw [← ho2]
 clear ho2
 have hB2 := hb1.trans (hb2.mono hb1.size)
 have HFI : Hid (∀ w', Below o2.heap.size o2 w' → FieldIn w' (.slice pp 4 cp) (.slice pt 2 ct) (.slice pf 4 cf) exP exT 2 exF) := fun w' hb => HF1.out.below (hb2.trans (hb.mono hb2.size))
 have hgd : Good o2.drew := (hg.below hB2).drewN 1
 have x0 := m2.cell 0 rfl
 have x1 := m2.cell 1 rfl
 have hl2 := m2.lt
 clear HF1 hb1 hb2
 go_region_held3 (fun w' => w'.cell? ⟨o1.heap.size, 0, none⟩ = some (.slice pp 4 cp) ∧ w'.cell? ⟨o1.heap.size, 1, none⟩ = some (.slice pt 2 ct))
  (first | exact ⟨x0, x1⟩ | exact ⟨p_1_0, p_1_1⟩ | exact ⟨p_2_0, p_2_1⟩)
  (first
  | (go_at_call 21; refine (ex_value _ _ _ _ (HFI.out _ ((below_drewN o2 1).trans (pb1.mono (Nat.le_refl _)))) pg1).mono ?_; rintro e pw2 ⟨_, rfl, rfl, pb2⟩
     have p_2_0 := zct pb2 p_1_0
     have p_2_1 := zct pb2 p_1_1
     have ps2 : pw1.heap.size ≤ pw2.heap.size := pb2.size
     have pg2 : Good pw2 := pg1.below pb2)
  | (go_at_call 27; refine (HA21.out _ hgd).mono ?_; rintro e pw1 ⟨_, rfl, rfl, pb1⟩
     have p_1_0 := zct pb1 x0
     have p_1_1 := zct pb1 x1
     have ps1 : o2.heap.size ≤ pw1.heap.size := pb1.size
     have pg1 : Good pw1 := hgd.below pb1))
 have pB : Below o2.heap.size o2 pw2 := zbt (zbt (below_drewN o2 1) pb1) pb2
 have hB3 := hB2.trans (pB.mono hB2.size)
 have m3 := m2.below pB m2.lt
 have HF3 : Hid (∀ w', Below pw2.heap.size pw2 w' → FieldIn w' (.slice pp 4 cp) (.slice pt 2 ct) (.slice pf 4 cf) exP exT 2 exF) := fun w' hb => HFI.out w' (pB.trans (hb.mono pB.size))
 obtain ⟨o3, ho3⟩ : ∃ W, W = pw2 := ⟨_, rfl⟩
 rw [← ho3] at hB3 m3 HF3 ⊢
 clear ho3 x0 x1 HFI hgd pB pb1 pb2 pg1 pg2 ps1 ps2 p_1_0 p_1_1 p_2_0 p_2_1
 have x0 := m3.cell 0 rfl
 have x1 := m3.cell 1 rfl
 go_wp2_with fail
 refine (ex_slope0 o3 _ _ _ (HF3.out o3 (Below.refl _ _)) (hg.below hB3)).mono ?_
 rintro e o4 ⟨_, rfl, rfl, hb4⟩
 have hB4 := hB3.trans (hb4.mono hB3.size)
 have m4 := m3.below hb4 m3.lt
 clear x0 x1
 go_upto_region 4 with fail
 obtain ⟨o5, ho5⟩ : ∃ W, W = o4.alloc (.cells #[.string ⟨#[49]⟩, .string ⟨#[49]⟩] 33) := ⟨_, rfl⟩
 have hb5 : Below o4.heap.size o4 o5 := by rw [ho5]; exact zal _ _
 have s5 : BoxN o5 o4.heap.size 33 [.string ⟨#[49]⟩, .string ⟨#[49]⟩] := by rw [ho5]; exact BoxN.new _ _ _ _ rfl
 rw [← ho5]
 clear ho5
 have hB5 := hB4.trans (hb5.mono hB4.size)
 have m5 := m4.below hb5 m4.lt
 have h35 := hb4.trans (hb5.mono hb4.size)
 have x0 := m5.cell 0 rfl
 have x1 := m5.cell 1 rfl
 go_wp2_with fail
 refine (ex_level2 o5 _ _ _ (HF3.out o5 h35) (hg.below hB5)).mono ?_
 rintro e o6 ⟨_, rfl, ⟨bl, ol, cl, rfl, ll6, y0, y1, y2, y3, y4⟩, hb6⟩
 have hB6 := hB5.trans (hb6.mono hB5.size)
 have m6 := m5.below hb6 m5.lt
 have s6 := s5.below hb6 s5.lt
 have h36 := h35.trans (hb6.mono h35.size)
 clear x0 x1
 have x0 := m6.cell 0 rfl
 have x1 := m6.cell 1 rfl
 go_wp2_with fail
 refine (ex_volume o6 _ _ _ (HF3.out o6 h36) (hg.below hB6)).mono ?_
 rintro e o7 ⟨_, rfl, rfl, hb7⟩
 have hB7 := hB6.trans (hb7.mono hB6.size)
 have m7 := m6.below hb7 m6.lt
 have s7 := s6.below hb7 s6.lt
 have h37 := h36.trans (hb7.mono h36.size)
 have HY7 : Hid (∀ w', Below o7.heap.size o7 w' → w'.cell? ⟨bl, ol, none⟩ = some (.int .i64 0) ∧ w'.cell? ⟨bl, ol + 1, none⟩ = some (.string ⟨#[49]⟩) ∧ w'.cell? ⟨bl, ol + 2, none⟩ = some (.string ⟨#[49]⟩) ∧ w'.cell? ⟨bl, ol + 3, none⟩ = some (.string ⟨#[50]⟩) ∧ w'.cell? ⟨bl, ol + 4, none⟩ = some (.string ⟨#[48]⟩)) := fun w' hb => by
  have h := hb7.trans (hb.mono hb7.size)
  exact ⟨(zcq h ll6 y0 :), (zcq h ll6 y1 :), (zcq h ll6 y2 :), (zcq h ll6 y3 :), (zcq h ll6 y4 :)⟩
 have ll7 : bl < o7.heap.size := Nat.lt_of_lt_of_le ll6 hb7.size
 clear x0 x1 y0 y1 y2 y3 y4 m3 m4 m5 m6 s5 s6 hb4 hb5 hb6 hb7 h35 h36 hB2 hB3 hB4 hB5 hB6 ll6
 have x0 := m7.cell 0 rfl
 have x1 := m7.cell 1 rfl
 have hgd : Good o7.drew := (hg.below hB7).drewN 1
 have hl7 := m7.lt
 go_wp2_with fail
 go_region_held3 (fun w' => w'.cell? ⟨o1.heap.size, 0, none⟩ = some (.slice pp 4 cp) ∧ w'.cell? ⟨o1.heap.size, 1, none⟩ = some (.slice pt 2 ct))
  (first | exact ⟨x0, x1⟩ | exact ⟨q_1_0, q_1_1⟩ | exact ⟨q_2_0, q_2_1⟩ | exact ⟨q_3_0, q_3_1⟩)
  (first
  | (go_at_call 9; refine (ex_profile _ _ _ _ (HF3.out _ (h37.trans (((below_drewN o7 1).trans ((qb1.trans (qb2.mono qb1.size)).mono (Nat.le_refl _))).mono h37.size))) qg2).mono ?_; rintro e qw3 ⟨_, rfl, ⟨bk, ok, ck, rfl, lk8, z0, z1⟩, qb3⟩
     have q_3_0 := zct qb3 q_2_0
     have q_3_1 := zct qb3 q_2_1
     have qs3 : qw2.heap.size ≤ qw3.heap.size := qb3.size
     have qg3 : Good qw3 := qg2.below qb3)
  | (go_at_call 27; refine (HA21.out _ qg1).mono ?_; rintro e qw2 ⟨_, rfl, rfl, qb2⟩
     have q_2_0 := zct qb2 q_1_0
     have q_2_1 := zct qb2 q_1_1
     have qs2 : qw1.heap.size ≤ qw2.heap.size := qb2.size
     have qg2 : Good qw2 := qg1.below qb2)
  | (go_at_call 27; refine (HA01.out _ hgd).mono ?_; rintro e qw1 ⟨_, rfl, rfl, qb1⟩
     have q_1_0 := zct qb1 x0
     have q_1_1 := zct qb1 x1
     have qs1 : o7.heap.size ≤ qw1.heap.size := qb1.size
     have qg1 : Good qw1 := hgd.below qb1))
 have qB : Below o7.heap.size o7 qw3 := zbt (zbt (zbt (below_drewN o7 1) qb1) qb2) qb3
 have hB8 := hB7.trans (qB.mono hB7.size)
 have s8 := s7.below qB s7.lt
 obtain ⟨y0, y1, y2, y3, y4⟩ := HY7.out _ qB
 have ll : bl < qw3.heap.size := Nat.lt_of_lt_of_le ll7 qB.size
 obtain ⟨o8, ho8⟩ : ∃ W, W = qw3 := ⟨_, rfl⟩
 rw [← ho8] at hB8 s8 y0 y1 y2 y3 y4 ll z0 z1 lk8 ⊢
 clear ho8 x0 x1 hgd qB qb1 qb2 qb3 qg1 qg2 qg3 qs1 qs2 qs3 q_1_0 q_1_1 q_2_0 q_2_1 q_3_0 q_3_1 HF3 HY7 m7 s7 h37 ll7 hB7
 have lk := lk8
 have l5 := s8.lt
 have v0 := s8.cell 0 rfl
 have v1 := s8.cell 1 rfl
 obtain ⟨b5, hb5⟩ : ∃ b, b = o4.heap.size := ⟨_, rfl⟩
 rw [← hb5] at l5 v0 v1 ⊢
 clear hb5 s8 lk8
 have HS : Hid (∀ w', Below o8.heap.size o8 w' → w'.cell? ⟨b5, 0, none⟩ = some (.string ⟨#[49]⟩) ∧ w'.cell? ⟨b5, 1, none⟩ = some (.string ⟨#[49]⟩) ∧ w'.cell? ⟨bl, ol, none⟩ = some (.int .i64 0) ∧ w'.cell? ⟨bl, ol + 1, none⟩ = some (.string ⟨#[49]⟩) ∧ w'.cell? ⟨bl, ol + 2, none⟩ = some (.string ⟨#[49]⟩) ∧ w'.cell? ⟨bl, ol + 3, none⟩ = some (.string ⟨#[50]⟩) ∧ w'.cell? ⟨bl, ol + 4, none⟩ = some (.string ⟨#[48]⟩) ∧ w'.cell? ⟨bk, ok + 2, none⟩ = some (.string ⟨#[49, 47, 50]⟩) ∧ w'.cell? ⟨bk, ok + 3, none⟩ = some (.string ⟨#[50]⟩)) := fun w' hb => ⟨(zcq hb l5 v0 :), (zcq hb l5 v1 :), (zcq hb ll y0 :), (zcq hb ll y1 :), (zcq hb ll y2 :), (zcq hb ll y3 :), (zcq hb ll y4 :), (zcq hb lk z0 :), (zcq hb lk z1 :)⟩
 have q0 : Below o8.heap.size o8 o8.drew := below_drewN o8 1
 have hg8 := hg.below hB8
 clear y0 y1 y2 y3 y4 z0 z1 v0 v1
 have eqP : ∀ w : World, Sem.run Tryz.prog (Op.equalIn 10000 33 (.agg #[.string ⟨#[49]⟩, .string ⟨#[49]⟩]) (.agg #[.string ⟨#[49]⟩, .string ⟨#[49]⟩])) w = .ok true w := fun w => by kernel_rfl
 have eqS : ∀ w : World, Sem.run Tryz.prog (Op.equalIn 10000 84 (.agg #[.int .i64 0, .string ⟨#[49]⟩, .string ⟨#[49]⟩, .string ⟨#[50]⟩, .string ⟨#[48]⟩]) (.agg #[.int .i64 0, .string ⟨#[49]⟩, .string ⟨#[49]⟩, .string ⟨#[50]⟩, .string ⟨#[48]⟩])) w = .ok true w := fun w => by kernel_rfl
 have eqK : ∀ w : World, Sem.run Tryz.prog (Op.equalIn 10000 57 (.agg #[.string ⟨#[49, 47, 50]⟩, .string ⟨#[50]⟩]) (.agg #[.string ⟨#[49, 47, 50]⟩, .string ⟨#[50]⟩])) w = .ok true w := fun w => by kernel_rfl
 go_upto_region 7 with fail
 refine wp_region_held_drew (S := (fun w' => w'.cell? ⟨b5, 0, none⟩ = some (.string ⟨#[49]⟩) ∧ w'.cell? ⟨b5, 1, none⟩ = some (.string ⟨#[49]⟩) ∧ w'.cell? ⟨bl, ol, none⟩ = some (.int .i64 0) ∧ w'.cell? ⟨bl, ol + 1, none⟩ = some (.string ⟨#[49]⟩) ∧ w'.cell? ⟨bl, ol + 2, none⟩ = some (.string ⟨#[49]⟩) ∧ w'.cell? ⟨bl, ol + 3, none⟩ = some (.string ⟨#[50]⟩) ∧ w'.cell? ⟨bl, ol + 4, none⟩ = some (.string ⟨#[48]⟩) ∧ w'.cell? ⟨bk, ok + 2, none⟩ = some (.string ⟨#[49, 47, 50]⟩) ∧ w'.cell? ⟨bk, ok + 3, none⟩ = some (.string ⟨#[50]⟩))) (by kernel_rfl) ?_ (fun hHeld => ?_)
 ·first | exact HS.out _ q3 | exact HS.out _ q2 | exact HS.out _ q1 | exact HS.out _ q0
 refine wpAnyH_take (i := 0) (oi := _) (v := ?_) rfl (by kernel_rfl) (by kernel_rfl) (by kernel_rfl) (fun _ _ _ h => h) (Or.inl ⟨by rfl, ?_⟩) (by assumption) ?_
 rotate_left
 ·intro w h; (try dsimp only at h); first | (go_simp; done) | (go_simp; with_reducible rfl)
 try simp only [Act.put, getElem_toArray, getElem_cons_zero, setIfInBounds_toArray, set_cons_zero, set_cons_succ]
 refine wpAnyH_take (i := 1) (oi := _) (v := ?_) rfl (by kernel_rfl) (by kernel_rfl) (by kernel_rfl) (fun _ _ _ h => h) (Or.inl ⟨by rfl, ?_⟩) (by assumption) ?_
 rotate_left
 ·intro w h; (try dsimp only at h); first | (go_simp; done) | (go_simp; with_reducible rfl)
 try simp only [Act.put, getElem_toArray, getElem_cons_zero, getElem_cons_succ, setIfInBounds_toArray, set_cons_zero, set_cons_succ]
 refine wpAnyH_take (i := 2) (oi := _) (v := ?_) rfl (by kernel_rfl) (by kernel_rfl) (by kernel_rfl) (fun _ _ _ h => h) (Or.inl ⟨by rfl, ?_⟩) (by assumption) ?_
 rotate_left
 ·intro w h; (try dsimp only at h); first | (go_simp; done) | (go_simp; with_reducible rfl)
 try simp only [Act.put, getElem_toArray, getElem_cons_zero, getElem_cons_succ, setIfInBounds_toArray, set_cons_zero, set_cons_succ]
 refine wpAnyH_take (i := 3) (oi := _) (v := ?_) rfl (by kernel_rfl) (by kernel_rfl) (by kernel_rfl) (fun _ _ _ h => h) (Or.inl ⟨by rfl, ?_⟩) (by assumption) ?_
 rotate_left
 ·intro w h; (try dsimp only at h); first | (go_simp; done) | (go_simp; with_reducible rfl)
 try simp only [Act.put, getElem_toArray, getElem_cons_zero, getElem_cons_succ, setIfInBounds_toArray, set_cons_zero, set_cons_succ]
 refine wpAnyH_take (i := 4) (oi := _) (v := ?_) rfl (by kernel_rfl) (by kernel_rfl) (by kernel_rfl) (fun _ _ _ h => h) (Or.inl ⟨by rfl, ?_⟩) (by assumption) ?_
 rotate_left
 ·intro w h; (try dsimp only at h); first | (go_simp; done) | (go_simp; with_reducible rfl)
 try simp only [Act.put, getElem_toArray, getElem_cons_zero, getElem_cons_succ, setIfInBounds_toArray, set_cons_zero, set_cons_succ]
 refine wpAnyH_take (i := 5) (oi := _) (v := ?_) rfl (by kernel_rfl) (by kernel_rfl) (by kernel_rfl) (fun _ _ _ h => h) (Or.inl ⟨by rfl, ?_⟩) (by assumption) ?_
 rotate_left
 ·intro w h; (try dsimp only at h); first | (go_simp; done) | (go_simp; with_reducible rfl)
 try simp only [Act.put, getElem_toArray, getElem_cons_zero, getElem_cons_succ, setIfInBounds_toArray, set_cons_zero, set_cons_succ]
 refine wpAnyH_take (i := 6) (oi := _) (v := ?_) rfl (by kernel_rfl) (by kernel_rfl) (by kernel_rfl) (fun _ _ _ h => h) (Or.inl ⟨by rfl, ?_⟩) (by assumption) ?_
 rotate_left
 ·intro w h; (try dsimp only at h); first | (go_simp; done) | (go_simp; with_reducible rfl)
 try simp only [Act.put, getElem_toArray, getElem_cons_zero, getElem_cons_succ, setIfInBounds_toArray, set_cons_zero, set_cons_succ]
 refine wpAnyH_take (i := 7) (oi := _) (v := ?_) rfl (by kernel_rfl) (by kernel_rfl) (by kernel_rfl) (fun _ _ _ h => h) (Or.inl ⟨by rfl, ?_⟩) (by assumption) ?_
 rotate_left
 ·intro w h; (try dsimp only at h); first | (go_simp; done) | (go_simp; with_reducible rfl)
 try simp only [Act.put, getElem_toArray, getElem_cons_zero, getElem_cons_succ, setIfInBounds_toArray, set_cons_zero, set_cons_succ]
 refine wpAnyH_take (i := 8) (oi := _) (v := ?_) rfl (by kernel_rfl) (by kernel_rfl) (by kernel_rfl) (fun _ _ _ h => h) (Or.inl ⟨by rfl, ?_⟩) (by assumption) ?_
 rotate_left
 ·intro w h; (try dsimp only at h); first | (go_simp; done) | (go_simp; with_reducible rfl)
 try simp only [Act.put, getElem_toArray, getElem_cons_zero, getElem_cons_succ, setIfInBounds_toArray, set_cons_zero, set_cons_succ]
 refine wpAnyH_take (i := 9) (oi := _) (v := ?_) rfl (by kernel_rfl) (by kernel_rfl) (by kernel_rfl) (fun _ _ _ h => h) (Or.inl ⟨by rfl, ?_⟩) (by assumption) ?_
 rotate_left
 ·intro w h; (try dsimp only at h); first | (go_simp; done) | (go_simp; with_reducible rfl)
 try simp only [Act.put, getElem_toArray, getElem_cons_zero, getElem_cons_succ, setIfInBounds_toArray, set_cons_zero, set_cons_succ]
 refine wpAnyH_take (i := 10) (oi := _) (v := ?_) rfl (by kernel_rfl) (by kernel_rfl) (by kernel_rfl) (fun _ _ _ h => h) (Or.inl ⟨by rfl, ?_⟩) (by assumption) ?_
 rotate_left
 ·intro w h; (try dsimp only at h); first | (go_simp; done) | (go_simp; with_reducible rfl)
 try simp only [Act.put, getElem_toArray, getElem_cons_zero, getElem_cons_succ, setIfInBounds_toArray, set_cons_zero, set_cons_succ]
 refine wpAnyH_take (i := 11) (oi := _) (v := ?_) rfl (by kernel_rfl) (by kernel_rfl) (by kernel_rfl) (fun _ _ _ h => h) (Or.inl ⟨by rfl, ?_⟩) (by assumption) ?_
 rotate_left
 ·intro w h; (try dsimp only at h); first | (go_simp; done) | (go_simp; with_reducible rfl)
 try simp only [Act.put, getElem_toArray, getElem_cons_zero, getElem_cons_succ, setIfInBounds_toArray, set_cons_zero, set_cons_succ]
 refine wpAnyH_ready (rs := [12]) (by kernel_rfl) (by simp) ?_
 refine AllReadyH.cons (o := _) rfl (fun K hK => ?_) AllReadyH.nil
 go_simp
 (refine (HA11.out _ (hg8.below q0)).mono ?_; rintro e w1 ⟨_, rfl, rfl, hw1⟩; have q1 := q0.trans (hw1.mono q0.size))
 refine hK.out _ _ ?_ (fun hHeld => ?_)
 ·first | exact HS.out _ q3 | exact HS.out _ q2 | exact HS.out _ q1 | exact HS.out _ q0
 clear hK K
 try simp only [Act.put, getElem_toArray, getElem_cons_zero, getElem_cons_succ, setIfInBounds_toArray, set_cons_zero, set_cons_succ]
 refine wpAnyH_take (i := 13) (oi := _) (v := ?_) rfl (by kernel_rfl) (by kernel_rfl) (by kernel_rfl) (fun _ _ _ h => h) (Or.inl ⟨by rfl, ?_⟩) (by assumption) ?_
 rotate_left
 ·intro w h; (try dsimp only at h); first | (go_simp; done) | (go_simp; with_reducible rfl)
 try simp only [Act.put, getElem_toArray, getElem_cons_zero, getElem_cons_succ, setIfInBounds_toArray, set_cons_zero, set_cons_succ]
 refine wpAnyH_take (i := 14) (oi := _) (v := ?_) rfl (by kernel_rfl) (by kernel_rfl) (by kernel_rfl) (fun _ _ _ h => h) (Or.inl ⟨by rfl, ?_⟩) (by assumption) ?_
 rotate_left
 ·intro w h; (try dsimp only at h); first | (go_simp; done) | (go_simp; with_reducible rfl)
 try simp only [Act.put, getElem_toArray, getElem_cons_zero, getElem_cons_succ, setIfInBounds_toArray, set_cons_zero, set_cons_succ]
 refine wpAnyH_take (i := 15) (oi := _) (v := ?_) rfl (by kernel_rfl) (by kernel_rfl) (by kernel_rfl) (fun _ _ _ h => h) (Or.inl ⟨by rfl, ?_⟩) (by assumption) ?_
 rotate_left
 ·intro w h; (try dsimp only at h); first | (go_simp; done) | (go_simp; with_reducible rfl)
 try simp only [Act.put, getElem_toArray, getElem_cons_zero, getElem_cons_succ, setIfInBounds_toArray, set_cons_zero, set_cons_succ]
 refine wpAnyH_take (i := 16) (oi := _) (v := ?_) rfl (by kernel_rfl) (by kernel_rfl) (by kernel_rfl) (fun _ _ _ h => h) (Or.inl ⟨by rfl, ?_⟩) (by assumption) ?_
 rotate_left
 ·intro w h; (try dsimp only at h); first | (go_simp; done) | (go_simp; with_reducible rfl)
 try simp only [Act.put, getElem_toArray, getElem_cons_zero, getElem_cons_succ, setIfInBounds_toArray, set_cons_zero, set_cons_succ]
 refine wpAnyH_take (i := 17) (oi := _) (v := ?_) rfl (by kernel_rfl) (by kernel_rfl) (by kernel_rfl) (fun _ _ _ h => h) (Or.inl ⟨by rfl, ?_⟩) (by assumption) ?_
 rotate_left
 ·intro w h; (try dsimp only at h); first | (go_simp; done) | (go_simp; with_reducible rfl)
 try simp only [Act.put, getElem_toArray, getElem_cons_zero, getElem_cons_succ, setIfInBounds_toArray, set_cons_zero, set_cons_succ]
 refine wpAnyH_take (i := 18) (oi := _) (v := ?_) rfl (by kernel_rfl) (by kernel_rfl) (by kernel_rfl) (fun _ _ _ h => h) (Or.inl ⟨by rfl, ?_⟩) (by assumption) ?_
 rotate_left
 ·intro w h; (try dsimp only at h); first | (go_simp; done) | (go_simp; with_reducible rfl)
 try simp only [Act.put, getElem_toArray, getElem_cons_zero, getElem_cons_succ, setIfInBounds_toArray, set_cons_zero, set_cons_succ]
 refine wpAnyH_take (i := 19) (oi := _) (v := ?_) rfl (by kernel_rfl) (by kernel_rfl) (by kernel_rfl) (fun _ _ _ h => h) (Or.inl ⟨by rfl, ?_⟩) (by assumption) ?_
 rotate_left
 ·intro w h; (try dsimp only at h); first | (go_simp; done) | (go_simp; with_reducible rfl)
 try simp only [Act.put, getElem_toArray, getElem_cons_zero, getElem_cons_succ, setIfInBounds_toArray, set_cons_zero, set_cons_succ]
 refine wpAnyH_take (i := 20) (oi := _) (v := ?_) rfl (by kernel_rfl) (by kernel_rfl) (by kernel_rfl) (fun _ _ _ h => h) (Or.inl ⟨by rfl, ?_⟩) (by assumption) ?_
 rotate_left
 ·intro w h; (try dsimp only at h); first | (go_simp; done) | (go_simp; with_reducible rfl)
 try simp only [Act.put, getElem_toArray, getElem_cons_zero, getElem_cons_succ, setIfInBounds_toArray, set_cons_zero, set_cons_succ]
 refine wpAnyH_take (i := 21) (oi := _) (v := ?_) rfl (by kernel_rfl) (by kernel_rfl) (by kernel_rfl) (fun _ _ _ h => h) (Or.inl ⟨by rfl, ?_⟩) (by assumption) ?_
 rotate_left
 ·intro w h; (try dsimp only at h); first | (go_simp; done) | (go_simp; with_reducible rfl)
 try simp only [Act.put, getElem_toArray, getElem_cons_zero, getElem_cons_succ, setIfInBounds_toArray, set_cons_zero, set_cons_succ]
 refine wpAnyH_take (i := 22) (oi := _) (v := ?_) rfl (by kernel_rfl) (by kernel_rfl) (by kernel_rfl) (fun _ _ _ h => h) (Or.inl ⟨by rfl, ?_⟩) (by assumption) ?_
 rotate_left
 ·intro w h; (try dsimp only at h); first | (go_simp; done) | (go_simp; with_reducible rfl)
 try simp only [Act.put, getElem_toArray, getElem_cons_zero, getElem_cons_succ, setIfInBounds_toArray, set_cons_zero, set_cons_succ]
 refine wpAnyH_take (i := 23) (oi := _) (v := ?_) rfl (by kernel_rfl) (by kernel_rfl) (by kernel_rfl) (fun _ _ _ h => h) (Or.inl ⟨by rfl, ?_⟩) (by assumption) ?_
 rotate_left
 ·intro w h; (try dsimp only at h); first | (go_simp; done) | (go_simp; with_reducible rfl)
 try simp only [Act.put, getElem_toArray, getElem_cons_zero, getElem_cons_succ, setIfInBounds_toArray, set_cons_zero, set_cons_succ]
 refine wpAnyH_take (i := 24) (oi := _) (v := ?_) rfl (by kernel_rfl) (by kernel_rfl) (by kernel_rfl) (fun _ _ _ h => h) (Or.inl ⟨by rfl, ?_⟩) (by assumption) ?_
 rotate_left
 ·intro w h; (try dsimp only at h); first | (go_simp; done) | (go_simp; with_reducible rfl)
 try simp only [Act.put, getElem_toArray, getElem_cons_zero, getElem_cons_succ, setIfInBounds_toArray, set_cons_zero, set_cons_succ]
 refine wpAnyH_take (i := 25) (oi := _) (v := ?_) rfl (by kernel_rfl) (by kernel_rfl) (by kernel_rfl) (fun _ _ _ h => h) (Or.inl ⟨by rfl, ?_⟩) (by assumption) ?_
 rotate_left
 ·intro w h; (try dsimp only at h); first | (go_simp; done) | (go_simp; with_reducible rfl)
 try simp only [Act.put, getElem_toArray, getElem_cons_zero, getElem_cons_succ, setIfInBounds_toArray, set_cons_zero, set_cons_succ]
 refine wpAnyH_take (i := 26) (oi := _) (v := ?_) rfl (by kernel_rfl) (by kernel_rfl) (by kernel_rfl) (fun _ _ _ h => h) (Or.inl ⟨by rfl, ?_⟩) (by assumption) ?_
 rotate_left
 ·intro w h; (try dsimp only at h); first | (go_simp; done) | (go_simp; with_reducible rfl)
 try simp only [Act.put, getElem_toArray, getElem_cons_zero, getElem_cons_succ, setIfInBounds_toArray, set_cons_zero, set_cons_succ]
 refine wpAnyH_take (i := 27) (oi := _) (v := ?_) rfl (by kernel_rfl) (by kernel_rfl) (by kernel_rfl) (fun _ _ _ h => h) (Or.inl ⟨by rfl, ?_⟩) (by assumption) ?_
 rotate_left
 ·intro w h; (try dsimp only at h); first | (go_simp; done) | (go_simp; with_reducible rfl)
 try simp only [Act.put, getElem_toArray, getElem_cons_zero, getElem_cons_succ, setIfInBounds_toArray, set_cons_zero, set_cons_succ]
 refine wpAnyH_ready (rs := [28]) (by kernel_rfl) (by simp) ?_
 refine AllReadyH.cons (o := _) rfl (fun K hK => ?_) AllReadyH.nil
 go_simp
 (refine (HA11.out _ (hg8.below q1)).mono ?_; rintro e w2 ⟨_, rfl, rfl, hw2⟩; have q2 := q1.trans (hw2.mono q1.size))
 refine hK.out _ _ ?_ (fun hHeld => ?_)
 ·first | exact HS.out _ q3 | exact HS.out _ q2 | exact HS.out _ q1 | exact HS.out _ q0
 clear hK K
 try simp only [Act.put, getElem_toArray, getElem_cons_zero, getElem_cons_succ, setIfInBounds_toArray, set_cons_zero, set_cons_succ]
 refine wpAnyH_ready (rs := [29]) (by kernel_rfl) (by simp) ?_
 refine AllReadyH.cons (o := _) rfl (fun K hK => ?_) AllReadyH.nil
 go_simp
 (refine (HA20.out _ (hg8.below q2)).mono ?_; rintro e w3 ⟨_, rfl, rfl, hw3⟩; have q3 := q2.trans (hw3.mono q2.size))
 refine hK.out _ _ ?_ (fun hHeld => ?_)
 ·first | exact HS.out _ q3 | exact HS.out _ q2 | exact HS.out _ q1 | exact HS.out _ q0
 clear hK K
 try simp only [Act.put, getElem_toArray, getElem_cons_zero, getElem_cons_succ, setIfInBounds_toArray, set_cons_zero, set_cons_succ]
 refine wpAnyH_take (i := 30) (oi := _) (v := ?_) rfl (by kernel_rfl) (by kernel_rfl) (by kernel_rfl) (fun _ _ _ h => h) (Or.inl ⟨by rfl, ?_⟩) (by assumption) ?_
 rotate_left
 ·intro w h; (try dsimp only at h); first | (go_simp; done) | (go_simp; with_reducible rfl)
 try simp only [Act.put, getElem_toArray, getElem_cons_zero, getElem_cons_succ, setIfInBounds_toArray, set_cons_zero, set_cons_succ]
 refine wpAnyH_take (i := 31) (oi := _) (v := ?_) rfl (by kernel_rfl) (by kernel_rfl) (by kernel_rfl) (fun _ _ _ h => h) (Or.inl ⟨by rfl, ?_⟩) (by assumption) ?_
 rotate_left
 ·intro w h; (try dsimp only at h); first | (go_simp; done) | (go_simp; with_reducible rfl)
 try simp only [Act.put, getElem_toArray, getElem_cons_zero, getElem_cons_succ, setIfInBounds_toArray, set_cons_zero, set_cons_succ]
 refine wpAnyH_take (i := 32) (oi := _) (v := ?_) rfl (by kernel_rfl) (by kernel_rfl) (by kernel_rfl) (fun _ _ _ h => h) (Or.inl ⟨by rfl, ?_⟩) (by assumption) ?_
 rotate_left
 ·intro w h; (try dsimp only at h); first | (go_simp; done) | (go_simp; with_reducible rfl)
 try simp only [Act.put, getElem_toArray, getElem_cons_zero, getElem_cons_succ, setIfInBounds_toArray, set_cons_zero, set_cons_succ]
 refine wpAnyH_take (i := 33) (oi := _) (v := ?_) rfl (by kernel_rfl) (by kernel_rfl) (by kernel_rfl) (fun _ _ _ h => h) (Or.inl ⟨by rfl, ?_⟩) (by assumption) ?_
 rotate_left
 ·intro w h; (try dsimp only at h); first | (go_simp; done) | (go_simp; with_reducible rfl)
 try simp only [Act.put, getElem_toArray, getElem_cons_zero, getElem_cons_succ, setIfInBounds_toArray, set_cons_zero, set_cons_succ]
 refine wpAnyH_take (i := 34) (oi := _) (v := ?_) rfl (by kernel_rfl) (by kernel_rfl) (by kernel_rfl) (fun _ _ _ h => h) (Or.inl ⟨by rfl, ?_⟩) (by assumption) ?_
 rotate_left
 ·intro w h; (try dsimp only at h); first | (go_simp; done) | (go_simp; with_reducible rfl)
 try simp only [Act.put, getElem_toArray, getElem_cons_zero, getElem_cons_succ, setIfInBounds_toArray, set_cons_zero, set_cons_succ]
 refine wpAnyH_take (i := 35) (oi := _) (v := ?_) rfl (by kernel_rfl) (by kernel_rfl) (by kernel_rfl) (fun _ _ _ h => h) (Or.inl ⟨by rfl, ?_⟩) (by assumption) ?_
 rotate_left
 ·intro w h; (try dsimp only at h); first | (go_simp; done) | (go_simp; with_reducible rfl)
 try simp only [Act.put, getElem_toArray, getElem_cons_zero, getElem_cons_succ, setIfInBounds_toArray, set_cons_zero, set_cons_succ]
 refine wpAnyH_take (i := 36) (oi := _) (v := ?_) rfl (by kernel_rfl) (by kernel_rfl) (by kernel_rfl) (fun _ _ _ h => h) (Or.inl ⟨by rfl, ?_⟩) (by assumption) ?_
 rotate_left
 ·intro w h; (try dsimp only at h); first | (go_simp; done) | (go_simp; with_reducible rfl)
 try simp only [Act.put, getElem_toArray, getElem_cons_zero, getElem_cons_succ, setIfInBounds_toArray, set_cons_zero, set_cons_succ]
 refine wpAnyH_take (i := 37) (oi := _) (v := ?_) rfl (by kernel_rfl) (by kernel_rfl) (by kernel_rfl) (fun _ _ _ h => h) (Or.inl ⟨by rfl, ?_⟩) (by assumption) ?_
 rotate_left
 ·intro w h; (try dsimp only at h); first | (go_simp; done) | (go_simp; with_reducible rfl)
 try simp only [Act.put, getElem_toArray, getElem_cons_zero, getElem_cons_succ, setIfInBounds_toArray, set_cons_zero, set_cons_succ]
 refine wpAnyH_take (i := 38) (oi := _) (v := ?_) rfl (by kernel_rfl) (by kernel_rfl) (by kernel_rfl) (fun _ _ _ h => h) (Or.inl ⟨by rfl, ?_⟩) (by assumption) ?_
 rotate_left
 ·intro w h; (try dsimp only at h); first | (go_simp; done) | (go_simp; with_reducible rfl)
 try simp only [Act.put, getElem_toArray, getElem_cons_zero, getElem_cons_succ, setIfInBounds_toArray, set_cons_zero, set_cons_succ]
 refine wpAnyH_take (i := 39) (oi := _) (v := ?_) rfl (by kernel_rfl) (by kernel_rfl) (by kernel_rfl) (fun _ _ _ h => h) (Or.inl ⟨by rfl, ?_⟩) (by assumption) ?_
 rotate_left
 ·intro w h; (try dsimp only at h); first | (go_simp; done) | (go_simp; with_reducible rfl)
 try simp only [Act.put, getElem_toArray, getElem_cons_zero, getElem_cons_succ, setIfInBounds_toArray, set_cons_zero, set_cons_succ]
 refine wpAnyH_take (i := 40) (oi := _) (v := ?_) rfl (by kernel_rfl) (by kernel_rfl) (by kernel_rfl) (fun _ _ _ h => h) (Or.inl ⟨by rfl, ?_⟩) (by assumption) ?_
 rotate_left
 ·intro w h; (try dsimp only at h); first | (go_simp; done) | (go_simp; with_reducible rfl)
 try simp only [Act.put, getElem_toArray, getElem_cons_zero, getElem_cons_succ, setIfInBounds_toArray, set_cons_zero, set_cons_succ]
 refine wpAnyH_take (i := 41) (oi := _) (v := ?_) rfl (by kernel_rfl) (by kernel_rfl) (by kernel_rfl) (fun _ _ _ h => h) (Or.inl ⟨by rfl, ?_⟩) (by assumption) ?_
 rotate_left
 ·intro w h; (try dsimp only at h); first | (go_simp; done) | (go_simp; with_reducible rfl)
 try simp only [Act.put, getElem_toArray, getElem_cons_zero, getElem_cons_succ, setIfInBounds_toArray, set_cons_zero, set_cons_succ]
 refine wpAnyH_take (i := 42) (oi := _) (v := ?_) rfl (by kernel_rfl) (by kernel_rfl) (by kernel_rfl) (fun _ _ _ h => h) (Or.inl ⟨by rfl, ?_⟩) (by assumption) ?_
 rotate_left
 ·intro w h; (try dsimp only at h); first | (go_simp; done) | (go_simp; with_reducible rfl)
 try simp only [Act.put, getElem_toArray, getElem_cons_zero, getElem_cons_succ, setIfInBounds_toArray, set_cons_zero, set_cons_succ]
 refine wpAnyH_take (i := 43) (oi := _) (v := ?_) rfl (by kernel_rfl) (by kernel_rfl) (by kernel_rfl) (fun _ _ _ h => h) (Or.inl ⟨by rfl, ?_⟩) (by assumption) ?_
 rotate_left
 ·intro w h; (try dsimp only at h); first | (go_simp; done) | (go_simp; with_reducible rfl)
 try simp only [Act.put, getElem_toArray, getElem_cons_zero, getElem_cons_succ, setIfInBounds_toArray, set_cons_zero, set_cons_succ]
 refine wpAnyH_take (i := 44) (oi := _) (v := ?_) rfl (by kernel_rfl) (by kernel_rfl) (by kernel_rfl) (fun _ _ _ h => h) (Or.inl ⟨by rfl, ?_⟩) (by assumption) ?_
 rotate_left
 ·intro w h; (try dsimp only at h); first | (go_simp; done) | (go_simp; with_reducible rfl)
 try simp only [Act.put, getElem_toArray, getElem_cons_zero, getElem_cons_succ, setIfInBounds_toArray, set_cons_zero, set_cons_succ]
 refine wpAnyH_take (i := 45) (oi := _) (v := ?_) rfl (by kernel_rfl) (by kernel_rfl) (by kernel_rfl) (fun _ _ _ h => h) (Or.inl ⟨by rfl, ?_⟩) (by assumption) ?_
 rotate_left
 ·intro w h; (try dsimp only at h); first | (go_simp; done) | (go_simp; with_reducible rfl)
 try simp only [Act.put, getElem_toArray, getElem_cons_zero, getElem_cons_succ, setIfInBounds_toArray, set_cons_zero, set_cons_succ]
 refine wpAnyH_take (i := 46) (oi := _) (v := ?_) rfl (by kernel_rfl) (by kernel_rfl) (by kernel_rfl) (fun _ _ _ h => h) (Or.inl ⟨by rfl, ?_⟩) (by assumption) ?_
 rotate_left
 ·intro w h; (try dsimp only at h); first | (go_simp; done) | (go_simp; with_reducible rfl)
 try simp only [Act.put, getElem_toArray, getElem_cons_zero, getElem_cons_succ, setIfInBounds_toArray, set_cons_zero, set_cons_succ]
 refine wpAnyH_take (i := 47) (oi := _) (v := ?_) rfl (by kernel_rfl) (by kernel_rfl) (by kernel_rfl) (fun _ _ _ h => h) (Or.inl ⟨by rfl, ?_⟩) (by assumption) ?_
 rotate_left
 ·intro w h; (try dsimp only at h); first | (go_simp; done) | (go_simp; with_reducible rfl)
 try simp only [Act.put, getElem_toArray, getElem_cons_zero, getElem_cons_succ, setIfInBounds_toArray, set_cons_zero, set_cons_succ]
 refine wpAnyH_take (i := 48) (oi := _) (v := ?_) rfl (by kernel_rfl) (by kernel_rfl) (by kernel_rfl) (fun _ _ _ h => h) (Or.inl ⟨by rfl, ?_⟩) (by assumption) ?_
 rotate_left
 ·intro w h; (try dsimp only at h); first | (go_simp; done) | (go_simp; with_reducible rfl)
 try simp only [Act.put, getElem_toArray, getElem_cons_zero, getElem_cons_succ, setIfInBounds_toArray, set_cons_zero, set_cons_succ]
 refine wpAnyH_take (i := 49) (oi := _) (v := ?_) rfl (by kernel_rfl) (by kernel_rfl) (by kernel_rfl) (fun _ _ _ h => h) (Or.inl ⟨by rfl, ?_⟩) (by assumption) ?_
 rotate_left
 ·intro w h; (try dsimp only at h); first | (go_simp; done) | (go_simp; with_reducible rfl)
 try simp only [Act.put, getElem_toArray, getElem_cons_zero, getElem_cons_succ, setIfInBounds_toArray, set_cons_zero, set_cons_succ]
 refine wpAnyH_take (i := 50) (oi := _) (v := ?_) rfl (by kernel_rfl) (by kernel_rfl) (by kernel_rfl) (fun _ _ _ h => h) (Or.inl ⟨by rfl, ?_⟩) (by assumption) ?_
 rotate_left
 ·intro w h; (try dsimp only at h); first | (go_simp; done) | (go_simp; with_reducible rfl)
 try simp only [Act.put, getElem_toArray, getElem_cons_zero, getElem_cons_succ, setIfInBounds_toArray, set_cons_zero, set_cons_succ]
 refine wpAnyH_take (i := 51) (oi := _) (v := ?_) rfl (by kernel_rfl) (by kernel_rfl) (by kernel_rfl) (fun _ _ _ h => h) (Or.inl ⟨by rfl, ?_⟩) (by assumption) ?_
 rotate_left
 ·intro w h; (try dsimp only at h); first | (go_simp; done) | (go_simp; with_reducible rfl)
 try simp only [Act.put, getElem_toArray, getElem_cons_zero, getElem_cons_succ, setIfInBounds_toArray, set_cons_zero, set_cons_succ]
 refine wpAnyH_take (i := 52) (oi := _) (v := ?_) rfl (by kernel_rfl) (by kernel_rfl) (by kernel_rfl) (fun _ _ _ h => h) (Or.inl ⟨by rfl, ?_⟩) (by assumption) ?_
 rotate_left
 ·intro w h; (try dsimp only at h); first | (go_simp; done) | (go_simp; with_reducible rfl)
 try simp only [Act.put, getElem_toArray, getElem_cons_zero, getElem_cons_succ, setIfInBounds_toArray, set_cons_zero, set_cons_succ]
 refine wpAnyH_take (i := 53) (oi := _) (v := ?_) rfl (by kernel_rfl) (by kernel_rfl) (by kernel_rfl) (fun _ _ _ h => h) (Or.inl ⟨by rfl, ?_⟩) (by assumption) ?_
 rotate_left
 ·intro w h; (try dsimp only at h); first | (go_simp; done) | (go_simp; with_reducible rfl)
 try simp only [Act.put, getElem_toArray, getElem_cons_zero, getElem_cons_succ, setIfInBounds_toArray, set_cons_zero, set_cons_succ]
 refine wpAnyH_take (i := 54) (oi := _) (v := ?_) rfl (by kernel_rfl) (by kernel_rfl) (by kernel_rfl) (fun _ _ _ h => h) (Or.inl ⟨by rfl, ?_⟩) (by assumption) ?_
 rotate_left
 ·intro w h; (try dsimp only at h); first | (go_simp; done) | (go_simp; with_reducible rfl)
 try simp only [Act.put, getElem_toArray, getElem_cons_zero, getElem_cons_succ, setIfInBounds_toArray, set_cons_zero, set_cons_succ]
 refine wpAnyH_take (i := 55) (oi := _) (v := ?_) rfl (by kernel_rfl) (by kernel_rfl) (by kernel_rfl) (fun _ _ _ h => h) (Or.inl ⟨by rfl, ?_⟩) (by assumption) ?_
 rotate_left
 ·intro w h; (try dsimp only at h); first | (go_simp; done) | (go_simp; with_reducible rfl)
 try simp only [Act.put, getElem_toArray, getElem_cons_zero, getElem_cons_succ, setIfInBounds_toArray, set_cons_zero, set_cons_succ]
 refine wpAnyH_take (i := 56) (oi := _) (v := ?_) rfl (by kernel_rfl) (by kernel_rfl) (by kernel_rfl) (fun _ _ _ h => h) (Or.inl ⟨by rfl, ?_⟩) (by assumption) ?_
 rotate_left
 ·intro w h; (try dsimp only at h); first | (go_simp; done) | (go_simp; with_reducible rfl)
 try simp only [Act.put, getElem_toArray, getElem_cons_zero, getElem_cons_succ, setIfInBounds_toArray, set_cons_zero, set_cons_succ]
 refine wpAnyH_take (i := 57) (oi := _) (v := ?_) rfl (by kernel_rfl) (by kernel_rfl) (by kernel_rfl) (fun _ _ _ h => h) (Or.inl ⟨by rfl, ?_⟩) (by assumption) ?_
 rotate_left
 ·intro w h; (try dsimp only at h); first | (go_simp; done) | (go_simp; with_reducible rfl)
 try simp only [Act.put, getElem_toArray, getElem_cons_zero, getElem_cons_succ, setIfInBounds_toArray, set_cons_zero]
 refine wpAnyH_done (by kernel_rfl) ?_ _
 have hB9 := hB8.trans (q3.mono hB8.size)
 go_wp2_with fail
 go_ret
 exact ⟨_, rfl, rfl, hB9⟩
end Go.Proofs.YtegiemcnfbchoaaGreatDoor
namespace Go.Proofs.YtegiemcnfbchoaaGreatDoor
open Go.RowKit Go.Lib
theorem make_in {w : World} {vp vt vf : Value} {kk : Nat} {s0 s1 : Int} {half : Bool} {a0 a1 a2 a3 a4 a5 : Int} {ah : Bool} (hp : RdP w vp (strP (sheetP kk s0 s1 half))) (ht : RdT w vt (shapeT kk)) (hf : RdQ w vf (heightsF [a0, a1, a2, a3, a4, a5] ah (sheetP kk s0 s1 half).length)) :
 FieldIn w vp vt vf (sheetP kk s0 s1 half) (shapeT kk) 2 (heightsF [a0, a1, a2, a3, a4, a5] ah (sheetP kk s0 s1 half).length) :=
 ⟨hp, ht, sheet_ok kk s0 s1 half, hf, heights_Sz _ _ _, heightsF_length _ _ _⟩
theorem checks_two (w : World) (vp vt vf vg : Value) (P : List PtQ) (T : List Tri) (k : Nat) (F G : List Rat) (h : FieldIn w vp vt vf P T k F) (h2 : FieldIn w vp vt vg P T k G) (b : Nat) (hb0 : w.cell? ⟨b, 0, none⟩ = some vf) (hb1 : w.cell? ⟨b, 1, none⟩ = some vg) (hg : Good w) :
 Calls Tryz.prog 32 #[.agg #[vp, vt], .slice (some ⟨b, 0, none⟩) 2 2] w (Ret (fun r _ => r = .int .i64 0) w) := by
 have HFS : Hid (∀ j : Nat, j < 2 → ∃ (pf : Option Addr) (cf : Nat) (l : List Rat), w.cell? ⟨b, j, none⟩ = some (.slice pf P.length cf) ∧ l.length = P.length ∧ (l ≠ [] → ∃ bf off, pf = some ⟨bf, off, none⟩ ∧ bf < w.heap.size ∧ ∀ i (hi : i < l.length), w.cell? ⟨bf, off + i, none⟩ = some (.string (RS l[i]))) ∧ (∀ q ∈ l, (RS q).size < 1000000000 ∧ rightQ (RS q).data.toList = true)) := fun j hj => by
  have key : ∀ (v : Value) (L : List Rat), FieldIn w vp vt v P T k L → w.cell? ⟨b, j, none⟩ = some v → ∃ (pf : Option Addr) (cf : Nat) (l : List Rat), w.cell? ⟨b, j, none⟩ = some (.slice pf P.length cf) ∧ l.length = P.length ∧ (l ≠ [] → ∃ bf off, pf = some ⟨bf, off, none⟩ ∧ bf < w.heap.size ∧ ∀ i (hi : i < l.length), w.cell? ⟨bf, off + i, none⟩ = some (.string (RS l[i]))) ∧ (∀ q ∈ l, (RS q).size < 1000000000 ∧ rightQ (RS q).data.toList = true) := fun v L hL hv => by
   obtain ⟨pf, cf, rfl, -, -, hr⟩ := hL.f.open
   rw [hL.fl] at hv
   refine ⟨pf, cf, L, hv, hL.fl, hr, fun q hq => ⟨?_, ?_⟩⟩
   ·have := (hL.fs q hq).size hL.m.kpos; have := hL.m.klim2; omega
   ·rw [RS_list]; exact rightQ_RL ((hL.fs q hq).mono (by have := hL.m.klim2; omega))
  rcases (by omega : j = 0 ∨ j = 1) with rfl | rfl
  ·exact key vf F h hb0
  ·exact key vg G h2 hb1
 have HP := Lib.hid h.p
 have HT := Lib.hid h.t
 have HM := Lib.hid h.m
 have hbl := World.block_lt_of_cell? w _ hb0
 obtain ⟨pp, cp, pt, ct, pf, cf, rfl, rfl, rfl⟩ := h.open
 have hpl := h.m.plen
 dsimp only at hbl
 clear h h2 hb0 hb1
 go_enter Tryz.func32, Tryz.ntmps32
 go_wp2_with fail
 obtain ⟨W0, hW0⟩ : ∃ W0, W0 = w.alloc (.cells #[.slice pp P.length cp, .slice pt T.length ct] 38) := ⟨_, rfl⟩
 have hB0 : Below w.heap.size w W0 := by rw [hW0]; exact zal _ _
 have b2 : BoxN W0 w.heap.size 38 [.slice pp P.length cp, .slice pt T.length ct] := by rw [hW0]; exact BoxN.new _ _ _ _ rfl
 rw [← hW0]
 clear hW0
 refine (check_any W0 _ _ P T k (RdC.below HP.out hB0) (RdC.below HT.out hB0) HM.out (hg.below hB0)).mono ?_
 rintro e w1 ⟨_, rfl, rfl, hb1⟩
 have hB1 : Below w.heap.size w w1 := hB0.trans (hb1.mono hB0.size)
 have b3 := b2.below hb1 b2.lt
 clear hb1 hB0 b2
 go_wp2_with fail
 go_loopw [18] (fun t18 wr => ∃ j : Nat, j ≤ 2 ∧ t18 = .int .i64 (j : Int) ∧ Below w1.heap.size w1 wr) (fun t18 _ => 2 - (RowKit.intOf t18).toNat)
 case atStart => exact ⟨0, by omega, rfl, Below.refl _ _⟩
 case round =>
  obtain ⟨j, hj, rfl, hB⟩ := hrel
  have hBw : Below w.heap.size w wr := hB1.trans (hB.mono hB1.size)
  rcases Nat.lt_or_ge j 2 with hj2 | hj2
  ·obtain ⟨pf, cf, l, hcell, hll, hrd, hrt⟩ := HFS.out j hj2
   have b4 := b3.below hB b3.lt
   have u0 := b4.cell 0 rfl
   have u1 := zcq hBw hbl hcell
   have hjz : (j : Int) < 2 := by omega
   have HRD := Lib.hid hrd
   have HRT := Lib.hid hrt
   have HBW := Lib.hid hBw
   have hlP : l.length ≤ P.length := by omega
   have HLE := Lib.hid hll
   have hnb : ((P.length : Int) != (P.length : Int)) = false := by simp
   clear hcell hrd hrt hll hBw
   go_wp2_with fail
   obtain ⟨wo, hwo⟩ : ∃ wo : World, wo = wr := ⟨_, rfl⟩
   subst hwo
   go_loopw [30] (fun t30 wr => ∃ (i : Nat), t30 = .int .i64 i ∧ i ≤ P.length ∧ Below wo.heap.size wo wr) (fun t30 _ => P.length - (RowKit.intOf t30).toNat)
   case atStart => exact ⟨0, rfl, Nat.zero_le _, Below.refl _ _⟩
   case round =>
    obtain ⟨i, rfl, hi, hbl2⟩ := hrel
    have hBi := HBW.out.trans (hbl2.mono HBW.out.size)
    rcases Nat.lt_or_ge i P.length with hlt | hlt
    ·have hil : i < l.length := by have := HLE.out; omega
     obtain ⟨bf, off, rfl, hbs, hcell⟩ := HRD.out (by intro e; rw [e] at hil; simp at hil)
     have hc := zcq hBi hbs (hcell i hil)
     have hzx := HRT.out l[i] (List.getElem_mem hil)
     obtain ⟨x, hx⟩ : ∃ x, x = RS l[i] := ⟨_, rfl⟩
     rw [← hx] at hc hzx
     have hgr := hg.below hBi
     have hiz : (i : Int) < (P.length : Int) := by omega
     have HZ := Lib.hid hzx
     clear hx hcell hil hzx
     go_wp2_with fail
     refine (checkQ_any x HZ.out.1 _ hgr).mono ?_
     rintro e w2 ⟨_, rfl, rfl, hb2⟩
     have hb3 := hbl2.trans (hb2.mono hbl2.size)
     rw [HZ.out.2, show errNum true = 0 from rfl]
     clear hb2 hgr
     go_wp2_with fail
     go_roundw
     case rel => exact ⟨i + 1, by go_num, hlt, hb3⟩
     case measure => simp [RowKit.intOf]; omega
    ·go_wp2_with fail
     go_roundw
     case rel => exact ⟨j + 1, by omega, by go_num, hB.trans (hbl2.mono hB.size)⟩
     case measure => simp [RowKit.intOf]; omega
  ·obtain rfl : j = 2 := by omega
   rw [show ((2 : Nat) : Int) = 2 from rfl]
   go_wp2_with fail
   go_ret
   exact ⟨_, rfl, rfl, hBw⟩
def sumQ (F G : List Rat) : List Rat := List.zipWith (fun a b => a + b) F G
theorem sumQ_length (F G : List Rat) (h : F.length = G.length) : (sumQ F G).length = G.length := by unfold sumQ; rw [List.length_zipWith]; omega
theorem sumQ_get (F G : List Rat) (i : Nat) (h1 : i < F.length) (h2 : i < G.length) : (sumQ F G)[i]? = some (F[i] + G[i]) := by
 unfold sumQ
 rw [List.getElem?_zipWith]
 simp [h1, h2]
theorem combine_add (w : World) (vf vg : Value) (k : Nat) (F G : List Rat) (hk : 0 < k) (hk2 : k ≤ 20000) (hL : RdQ w vf F) (hU : RdQ w vg G) (hlen : F.length = G.length) (hn : G.length ≤ 1000000) (hsL : ∀ q ∈ F, Sz k q) (hsU : ∀ q ∈ G, Sz k q) (hg : Good w) :
 Calls Tryz.prog 52 #[vf, vg, .func (.func 64) #[] #[]] w (Ret (fun r w' => RdQ w' r (sumQ F G) ∧ FreshV w.heap.size r) w) := by
 obtain ⟨pl, cl, rfl, hlc, hlm, hlr⟩ := hL.open
 obtain ⟨pu, cu, rfl, huc, hum, hur⟩ := hU.open
 obtain ⟨n, hn0⟩ : ∃ n, n = G.length := ⟨_, rfl⟩
 have HLR := Lib.hid hlr
 have HUR := Lib.hid hur
 have HL := Lib.hid hsL
 have HU := Lib.hid hsU
 have HN1 : Hid (F.length = n) := by unfold Hid; omega
 have HN2 : Hid (G.length = n) := hn0.symm
 rw [hlen, ← hn0]
 rw [← hn0] at hn huc
 have hlc' : n ≤ cl := by omega
 clear hL hU hlr hur hsL hsU hlen hn0 hlc
 obtain ⟨i0, hi, hz0, hz1, hz2⟩ := info_parts info_str
 go_enter Tryz.func52, Tryz.ntmps52
 go_wp2_with fail
 go_loopw [7, 12] (fun t7 t12 wr => ∃ (i : Nat), t12 = .int .i64 i ∧ i ≤ n ∧ wr.ownsRow w.heap.size 31 1 t7 i (((sumQ F G).take i).map fun q => Value.string (RS q)) ∧ Below w.heap.size w wr) (fun _ t12 _ => n - (RowKit.intOf t12).toNat)
 case atStart => exact ⟨0, rfl, Nat.zero_le _, World.ownsRow_nil _ _ _ _, Below.refl _ _⟩
 case round =>
  obtain ⟨i, rfl, hin, hown, hbr⟩ := hrel
  obtain ⟨p3, c3', rfl⟩ := ownsRow_shape hown
  rcases Nat.lt_or_ge i n with h | h
  ·obtain ⟨bl, ol, rfl, hbl, hlc⟩ := HLR.out (by intro e; have := HN1.out; rw [e] at this; simp at this; omega)
   obtain ⟨bu, ou, rfl, hbu, huc⟩ := HUR.out (by intro e; have := HN2.out; rw [e] at this; simp at this; omega)
   have l1 := hlc i (by have := HN1.out; omega)
   have u1 := huc i (by have := HN2.out; omega)
   have hq := sumQ_get F G i (by have := HN1.out; omega) (by have := HN2.out; omega)
   have zl := HL.out _ (List.getElem_mem (show i < F.length by have := HN1.out; omega))
   have zu := HU.out _ (List.getElem_mem (show i < G.length by have := HN2.out; omega))
   generalize F[i]'_ = l at *
   generalize G[i]'_ = u at *
   have HTK := Lib.hid (take_snoc _ _ _ hq)
   have HZL := Lib.hid zl
   have HZU := Lib.hid zu
   have xl := zcq hbr hbl l1
   have xu := zcq hbr hbu u1
   have hgr : Good wr := hg.below hbr
   have hiz : (i : Int) < (n : Int) := by omega
   clear hlc huc l1 u1 hq zl zu
   go_wp2_with fail
   refine (ratAdd_any l u k hk hk2 HZL.out HZU.out _ hgr).mono ?_
   rintro e w2 ⟨_, rfl, rfl, hb2⟩
   have hown2 := World.ownsRow.belowAll hown hb2
   have hbr2 : Below w.heap.size w w2 := hbr.trans (hb2.mono hbr.size)
   have hzw := hbr.size
   have hz2' : w.heap.size ≤ w2.heap.size := hbr2.size
   clear hb2 hown hbr hgr xl xu
   go_wp2_with (at_builtin; refine wpList_append_own _ rfl _ _ 41 rfl w.heap.size 31 i0 (.string ⟨#[]⟩) 1 16 Tryz.underlying41 hi hz0 hz1 hz2 rfl (by decide) _ _ _ rfl (hown2.alloc _) ⟨w2.heap.size, 0, none⟩ 1 1 [.string (RS (l + u))] rfl rfl (cell_one_str _ _ _) (one_cell_str _) (by unfold maxLen; omega) (by omega) (by simp; omega) ?_
                intro v2 w3 hown3 hgrow3 _
                have hzw3 := hgrow3.size
                have hbr3 : Below w.heap.size w w3 := (hbr2.alloc (by omega) _).grown hgrow3 (by simp; omega) (fun j hj => by have := (hown2.lt j hj).1; omega)
                clear hgrow3)
   go_roundw
   case rel => exact ⟨i + 1, by go_num, by omega, by rw [HTK.out, List.map_append]; exact hown3, hbr3⟩
   case measure =>
    show n - ((i : Int) + 1).toNat < n - (i : Int).toNat
    omega
  ·obtain rfl : i = n := by omega
   have hfr : FreshV w.heap.size (.slice p3 i c3') := FreshV.of_owns hown
   have hrd : RdQ wr (.slice p3 i c3') (sumQ F G) := by
    have hl : (sumQ F G).length = i := by rw [sumQ_length _ _ (by rw [HN1.out, HN2.out]), HN2.out]
    have h1 : RdC 1 wr (.slice p3 i c3') i ((List.take i (sumQ F G)).map fun q => Value.string (RS q)) := RdC.of_owns hown
    rw [List.take_of_length_le (by omega)] at h1
    unfold RdQ
    rw [hl]
    exact h1
   go_wp2_with fail
   go_ret
   exact ⟨_, rfl, ⟨hrd, hfr⟩, hbr⟩
theorem fieldF_any (q : Rat) (h : Sz 200 q) (w : World) (hg : Good w) :
 Calls Tryz.prog 113 #[.string (RS q)] w (Ret (fun r _ => r = .bool false) w) := by
 have hs := h.size (by omega)
 have HE : Hid (errNum (rightQ (RS q).data.toList) = 0) := by unfold Hid; rw [RS_list, rightQ_RL h]; rfl
 clear h
 go_enter Tryz.func113, Tryz.ntmps113
 go_wp2_with fail
 refine (checkQ_any (RS q) (by omega) _ hg).mono ?_
 rintro e w1 ⟨_, rfl, rfl, hb1⟩
 rw [HE.out]
 go_wp2_with fail
 go_ret
 exact ⟨_, rfl, rfl, hb1⟩
theorem indexField_any (w : World) (v : Value) (l : List Rat) (hr : RdQ w v l) (hl : l.length ≤ 1000) (hs : ∀ q ∈ l, Sz 200 q) (hg : Good w) :
 Calls Tryz.prog 163 #[v, .func (.func 113) #[] #[]] w (Ret (fun r _ => r = .int .i64 (-1)) w) := by
 obtain ⟨p, c, rfl, -, -, hr'⟩ := hr.open
 have HR := Lib.hid hr'
 have HS := Lib.hid hs
 clear hr hr' hs
 go_enter Tryz.func163, Tryz.ntmps163
 go_wp2_with fail
 go_loopw [5, 8] (fun _ t8 wr => ∃ i : Nat, t8 = .int .i64 i ∧ i ≤ l.length ∧ Below w.heap.size w wr) (fun _ t8 _ => l.length - (RowKit.intOf t8).toNat)
 case atStart => exact ⟨0, rfl, Nat.zero_le _, Below.refl _ _⟩
 case round =>
  obtain ⟨i, rfl, hi, hbr⟩ := hrel
  rcases Nat.lt_or_ge i l.length with h | h
  ·obtain ⟨b, off, rfl, hbl, hc⟩ := HR.out (List.ne_nil_of_length_pos (by omega))
   have d0 := zcq hbr hbl (hc i h)
   have HZ := Lib.hid (HS.out _ (List.getElem_mem h))
   have hiz : (i : Int) < (l.length : Int) := by omega
   generalize l[i]'_ = x at *
   have HC : Hid (∀ w, Good w → _) := fun w hg => fieldF_any x HZ.out w hg
   have hgr := hg.below hbr
   clear hc
   go_wp2_with fail
   refine (HC.out wr hgr).mono ?_
   rintro e w1 ⟨_, rfl, rfl, hb1⟩
   have hbr1 := hbr.trans (hb1.mono hbr.size)
   clear d0 hb1
   go_wp2_with fail
   go_roundw
   case rel => exact ⟨i + 1, by go_num, by omega, hbr1⟩
   case measure =>
    show l.length - ((i : Int) + 1).toNat < l.length - (i : Int).toNat
    omega
  ·have hge : (l.length : Int) ≤ (i : Int) := by omega
   go_wp2_with fail
   go_ret
   exact ⟨_, rfl, rfl, hbr⟩
theorem containsField_any (w : World) (v : Value) (l : List Rat) (hr : RdQ w v l) (hl : l.length ≤ 1000) (hs : ∀ q ∈ l, Sz 200 q) (hg : Good w) :
 Calls Tryz.prog 112 #[v, .func (.func 113) #[] #[]] w (Ret (fun r _ => r = .bool false) w) := by
 have HC := Lib.hid (indexField_any w v l hr hl hs hg)
 obtain ⟨p, c, rfl, -, -, -⟩ := hr.open
 clear hr hs
 go_enter Tryz.func112, Tryz.ntmps112
 go_wp2_with fail
 refine HC.out.mono ?_
 rintro e w1 ⟨_, rfl, rfl, hb1⟩
 go_wp2_with fail
 go_ret
 exact ⟨_, rfl, rfl, hb1⟩
theorem ffield_any (w : World) (v : Value) (l : List Rat) (hr : RdQ w v l) (hl : l.length ≤ 1000) (hs : ∀ q ∈ l, Sz 200 q) (hg : Good w) :
 Calls Tryz.prog 63 #[v] w (Ret (fun r _ => r = .tuple #[v, .int .i64 0]) w) := by
 have HC := Lib.hid (containsField_any w v l hr hl hs hg)
 obtain ⟨p, c, rfl, -, -, -⟩ := hr.open
 clear hr hs
 go_enter Tryz.func63, Tryz.ntmps63
 go_wp2_with fail
 refine HC.out.mono ?_
 rintro e w1 ⟨_, rfl, rfl, hb1⟩
 go_wp2_with fail
 go_ret2
 exact ⟨_, rfl, rfl, hb1⟩
theorem fadd_ok (w : World) (vp vt vf vg : Value) (P : List PtQ) (T : List Tri) (k : Nat) (F G : List Rat) (h : FieldIn w vp vt vf P T k F) (h2 : FieldIn w vp vt vg P T k G) (hz : ∀ q ∈ sumQ F G, Sz 200 q) (hg : Good w) :
 Calls Tryz.prog 19 #[.agg #[vp, vt], vf, vg] w (Ret (fun r w' => ∃ v, r = .tuple #[v, .int .i64 0] ∧ RdQ w' v (sumQ F G) ∧ FreshV w.heap.size v) w) := by
 have HF := Lib.hid h
 have HG := Lib.hid h2
 have hfl := h.fl
 have hgl := h2.fl
 have hpl := h.m.plen
 have HZ := Lib.hid hz
 obtain ⟨pp, cp, pt, ct, pf, cf, rfl, rfl, rfl⟩ := h.open
 obtain ⟨_, _, _, _, pg, cg, -, -, rfl⟩ := h2.open
 have HFL := Lib.hid hfl
 have HGL := Lib.hid hgl
 clear h h2 hz hfl hgl
 go_enter Tryz.func19, Tryz.ntmps19
 go_wp2_with fail
 obtain ⟨W, hW⟩ : ∃ W, W = (w.alloc (.cells #[.slice pp P.length cp, .slice pt T.length ct] 38)).alloc (.cells #[.slice pf F.length cf, .slice pg G.length cg] 41) := ⟨_, rfl⟩
 have hB : Below w.heap.size w W := by rw [hW]; exact zal2 _ _ _
 have b2 : BoxN W (w.heap.size + 1) 41 [.slice pf F.length cf, .slice pg G.length cg] := by rw [hW]; exact BoxN.new _ _ _ _ (by simp)
 rw [← hW]
 clear hW
 refine (checks_two W _ _ _ _ P T k F G (HF.out.below hB) (HG.out.below hB) (w.heap.size + 1) (b2.cell 0 rfl) (b2.cell 1 rfl) (hg.below hB)).mono ?_
 rintro e w1 ⟨_, rfl, rfl, hb1⟩
 have hB1 := hB.trans (hb1.mono hB.size)
 clear hb1 b2 hB
 go_wp2_with fail
 refine (combine_add w1 _ _ k F G (HF.out.m.kpos) (by have := HF.out.m.klim2; omega) (HF.out.below hB1).f (HG.out.below hB1).f (by have := HFL.out; have := HGL.out; omega) (by have := HGL.out; omega) HF.out.fs HG.out.fs (hg.below hB1)).mono ?_
 rintro e w2 ⟨v, rfl, ⟨hrd, hfr⟩, hb2⟩
 have hB2 := hB1.trans (hb2.mono hB1.size)
 have HRD := Lib.hid hrd
 have HFR : Hid (FreshV w.heap.size v) := fun a l c e => Nat.le_trans hB1.size (hfr a l c e)
 obtain ⟨pv, cv, rfl, -, -, -⟩ := hrd.open
 clear hrd hfr hb2
 go_wp2_with fail
 refine (ffield_any w2 _ _ HRD.out (by have h1 := HFL.out; have h2 := HGL.out; rw [sumQ_length _ _ (by omega)]; omega) HZ.out (hg.below hB2)).mono ?_
 rintro e w3 ⟨_, rfl, rfl, hb3⟩
 go_wp2_with fail
 go_ret2
 exact ⟨_, rfl, ⟨_, rfl, RdC.below HRD.out hb3, HFR.out⟩, hB2.trans (hb3.mono hB2.size)⟩
theorem locN_head {P : List PtQ} {T : List Tri} {p : PtQ} {i : Nat} (hi : i < T.length) (h1 : insideT P T p i = true) (h2 : ∀ j, j < i → insideT P T p j = false) : ∃ l, locN P T p T.length = (i : Int) :: l := by
 have hf : ((List.range T.length).filter (insideT P T p)).head? = some i := by
  rw [List.head?_filter, List.find?_range_eq_some]
  exact ⟨h1, List.mem_range.2 hi, fun j hj => by rw [h2 j hj]; rfl⟩
 unfold locN
 cases hl : (List.range T.length).filter (insideT P T p) with
 | nil => rw [hl] at hf; simp at hf
 | cons a l =>
   rw [hl] at hf
   obtain rfl : a = i := by simpa using hf
   exact ⟨_, List.map_cons⟩
theorem onQ_Sz {P : List PtQ} {T : List Tri} {F : List Rat} (hm : MeshOK P T 2) (hF : ∀ q ∈ F, Sz 2 q) {tr : Tri} (htr : tr ∈ T) {p : PtQ} (hp : SzP 40 p) : Sz 200 (onQ P F tr p) := by
 have hs := slope_Sz hm rfl hF htr
 have hf : Sz 2 (hI F tr.1) := hI_Sz (by omega) hF _
 have hq : SzP 2 (ptI P tr.1) := by
  obtain ⟨h0, h1⟩ := hm.idx tr htr tr.1 (by simp [idxOf])
  obtain ⟨q, hq⟩ : ∃ q : Nat, tr.1 = (q : Int) := ⟨tr.1.toNat, by omega⟩
  rw [hq, ptI_nat P q (by omega)]
  exact hm.sz _ (List.getElem_mem _)
 unfold onQ
 exact ((hf.add (hs.1.mul (hp.1.sub hq.1))).add (hs.2.mul (hp.2.sub hq.2))).mono (by omega)
theorem sz_of_div2 {m n : Int} {k : Nat} (hn : n ≠ 0) (hm : m.natAbs < 10 ^ k) (hn2 : n.natAbs < 10 ^ k) {q : Rat} (h : q * (n : Rat) = (m : Rat)) : Sz k q := by
 have hn' : (n : Rat) ≠ 0 := by simpa using hn
 have e : q = mkRat (if 0 < n then m else -m) n.natAbs := by
  rw [Rat.mkRat_eq_div]
  rcases Int.lt_or_lt_of_ne hn with h0 | h0
  ·rw [if_neg (by omega)]
   have : ((n.natAbs : Nat) : Rat) = -(n : Rat) := by
    have h1 : ((n.natAbs : Nat) : Int) = -n := by omega
    have : (((n.natAbs : Nat) : Int) : Rat) = ((-n : Int) : Rat) := by rw [h1]
    rw [Rat.intCast_neg] at this
    exact this
   rw [this, Rat.intCast_neg, ← h]
   grind
  ·rw [if_pos h0]
   have : ((n.natAbs : Nat) : Rat) = (n : Rat) := by
    have h1 : ((n.natAbs : Nat) : Int) = n := by omega
    have : (((n.natAbs : Nat) : Int) : Rat) = ((n : Int) : Rat) := by rw [h1]
    exact this
   rw [this, ← h]
   grind
 rw [e]
 exact Sz.mkRat (by omega) (by split <;> omega) hn2
theorem num_den (q : Rat) : (q.num : Rat) = q * (q.den : Rat) := by
 have h := Rat.mkRat_self q
 rw [Rat.mkRat_eq_div] at h
 have hd : (q.den : Rat) ≠ 0 := by
  have := q.den_nz
  intro e
  exact this (by exact_mod_cast e)
 have h2 : (q.num : Rat) / (q.den : Rat) * (q.den : Rat) = q * (q.den : Rat) := by rw [h]
 rw [Rat.div_mul_cancel hd] at h2
 exact h2
theorem area_Sz3 {p q x : PtQ} {n : Nat} (hp : SzP 2 p) (hq : SzP 2 q) (hx : SzP n x) : Sz (2 * n + 17) (areaQ p q x) := by
 unfold areaQ
 exact (((hq.1.sub hp.1).mul (hx.2.sub hp.2)).sub ((hq.2.sub hp.2).mul (hx.1.sub hp.1))).mono (by omega)
end Go.Proofs.YtegiemcnfbchoaaGreatDoor
