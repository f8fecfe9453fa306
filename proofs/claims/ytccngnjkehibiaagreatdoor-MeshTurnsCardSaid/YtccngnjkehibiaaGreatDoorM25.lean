/- klippelaw12.MeshTurns returns true: any sheet, any pair of indices. -/
import Derived.Test.YtccngnjkehibiaaGreatDoorM24
import Derived.Test.YtccngnjkehibiaaGreatDoorM10
import Derived.Test.YtccngnjkehibiaaGreatDoorM17
namespace Go.Proofs.YtccngnjkehibiaaGreatDoor
open Go.RowKit Go.Lib

set_option maxHeartbeats 8000000 in
set_option maxRecDepth 100000 in
theorem mt_none (w : World) (kz s0 s1 : Int) (half : Bool) (x0 x1 : Int) (hk0 : 0 ≤ kz) (hk1 : kz ≤ 255) (hs0 : -128 ≤ s0 ∧ s0 ≤ 127) (hs1 : -128 ≤ s1 ∧ s1 ≤ 127)
    (hx0 : -128 ≤ x0 ∧ x0 ≤ 127) (hx1 : -128 ≤ x1 ∧ x1 ≤ 127) (k : Nat) (hk : kz.tmod 8 = (k : Int)) (P : List PtQ) (hP : P = sheetP k s0 s1 half) (T : List Tri) (hT : T = shapeT k) (hn : x1 ≤ x0 ∨ (x0 < x1 ∧ sideI T x0 x1 < 0 ∧ sideI T x1 x0 < 0)) (hg : Good w) :
    Calls Tryz.prog 8 #[.agg #[.int .u8 kz, .int .i8 s0, .int .i8 s1, .bool half], .agg #[.int .i8 x0, .int .i8 x1]] w (Ret (fun r _ => r = .bool true) w) := by
  have HMK := Lib.hid fun w hg => make12_any w kz s0 s1 half k hk hk0 hk1 hs0 hs1 hg
  have hM := sheet_ok k s0 s1 half
  rw [← hP, ← hT] at HMK hM
  clear hP hT hk hk0 hk1 hs0 hs1
  have hI : ∀ t ∈ T, InI t.1 ∧ InI t.2.1 ∧ InI t.2.2 := fun t ht => by
    have hl := hM.plen
    have key : ∀ x ∈ idxOf t, InI x := fun x hx => by
      have := hM.idx t ht x hx
      unfold InI
      omega
    exact ⟨key _ (by simp [idxOf]), key _ (by simp [idxOf]), key _ (by simp [idxOf])⟩
  have hp4 := hM.plen
  have ht8 := hM.tlen
  have HSD : Hid (∀ (u v : Int) (w : World) (vp vt : Value), RdP w vp (strP P) → RdT w vt T → Calls Tryz.prog 36 #[.agg #[vp, vt], .int .i64 u, .int .i64 v] w (Ret (fun r _ => r = .int .i64 (sideI T u v)) w)) := fun u v w vp vt hp ht => lsides_any w vp vt (strP P) T hp ht (by omega) u v
  have HTN : Hid (∀ (w : World) (vp vt : Value), RdP w vp (strP P) → RdT w vt T → Good w → Calls Tryz.prog 35 #[.agg #[vp, vt], .agg #[.int .i64 x0, .int .i64 x1]] w (Ret (fun r _ => r = .tuple #[.agg #[.slice none 0 0, .slice none 0 0], .int .i64 11]) w)) := fun w vp vt hp ht hg => mturn_none w vp vt P T 2 hp ht hM hI x0 x1 (by omega) (by omega) hn hg
  have HM := Lib.hid hM
  have hwx0 : IntKind.i64.wrap x0 = x0 := IntWalk.i64_in _ (by omega)
  have hwx1 : IntKind.i64.wrap x1 = x1 := IntWalk.i64_in _ (by omega)
  clear hM hI
  go_enter Tryz.func8, Tryz.ntmps8
  go_wp2_with fail
  obtain ⟨W, hW⟩ : ∃ W, W = (w.alloc (.cells #[.int .u8 kz, .int .i8 s0, .int .i8 s1, .bool half] 49)).alloc (.cells #[.int .i8 x0, .int .i8 x1] 47) := ⟨_, rfl⟩
  have hB : Below w.heap.size w W := by rw [hW]; exact ((Below.refl _ _).alloc (Nat.le_refl _) _).alloc (by simp) _
  have b5 : BoxN W (w.heap.size + 1) 47 [.int .i8 x0, .int .i8 x1] := by rw [hW]; exact BoxN.new _ _ _ _ (by simp)
  have b3 : BoxN W w.heap.size 49 [.int .u8 kz, .int .i8 s0, .int .i8 s1, .bool half] := by
    rw [hW]
    have h1 := (BoxN.new w #[.int .u8 kz, .int .i8 s0, .int .i8 s1, .bool half] 49 _ rfl)
    exact h1.below ((Below.refl _ _).alloc (Nat.le_refl _) _) h1.lt
  rw [← hW]
  clear hW
  refine (known12_any W (hg.below hB)).mono ?_
  rintro e o1 ⟨_, rfl, rfl, hb1⟩
  have hB1 := hB.trans (hb1.mono hB.size)
  have b51 := b5.below hb1 b5.lt
  have b31 := b3.below hb1 b3.lt
  clear hb1 hB b5 b3
  have k0 := b31.cell 0 rfl
  have k1 := b31.cell 1 rfl
  have k2 := b31.cell 2 rfl
  have k3 := b31.cell 3 rfl
  go_wp2_with fail
  refine (HMK.out o1 (hg.below hB1)).mono ?_
  rintro e o2 ⟨_, rfl, ⟨vp, vt, rfl, hp, ht⟩, hb2⟩
  have hB2 := hB1.trans (hb2.mono hB1.size)
  have b52 := b51.below hb2 b51.lt
  obtain ⟨pp, cp, rfl, -, -, -⟩ := hp.open
  obtain ⟨pt, ct, rfl, -, -, -⟩ := ht.open
  rw [strP_length] at *
  have HPP := Lib.hid hp
  have HTT := Lib.hid ht
  clear hb2 hB1 b51 b31 hp ht k0 k1 k2 k3 HMK
  obtain ⟨o3, ho3⟩ : ∃ W, W = o2.alloc (.cells #[.slice pp P.length cp, .slice pt T.length ct] 34) := ⟨_, rfl⟩
  have hb3 : Below o2.heap.size o2 o3 := by rw [ho3]; exact (Below.refl _ _).alloc (Nat.le_refl _) _
  have b7 : BoxN o3 o2.heap.size 34 [.slice pp P.length cp, .slice pt T.length ct] := by rw [ho3]; exact BoxN.new _ _ _ _ rfl
  have b53 := b52.below hb3 b52.lt
  go_upto_region 4 with fail
  rw [← ho3]
  clear ho3 b52
  have j0 := b53.cell 0 rfl
  have j1 := b53.cell 1 rfl
  go_region
  all_goals
    obtain ⟨o4, ho4⟩ : ∃ W, W = o3.drew := ⟨_, rfl⟩
    have hb4 : Below o3.heap.size o3 o4 := by rw [ho4]; exact below_drewN o3 1
    rw [← ho4]
    have h24 := hb3.trans (hb4.mono hb3.size)
    have b74 := b7.below hb4 b7.lt
    clear ho4 hb3 hb4 b7 b53 j0 j1
    have m0 := b74.cell 0 rfl
    have m1 := b74.cell 1 rfl
    go_wp2_with fail
    refine (HTN.out o4 _ _ (RdC.below HPP.out h24) (RdC.below HTT.out h24) (hg.below (hB2.trans (h24.mono hB2.size)))).mono ?_
    rintro e o5 ⟨_, rfl, rfl, hb5⟩
    have h25 := h24.trans (hb5.mono h24.size)
    have b75 := b74.below hb5 b74.lt
    clear m0 m1 b74 h24 HTN
    go_upto_region 7 with fail
    obtain ⟨o6, ho6⟩ : ∃ W, W = o5.alloc (.cells #[.slice none 0 0, .slice none 0 0] 34) := ⟨_, rfl⟩
    have hb6 : Below o5.heap.size o5 o6 := by rw [ho6]; exact (Below.refl _ _).alloc (Nat.le_refl _) _
    have b8 : BoxN o6 o5.heap.size 34 [.slice none 0 0, .slice none 0 0] := by rw [ho6]; exact BoxN.new _ _ _ _ rfl
    rw [← ho6]
    have h26 := h25.trans (hb6.mono h25.size)
    have b76 := b75.below hb6 b75.lt
    have hl7 := b76.lt
    have hl8 := b8.lt
    clear ho6 hb6 b75 h25
    have m0 := b76.cell 0 rfl
    have m1 := b76.cell 1 rfl
    have n0 := b8.cell 0 rfl
    have n1 := b8.cell 1 rfl
    by_cases hin : 0 ≤ x0 ∧ x0 < x1 ∧ x1 < (P.length : Int)
    · have hd0 : decide (0 ≤ x0) = true := decide_eq_true hin.1
      have hd1 : decide (x0 < x1) = true := decide_eq_true hin.2.1
      have hd2 : decide (x1 < (P.length : Int)) = true := decide_eq_true hin.2.2
      have h1 : sideI T x0 x1 < 0 := by omega
      have h2 : sideI T x1 x0 < 0 := by omega
      have HK8 : Hid (∀ w', Below o6.heap.size o6 w' → w'.cell? ⟨o2.heap.size, 0, none⟩ = some (.slice pp P.length cp) ∧ w'.cell? ⟨o2.heap.size, 1, none⟩ = some (.slice pt T.length ct)) := fun w' hb => ⟨(hb.cell (p := ⟨o2.heap.size, 0, none⟩) hl7).trans m0, (hb.cell (p := ⟨o2.heap.size, 1, none⟩) hl7).trans m1⟩
      have HSS : Hid (∀ (u v : Int) (w' : World), Below o6.heap.size o6 w' → Calls Tryz.prog 36 #[.agg #[.slice pp P.length cp, .slice pt T.length ct], .int .i64 u, .int .i64 v] w' (Ret (fun r _ => r = .int .i64 (sideI T u v)) w')) := fun u v w' hb => HSD.out u v w' _ _ (RdC.below HPP.out (h26.trans (hb.mono h26.size))) (RdC.below HTT.out (h26.trans (hb.mono h26.size)))
      have q0 : Below o6.heap.size o6 o6.drew := below_drewN o6 1
      go_upto_region 8 with fail
      refine wp_region_held_drew (S := (fun w' => w'.cell? ⟨o2.heap.size, 0, none⟩ = some (.slice pp P.length cp) ∧ w'.cell? ⟨o2.heap.size, 1, none⟩ = some (.slice pt T.length ct))) (by kernel_rfl) ?_ (fun hHeld => ?_)
      · first | exact HK8.out _ q2 | exact HK8.out _ q1 | exact HK8.out _ q0
      refine wpAnyH_take (i := 0) (oi := _) (v := ?_) rfl (by kernel_rfl) (by kernel_rfl) (by kernel_rfl) (fun _ _ _ h => h) (Or.inl ⟨by rfl, ?_⟩) (by assumption) ?_
      rotate_left
      · intro w hSw; (try dsimp only at hSw); first | (go_simp; done) | (go_simp; with_reducible rfl)
      try simp only [Act.put, List.getElem_toArray, List.getElem_cons_zero, List.setIfInBounds_toArray, List.set_cons_zero, List.set_cons_succ]
      refine wpAnyH_take (i := 1) (oi := _) (v := ?_) rfl (by kernel_rfl) (by kernel_rfl) (by kernel_rfl) (fun _ _ _ h => h) (Or.inl ⟨by rfl, ?_⟩) (by assumption) ?_
      rotate_left
      · intro w hSw; (try dsimp only at hSw); first | (go_simp; done) | (go_simp; with_reducible rfl)
      try simp only [Act.put, List.getElem_toArray, List.getElem_cons_zero, List.getElem_cons_succ, List.setIfInBounds_toArray, List.set_cons_zero, List.set_cons_succ]
      refine wpAnyH_take (i := 2) (oi := _) (v := ?_) rfl (by kernel_rfl) (by kernel_rfl) (by kernel_rfl) (fun _ _ _ h => h) (Or.inl ⟨by rfl, ?_⟩) (by assumption) ?_
      rotate_left
      · intro w hSw; (try dsimp only at hSw); first | (go_simp; done) | (go_simp; with_reducible rfl)
      try simp only [Act.put, List.getElem_toArray, List.getElem_cons_zero, List.getElem_cons_succ, List.setIfInBounds_toArray, List.set_cons_zero, List.set_cons_succ]
      refine wpAnyH_take (i := 4) (oi := _) (v := ?_) rfl (by kernel_rfl) (by kernel_rfl) (by kernel_rfl) (fun _ _ _ h => h) (Or.inl ⟨by rfl, ?_⟩) (by assumption) ?_
      rotate_left
      · intro w hSw; (try dsimp only at hSw); first | (go_simp; done) | (go_simp; with_reducible rfl)
      try simp only [Act.put, List.getElem_toArray, List.getElem_cons_zero, List.getElem_cons_succ, List.setIfInBounds_toArray, List.set_cons_zero, List.set_cons_succ]
      refine wpAnyH_take (i := 5) (oi := _) (v := ?_) rfl (by kernel_rfl) (by kernel_rfl) (by kernel_rfl) (fun _ _ _ h => h) (Or.inl ⟨by rfl, ?_⟩) (by assumption) ?_
      rotate_left
      · intro w hSw; (try dsimp only at hSw); first | (go_simp; done) | (go_simp; with_reducible rfl)
      try simp only [Act.put, List.getElem_toArray, List.getElem_cons_zero, List.getElem_cons_succ, List.setIfInBounds_toArray, List.set_cons_zero, List.set_cons_succ]
      refine wpAnyH_take (i := 6) (oi := _) (v := ?_) rfl (by kernel_rfl) (by kernel_rfl) (by kernel_rfl) (fun _ _ _ h => h) (Or.inl ⟨by rfl, ?_⟩) (by assumption) ?_
      rotate_left
      · intro w hSw; (try dsimp only at hSw); first | (go_simp; done) | (go_simp; with_reducible rfl)
      try simp only [Act.put, List.getElem_toArray, List.getElem_cons_zero, List.getElem_cons_succ, List.setIfInBounds_toArray, List.set_cons_zero, List.set_cons_succ]
      refine wpAnyH_ready (rs := [3]) (by kernel_rfl) (by simp) ?_
      refine AllReadyH.cons (o := _) rfl (fun K hK => ?_) AllReadyH.nil
      go_simp
      (refine (HSS.out x0 x1 _ q0).mono ?_; rintro e y1 ⟨_, rfl, rfl, hy1⟩; have q1 := q0.trans (hy1.mono q0.size))
      refine hK.out _ _ ?_ (fun hHeld => ?_)
      · first | exact HK8.out _ q2 | exact HK8.out _ q1 | exact HK8.out _ q0
      clear hK K
      try simp only [Act.put, List.getElem_toArray, List.getElem_cons_zero, List.getElem_cons_succ, List.setIfInBounds_toArray, List.set_cons_zero, List.set_cons_succ]
      refine wpAnyH_ready (rs := [7]) (by kernel_rfl) (by simp) ?_
      refine AllReadyH.cons (o := _) rfl (fun K hK => ?_) AllReadyH.nil
      go_simp
      (refine (HSS.out x1 x0 _ q1).mono ?_; rintro e y2 ⟨_, rfl, rfl, hy2⟩; have q2 := q1.trans (hy2.mono q1.size))
      refine hK.out _ _ ?_ (fun hHeld => ?_)
      · first | exact HK8.out _ q2 | exact HK8.out _ q1 | exact HK8.out _ q0
      clear hK K
      try simp only [Act.put, List.getElem_toArray, List.getElem_cons_zero, List.getElem_cons_succ, List.setIfInBounds_toArray, List.set_cons_zero, List.set_cons_succ]
      refine wpAnyH_take (i := 8) (oi := _) (v := ?_) rfl (by kernel_rfl) (by kernel_rfl) (by kernel_rfl) (fun _ _ _ h => h) (Or.inl ⟨by rfl, ?_⟩) (by assumption) ?_
      rotate_left
      · intro w hSw; (try dsimp only at hSw); first | (go_simp; done) | (go_simp; with_reducible rfl)
      try simp only [Act.put, List.getElem_toArray, List.getElem_cons_zero, List.getElem_cons_succ, List.setIfInBounds_toArray, List.set_cons_zero, List.set_cons_succ]
      refine wpAnyH_take (i := 9) (oi := _) (v := ?_) rfl (by kernel_rfl) (by kernel_rfl) (by kernel_rfl) (fun _ _ _ h => h) (Or.inl ⟨by rfl, ?_⟩) (by assumption) ?_
      rotate_left
      · intro w hSw; (try dsimp only at hSw); first | (go_simp; done) | (go_simp; with_reducible rfl)
      try simp only [Act.put, List.getElem_toArray, List.getElem_cons_zero, List.getElem_cons_succ, List.setIfInBounds_toArray, List.set_cons_zero, List.set_cons_succ]
      refine wpAnyH_done (by kernel_rfl) ?_ _
      have n0 := (q2.cell (p := ⟨o5.heap.size, 0, none⟩) hl8).trans n0
      have n1 := (q2.cell (p := ⟨o5.heap.size, 1, none⟩) hl8).trans n1
      rw [sideI_neg h1, sideI_neg h2]
      go_wp2_with fail
      refine (none_true _).mono ?_
      rintro e o9 ⟨_, rfl, rfl, hb9⟩
      go_wp2_with fail
      go_ret
      exact ⟨_, rfl, rfl, (hB2.trans ((h26.trans ((q2.trans (hb9.mono q2.size)).mono h26.size)).mono hB2.size))⟩
    · rcases (by omega : x0 < 0 ∨ (0 ≤ x0 ∧ x1 ≤ x0) ∨ (0 ≤ x0 ∧ x0 < x1 ∧ (P.length : Int) ≤ x1)) with h | h | h
      · have hd0 : decide (0 ≤ x0) = false := decide_eq_false (by omega)
        clear hn hin h
        go_wp2_with fail
        refine (none_true _).mono ?_
        rintro e o9 ⟨_, rfl, rfl, hb9⟩
        go_wp2_with fail
        go_ret
        exact ⟨_, rfl, rfl, (hB2.trans ((h26.trans (hb9.mono h26.size)).mono hB2.size))⟩
      · have hd0 : decide (0 ≤ x0) = true := decide_eq_true (by omega)
        have hd1 : decide (x0 < x1) = false := decide_eq_false (by omega)
        clear hn hin h
        go_wp2_with fail
        refine (none_true _).mono ?_
        rintro e o9 ⟨_, rfl, rfl, hb9⟩
        go_wp2_with fail
        go_ret
        exact ⟨_, rfl, rfl, (hB2.trans ((h26.trans (hb9.mono h26.size)).mono hB2.size))⟩
      · have hd0 : decide (0 ≤ x0) = true := decide_eq_true (by omega)
        have hd1 : decide (x0 < x1) = true := decide_eq_true (by omega)
        have hd2 : decide (x1 < (P.length : Int)) = false := decide_eq_false (by omega)
        clear hn hin h
        go_wp2_with fail
        refine (none_true _).mono ?_
        rintro e o9 ⟨_, rfl, rfl, hb9⟩
        go_wp2_with fail
        go_ret
        exact ⟨_, rfl, rfl, (hB2.trans ((h26.trans (hb9.mono h26.size)).mono hB2.size))⟩

set_option maxHeartbeats 8000000 in
set_option maxRecDepth 100000 in
theorem mt_open (w : World) (kz s0 s1 : Int) (half : Bool) (x0 x1 : Int) (hk0 : 0 ≤ kz) (hk1 : kz ≤ 255) (hs0 : -128 ≤ s0 ∧ s0 ≤ 127) (hs1 : -128 ≤ s1 ∧ s1 ≤ 127)
    (hx0 : -128 ≤ x0 ∧ x0 ≤ 127) (hx1 : -128 ≤ x1 ∧ x1 ≤ 127) (k : Nat) (hk : kz.tmod 8 = (k : Int)) (P : List PtQ) (hP : P = sheetP k s0 s1 half) (T : List Tri) (hT : T = shapeT k) (hlt : x0 < x1) (hn : (sideI T x0 x1 < 0 ∧ 0 ≤ sideI T x1 x0) ∨ (0 ≤ sideI T x0 x1 ∧ sideI T x1 x0 < 0)) (hg : Good w) :
    Calls Tryz.prog 8 #[.agg #[.int .u8 kz, .int .i8 s0, .int .i8 s1, .bool half], .agg #[.int .i8 x0, .int .i8 x1]] w (Ret (fun r _ => r = .bool true) w) := by
  have HMK := Lib.hid fun w hg => make12_any w kz s0 s1 half k hk hk0 hk1 hs0 hs1 hg
  have hM := sheet_ok k s0 s1 half
  rw [← hP, ← hT] at HMK hM
  clear hP hT hk hk0 hk1 hs0 hs1
  have hI : ∀ t ∈ T, InI t.1 ∧ InI t.2.1 ∧ InI t.2.2 := fun t ht => by
    have hl := hM.plen
    have key : ∀ x ∈ idxOf t, InI x := fun x hx => by
      have := hM.idx t ht x hx
      unfold InI
      omega
    exact ⟨key _ (by simp [idxOf]), key _ (by simp [idxOf]), key _ (by simp [idxOf])⟩
  have hp4 := hM.plen
  have ht8 := hM.tlen
  have HSD : Hid (∀ (u v : Int) (w : World) (vp vt : Value), RdP w vp (strP P) → RdT w vt T → Calls Tryz.prog 36 #[.agg #[vp, vt], .int .i64 u, .int .i64 v] w (Ret (fun r _ => r = .int .i64 (sideI T u v)) w)) := fun u v w vp vt hp ht => lsides_any w vp vt (strP P) T hp ht (by omega) u v
  have HTN : Hid (∀ (w : World) (vp vt : Value), RdP w vp (strP P) → RdT w vt T → Good w → Calls Tryz.prog 35 #[.agg #[vp, vt], .agg #[.int .i64 x0, .int .i64 x1]] w (Ret (fun r _ => r = .tuple #[.agg #[.slice none 0 0, .slice none 0 0], .int .i64 25]) w)) := fun w vp vt hp ht hg => mturn_open w vp vt P T 2 hp ht hM hI x0 x1 (by omega) (by omega) hlt hn hg
  have hin : (0 ≤ x0 ∧ x0 < (P.length : Int)) ∧ (0 ≤ x1 ∧ x1 < (P.length : Int)) := by
    rcases hn with ⟨_, h⟩ | ⟨h, _⟩
    · exact ⟨(sideI_in h hM.idx).2, (sideI_in h hM.idx).1⟩
    · exact sideI_in h hM.idx
  have HM := Lib.hid hM
  have hwx0 : IntKind.i64.wrap x0 = x0 := IntWalk.i64_in _ (by omega)
  have hwx1 : IntKind.i64.wrap x1 = x1 := IntWalk.i64_in _ (by omega)
  clear hM hI
  go_enter Tryz.func8, Tryz.ntmps8
  go_wp2_with fail
  obtain ⟨W, hW⟩ : ∃ W, W = (w.alloc (.cells #[.int .u8 kz, .int .i8 s0, .int .i8 s1, .bool half] 49)).alloc (.cells #[.int .i8 x0, .int .i8 x1] 47) := ⟨_, rfl⟩
  have hB : Below w.heap.size w W := by rw [hW]; exact ((Below.refl _ _).alloc (Nat.le_refl _) _).alloc (by simp) _
  have b5 : BoxN W (w.heap.size + 1) 47 [.int .i8 x0, .int .i8 x1] := by rw [hW]; exact BoxN.new _ _ _ _ (by simp)
  have b3 : BoxN W w.heap.size 49 [.int .u8 kz, .int .i8 s0, .int .i8 s1, .bool half] := by
    rw [hW]
    have h1 := (BoxN.new w #[.int .u8 kz, .int .i8 s0, .int .i8 s1, .bool half] 49 _ rfl)
    exact h1.below ((Below.refl _ _).alloc (Nat.le_refl _) _) h1.lt
  rw [← hW]
  clear hW
  refine (known12_any W (hg.below hB)).mono ?_
  rintro e o1 ⟨_, rfl, rfl, hb1⟩
  have hB1 := hB.trans (hb1.mono hB.size)
  have b51 := b5.below hb1 b5.lt
  have b31 := b3.below hb1 b3.lt
  clear hb1 hB b5 b3
  have k0 := b31.cell 0 rfl
  have k1 := b31.cell 1 rfl
  have k2 := b31.cell 2 rfl
  have k3 := b31.cell 3 rfl
  go_wp2_with fail
  refine (HMK.out o1 (hg.below hB1)).mono ?_
  rintro e o2 ⟨_, rfl, ⟨vp, vt, rfl, hp, ht⟩, hb2⟩
  have hB2 := hB1.trans (hb2.mono hB1.size)
  have b52 := b51.below hb2 b51.lt
  obtain ⟨pp, cp, rfl, -, -, -⟩ := hp.open
  obtain ⟨pt, ct, rfl, -, -, -⟩ := ht.open
  rw [strP_length] at *
  have HPP := Lib.hid hp
  have HTT := Lib.hid ht
  clear hb2 hB1 b51 b31 hp ht k0 k1 k2 k3 HMK
  obtain ⟨o3, ho3⟩ : ∃ W, W = o2.alloc (.cells #[.slice pp P.length cp, .slice pt T.length ct] 34) := ⟨_, rfl⟩
  have hb3 : Below o2.heap.size o2 o3 := by rw [ho3]; exact (Below.refl _ _).alloc (Nat.le_refl _) _
  have b7 : BoxN o3 o2.heap.size 34 [.slice pp P.length cp, .slice pt T.length ct] := by rw [ho3]; exact BoxN.new _ _ _ _ rfl
  have b53 := b52.below hb3 b52.lt
  go_upto_region 4 with fail
  rw [← ho3]
  clear ho3 b52
  have j0 := b53.cell 0 rfl
  have j1 := b53.cell 1 rfl
  go_region
  all_goals
    obtain ⟨o4, ho4⟩ : ∃ W, W = o3.drew := ⟨_, rfl⟩
    have hb4 : Below o3.heap.size o3 o4 := by rw [ho4]; exact below_drewN o3 1
    rw [← ho4]
    have h24 := hb3.trans (hb4.mono hb3.size)
    have b74 := b7.below hb4 b7.lt
    clear ho4 hb3 hb4 b7 b53 j0 j1
    have m0 := b74.cell 0 rfl
    have m1 := b74.cell 1 rfl
    go_wp2_with fail
    refine (HTN.out o4 _ _ (RdC.below HPP.out h24) (RdC.below HTT.out h24) (hg.below (hB2.trans (h24.mono hB2.size)))).mono ?_
    rintro e o5 ⟨_, rfl, rfl, hb5⟩
    have h25 := h24.trans (hb5.mono h24.size)
    have b75 := b74.below hb5 b74.lt
    clear m0 m1 b74 h24 HTN
    go_upto_region 7 with fail
    obtain ⟨o6, ho6⟩ : ∃ W, W = o5.alloc (.cells #[.slice none 0 0, .slice none 0 0] 34) := ⟨_, rfl⟩
    have hb6 : Below o5.heap.size o5 o6 := by rw [ho6]; exact (Below.refl _ _).alloc (Nat.le_refl _) _
    have b8 : BoxN o6 o5.heap.size 34 [.slice none 0 0, .slice none 0 0] := by rw [ho6]; exact BoxN.new _ _ _ _ rfl
    rw [← ho6]
    have h26 := h25.trans (hb6.mono h25.size)
    have b76 := b75.below hb6 b75.lt
    have hl7 := b76.lt
    have hl8 := b8.lt
    clear ho6 hb6 b75 h25
    have m0 := b76.cell 0 rfl
    have m1 := b76.cell 1 rfl
    have n0 := b8.cell 0 rfl
    have n1 := b8.cell 1 rfl
    have hd0 : decide (0 ≤ x0) = true := decide_eq_true hin.1.1
    have hd1 : decide (x0 < x1) = true := decide_eq_true hlt
    have hd2 : decide (x1 < (P.length : Int)) = true := decide_eq_true hin.2.2
    have HK8 : Hid (∀ w', Below o6.heap.size o6 w' → w'.cell? ⟨o2.heap.size, 0, none⟩ = some (.slice pp P.length cp) ∧ w'.cell? ⟨o2.heap.size, 1, none⟩ = some (.slice pt T.length ct)) := fun w' hb => ⟨(hb.cell (p := ⟨o2.heap.size, 0, none⟩) hl7).trans m0, (hb.cell (p := ⟨o2.heap.size, 1, none⟩) hl7).trans m1⟩
    have HSS : Hid (∀ (u v : Int) (w' : World), Below o6.heap.size o6 w' → Calls Tryz.prog 36 #[.agg #[.slice pp P.length cp, .slice pt T.length ct], .int .i64 u, .int .i64 v] w' (Ret (fun r _ => r = .int .i64 (sideI T u v)) w')) := fun u v w' hb => HSD.out u v w' _ _ (RdC.below HPP.out (h26.trans (hb.mono h26.size))) (RdC.below HTT.out (h26.trans (hb.mono h26.size)))
    have q0 : Below o6.heap.size o6 o6.drew := below_drewN o6 1
    go_upto_region 8 with fail
    refine wp_region_held_drew (S := (fun w' => w'.cell? ⟨o2.heap.size, 0, none⟩ = some (.slice pp P.length cp) ∧ w'.cell? ⟨o2.heap.size, 1, none⟩ = some (.slice pt T.length ct))) (by kernel_rfl) ?_ (fun hHeld => ?_)
    · first | exact HK8.out _ q2 | exact HK8.out _ q1 | exact HK8.out _ q0
    refine wpAnyH_take (i := 0) (oi := _) (v := ?_) rfl (by kernel_rfl) (by kernel_rfl) (by kernel_rfl) (fun _ _ _ h => h) (Or.inl ⟨by rfl, ?_⟩) (by assumption) ?_
    rotate_left
    · intro w hSw; (try dsimp only at hSw); first | (go_simp; done) | (go_simp; with_reducible rfl)
    try simp only [Act.put, List.getElem_toArray, List.getElem_cons_zero, List.setIfInBounds_toArray, List.set_cons_zero, List.set_cons_succ]
    refine wpAnyH_take (i := 1) (oi := _) (v := ?_) rfl (by kernel_rfl) (by kernel_rfl) (by kernel_rfl) (fun _ _ _ h => h) (Or.inl ⟨by rfl, ?_⟩) (by assumption) ?_
    rotate_left
    · intro w hSw; (try dsimp only at hSw); first | (go_simp; done) | (go_simp; with_reducible rfl)
    try simp only [Act.put, List.getElem_toArray, List.getElem_cons_zero, List.getElem_cons_succ, List.setIfInBounds_toArray, List.set_cons_zero, List.set_cons_succ]
    refine wpAnyH_take (i := 2) (oi := _) (v := ?_) rfl (by kernel_rfl) (by kernel_rfl) (by kernel_rfl) (fun _ _ _ h => h) (Or.inl ⟨by rfl, ?_⟩) (by assumption) ?_
    rotate_left
    · intro w hSw; (try dsimp only at hSw); first | (go_simp; done) | (go_simp; with_reducible rfl)
    try simp only [Act.put, List.getElem_toArray, List.getElem_cons_zero, List.getElem_cons_succ, List.setIfInBounds_toArray, List.set_cons_zero, List.set_cons_succ]
    refine wpAnyH_take (i := 4) (oi := _) (v := ?_) rfl (by kernel_rfl) (by kernel_rfl) (by kernel_rfl) (fun _ _ _ h => h) (Or.inl ⟨by rfl, ?_⟩) (by assumption) ?_
    rotate_left
    · intro w hSw; (try dsimp only at hSw); first | (go_simp; done) | (go_simp; with_reducible rfl)
    try simp only [Act.put, List.getElem_toArray, List.getElem_cons_zero, List.getElem_cons_succ, List.setIfInBounds_toArray, List.set_cons_zero, List.set_cons_succ]
    refine wpAnyH_take (i := 5) (oi := _) (v := ?_) rfl (by kernel_rfl) (by kernel_rfl) (by kernel_rfl) (fun _ _ _ h => h) (Or.inl ⟨by rfl, ?_⟩) (by assumption) ?_
    rotate_left
    · intro w hSw; (try dsimp only at hSw); first | (go_simp; done) | (go_simp; with_reducible rfl)
    try simp only [Act.put, List.getElem_toArray, List.getElem_cons_zero, List.getElem_cons_succ, List.setIfInBounds_toArray, List.set_cons_zero, List.set_cons_succ]
    refine wpAnyH_take (i := 6) (oi := _) (v := ?_) rfl (by kernel_rfl) (by kernel_rfl) (by kernel_rfl) (fun _ _ _ h => h) (Or.inl ⟨by rfl, ?_⟩) (by assumption) ?_
    rotate_left
    · intro w hSw; (try dsimp only at hSw); first | (go_simp; done) | (go_simp; with_reducible rfl)
    try simp only [Act.put, List.getElem_toArray, List.getElem_cons_zero, List.getElem_cons_succ, List.setIfInBounds_toArray, List.set_cons_zero, List.set_cons_succ]
    refine wpAnyH_ready (rs := [3]) (by kernel_rfl) (by simp) ?_
    refine AllReadyH.cons (o := _) rfl (fun K hK => ?_) AllReadyH.nil
    go_simp
    (refine (HSS.out x0 x1 _ q0).mono ?_; rintro e y1 ⟨_, rfl, rfl, hy1⟩; have q1 := q0.trans (hy1.mono q0.size))
    refine hK.out _ _ ?_ (fun hHeld => ?_)
    · first | exact HK8.out _ q2 | exact HK8.out _ q1 | exact HK8.out _ q0
    clear hK K
    try simp only [Act.put, List.getElem_toArray, List.getElem_cons_zero, List.getElem_cons_succ, List.setIfInBounds_toArray, List.set_cons_zero, List.set_cons_succ]
    refine wpAnyH_ready (rs := [7]) (by kernel_rfl) (by simp) ?_
    refine AllReadyH.cons (o := _) rfl (fun K hK => ?_) AllReadyH.nil
    go_simp
    (refine (HSS.out x1 x0 _ q1).mono ?_; rintro e y2 ⟨_, rfl, rfl, hy2⟩; have q2 := q1.trans (hy2.mono q1.size))
    refine hK.out _ _ ?_ (fun hHeld => ?_)
    · first | exact HK8.out _ q2 | exact HK8.out _ q1 | exact HK8.out _ q0
    clear hK K
    try simp only [Act.put, List.getElem_toArray, List.getElem_cons_zero, List.getElem_cons_succ, List.setIfInBounds_toArray, List.set_cons_zero, List.set_cons_succ]
    refine wpAnyH_take (i := 8) (oi := _) (v := ?_) rfl (by kernel_rfl) (by kernel_rfl) (by kernel_rfl) (fun _ _ _ h => h) (Or.inl ⟨by rfl, ?_⟩) (by assumption) ?_
    rotate_left
    · intro w hSw; (try dsimp only at hSw); first | (go_simp; done) | (go_simp; with_reducible rfl)
    try simp only [Act.put, List.getElem_toArray, List.getElem_cons_zero, List.getElem_cons_succ, List.setIfInBounds_toArray, List.set_cons_zero, List.set_cons_succ]
    refine wpAnyH_take (i := 9) (oi := _) (v := ?_) rfl (by kernel_rfl) (by kernel_rfl) (by kernel_rfl) (fun _ _ _ h => h) (Or.inl ⟨by rfl, ?_⟩) (by assumption) ?_
    rotate_left
    · intro w hSw; (try dsimp only at hSw); first | (go_simp; done) | (go_simp; with_reducible rfl)
    try simp only [Act.put, List.getElem_toArray, List.getElem_cons_zero, List.getElem_cons_succ, List.setIfInBounds_toArray, List.set_cons_zero, List.set_cons_succ]
    refine wpAnyH_done (by kernel_rfl) ?_ _
    have n0 := (q2.cell (p := ⟨o5.heap.size, 0, none⟩) hl8).trans n0
    have n1 := (q2.cell (p := ⟨o5.heap.size, 1, none⟩) hl8).trans n1
    rcases hn with ⟨h1, h2⟩ | ⟨h1, h2⟩
    · rw [sideI_neg h1]
      obtain ⟨i, hi, -⟩ := sideI_lt h2
      rw [hi]
      have hiz : ¬ (i : Int) < 0 := by omega
      clear h1 h2 hi
      go_wp2_with fail
      refine (none_true _).mono ?_
      rintro e o9 ⟨_, rfl, rfl, hb9⟩
      go_wp2_with fail
      go_ret
      exact ⟨_, rfl, rfl, (hB2.trans ((h26.trans ((q2.trans (hb9.mono q2.size)).mono h26.size)).mono hB2.size))⟩
    · rw [sideI_neg h2]
      obtain ⟨i, hi, -⟩ := sideI_lt h1
      rw [hi]
      have hiz : ¬ (i : Int) < 0 := by omega
      clear h1 h2 hi
      go_wp2_with fail
      refine (none_true _).mono ?_
      rintro e o9 ⟨_, rfl, rfl, hb9⟩
      go_wp2_with fail
      go_ret
      exact ⟨_, rfl, rfl, (hB2.trans ((h26.trans ((q2.trans (hb9.mono q2.size)).mono h26.size)).mono hB2.size))⟩

set_option maxHeartbeats 8000000 in
set_option maxRecDepth 100000 in
theorem mt_form (w : World) (kz s0 s1 : Int) (half : Bool) (x0 x1 : Int) (hk0 : 0 ≤ kz) (hk1 : kz ≤ 255) (hs0 : -128 ≤ s0 ∧ s0 ≤ 127) (hs1 : -128 ≤ s1 ∧ s1 ≤ 127)
    (hx0 : -128 ≤ x0 ∧ x0 ≤ 127) (hx1 : -128 ≤ x1 ∧ x1 ≤ 127) (k : Nat) (hk : kz.tmod 8 = (k : Int)) (P : List PtQ) (hP : P = sheetP k s0 s1 half) (T : List Tri) (hT : T = shapeT k) (hlt : x0 < x1) (i m : Nat) (s t : Tri) (p q : Nat) (hsi1 : sideI T x0 x1 = (i : Int)) (hsm1 : sideI T x1 x0 = (m : Int)) (him : i ≠ m) (hsi : T[i]? = some s) (htm : T[m]? = some t) (hp1 : thirdI s x0 x1 = (p : Int)) (hq1 : thirdI t x0 x1 = (q : Int))
    (hp3 : s.1 + s.2.1 + s.2.2 - x0 - x1 = (p : Int)) (hq3 : t.1 + t.2.1 + t.2.2 - x0 - x1 = (q : Int)) (hpl : p < P.length) (hql : q < P.length) (hbad : turnZ (ptI P x0) (ptI P q) (ptI P p) ≤ 0 ∨ turnZ (ptI P q) (ptI P x1) (ptI P p) ≤ 0) (hg : Good w) :
    Calls Tryz.prog 8 #[.agg #[.int .u8 kz, .int .i8 s0, .int .i8 s1, .bool half], .agg #[.int .i8 x0, .int .i8 x1]] w (Ret (fun r _ => r = .bool true) w) := by
  have HMK := Lib.hid fun w hg => make12_any w kz s0 s1 half k hk hk0 hk1 hs0 hs1 hg
  have hM := sheet_ok k s0 s1 half
  rw [← hP, ← hT] at HMK hM
  clear hP hT hk hk0 hk1 hs0 hs1
  have hI : ∀ t ∈ T, InI t.1 ∧ InI t.2.1 ∧ InI t.2.2 := fun t ht => by
    have hl := hM.plen
    have key : ∀ x ∈ idxOf t, InI x := fun x hx => by
      have := hM.idx t ht x hx
      unfold InI
      omega
    exact ⟨key _ (by simp [idxOf]), key _ (by simp [idxOf]), key _ (by simp [idxOf])⟩
  have hp4 := hM.plen
  have ht8 := hM.tlen
  have HSD : Hid (∀ (u v : Int) (w : World) (vp vt : Value), RdP w vp (strP P) → RdT w vt T → Calls Tryz.prog 36 #[.agg #[vp, vt], .int .i64 u, .int .i64 v] w (Ret (fun r _ => r = .int .i64 (sideI T u v)) w)) := fun u v w vp vt hp ht => lsides_any w vp vt (strP P) T hp ht (by omega) u v
  have hin : (0 ≤ x0 ∧ x0 < (P.length : Int)) ∧ (0 ≤ x1 ∧ x1 < (P.length : Int)) := sideI_in (show 0 ≤ sideI T x0 x1 by omega) hM.idx
  obtain ⟨hil, hsi'⟩ := List.getElem?_eq_some_iff.1 hsi
  obtain ⟨hml, htm'⟩ := List.getElem?_eq_some_iff.1 htm
  have HT1 : Hid (∀ w, Calls Tryz.prog 37 #[.agg #[.int .i64 s.1, .int .i64 s.2.1, .int .i64 s.2.2], .int .i64 x0, .int .i64 x1] w (Ret (fun r _ => r = .int .i64 (p : Int)) w)) := fun w => by
    have h := lthird_any w s x0 x1
    rwa [hp1] at h
  have HT2 : Hid (∀ w, Calls Tryz.prog 37 #[.agg #[.int .i64 t.1, .int .i64 t.2.1, .int .i64 t.2.2], .int .i64 x0, .int .i64 x1] w (Ret (fun r _ => r = .int .i64 (q : Int)) w)) := fun w => by
    have h := lthird_any w t x0 x1
    rwa [hq1] at h
  have hsz : ∀ z : Int, SzP 2 (ptI P z) := ptI_szP hM.sz (by omega)
  have HTU : Hid (∀ (a b c : Int) (w : World), Good w → Calls Tryz.prog 38 #[.agg #[.string (RS (ptI P a).1), .string (RS (ptI P a).2)], .agg #[.string (RS (ptI P b).1), .string (RS (ptI P b).2)], .agg #[.string (RS (ptI P c).1), .string (RS (ptI P c).2)]] w (Ret (fun r _ => r = .int .i64 (turnZ (ptI P a) (ptI P b) (ptI P c))) w)) := fun a b c w hg => lturn_any _ _ _ 2 (by omega) (by omega) (hsz a) (hsz b) (hsz c) w hg
  have HTN : Hid (∀ (w : World) (vp vt : Value), RdP w vp (strP P) → RdT w vt T → Good w → Calls Tryz.prog 35 #[.agg #[vp, vt], .agg #[.int .i64 x0, .int .i64 x1]] w (Ret (fun r _ => r = .tuple #[.agg #[.slice none 0 0, .slice none 0 0], .int .i64 7]) w)) := fun w vp vt hp ht hg => by
    refine (mturn_both w vp vt P T 2 hp ht hM hI x0 x1 (by omega) (by omega) hlt i m s t p q hsi1 hsm1 him hsi htm hp3 hq3 hpl hql hg).mono ?_
    rintro e w' ⟨r, he, hr, hb⟩
    refine ⟨r, he, ?_, hb⟩
    rcases hr with ⟨a, c, _⟩ | ⟨_, h⟩
    · omega
    · exact h
  have HM := Lib.hid hM
  have hwx0 : IntKind.i64.wrap x0 = x0 := IntWalk.i64_in _ (by omega)
  have hwx1 : IntKind.i64.wrap x1 = x1 := IntWalk.i64_in _ (by omega)
  clear hM hI
  go_enter Tryz.func8, Tryz.ntmps8
  go_wp2_with fail
  obtain ⟨W, hW⟩ : ∃ W, W = (w.alloc (.cells #[.int .u8 kz, .int .i8 s0, .int .i8 s1, .bool half] 49)).alloc (.cells #[.int .i8 x0, .int .i8 x1] 47) := ⟨_, rfl⟩
  have hB : Below w.heap.size w W := by rw [hW]; exact ((Below.refl _ _).alloc (Nat.le_refl _) _).alloc (by simp) _
  have b5 : BoxN W (w.heap.size + 1) 47 [.int .i8 x0, .int .i8 x1] := by rw [hW]; exact BoxN.new _ _ _ _ (by simp)
  have b3 : BoxN W w.heap.size 49 [.int .u8 kz, .int .i8 s0, .int .i8 s1, .bool half] := by
    rw [hW]
    have h1 := (BoxN.new w #[.int .u8 kz, .int .i8 s0, .int .i8 s1, .bool half] 49 _ rfl)
    exact h1.below ((Below.refl _ _).alloc (Nat.le_refl _) _) h1.lt
  rw [← hW]
  clear hW
  refine (known12_any W (hg.below hB)).mono ?_
  rintro e o1 ⟨_, rfl, rfl, hb1⟩
  have hB1 := hB.trans (hb1.mono hB.size)
  have b51 := b5.below hb1 b5.lt
  have b31 := b3.below hb1 b3.lt
  clear hb1 hB b5 b3
  have k0 := b31.cell 0 rfl
  have k1 := b31.cell 1 rfl
  have k2 := b31.cell 2 rfl
  have k3 := b31.cell 3 rfl
  go_wp2_with fail
  refine (HMK.out o1 (hg.below hB1)).mono ?_
  rintro e o2 ⟨_, rfl, ⟨vp, vt, rfl, hp, ht⟩, hb2⟩
  have hB2 := hB1.trans (hb2.mono hB1.size)
  have b52 := b51.below hb2 b51.lt
  obtain ⟨pp, cp, rfl, -, -, hpr⟩ := hp.open
  obtain ⟨pt, ct, rfl, -, -, htr⟩ := ht.open
  rw [strP_length] at *
  obtain ⟨b, off, rfl, hbl, hcell⟩ := htr (List.ne_nil_of_length_pos (by omega))
  obtain ⟨bp, op, rfl, hbp, hpcell⟩ := hpr (by intro e; have h := strP_length P; rw [e] at h; simp at h; omega)
  obtain ⟨q00, q01, q02⟩ := hcell i hil
  obtain ⟨r00, r01, r02⟩ := hcell m hml
  rw [hsi'] at q00 q01 q02
  rw [htm'] at r00 r01 r02
  have hpx : ∀ z : Int, 0 ≤ z → z < (P.length : Int) → o2.cell? ⟨bp, op + z.toNat * 2, none⟩ = some (.string (RS (ptI P z).1)) ∧ o2.cell? ⟨bp, op + z.toNat * 2 + 1, none⟩ = some (.string (RS (ptI P z).2)) := fun z h0 h1 => by
    have hzl : z.toNat < P.length := by omega
    obtain ⟨c0, c1⟩ := hpcell z.toNat (by rw [strP_length]; exact hzl)
    rw [strP_get P z.toNat hzl] at c0 c1
    have e : ptI P z = P[z.toNat] := by unfold ptI; rw [List.getElem?_eq_getElem hzl]; rfl
    rw [e]
    exact ⟨c0, c1⟩
  obtain ⟨cp0, cp1⟩ := hpx (p : Int) (by omega) (by omega)
  obtain ⟨cq0, cq1⟩ := hpx (q : Int) (by omega) (by omega)
  obtain ⟨cu0, cu1⟩ := hpx x0 hin.1.1 hin.1.2
  obtain ⟨cv0, cv1⟩ := hpx x1 hin.2.1 hin.2.2
  rw [Int.toNat_natCast] at cp0 cp1 cq0 cq1
  have HOT : Hid (∀ w', Below o2.heap.size o2 w' → w'.cell? ⟨b, off + i * 3, none⟩ = some (.int .i64 s.1) ∧ w'.cell? ⟨b, off + i * 3 + 1, none⟩ = some (.int .i64 s.2.1) ∧ w'.cell? ⟨b, off + i * 3 + 2, none⟩ = some (.int .i64 s.2.2) ∧ w'.cell? ⟨b, off + m * 3, none⟩ = some (.int .i64 t.1) ∧ w'.cell? ⟨b, off + m * 3 + 1, none⟩ = some (.int .i64 t.2.1) ∧ w'.cell? ⟨b, off + m * 3 + 2, none⟩ = some (.int .i64 t.2.2)) := fun w' hb =>
    ⟨(hb.cell (p := ⟨b, off + i * 3, none⟩) hbl).trans q00, (hb.cell (p := ⟨b, off + i * 3 + 1, none⟩) hbl).trans q01, (hb.cell (p := ⟨b, off + i * 3 + 2, none⟩) hbl).trans q02, (hb.cell (p := ⟨b, off + m * 3, none⟩) hbl).trans r00, (hb.cell (p := ⟨b, off + m * 3 + 1, none⟩) hbl).trans r01, (hb.cell (p := ⟨b, off + m * 3 + 2, none⟩) hbl).trans r02⟩
  have HOP : Hid (∀ w', Below o2.heap.size o2 w' → w'.cell? ⟨bp, op + p * 2, none⟩ = some (.string (RS (ptI P p).1)) ∧ w'.cell? ⟨bp, op + p * 2 + 1, none⟩ = some (.string (RS (ptI P p).2)) ∧ w'.cell? ⟨bp, op + q * 2, none⟩ = some (.string (RS (ptI P q).1)) ∧ w'.cell? ⟨bp, op + q * 2 + 1, none⟩ = some (.string (RS (ptI P q).2)) ∧
      w'.cell? ⟨bp, op + x1.toNat * 2, none⟩ = some (.string (RS (ptI P x1).1)) ∧ w'.cell? ⟨bp, op + x1.toNat * 2 + 1, none⟩ = some (.string (RS (ptI P x1).2)) ∧ w'.cell? ⟨bp, op + x0.toNat * 2, none⟩ = some (.string (RS (ptI P x0).1)) ∧ w'.cell? ⟨bp, op + x0.toNat * 2 + 1, none⟩ = some (.string (RS (ptI P x0).2))) := fun w' hb =>
    ⟨(hb.cell (p := ⟨bp, op + p * 2, none⟩) hbp).trans cp0, (hb.cell (p := ⟨bp, op + p * 2 + 1, none⟩) hbp).trans cp1, (hb.cell (p := ⟨bp, op + q * 2, none⟩) hbp).trans cq0, (hb.cell (p := ⟨bp, op + q * 2 + 1, none⟩) hbp).trans cq1,
     (hb.cell (p := ⟨bp, op + x1.toNat * 2, none⟩) hbp).trans cv0, (hb.cell (p := ⟨bp, op + x1.toNat * 2 + 1, none⟩) hbp).trans cv1, (hb.cell (p := ⟨bp, op + x0.toNat * 2, none⟩) hbp).trans cu0, (hb.cell (p := ⟨bp, op + x0.toNat * 2 + 1, none⟩) hbp).trans cu1⟩
  have hiz0 : ¬ (i : Int) < 0 := by omega
  have hmz0 : ¬ (m : Int) < 0 := by omega
  have hiz : (i : Int) < (T.length : Int) := by omega
  have hmz : (m : Int) < (T.length : Int) := by omega
  have hpz : (p : Int) < (P.length : Int) := by omega
  have hqz : (q : Int) < (P.length : Int) := by omega
  have hx00 := hin.1.1
  have hx01 := hin.1.2
  have hx10 := hin.2.1
  have hx11 := hin.2.2
  clear hcell hpcell hpx q00 q01 q02 r00 r01 r02 cp0 cp1 cq0 cq1 cu0 cu1 cv0 cv1 hsi' htm'
  have HPP := Lib.hid hp
  have HTT := Lib.hid ht
  clear hb2 hB1 b51 b31 hp ht k0 k1 k2 k3 HMK
  obtain ⟨o3, ho3⟩ : ∃ W, W = o2.alloc (.cells #[.slice (some ⟨bp, op, none⟩) P.length cp, .slice (some ⟨b, off, none⟩) T.length ct] 34) := ⟨_, rfl⟩
  have hb3 : Below o2.heap.size o2 o3 := by rw [ho3]; exact (Below.refl _ _).alloc (Nat.le_refl _) _
  have b7 : BoxN o3 o2.heap.size 34 [.slice (some ⟨bp, op, none⟩) P.length cp, .slice (some ⟨b, off, none⟩) T.length ct] := by rw [ho3]; exact BoxN.new _ _ _ _ rfl
  have b53 := b52.below hb3 b52.lt
  go_upto_region 4 with fail
  rw [← ho3]
  clear ho3 b52
  have j0 := b53.cell 0 rfl
  have j1 := b53.cell 1 rfl
  go_region
  all_goals
    obtain ⟨o4, ho4⟩ : ∃ W, W = o3.drew := ⟨_, rfl⟩
    have hb4 : Below o3.heap.size o3 o4 := by rw [ho4]; exact below_drewN o3 1
    rw [← ho4]
    have h24 := hb3.trans (hb4.mono hb3.size)
    have b74 := b7.below hb4 b7.lt
    clear ho4 hb3 hb4 b7 b53 j0 j1
    have m0 := b74.cell 0 rfl
    have m1 := b74.cell 1 rfl
    go_wp2_with fail
    refine (HTN.out o4 _ _ (RdC.below HPP.out h24) (RdC.below HTT.out h24) (hg.below (hB2.trans (h24.mono hB2.size)))).mono ?_
    rintro e o5 ⟨_, rfl, rfl, hb5⟩
    have h25 := h24.trans (hb5.mono h24.size)
    have b75 := b74.below hb5 b74.lt
    clear m0 m1 b74 h24 HTN
    go_upto_region 7 with fail
    obtain ⟨o6, ho6⟩ : ∃ W, W = o5.alloc (.cells #[.slice none 0 0, .slice none 0 0] 34) := ⟨_, rfl⟩
    have hb6 : Below o5.heap.size o5 o6 := by rw [ho6]; exact (Below.refl _ _).alloc (Nat.le_refl _) _
    have b8 : BoxN o6 o5.heap.size 34 [.slice none 0 0, .slice none 0 0] := by rw [ho6]; exact BoxN.new _ _ _ _ rfl
    rw [← ho6]
    have h26 := h25.trans (hb6.mono h25.size)
    have b76 := b75.below hb6 b75.lt
    have hl7 := b76.lt
    have hl8 := b8.lt
    clear ho6 hb6 b75 h25
    have m0 := b76.cell 0 rfl
    have m1 := b76.cell 1 rfl
    have n0 := b8.cell 0 rfl
    have n1 := b8.cell 1 rfl
    have hz1 : turnZ (ptI P p) (ptI P q) (ptI P x1) = turnZ (ptI P q) (ptI P x1) (ptI P p) := turnZ_cyc _ _ _
    have hz2 : turnZ (ptI P p) (ptI P q) (ptI P x0) = -turnZ (ptI P x0) (ptI P q) (ptI P p) := by rw [turnZ_cyc, turnZ_swap]
    have hd0 : decide (0 ≤ x0) = true := decide_eq_true hin.1.1
    have hd1 : decide (x0 < x1) = true := decide_eq_true hlt
    have hd2 : decide (x1 < (P.length : Int)) = true := decide_eq_true hin.2.2
    have HK8 : Hid (∀ w', Below o6.heap.size o6 w' → w'.cell? ⟨o2.heap.size, 0, none⟩ = some (.slice (some ⟨bp, op, none⟩) P.length cp) ∧ w'.cell? ⟨o2.heap.size, 1, none⟩ = some (.slice (some ⟨b, off, none⟩) T.length ct)) := fun w' hb => ⟨(hb.cell (p := ⟨o2.heap.size, 0, none⟩) hl7).trans m0, (hb.cell (p := ⟨o2.heap.size, 1, none⟩) hl7).trans m1⟩
    have HSS : Hid (∀ (u v : Int) (w' : World), Below o6.heap.size o6 w' → Calls Tryz.prog 36 #[.agg #[.slice (some ⟨bp, op, none⟩) P.length cp, .slice (some ⟨b, off, none⟩) T.length ct], .int .i64 u, .int .i64 v] w' (Ret (fun r _ => r = .int .i64 (sideI T u v)) w')) := fun u v w' hb => HSD.out u v w' _ _ (RdC.below HPP.out (h26.trans (hb.mono h26.size))) (RdC.below HTT.out (h26.trans (hb.mono h26.size)))
    have q0 : Below o6.heap.size o6 o6.drew := below_drewN o6 1
    go_upto_region 8 with fail
    refine wp_region_held_drew (S := (fun w' => w'.cell? ⟨o2.heap.size, 0, none⟩ = some (.slice (some ⟨bp, op, none⟩) P.length cp) ∧ w'.cell? ⟨o2.heap.size, 1, none⟩ = some (.slice (some ⟨b, off, none⟩) T.length ct))) (by kernel_rfl) ?_ (fun hHeld => ?_)
    · first | exact HK8.out _ q2 | exact HK8.out _ q1 | exact HK8.out _ q0
    refine wpAnyH_take (i := 0) (oi := _) (v := ?_) rfl (by kernel_rfl) (by kernel_rfl) (by kernel_rfl) (fun _ _ _ h => h) (Or.inl ⟨by rfl, ?_⟩) (by assumption) ?_
    rotate_left
    · intro w hSw; (try dsimp only at hSw); first | (go_simp; done) | (go_simp; with_reducible rfl)
    try simp only [Act.put, List.getElem_toArray, List.getElem_cons_zero, List.setIfInBounds_toArray, List.set_cons_zero, List.set_cons_succ]
    refine wpAnyH_take (i := 1) (oi := _) (v := ?_) rfl (by kernel_rfl) (by kernel_rfl) (by kernel_rfl) (fun _ _ _ h => h) (Or.inl ⟨by rfl, ?_⟩) (by assumption) ?_
    rotate_left
    · intro w hSw; (try dsimp only at hSw); first | (go_simp; done) | (go_simp; with_reducible rfl)
    try simp only [Act.put, List.getElem_toArray, List.getElem_cons_zero, List.getElem_cons_succ, List.setIfInBounds_toArray, List.set_cons_zero, List.set_cons_succ]
    refine wpAnyH_take (i := 2) (oi := _) (v := ?_) rfl (by kernel_rfl) (by kernel_rfl) (by kernel_rfl) (fun _ _ _ h => h) (Or.inl ⟨by rfl, ?_⟩) (by assumption) ?_
    rotate_left
    · intro w hSw; (try dsimp only at hSw); first | (go_simp; done) | (go_simp; with_reducible rfl)
    try simp only [Act.put, List.getElem_toArray, List.getElem_cons_zero, List.getElem_cons_succ, List.setIfInBounds_toArray, List.set_cons_zero, List.set_cons_succ]
    refine wpAnyH_take (i := 4) (oi := _) (v := ?_) rfl (by kernel_rfl) (by kernel_rfl) (by kernel_rfl) (fun _ _ _ h => h) (Or.inl ⟨by rfl, ?_⟩) (by assumption) ?_
    rotate_left
    · intro w hSw; (try dsimp only at hSw); first | (go_simp; done) | (go_simp; with_reducible rfl)
    try simp only [Act.put, List.getElem_toArray, List.getElem_cons_zero, List.getElem_cons_succ, List.setIfInBounds_toArray, List.set_cons_zero, List.set_cons_succ]
    refine wpAnyH_take (i := 5) (oi := _) (v := ?_) rfl (by kernel_rfl) (by kernel_rfl) (by kernel_rfl) (fun _ _ _ h => h) (Or.inl ⟨by rfl, ?_⟩) (by assumption) ?_
    rotate_left
    · intro w hSw; (try dsimp only at hSw); first | (go_simp; done) | (go_simp; with_reducible rfl)
    try simp only [Act.put, List.getElem_toArray, List.getElem_cons_zero, List.getElem_cons_succ, List.setIfInBounds_toArray, List.set_cons_zero, List.set_cons_succ]
    refine wpAnyH_take (i := 6) (oi := _) (v := ?_) rfl (by kernel_rfl) (by kernel_rfl) (by kernel_rfl) (fun _ _ _ h => h) (Or.inl ⟨by rfl, ?_⟩) (by assumption) ?_
    rotate_left
    · intro w hSw; (try dsimp only at hSw); first | (go_simp; done) | (go_simp; with_reducible rfl)
    try simp only [Act.put, List.getElem_toArray, List.getElem_cons_zero, List.getElem_cons_succ, List.setIfInBounds_toArray, List.set_cons_zero, List.set_cons_succ]
    refine wpAnyH_ready (rs := [3]) (by kernel_rfl) (by simp) ?_
    refine AllReadyH.cons (o := _) rfl (fun K hK => ?_) AllReadyH.nil
    go_simp
    (refine (HSS.out x0 x1 _ q0).mono ?_; rintro e y1 ⟨_, rfl, rfl, hy1⟩; have q1 := q0.trans (hy1.mono q0.size))
    refine hK.out _ _ ?_ (fun hHeld => ?_)
    · first | exact HK8.out _ q2 | exact HK8.out _ q1 | exact HK8.out _ q0
    clear hK K
    try simp only [Act.put, List.getElem_toArray, List.getElem_cons_zero, List.getElem_cons_succ, List.setIfInBounds_toArray, List.set_cons_zero, List.set_cons_succ]
    refine wpAnyH_ready (rs := [7]) (by kernel_rfl) (by simp) ?_
    refine AllReadyH.cons (o := _) rfl (fun K hK => ?_) AllReadyH.nil
    go_simp
    (refine (HSS.out x1 x0 _ q1).mono ?_; rintro e y2 ⟨_, rfl, rfl, hy2⟩; have q2 := q1.trans (hy2.mono q1.size))
    refine hK.out _ _ ?_ (fun hHeld => ?_)
    · first | exact HK8.out _ q2 | exact HK8.out _ q1 | exact HK8.out _ q0
    clear hK K
    try simp only [Act.put, List.getElem_toArray, List.getElem_cons_zero, List.getElem_cons_succ, List.setIfInBounds_toArray, List.set_cons_zero, List.set_cons_succ]
    refine wpAnyH_take (i := 8) (oi := _) (v := ?_) rfl (by kernel_rfl) (by kernel_rfl) (by kernel_rfl) (fun _ _ _ h => h) (Or.inl ⟨by rfl, ?_⟩) (by assumption) ?_
    rotate_left
    · intro w hSw; (try dsimp only at hSw); first | (go_simp; done) | (go_simp; with_reducible rfl)
    try simp only [Act.put, List.getElem_toArray, List.getElem_cons_zero, List.getElem_cons_succ, List.setIfInBounds_toArray, List.set_cons_zero, List.set_cons_succ]
    refine wpAnyH_take (i := 9) (oi := _) (v := ?_) rfl (by kernel_rfl) (by kernel_rfl) (by kernel_rfl) (fun _ _ _ h => h) (Or.inl ⟨by rfl, ?_⟩) (by assumption) ?_
    rotate_left
    · intro w hSw; (try dsimp only at hSw); first | (go_simp; done) | (go_simp; with_reducible rfl)
    try simp only [Act.put, List.getElem_toArray, List.getElem_cons_zero, List.getElem_cons_succ, List.setIfInBounds_toArray, List.set_cons_zero, List.set_cons_succ]
    refine wpAnyH_done (by kernel_rfl) ?_ _
    have n0 := (q2.cell (p := ⟨o5.heap.size, 0, none⟩) hl8).trans n0
    have n1 := (q2.cell (p := ⟨o5.heap.size, 1, none⟩) hl8).trans n1
    try rw [hsi1]
    try rw [hsm1]
    have HK13 : Hid (∀ w', Below o6.heap.size o6 w' → w'.cell? ⟨o2.heap.size, 1, none⟩ = some (.slice (some ⟨b, off, none⟩) T.length ct) ∧ w'.cell? ⟨b, off + i * 3, none⟩ = some (.int .i64 s.1) ∧ w'.cell? ⟨b, off + i * 3 + 1, none⟩ = some (.int .i64 s.2.1) ∧ w'.cell? ⟨b, off + i * 3 + 2, none⟩ = some (.int .i64 s.2.2) ∧ w'.cell? ⟨b, off + m * 3, none⟩ = some (.int .i64 t.1) ∧ w'.cell? ⟨b, off + m * 3 + 1, none⟩ = some (.int .i64 t.2.1) ∧ w'.cell? ⟨b, off + m * 3 + 2, none⟩ = some (.int .i64 t.2.2)) := fun w' hb => ⟨(HK8.out w' hb).2, HOT.out w' (h26.trans (hb.mono h26.size))⟩
    have HK14 : Hid (∀ w', Below o6.heap.size o6 w' → w'.cell? ⟨o2.heap.size, 0, none⟩ = some (.slice (some ⟨bp, op, none⟩) P.length cp) ∧ w'.cell? ⟨bp, op + p * 2, none⟩ = some (.string (RS (ptI P p).1)) ∧ w'.cell? ⟨bp, op + p * 2 + 1, none⟩ = some (.string (RS (ptI P p).2)) ∧ w'.cell? ⟨bp, op + q * 2, none⟩ = some (.string (RS (ptI P q).1)) ∧ w'.cell? ⟨bp, op + q * 2 + 1, none⟩ = some (.string (RS (ptI P q).2)) ∧ w'.cell? ⟨bp, op + x1.toNat * 2, none⟩ = some (.string (RS (ptI P x1).1)) ∧ w'.cell? ⟨bp, op + x1.toNat * 2 + 1, none⟩ = some (.string (RS (ptI P x1).2)) ∧ w'.cell? ⟨bp, op + x0.toNat * 2, none⟩ = some (.string (RS (ptI P x0).1)) ∧ w'.cell? ⟨bp, op + x0.toNat * 2 + 1, none⟩ = some (.string (RS (ptI P x0).2))) := fun w' hb => ⟨(HK8.out w' hb).1, HOP.out w' (h26.trans (hb.mono h26.size))⟩
    have HGD : Hid (∀ w', Below o6.heap.size o6 w' → Good w') := fun w' hb => hg.below (hB2.trans ((h26.trans (hb.mono h26.size)).mono hB2.size))
    have q3 : Below o6.heap.size o6 y2.drew := q2.trans ((below_drewN y2 1).mono q2.size)
    go_upto_region 13 with fail
    refine wp_region_held_drew (S := (fun w' => w'.cell? ⟨o2.heap.size, 1, none⟩ = some (.slice (some ⟨b, off, none⟩) T.length ct) ∧ w'.cell? ⟨b, off + i * 3, none⟩ = some (.int .i64 s.1) ∧ w'.cell? ⟨b, off + i * 3 + 1, none⟩ = some (.int .i64 s.2.1) ∧ w'.cell? ⟨b, off + i * 3 + 2, none⟩ = some (.int .i64 s.2.2) ∧ w'.cell? ⟨b, off + m * 3, none⟩ = some (.int .i64 t.1) ∧ w'.cell? ⟨b, off + m * 3 + 1, none⟩ = some (.int .i64 t.2.1) ∧ w'.cell? ⟨b, off + m * 3 + 2, none⟩ = some (.int .i64 t.2.2))) (by kernel_rfl) ?_ (fun hHeld => ?_)
    · first | exact HK13.out _ q5 | exact HK13.out _ q4 | exact HK13.out _ q3
    refine wpAnyH_take (i := 0) (oi := _) (v := ?_) rfl (by kernel_rfl) (by kernel_rfl) (by kernel_rfl) (fun _ _ _ h => h) (Or.inl ⟨by rfl, ?_⟩) (by assumption) ?_
    rotate_left
    · intro w hSw; (try dsimp only at hSw); first | (go_simp; done) | (go_simp; with_reducible rfl)
    try simp only [Act.put, List.getElem_toArray, List.getElem_cons_zero, List.setIfInBounds_toArray, List.set_cons_zero, List.set_cons_succ]
    refine wpAnyH_take (i := 1) (oi := _) (v := ?_) rfl (by kernel_rfl) (by kernel_rfl) (by kernel_rfl) (fun _ _ _ h => h) (Or.inl ⟨by rfl, ?_⟩) (by assumption) ?_
    rotate_left
    · intro w hSw; (try dsimp only at hSw); first | (go_simp; done) | (go_simp; with_reducible rfl)
    try simp only [Act.put, List.getElem_toArray, List.getElem_cons_zero, List.getElem_cons_succ, List.setIfInBounds_toArray, List.set_cons_zero, List.set_cons_succ]
    refine wpAnyH_take (i := 2) (oi := _) (v := ?_) rfl (by kernel_rfl) (by kernel_rfl) (by kernel_rfl) (fun _ _ _ h => h) (Or.inl ⟨by rfl, ?_⟩) (by assumption) ?_
    rotate_left
    · intro w hSw; (try dsimp only at hSw); first | (go_simp; done) | (go_simp; with_reducible rfl)
    try simp only [Act.put, List.getElem_toArray, List.getElem_cons_zero, List.getElem_cons_succ, List.setIfInBounds_toArray, List.set_cons_zero, List.set_cons_succ]
    refine wpAnyH_take (i := 3) (oi := _) (v := ?_) rfl (by kernel_rfl) (by kernel_rfl) (by kernel_rfl) (fun _ _ _ h => h) (Or.inl ⟨by rfl, ?_⟩) (by assumption) ?_
    rotate_left
    · intro w hSw; (try dsimp only at hSw); first | (go_simp; done) | (go_simp; with_reducible rfl)
    try simp only [Act.put, List.getElem_toArray, List.getElem_cons_zero, List.getElem_cons_succ, List.setIfInBounds_toArray, List.set_cons_zero, List.set_cons_succ]
    refine wpAnyH_take (i := 4) (oi := _) (v := ?_) rfl (by kernel_rfl) (by kernel_rfl) (by kernel_rfl) (fun _ _ _ h => h) (Or.inl ⟨by rfl, ?_⟩) (by assumption) ?_
    rotate_left
    · intro w hSw; (try dsimp only at hSw); first | (go_simp; done) | (go_simp; with_reducible rfl)
    try simp only [Act.put, List.getElem_toArray, List.getElem_cons_zero, List.getElem_cons_succ, List.setIfInBounds_toArray, List.set_cons_zero, List.set_cons_succ]
    refine wpAnyH_take (i := 5) (oi := _) (v := ?_) rfl (by kernel_rfl) (by kernel_rfl) (by kernel_rfl) (fun _ _ _ h => h) (Or.inl ⟨by rfl, ?_⟩) (by assumption) ?_
    rotate_left
    · intro w hSw; (try dsimp only at hSw); first | (go_simp; done) | (go_simp; with_reducible rfl)
    try simp only [Act.put, List.getElem_toArray, List.getElem_cons_zero, List.getElem_cons_succ, List.setIfInBounds_toArray, List.set_cons_zero, List.set_cons_succ]
    refine wpAnyH_take (i := 6) (oi := _) (v := ?_) rfl (by kernel_rfl) (by kernel_rfl) (by kernel_rfl) (fun _ _ _ h => h) (Or.inl ⟨by rfl, ?_⟩) (by assumption) ?_
    rotate_left
    · intro w hSw; (try dsimp only at hSw); first | (go_simp; done) | (go_simp; with_reducible rfl)
    try simp only [Act.put, List.getElem_toArray, List.getElem_cons_zero, List.getElem_cons_succ, List.setIfInBounds_toArray, List.set_cons_zero, List.set_cons_succ]
    refine wpAnyH_take (i := 8) (oi := _) (v := ?_) rfl (by kernel_rfl) (by kernel_rfl) (by kernel_rfl) (fun _ _ _ h => h) (Or.inl ⟨by rfl, ?_⟩) (by assumption) ?_
    rotate_left
    · intro w hSw; (try dsimp only at hSw); first | (go_simp; done) | (go_simp; with_reducible rfl)
    try simp only [Act.put, List.getElem_toArray, List.getElem_cons_zero, List.getElem_cons_succ, List.setIfInBounds_toArray, List.set_cons_zero, List.set_cons_succ]
    refine wpAnyH_take (i := 9) (oi := _) (v := ?_) rfl (by kernel_rfl) (by kernel_rfl) (by kernel_rfl) (fun _ _ _ h => h) (Or.inl ⟨by rfl, ?_⟩) (by assumption) ?_
    rotate_left
    · intro w hSw; (try dsimp only at hSw); first | (go_simp; done) | (go_simp; with_reducible rfl)
    try simp only [Act.put, List.getElem_toArray, List.getElem_cons_zero, List.getElem_cons_succ, List.setIfInBounds_toArray, List.set_cons_zero, List.set_cons_succ]
    refine wpAnyH_take (i := 10) (oi := _) (v := ?_) rfl (by kernel_rfl) (by kernel_rfl) (by kernel_rfl) (fun _ _ _ h => h) (Or.inl ⟨by rfl, ?_⟩) (by assumption) ?_
    rotate_left
    · intro w hSw; (try dsimp only at hSw); first | (go_simp; done) | (go_simp; with_reducible rfl)
    try simp only [Act.put, List.getElem_toArray, List.getElem_cons_zero, List.getElem_cons_succ, List.setIfInBounds_toArray, List.set_cons_zero, List.set_cons_succ]
    refine wpAnyH_take (i := 11) (oi := _) (v := ?_) rfl (by kernel_rfl) (by kernel_rfl) (by kernel_rfl) (fun _ _ _ h => h) (Or.inl ⟨by rfl, ?_⟩) (by assumption) ?_
    rotate_left
    · intro w hSw; (try dsimp only at hSw); first | (go_simp; done) | (go_simp; with_reducible rfl)
    try simp only [Act.put, List.getElem_toArray, List.getElem_cons_zero, List.getElem_cons_succ, List.setIfInBounds_toArray, List.set_cons_zero, List.set_cons_succ]
    refine wpAnyH_take (i := 12) (oi := _) (v := ?_) rfl (by kernel_rfl) (by kernel_rfl) (by kernel_rfl) (fun _ _ _ h => h) (Or.inl ⟨by rfl, ?_⟩) (by assumption) ?_
    rotate_left
    · intro w hSw; (try dsimp only at hSw); first | (go_simp; done) | (go_simp; with_reducible rfl)
    try simp only [Act.put, List.getElem_toArray, List.getElem_cons_zero, List.getElem_cons_succ, List.setIfInBounds_toArray, List.set_cons_zero, List.set_cons_succ]
    refine wpAnyH_take (i := 13) (oi := _) (v := ?_) rfl (by kernel_rfl) (by kernel_rfl) (by kernel_rfl) (fun _ _ _ h => h) (Or.inl ⟨by rfl, ?_⟩) (by assumption) ?_
    rotate_left
    · intro w hSw; (try dsimp only at hSw); first | (go_simp; done) | (go_simp; with_reducible rfl)
    try simp only [Act.put, List.getElem_toArray, List.getElem_cons_zero, List.getElem_cons_succ, List.setIfInBounds_toArray, List.set_cons_zero, List.set_cons_succ]
    refine wpAnyH_take (i := 14) (oi := _) (v := ?_) rfl (by kernel_rfl) (by kernel_rfl) (by kernel_rfl) (fun _ _ _ h => h) (Or.inl ⟨by rfl, ?_⟩) (by assumption) ?_
    rotate_left
    · intro w hSw; (try dsimp only at hSw); first | (go_simp; done) | (go_simp; with_reducible rfl)
    try simp only [Act.put, List.getElem_toArray, List.getElem_cons_zero, List.getElem_cons_succ, List.setIfInBounds_toArray, List.set_cons_zero, List.set_cons_succ]
    refine wpAnyH_ready (rs := [7]) (by kernel_rfl) (by simp) ?_
    refine AllReadyH.cons (o := _) rfl (fun K hK => ?_) AllReadyH.nil
    go_simp
    (refine (HT1.out _).mono ?_; rintro e y3 ⟨_, rfl, rfl, hy3⟩; have q4 := q3.trans (hy3.mono q3.size))
    refine hK.out _ _ ?_ (fun hHeld => ?_)
    · first | exact HK13.out _ q5 | exact HK13.out _ q4 | exact HK13.out _ q3
    clear hK K
    try simp only [Act.put, List.getElem_toArray, List.getElem_cons_zero, List.getElem_cons_succ, List.setIfInBounds_toArray, List.set_cons_zero, List.set_cons_succ]
    refine wpAnyH_ready (rs := [15]) (by kernel_rfl) (by simp) ?_
    refine AllReadyH.cons (o := _) rfl (fun K hK => ?_) AllReadyH.nil
    go_simp
    (refine (HT2.out _).mono ?_; rintro e y4 ⟨_, rfl, rfl, hy4⟩; have q5 := q4.trans (hy4.mono q4.size))
    refine hK.out _ _ ?_ (fun hHeld => ?_)
    · first | exact HK13.out _ q5 | exact HK13.out _ q4 | exact HK13.out _ q3
    clear hK K
    try simp only [Act.put, List.getElem_toArray, List.getElem_cons_zero, List.getElem_cons_succ, List.setIfInBounds_toArray, List.set_cons_zero, List.set_cons_succ]
    refine wpAnyH_take (i := 16) (oi := _) (v := ?_) rfl (by kernel_rfl) (by kernel_rfl) (by kernel_rfl) (fun _ _ _ h => h) (Or.inl ⟨by rfl, ?_⟩) (by assumption) ?_
    rotate_left
    · intro w hSw; (try dsimp only at hSw); first | (go_simp; done) | (go_simp; with_reducible rfl)
    try simp only [Act.put, List.getElem_toArray, List.getElem_cons_zero, List.getElem_cons_succ, List.setIfInBounds_toArray, List.set_cons_zero, List.set_cons_succ]
    refine wpAnyH_take (i := 17) (oi := _) (v := ?_) rfl (by kernel_rfl) (by kernel_rfl) (by kernel_rfl) (fun _ _ _ h => h) (Or.inl ⟨by rfl, ?_⟩) (by assumption) ?_
    rotate_left
    · intro w hSw; (try dsimp only at hSw); first | (go_simp; done) | (go_simp; with_reducible rfl)
    try simp only [Act.put, List.getElem_toArray, List.getElem_cons_zero, List.getElem_cons_succ, List.setIfInBounds_toArray, List.set_cons_zero, List.set_cons_succ]
    refine wpAnyH_done (by kernel_rfl) ?_ _
    have q6 : Below o6.heap.size o6 y4.drew := q5.trans ((below_drewN y4 1).mono q5.size)
    have gd6 := HGD.out _ q6
    go_upto_region 14 with fail
    by_cases hz : turnZ (ptI P p) (ptI P q) (ptI P x1) ≤ 0
    · have hzb : decide (turnZ (ptI P p) (ptI P q) (ptI P x1) ≤ 0) = true := decide_eq_true hz
      clear hz hz1 hz2 hbad
      refine wp_region_held_drew (S := (fun w' => w'.cell? ⟨o2.heap.size, 0, none⟩ = some (.slice (some ⟨bp, op, none⟩) P.length cp) ∧ w'.cell? ⟨bp, op + p * 2, none⟩ = some (.string (RS (ptI P p).1)) ∧ w'.cell? ⟨bp, op + p * 2 + 1, none⟩ = some (.string (RS (ptI P p).2)) ∧ w'.cell? ⟨bp, op + q * 2, none⟩ = some (.string (RS (ptI P q).1)) ∧ w'.cell? ⟨bp, op + q * 2 + 1, none⟩ = some (.string (RS (ptI P q).2)) ∧ w'.cell? ⟨bp, op + x1.toNat * 2, none⟩ = some (.string (RS (ptI P x1).1)) ∧ w'.cell? ⟨bp, op + x1.toNat * 2 + 1, none⟩ = some (.string (RS (ptI P x1).2)) ∧ w'.cell? ⟨bp, op + x0.toNat * 2, none⟩ = some (.string (RS (ptI P x0).1)) ∧ w'.cell? ⟨bp, op + x0.toNat * 2 + 1, none⟩ = some (.string (RS (ptI P x0).2)))) (by kernel_rfl) ?_ (fun hHeld => ?_)
      · first | exact HK14.out _ q8 | exact HK14.out _ q7 | exact HK14.out _ q6
      refine wpAnyH_take (i := 0) (oi := _) (v := ?_) rfl (by kernel_rfl) (by kernel_rfl) (by kernel_rfl) (fun _ _ _ h => h) (Or.inl ⟨by rfl, ?_⟩) (by assumption) ?_
      rotate_left
      · intro w hSw; (try dsimp only at hSw); first | (go_simp; done) | (go_simp; with_reducible rfl)
      try simp only [Act.put, List.getElem_toArray, List.getElem_cons_zero, List.setIfInBounds_toArray, List.set_cons_zero, List.set_cons_succ]
      refine wpAnyH_take (i := 1) (oi := _) (v := ?_) rfl (by kernel_rfl) (by kernel_rfl) (by kernel_rfl) (fun _ _ _ h => h) (Or.inl ⟨by rfl, ?_⟩) (by assumption) ?_
      rotate_left
      · intro w hSw; (try dsimp only at hSw); first | (go_simp; done) | (go_simp; with_reducible rfl)
      try simp only [Act.put, List.getElem_toArray, List.getElem_cons_zero, List.getElem_cons_succ, List.setIfInBounds_toArray, List.set_cons_zero, List.set_cons_succ]
      refine wpAnyH_take (i := 2) (oi := _) (v := ?_) rfl (by kernel_rfl) (by kernel_rfl) (by kernel_rfl) (fun _ _ _ h => h) (Or.inl ⟨by rfl, ?_⟩) (by assumption) ?_
      rotate_left
      · intro w hSw; (try dsimp only at hSw); first | (go_simp; done) | (go_simp; with_reducible rfl)
      try simp only [Act.put, List.getElem_toArray, List.getElem_cons_zero, List.getElem_cons_succ, List.setIfInBounds_toArray, List.set_cons_zero, List.set_cons_succ]
      refine wpAnyH_take (i := 3) (oi := _) (v := ?_) rfl (by kernel_rfl) (by kernel_rfl) (by kernel_rfl) (fun _ _ _ h => h) (Or.inl ⟨by rfl, ?_⟩) (by assumption) ?_
      rotate_left
      · intro w hSw; (try dsimp only at hSw); first | (go_simp; done) | (go_simp; with_reducible rfl)
      try simp only [Act.put, List.getElem_toArray, List.getElem_cons_zero, List.getElem_cons_succ, List.setIfInBounds_toArray, List.set_cons_zero, List.set_cons_succ]
      refine wpAnyH_take (i := 4) (oi := _) (v := ?_) rfl (by kernel_rfl) (by kernel_rfl) (by kernel_rfl) (fun _ _ _ h => h) (Or.inl ⟨by rfl, ?_⟩) (by assumption) ?_
      rotate_left
      · intro w hSw; (try dsimp only at hSw); first | (go_simp; done) | (go_simp; with_reducible rfl)
      try simp only [Act.put, List.getElem_toArray, List.getElem_cons_zero, List.getElem_cons_succ, List.setIfInBounds_toArray, List.set_cons_zero, List.set_cons_succ]
      refine wpAnyH_take (i := 5) (oi := _) (v := ?_) rfl (by kernel_rfl) (by kernel_rfl) (by kernel_rfl) (fun _ _ _ h => h) (Or.inl ⟨by rfl, ?_⟩) (by assumption) ?_
      rotate_left
      · intro w hSw; (try dsimp only at hSw); first | (go_simp; done) | (go_simp; with_reducible rfl)
      try simp only [Act.put, List.getElem_toArray, List.getElem_cons_zero, List.getElem_cons_succ, List.setIfInBounds_toArray, List.set_cons_zero, List.set_cons_succ]
      refine wpAnyH_take (i := 6) (oi := _) (v := ?_) rfl (by kernel_rfl) (by kernel_rfl) (by kernel_rfl) (fun _ _ _ h => h) (Or.inl ⟨by rfl, ?_⟩) (by assumption) ?_
      rotate_left
      · intro w hSw; (try dsimp only at hSw); first | (go_simp; done) | (go_simp; with_reducible rfl)
      try simp only [Act.put, List.getElem_toArray, List.getElem_cons_zero, List.getElem_cons_succ, List.setIfInBounds_toArray, List.set_cons_zero, List.set_cons_succ]
      refine wpAnyH_take (i := 7) (oi := _) (v := ?_) rfl (by kernel_rfl) (by kernel_rfl) (by kernel_rfl) (fun _ _ _ h => h) (Or.inl ⟨by rfl, ?_⟩) (by assumption) ?_
      rotate_left
      · intro w hSw; (try dsimp only at hSw); first | (go_simp; done) | (go_simp; with_reducible rfl)
      try simp only [Act.put, List.getElem_toArray, List.getElem_cons_zero, List.getElem_cons_succ, List.setIfInBounds_toArray, List.set_cons_zero, List.set_cons_succ]
      refine wpAnyH_take (i := 8) (oi := _) (v := ?_) rfl (by kernel_rfl) (by kernel_rfl) (by kernel_rfl) (fun _ _ _ h => h) (Or.inl ⟨by rfl, ?_⟩) (by assumption) ?_
      rotate_left
      · intro w hSw; (try dsimp only at hSw); first | (go_simp; done) | (go_simp; with_reducible rfl)
      try simp only [Act.put, List.getElem_toArray, List.getElem_cons_zero, List.getElem_cons_succ, List.setIfInBounds_toArray, List.set_cons_zero, List.set_cons_succ]
      refine wpAnyH_take (i := 9) (oi := _) (v := ?_) rfl (by kernel_rfl) (by kernel_rfl) (by kernel_rfl) (fun _ _ _ h => h) (Or.inl ⟨by rfl, ?_⟩) (by assumption) ?_
      rotate_left
      · intro w hSw; (try dsimp only at hSw); first | (go_simp; done) | (go_simp; with_reducible rfl)
      try simp only [Act.put, List.getElem_toArray, List.getElem_cons_zero, List.getElem_cons_succ, List.setIfInBounds_toArray, List.set_cons_zero, List.set_cons_succ]
      refine wpAnyH_take (i := 10) (oi := _) (v := ?_) rfl (by kernel_rfl) (by kernel_rfl) (by kernel_rfl) (fun _ _ _ h => h) (Or.inl ⟨by rfl, ?_⟩) (by assumption) ?_
      rotate_left
      · intro w hSw; (try dsimp only at hSw); first | (go_simp; done) | (go_simp; with_reducible rfl)
      try simp only [Act.put, List.getElem_toArray, List.getElem_cons_zero, List.getElem_cons_succ, List.setIfInBounds_toArray, List.set_cons_zero, List.set_cons_succ]
      refine wpAnyH_take (i := 11) (oi := _) (v := ?_) rfl (by kernel_rfl) (by kernel_rfl) (by kernel_rfl) (fun _ _ _ h => h) (Or.inl ⟨by rfl, ?_⟩) (by assumption) ?_
      rotate_left
      · intro w hSw; (try dsimp only at hSw); first | (go_simp; done) | (go_simp; with_reducible rfl)
      try simp only [Act.put, List.getElem_toArray, List.getElem_cons_zero, List.getElem_cons_succ, List.setIfInBounds_toArray, List.set_cons_zero, List.set_cons_succ]
      refine wpAnyH_take (i := 12) (oi := _) (v := ?_) rfl (by kernel_rfl) (by kernel_rfl) (by kernel_rfl) (fun _ _ _ h => h) (Or.inl ⟨by rfl, ?_⟩) (by assumption) ?_
      rotate_left
      · intro w hSw; (try dsimp only at hSw); first | (go_simp; done) | (go_simp; with_reducible rfl)
      try simp only [Act.put, List.getElem_toArray, List.getElem_cons_zero, List.getElem_cons_succ, List.setIfInBounds_toArray, List.set_cons_zero, List.set_cons_succ]
      refine wpAnyH_take (i := 13) (oi := _) (v := ?_) rfl (by kernel_rfl) (by kernel_rfl) (by kernel_rfl) (fun _ _ _ h => h) (Or.inl ⟨by rfl, ?_⟩) (by assumption) ?_
      rotate_left
      · intro w hSw; (try dsimp only at hSw); first | (go_simp; done) | (go_simp; with_reducible rfl)
      try simp only [Act.put, List.getElem_toArray, List.getElem_cons_zero, List.getElem_cons_succ, List.setIfInBounds_toArray, List.set_cons_zero, List.set_cons_succ]
      refine wpAnyH_take (i := 14) (oi := _) (v := ?_) rfl (by kernel_rfl) (by kernel_rfl) (by kernel_rfl) (fun _ _ _ h => h) (Or.inl ⟨by rfl, ?_⟩) (by assumption) ?_
      rotate_left
      · intro w hSw; (try dsimp only at hSw); first | (go_simp; done) | (go_simp; with_reducible rfl)
      try simp only [Act.put, List.getElem_toArray, List.getElem_cons_zero, List.getElem_cons_succ, List.setIfInBounds_toArray, List.set_cons_zero, List.set_cons_succ]
      refine wpAnyH_ready (rs := [15]) (by kernel_rfl) (by simp) ?_
      refine AllReadyH.cons (o := _) rfl (fun K hK => ?_) AllReadyH.nil
      go_simp
      (refine (HTU.out p q x1 _ gd6).mono ?_; rintro e y5 ⟨_, rfl, rfl, hy5⟩; have q7 := q6.trans (hy5.mono q6.size); have gd7 := HGD.out _ q7)
      refine hK.out _ _ ?_ (fun hHeld => ?_)
      · first | exact HK14.out _ q8 | exact HK14.out _ q7 | exact HK14.out _ q6
      clear hK K
      try simp only [Act.put, List.getElem_toArray, List.getElem_cons_zero, List.getElem_cons_succ, List.setIfInBounds_toArray, List.set_cons_zero, List.set_cons_succ]
      refine wpAnyH_take (i := 16) (oi := _) (v := ?_) rfl (by kernel_rfl) (by kernel_rfl) (by kernel_rfl) (fun _ _ _ h => h) (Or.inl ⟨by rfl, ?_⟩) (by assumption) ?_
      rotate_left
      · intro w hSw; (try dsimp only at hSw); first | (go_simp; done) | (go_simp; with_reducible rfl)
      try simp only [Act.put, List.getElem_toArray, List.getElem_cons_zero, List.getElem_cons_succ, List.setIfInBounds_toArray, List.set_cons_zero, List.set_cons_succ]
      refine wpAnyH_take (i := 17) (oi := _) (v := ?_) rfl (by kernel_rfl) (by kernel_rfl) (by kernel_rfl) (fun _ _ _ h => h) (Or.inl ⟨by rfl, ?_⟩) (by assumption) ?_
      rotate_left
      · intro w hSw; (try dsimp only at hSw); first | (go_simp; done) | (go_simp; with_reducible rfl)
      try simp only [Act.put, List.getElem_toArray, List.getElem_cons_zero, List.getElem_cons_succ, List.setIfInBounds_toArray, List.set_cons_zero, List.set_cons_succ]
      refine wpAnyH_take (i := 18) (oi := _) (v := undef) rfl (by kernel_rfl) (by kernel_rfl) (by kernel_rfl) (fun _ _ _ h => h) (Or.inr ⟨by rfl, rfl⟩) (by assumption) ?_
      try simp only [Act.put, List.getElem_toArray, List.getElem_cons_zero, List.getElem_cons_succ, List.setIfInBounds_toArray, List.set_cons_zero, List.set_cons_succ]
      refine wpAnyH_take (i := 19) (oi := _) (v := undef) rfl (by kernel_rfl) (by kernel_rfl) (by kernel_rfl) (fun _ _ _ h => h) (Or.inr ⟨by rfl, rfl⟩) (by assumption) ?_
      try simp only [Act.put, List.getElem_toArray, List.getElem_cons_zero, List.getElem_cons_succ, List.setIfInBounds_toArray, List.set_cons_zero, List.set_cons_succ]
      refine wpAnyH_take (i := 20) (oi := _) (v := undef) rfl (by kernel_rfl) (by kernel_rfl) (by kernel_rfl) (fun _ _ _ h => h) (Or.inr ⟨by rfl, rfl⟩) (by assumption) ?_
      try simp only [Act.put, List.getElem_toArray, List.getElem_cons_zero, List.getElem_cons_succ, List.setIfInBounds_toArray, List.set_cons_zero, List.set_cons_succ]
      refine wpAnyH_take (i := 21) (oi := _) (v := undef) rfl (by kernel_rfl) (by kernel_rfl) (by kernel_rfl) (fun _ _ _ h => h) (Or.inr ⟨by rfl, rfl⟩) (by assumption) ?_
      try simp only [Act.put, List.getElem_toArray, List.getElem_cons_zero, List.getElem_cons_succ, List.setIfInBounds_toArray, List.set_cons_zero, List.set_cons_succ]
      refine wpAnyH_take (i := 22) (oi := _) (v := undef) rfl (by kernel_rfl) (by kernel_rfl) (by kernel_rfl) (fun _ _ _ h => h) (Or.inr ⟨by rfl, rfl⟩) (by assumption) ?_
      try simp only [Act.put, List.getElem_toArray, List.getElem_cons_zero, List.getElem_cons_succ, List.setIfInBounds_toArray, List.set_cons_zero, List.set_cons_succ]
      refine wpAnyH_take (i := 23) (oi := _) (v := undef) rfl (by kernel_rfl) (by kernel_rfl) (by kernel_rfl) (fun _ _ _ h => h) (Or.inr ⟨by rfl, rfl⟩) (by assumption) ?_
      try simp only [Act.put, List.getElem_toArray, List.getElem_cons_zero, List.getElem_cons_succ, List.setIfInBounds_toArray, List.set_cons_zero, List.set_cons_succ]
      refine wpAnyH_take (i := 24) (oi := _) (v := undef) rfl (by kernel_rfl) (by kernel_rfl) (by kernel_rfl) (fun _ _ _ h => h) (Or.inr ⟨by rfl, rfl⟩) (by assumption) ?_
      try simp only [Act.put, List.getElem_toArray, List.getElem_cons_zero, List.getElem_cons_succ, List.setIfInBounds_toArray, List.set_cons_zero, List.set_cons_succ]
      refine wpAnyH_take (i := 25) (oi := _) (v := undef) rfl (by kernel_rfl) (by kernel_rfl) (by kernel_rfl) (fun _ _ _ h => h) (Or.inr ⟨by rfl, rfl⟩) (by assumption) ?_
      try simp only [Act.put, List.getElem_toArray, List.getElem_cons_zero, List.getElem_cons_succ, List.setIfInBounds_toArray, List.set_cons_zero, List.set_cons_succ]
      refine wpAnyH_take (i := 26) (oi := _) (v := undef) rfl (by kernel_rfl) (by kernel_rfl) (by kernel_rfl) (fun _ _ _ h => h) (Or.inr ⟨by rfl, rfl⟩) (by assumption) ?_
      try simp only [Act.put, List.getElem_toArray, List.getElem_cons_zero, List.getElem_cons_succ, List.setIfInBounds_toArray, List.set_cons_zero, List.set_cons_succ]
      refine wpAnyH_take (i := 27) (oi := _) (v := undef) rfl (by kernel_rfl) (by kernel_rfl) (by kernel_rfl) (fun _ _ _ h => h) (Or.inr ⟨by rfl, rfl⟩) (by assumption) ?_
      try simp only [Act.put, List.getElem_toArray, List.getElem_cons_zero, List.getElem_cons_succ, List.setIfInBounds_toArray, List.set_cons_zero, List.set_cons_succ]
      refine wpAnyH_take (i := 28) (oi := _) (v := undef) rfl (by kernel_rfl) (by kernel_rfl) (by kernel_rfl) (fun _ _ _ h => h) (Or.inr ⟨by rfl, rfl⟩) (by assumption) ?_
      try simp only [Act.put, List.getElem_toArray, List.getElem_cons_zero, List.getElem_cons_succ, List.setIfInBounds_toArray, List.set_cons_zero, List.set_cons_succ]
      refine wpAnyH_take (i := 29) (oi := _) (v := undef) rfl (by kernel_rfl) (by kernel_rfl) (by kernel_rfl) (fun _ _ _ h => h) (Or.inr ⟨by rfl, rfl⟩) (by assumption) ?_
      try simp only [Act.put, List.getElem_toArray, List.getElem_cons_zero, List.getElem_cons_succ, List.setIfInBounds_toArray, List.set_cons_zero, List.set_cons_succ]
      refine wpAnyH_take (i := 30) (oi := _) (v := undef) rfl (by kernel_rfl) (by kernel_rfl) (by kernel_rfl) (fun _ _ _ h => h) (Or.inr ⟨by rfl, rfl⟩) (by assumption) ?_
      try simp only [Act.put, List.getElem_toArray, List.getElem_cons_zero, List.getElem_cons_succ, List.setIfInBounds_toArray, List.set_cons_zero, List.set_cons_succ]
      refine wpAnyH_take (i := 31) (oi := _) (v := undef) rfl (by kernel_rfl) (by kernel_rfl) (by kernel_rfl) (fun _ _ _ h => h) (Or.inr ⟨by rfl, rfl⟩) (by assumption) ?_
      try simp only [Act.put, List.getElem_toArray, List.getElem_cons_zero, List.getElem_cons_succ, List.setIfInBounds_toArray, List.set_cons_zero, List.set_cons_succ]
      refine wpAnyH_take (i := 32) (oi := _) (v := undef) rfl (by kernel_rfl) (by kernel_rfl) (by kernel_rfl) (fun _ _ _ h => h) (Or.inr ⟨by rfl, rfl⟩) (by assumption) ?_
      try simp only [Act.put, List.getElem_toArray, List.getElem_cons_zero, List.getElem_cons_succ, List.setIfInBounds_toArray, List.set_cons_zero, List.set_cons_succ]
      refine wpAnyH_ready (rs := [33]) (by kernel_rfl) (by simp) ?_
      refine AllReadyH.cons (o := _) rfl (fun K hK => ?_) AllReadyH.nil
      go_simp
      refine hK.out _ _ (by assumption) (fun hHeld => ?_)
      clear hK K
      try simp only [Act.put, List.getElem_toArray, List.getElem_cons_zero, List.getElem_cons_succ, List.setIfInBounds_toArray, List.set_cons_zero, List.set_cons_succ]
      refine wpAnyH_take (i := 34) (oi := _) (v := undef) rfl (by kernel_rfl) (by kernel_rfl) (by kernel_rfl) (fun _ _ _ h => h) (Or.inr ⟨by rfl, rfl⟩) (by assumption) ?_
      try simp only [Act.put, List.getElem_toArray, List.getElem_cons_zero, List.getElem_cons_succ, List.setIfInBounds_toArray, List.set_cons_zero, List.set_cons_succ]
      refine wpAnyH_take (i := 35) (oi := _) (v := ?_) rfl (by kernel_rfl) (by kernel_rfl) (by kernel_rfl) (fun _ _ _ h => h) (Or.inl ⟨by rfl, ?_⟩) (by assumption) ?_
      rotate_left
      · intro w hSw; (try dsimp only at hSw); first | (go_simp; done) | (go_simp; with_reducible rfl)
      try simp only [Act.put, List.getElem_toArray, List.getElem_cons_zero, List.getElem_cons_succ, List.setIfInBounds_toArray, List.set_cons_zero, List.set_cons_succ]
      refine wpAnyH_done (by kernel_rfl) ?_ _
      have n0 := (q7.cell (p := ⟨o5.heap.size, 0, none⟩) hl8).trans (b8.cell 0 rfl)
      have n1 := (q7.cell (p := ⟨o5.heap.size, 1, none⟩) hl8).trans (b8.cell 1 rfl)
      go_wp2_with fail
      refine (none_true _).mono ?_
      rintro e o9 ⟨_, rfl, rfl, hb9⟩
      go_wp2_with fail
      go_ret
      exact ⟨_, rfl, rfl, (hB2.trans ((h26.trans ((q7.trans (hb9.mono q7.size)).mono h26.size)).mono hB2.size))⟩
    · have hzb : decide (turnZ (ptI P p) (ptI P q) (ptI P x1) ≤ 0) = false := decide_eq_false hz
      have hzc : decide (0 ≤ turnZ (ptI P p) (ptI P q) (ptI P x0)) = true := decide_eq_true (by omega)
      clear hz hz1 hz2 hbad
      refine wp_region_held_drew (S := (fun w' => w'.cell? ⟨o2.heap.size, 0, none⟩ = some (.slice (some ⟨bp, op, none⟩) P.length cp) ∧ w'.cell? ⟨bp, op + p * 2, none⟩ = some (.string (RS (ptI P p).1)) ∧ w'.cell? ⟨bp, op + p * 2 + 1, none⟩ = some (.string (RS (ptI P p).2)) ∧ w'.cell? ⟨bp, op + q * 2, none⟩ = some (.string (RS (ptI P q).1)) ∧ w'.cell? ⟨bp, op + q * 2 + 1, none⟩ = some (.string (RS (ptI P q).2)) ∧ w'.cell? ⟨bp, op + x1.toNat * 2, none⟩ = some (.string (RS (ptI P x1).1)) ∧ w'.cell? ⟨bp, op + x1.toNat * 2 + 1, none⟩ = some (.string (RS (ptI P x1).2)) ∧ w'.cell? ⟨bp, op + x0.toNat * 2, none⟩ = some (.string (RS (ptI P x0).1)) ∧ w'.cell? ⟨bp, op + x0.toNat * 2 + 1, none⟩ = some (.string (RS (ptI P x0).2)))) (by kernel_rfl) ?_ (fun hHeld => ?_)
      · first | exact HK14.out _ q8 | exact HK14.out _ q7 | exact HK14.out _ q6
      refine wpAnyH_take (i := 0) (oi := _) (v := ?_) rfl (by kernel_rfl) (by kernel_rfl) (by kernel_rfl) (fun _ _ _ h => h) (Or.inl ⟨by rfl, ?_⟩) (by assumption) ?_
      rotate_left
      · intro w hSw; (try dsimp only at hSw); first | (go_simp; done) | (go_simp; with_reducible rfl)
      try simp only [Act.put, List.getElem_toArray, List.getElem_cons_zero, List.setIfInBounds_toArray, List.set_cons_zero, List.set_cons_succ]
      refine wpAnyH_take (i := 1) (oi := _) (v := ?_) rfl (by kernel_rfl) (by kernel_rfl) (by kernel_rfl) (fun _ _ _ h => h) (Or.inl ⟨by rfl, ?_⟩) (by assumption) ?_
      rotate_left
      · intro w hSw; (try dsimp only at hSw); first | (go_simp; done) | (go_simp; with_reducible rfl)
      try simp only [Act.put, List.getElem_toArray, List.getElem_cons_zero, List.getElem_cons_succ, List.setIfInBounds_toArray, List.set_cons_zero, List.set_cons_succ]
      refine wpAnyH_take (i := 2) (oi := _) (v := ?_) rfl (by kernel_rfl) (by kernel_rfl) (by kernel_rfl) (fun _ _ _ h => h) (Or.inl ⟨by rfl, ?_⟩) (by assumption) ?_
      rotate_left
      · intro w hSw; (try dsimp only at hSw); first | (go_simp; done) | (go_simp; with_reducible rfl)
      try simp only [Act.put, List.getElem_toArray, List.getElem_cons_zero, List.getElem_cons_succ, List.setIfInBounds_toArray, List.set_cons_zero, List.set_cons_succ]
      refine wpAnyH_take (i := 3) (oi := _) (v := ?_) rfl (by kernel_rfl) (by kernel_rfl) (by kernel_rfl) (fun _ _ _ h => h) (Or.inl ⟨by rfl, ?_⟩) (by assumption) ?_
      rotate_left
      · intro w hSw; (try dsimp only at hSw); first | (go_simp; done) | (go_simp; with_reducible rfl)
      try simp only [Act.put, List.getElem_toArray, List.getElem_cons_zero, List.getElem_cons_succ, List.setIfInBounds_toArray, List.set_cons_zero, List.set_cons_succ]
      refine wpAnyH_take (i := 4) (oi := _) (v := ?_) rfl (by kernel_rfl) (by kernel_rfl) (by kernel_rfl) (fun _ _ _ h => h) (Or.inl ⟨by rfl, ?_⟩) (by assumption) ?_
      rotate_left
      · intro w hSw; (try dsimp only at hSw); first | (go_simp; done) | (go_simp; with_reducible rfl)
      try simp only [Act.put, List.getElem_toArray, List.getElem_cons_zero, List.getElem_cons_succ, List.setIfInBounds_toArray, List.set_cons_zero, List.set_cons_succ]
      refine wpAnyH_take (i := 5) (oi := _) (v := ?_) rfl (by kernel_rfl) (by kernel_rfl) (by kernel_rfl) (fun _ _ _ h => h) (Or.inl ⟨by rfl, ?_⟩) (by assumption) ?_
      rotate_left
      · intro w hSw; (try dsimp only at hSw); first | (go_simp; done) | (go_simp; with_reducible rfl)
      try simp only [Act.put, List.getElem_toArray, List.getElem_cons_zero, List.getElem_cons_succ, List.setIfInBounds_toArray, List.set_cons_zero, List.set_cons_succ]
      refine wpAnyH_take (i := 6) (oi := _) (v := ?_) rfl (by kernel_rfl) (by kernel_rfl) (by kernel_rfl) (fun _ _ _ h => h) (Or.inl ⟨by rfl, ?_⟩) (by assumption) ?_
      rotate_left
      · intro w hSw; (try dsimp only at hSw); first | (go_simp; done) | (go_simp; with_reducible rfl)
      try simp only [Act.put, List.getElem_toArray, List.getElem_cons_zero, List.getElem_cons_succ, List.setIfInBounds_toArray, List.set_cons_zero, List.set_cons_succ]
      refine wpAnyH_take (i := 7) (oi := _) (v := ?_) rfl (by kernel_rfl) (by kernel_rfl) (by kernel_rfl) (fun _ _ _ h => h) (Or.inl ⟨by rfl, ?_⟩) (by assumption) ?_
      rotate_left
      · intro w hSw; (try dsimp only at hSw); first | (go_simp; done) | (go_simp; with_reducible rfl)
      try simp only [Act.put, List.getElem_toArray, List.getElem_cons_zero, List.getElem_cons_succ, List.setIfInBounds_toArray, List.set_cons_zero, List.set_cons_succ]
      refine wpAnyH_take (i := 8) (oi := _) (v := ?_) rfl (by kernel_rfl) (by kernel_rfl) (by kernel_rfl) (fun _ _ _ h => h) (Or.inl ⟨by rfl, ?_⟩) (by assumption) ?_
      rotate_left
      · intro w hSw; (try dsimp only at hSw); first | (go_simp; done) | (go_simp; with_reducible rfl)
      try simp only [Act.put, List.getElem_toArray, List.getElem_cons_zero, List.getElem_cons_succ, List.setIfInBounds_toArray, List.set_cons_zero, List.set_cons_succ]
      refine wpAnyH_take (i := 9) (oi := _) (v := ?_) rfl (by kernel_rfl) (by kernel_rfl) (by kernel_rfl) (fun _ _ _ h => h) (Or.inl ⟨by rfl, ?_⟩) (by assumption) ?_
      rotate_left
      · intro w hSw; (try dsimp only at hSw); first | (go_simp; done) | (go_simp; with_reducible rfl)
      try simp only [Act.put, List.getElem_toArray, List.getElem_cons_zero, List.getElem_cons_succ, List.setIfInBounds_toArray, List.set_cons_zero, List.set_cons_succ]
      refine wpAnyH_take (i := 10) (oi := _) (v := ?_) rfl (by kernel_rfl) (by kernel_rfl) (by kernel_rfl) (fun _ _ _ h => h) (Or.inl ⟨by rfl, ?_⟩) (by assumption) ?_
      rotate_left
      · intro w hSw; (try dsimp only at hSw); first | (go_simp; done) | (go_simp; with_reducible rfl)
      try simp only [Act.put, List.getElem_toArray, List.getElem_cons_zero, List.getElem_cons_succ, List.setIfInBounds_toArray, List.set_cons_zero, List.set_cons_succ]
      refine wpAnyH_take (i := 11) (oi := _) (v := ?_) rfl (by kernel_rfl) (by kernel_rfl) (by kernel_rfl) (fun _ _ _ h => h) (Or.inl ⟨by rfl, ?_⟩) (by assumption) ?_
      rotate_left
      · intro w hSw; (try dsimp only at hSw); first | (go_simp; done) | (go_simp; with_reducible rfl)
      try simp only [Act.put, List.getElem_toArray, List.getElem_cons_zero, List.getElem_cons_succ, List.setIfInBounds_toArray, List.set_cons_zero, List.set_cons_succ]
      refine wpAnyH_take (i := 12) (oi := _) (v := ?_) rfl (by kernel_rfl) (by kernel_rfl) (by kernel_rfl) (fun _ _ _ h => h) (Or.inl ⟨by rfl, ?_⟩) (by assumption) ?_
      rotate_left
      · intro w hSw; (try dsimp only at hSw); first | (go_simp; done) | (go_simp; with_reducible rfl)
      try simp only [Act.put, List.getElem_toArray, List.getElem_cons_zero, List.getElem_cons_succ, List.setIfInBounds_toArray, List.set_cons_zero, List.set_cons_succ]
      refine wpAnyH_take (i := 13) (oi := _) (v := ?_) rfl (by kernel_rfl) (by kernel_rfl) (by kernel_rfl) (fun _ _ _ h => h) (Or.inl ⟨by rfl, ?_⟩) (by assumption) ?_
      rotate_left
      · intro w hSw; (try dsimp only at hSw); first | (go_simp; done) | (go_simp; with_reducible rfl)
      try simp only [Act.put, List.getElem_toArray, List.getElem_cons_zero, List.getElem_cons_succ, List.setIfInBounds_toArray, List.set_cons_zero, List.set_cons_succ]
      refine wpAnyH_take (i := 14) (oi := _) (v := ?_) rfl (by kernel_rfl) (by kernel_rfl) (by kernel_rfl) (fun _ _ _ h => h) (Or.inl ⟨by rfl, ?_⟩) (by assumption) ?_
      rotate_left
      · intro w hSw; (try dsimp only at hSw); first | (go_simp; done) | (go_simp; with_reducible rfl)
      try simp only [Act.put, List.getElem_toArray, List.getElem_cons_zero, List.getElem_cons_succ, List.setIfInBounds_toArray, List.set_cons_zero, List.set_cons_succ]
      refine wpAnyH_ready (rs := [15]) (by kernel_rfl) (by simp) ?_
      refine AllReadyH.cons (o := _) rfl (fun K hK => ?_) AllReadyH.nil
      go_simp
      (refine (HTU.out p q x1 _ gd6).mono ?_; rintro e y5 ⟨_, rfl, rfl, hy5⟩; have q7 := q6.trans (hy5.mono q6.size); have gd7 := HGD.out _ q7)
      refine hK.out _ _ ?_ (fun hHeld => ?_)
      · first | exact HK14.out _ q8 | exact HK14.out _ q7 | exact HK14.out _ q6
      clear hK K
      try simp only [Act.put, List.getElem_toArray, List.getElem_cons_zero, List.getElem_cons_succ, List.setIfInBounds_toArray, List.set_cons_zero, List.set_cons_succ]
      refine wpAnyH_take (i := 16) (oi := _) (v := ?_) rfl (by kernel_rfl) (by kernel_rfl) (by kernel_rfl) (fun _ _ _ h => h) (Or.inl ⟨by rfl, ?_⟩) (by assumption) ?_
      rotate_left
      · intro w hSw; (try dsimp only at hSw); first | (go_simp; done) | (go_simp; with_reducible rfl)
      try simp only [Act.put, List.getElem_toArray, List.getElem_cons_zero, List.getElem_cons_succ, List.setIfInBounds_toArray, List.set_cons_zero, List.set_cons_succ]
      refine wpAnyH_take (i := 17) (oi := _) (v := ?_) rfl (by kernel_rfl) (by kernel_rfl) (by kernel_rfl) (fun _ _ _ h => h) (Or.inl ⟨by rfl, ?_⟩) (by assumption) ?_
      rotate_left
      · intro w hSw; (try dsimp only at hSw); first | (go_simp; done) | (go_simp; with_reducible rfl)
      try simp only [Act.put, List.getElem_toArray, List.getElem_cons_zero, List.getElem_cons_succ, List.setIfInBounds_toArray, List.set_cons_zero, List.set_cons_succ]
      refine wpAnyH_take (i := 18) (oi := _) (v := ?_) rfl (by kernel_rfl) (by kernel_rfl) (by kernel_rfl) (fun _ _ _ h => h) (Or.inl ⟨by rfl, ?_⟩) (by assumption) ?_
      rotate_left
      · intro w hSw; (try dsimp only at hSw); first | (go_simp; done) | (go_simp; with_reducible rfl)
      try simp only [Act.put, List.getElem_toArray, List.getElem_cons_zero, List.getElem_cons_succ, List.setIfInBounds_toArray, List.set_cons_zero, List.set_cons_succ]
      refine wpAnyH_take (i := 19) (oi := _) (v := ?_) rfl (by kernel_rfl) (by kernel_rfl) (by kernel_rfl) (fun _ _ _ h => h) (Or.inl ⟨by rfl, ?_⟩) (by assumption) ?_
      rotate_left
      · intro w hSw; (try dsimp only at hSw); first | (go_simp; done) | (go_simp; with_reducible rfl)
      try simp only [Act.put, List.getElem_toArray, List.getElem_cons_zero, List.getElem_cons_succ, List.setIfInBounds_toArray, List.set_cons_zero, List.set_cons_succ]
      refine wpAnyH_take (i := 20) (oi := _) (v := ?_) rfl (by kernel_rfl) (by kernel_rfl) (by kernel_rfl) (fun _ _ _ h => h) (Or.inl ⟨by rfl, ?_⟩) (by assumption) ?_
      rotate_left
      · intro w hSw; (try dsimp only at hSw); first | (go_simp; done) | (go_simp; with_reducible rfl)
      try simp only [Act.put, List.getElem_toArray, List.getElem_cons_zero, List.getElem_cons_succ, List.setIfInBounds_toArray, List.set_cons_zero, List.set_cons_succ]
      refine wpAnyH_take (i := 21) (oi := _) (v := ?_) rfl (by kernel_rfl) (by kernel_rfl) (by kernel_rfl) (fun _ _ _ h => h) (Or.inl ⟨by rfl, ?_⟩) (by assumption) ?_
      rotate_left
      · intro w hSw; (try dsimp only at hSw); first | (go_simp; done) | (go_simp; with_reducible rfl)
      try simp only [Act.put, List.getElem_toArray, List.getElem_cons_zero, List.getElem_cons_succ, List.setIfInBounds_toArray, List.set_cons_zero, List.set_cons_succ]
      refine wpAnyH_take (i := 22) (oi := _) (v := ?_) rfl (by kernel_rfl) (by kernel_rfl) (by kernel_rfl) (fun _ _ _ h => h) (Or.inl ⟨by rfl, ?_⟩) (by assumption) ?_
      rotate_left
      · intro w hSw; (try dsimp only at hSw); first | (go_simp; done) | (go_simp; with_reducible rfl)
      try simp only [Act.put, List.getElem_toArray, List.getElem_cons_zero, List.getElem_cons_succ, List.setIfInBounds_toArray, List.set_cons_zero, List.set_cons_succ]
      refine wpAnyH_take (i := 23) (oi := _) (v := ?_) rfl (by kernel_rfl) (by kernel_rfl) (by kernel_rfl) (fun _ _ _ h => h) (Or.inl ⟨by rfl, ?_⟩) (by assumption) ?_
      rotate_left
      · intro w hSw; (try dsimp only at hSw); first | (go_simp; done) | (go_simp; with_reducible rfl)
      try simp only [Act.put, List.getElem_toArray, List.getElem_cons_zero, List.getElem_cons_succ, List.setIfInBounds_toArray, List.set_cons_zero, List.set_cons_succ]
      refine wpAnyH_take (i := 24) (oi := _) (v := ?_) rfl (by kernel_rfl) (by kernel_rfl) (by kernel_rfl) (fun _ _ _ h => h) (Or.inl ⟨by rfl, ?_⟩) (by assumption) ?_
      rotate_left
      · intro w hSw; (try dsimp only at hSw); first | (go_simp; done) | (go_simp; with_reducible rfl)
      try simp only [Act.put, List.getElem_toArray, List.getElem_cons_zero, List.getElem_cons_succ, List.setIfInBounds_toArray, List.set_cons_zero, List.set_cons_succ]
      refine wpAnyH_take (i := 25) (oi := _) (v := ?_) rfl (by kernel_rfl) (by kernel_rfl) (by kernel_rfl) (fun _ _ _ h => h) (Or.inl ⟨by rfl, ?_⟩) (by assumption) ?_
      rotate_left
      · intro w hSw; (try dsimp only at hSw); first | (go_simp; done) | (go_simp; with_reducible rfl)
      try simp only [Act.put, List.getElem_toArray, List.getElem_cons_zero, List.getElem_cons_succ, List.setIfInBounds_toArray, List.set_cons_zero, List.set_cons_succ]
      refine wpAnyH_take (i := 26) (oi := _) (v := ?_) rfl (by kernel_rfl) (by kernel_rfl) (by kernel_rfl) (fun _ _ _ h => h) (Or.inl ⟨by rfl, ?_⟩) (by assumption) ?_
      rotate_left
      · intro w hSw; (try dsimp only at hSw); first | (go_simp; done) | (go_simp; with_reducible rfl)
      try simp only [Act.put, List.getElem_toArray, List.getElem_cons_zero, List.getElem_cons_succ, List.setIfInBounds_toArray, List.set_cons_zero, List.set_cons_succ]
      refine wpAnyH_take (i := 27) (oi := _) (v := ?_) rfl (by kernel_rfl) (by kernel_rfl) (by kernel_rfl) (fun _ _ _ h => h) (Or.inl ⟨by rfl, ?_⟩) (by assumption) ?_
      rotate_left
      · intro w hSw; (try dsimp only at hSw); first | (go_simp; done) | (go_simp; with_reducible rfl)
      try simp only [Act.put, List.getElem_toArray, List.getElem_cons_zero, List.getElem_cons_succ, List.setIfInBounds_toArray, List.set_cons_zero, List.set_cons_succ]
      refine wpAnyH_take (i := 28) (oi := _) (v := ?_) rfl (by kernel_rfl) (by kernel_rfl) (by kernel_rfl) (fun _ _ _ h => h) (Or.inl ⟨by rfl, ?_⟩) (by assumption) ?_
      rotate_left
      · intro w hSw; (try dsimp only at hSw); first | (go_simp; done) | (go_simp; with_reducible rfl)
      try simp only [Act.put, List.getElem_toArray, List.getElem_cons_zero, List.getElem_cons_succ, List.setIfInBounds_toArray, List.set_cons_zero, List.set_cons_succ]
      refine wpAnyH_take (i := 29) (oi := _) (v := ?_) rfl (by kernel_rfl) (by kernel_rfl) (by kernel_rfl) (fun _ _ _ h => h) (Or.inl ⟨by rfl, ?_⟩) (by assumption) ?_
      rotate_left
      · intro w hSw; (try dsimp only at hSw); first | (go_simp; done) | (go_simp; with_reducible rfl)
      try simp only [Act.put, List.getElem_toArray, List.getElem_cons_zero, List.getElem_cons_succ, List.setIfInBounds_toArray, List.set_cons_zero, List.set_cons_succ]
      refine wpAnyH_take (i := 30) (oi := _) (v := ?_) rfl (by kernel_rfl) (by kernel_rfl) (by kernel_rfl) (fun _ _ _ h => h) (Or.inl ⟨by rfl, ?_⟩) (by assumption) ?_
      rotate_left
      · intro w hSw; (try dsimp only at hSw); first | (go_simp; done) | (go_simp; with_reducible rfl)
      try simp only [Act.put, List.getElem_toArray, List.getElem_cons_zero, List.getElem_cons_succ, List.setIfInBounds_toArray, List.set_cons_zero, List.set_cons_succ]
      refine wpAnyH_take (i := 31) (oi := _) (v := ?_) rfl (by kernel_rfl) (by kernel_rfl) (by kernel_rfl) (fun _ _ _ h => h) (Or.inl ⟨by rfl, ?_⟩) (by assumption) ?_
      rotate_left
      · intro w hSw; (try dsimp only at hSw); first | (go_simp; done) | (go_simp; with_reducible rfl)
      try simp only [Act.put, List.getElem_toArray, List.getElem_cons_zero, List.getElem_cons_succ, List.setIfInBounds_toArray, List.set_cons_zero, List.set_cons_succ]
      refine wpAnyH_take (i := 32) (oi := _) (v := ?_) rfl (by kernel_rfl) (by kernel_rfl) (by kernel_rfl) (fun _ _ _ h => h) (Or.inl ⟨by rfl, ?_⟩) (by assumption) ?_
      rotate_left
      · intro w hSw; (try dsimp only at hSw); first | (go_simp; done) | (go_simp; with_reducible rfl)
      try simp only [Act.put, List.getElem_toArray, List.getElem_cons_zero, List.getElem_cons_succ, List.setIfInBounds_toArray, List.set_cons_zero, List.set_cons_succ]
      refine wpAnyH_ready (rs := [33]) (by kernel_rfl) (by simp) ?_
      refine AllReadyH.cons (o := _) rfl (fun K hK => ?_) AllReadyH.nil
      go_simp
      (refine (HTU.out p q x0 _ gd7).mono ?_; rintro e y6 ⟨_, rfl, rfl, hy6⟩; have q8 := q7.trans (hy6.mono q7.size))
      refine hK.out _ _ ?_ (fun hHeld => ?_)
      · first | exact HK14.out _ q8 | exact HK14.out _ q7 | exact HK14.out _ q6
      clear hK K
      try simp only [Act.put, List.getElem_toArray, List.getElem_cons_zero, List.getElem_cons_succ, List.setIfInBounds_toArray, List.set_cons_zero, List.set_cons_succ]
      refine wpAnyH_take (i := 34) (oi := _) (v := ?_) rfl (by kernel_rfl) (by kernel_rfl) (by kernel_rfl) (fun _ _ _ h => h) (Or.inl ⟨by rfl, ?_⟩) (by assumption) ?_
      rotate_left
      · intro w hSw; (try dsimp only at hSw); first | (go_simp; done) | (go_simp; with_reducible rfl)
      try simp only [Act.put, List.getElem_toArray, List.getElem_cons_zero, List.getElem_cons_succ, List.setIfInBounds_toArray, List.set_cons_zero, List.set_cons_succ]
      refine wpAnyH_take (i := 35) (oi := _) (v := ?_) rfl (by kernel_rfl) (by kernel_rfl) (by kernel_rfl) (fun _ _ _ h => h) (Or.inl ⟨by rfl, ?_⟩) (by assumption) ?_
      rotate_left
      · intro w hSw; (try dsimp only at hSw); first | (go_simp; done) | (go_simp; with_reducible rfl)
      try simp only [Act.put, List.getElem_toArray, List.getElem_cons_zero, List.getElem_cons_succ, List.setIfInBounds_toArray, List.set_cons_zero, List.set_cons_succ]
      refine wpAnyH_done (by kernel_rfl) ?_ _
      have n0 := (q8.cell (p := ⟨o5.heap.size, 0, none⟩) hl8).trans (b8.cell 0 rfl)
      have n1 := (q8.cell (p := ⟨o5.heap.size, 1, none⟩) hl8).trans (b8.cell 1 rfl)
      go_wp2_with fail
      refine (none_true _).mono ?_
      rintro e o9 ⟨_, rfl, rfl, hb9⟩
      go_wp2_with fail
      go_ret
      exact ⟨_, rfl, rfl, (hB2.trans ((h26.trans ((q8.trans (hb9.mono q8.size)).mono h26.size)).mono hB2.size))⟩

set_option maxHeartbeats 8000000 in
set_option maxRecDepth 100000 in
theorem mt_good (w : World) (kz s0 s1 : Int) (half : Bool) (x0 x1 : Int) (hk0 : 0 ≤ kz) (hk1 : kz ≤ 255) (hs0 : -128 ≤ s0 ∧ s0 ≤ 127) (hs1 : -128 ≤ s1 ∧ s1 ≤ 127)
    (hx0 : -128 ≤ x0 ∧ x0 ≤ 127) (hx1 : -128 ≤ x1 ∧ x1 ≤ 127) (k : Nat) (hk : kz.tmod 8 = (k : Int)) (P : List PtQ) (hP : P = sheetP k s0 s1 half) (T : List Tri) (hT : T = shapeT k) (hlt : x0 < x1) (i m : Nat) (s t : Tri) (p q : Nat) (hsi1 : sideI T x0 x1 = (i : Int)) (hsm1 : sideI T x1 x0 = (m : Int)) (him : i ≠ m) (hsi : T[i]? = some s) (htm : T[m]? = some t) (hp1 : thirdI s x0 x1 = (p : Int)) (hq1 : thirdI t x0 x1 = (q : Int))
    (hp3 : s.1 + s.2.1 + s.2.2 - x0 - x1 = (p : Int)) (hq3 : t.1 + t.2.1 + t.2.2 - x0 - x1 = (q : Int)) (hpl : p < P.length) (hql : q < P.length) (hgd1 : 0 < turnZ (ptI P x0) (ptI P q) (ptI P p)) (hgd2 : 0 < turnZ (ptI P q) (ptI P x1) (ptI P p)) (hok : MeshOK P (turnT T i m x0 x1 p q) 2) (hg : Good w) :
    Calls Tryz.prog 8 #[.agg #[.int .u8 kz, .int .i8 s0, .int .i8 s1, .bool half], .agg #[.int .i8 x0, .int .i8 x1]] w (Ret (fun r _ => r = .bool true) w) := by
  obtain ⟨i1, hjT, iz0, iz1, iz2⟩ := info_parts info_Tri
  have HMK := Lib.hid fun w hg => make12_any w kz s0 s1 half k hk hk0 hk1 hs0 hs1 hg
  have hM := sheet_ok k s0 s1 half
  rw [← hP, ← hT] at HMK hM
  clear hP hT hk hk0 hk1 hs0 hs1
  have hI : ∀ t ∈ T, InI t.1 ∧ InI t.2.1 ∧ InI t.2.2 := fun t ht => by
    have hl := hM.plen
    have key : ∀ x ∈ idxOf t, InI x := fun x hx => by
      have := hM.idx t ht x hx
      unfold InI
      omega
    exact ⟨key _ (by simp [idxOf]), key _ (by simp [idxOf]), key _ (by simp [idxOf])⟩
  have hp4 := hM.plen
  have ht8 := hM.tlen
  have HSD : Hid (∀ (u v : Int) (w : World) (vp vt : Value), RdP w vp (strP P) → RdT w vt T → Calls Tryz.prog 36 #[.agg #[vp, vt], .int .i64 u, .int .i64 v] w (Ret (fun r _ => r = .int .i64 (sideI T u v)) w)) := fun u v w vp vt hp ht => lsides_any w vp vt (strP P) T hp ht (by omega) u v
  have hin : (0 ≤ x0 ∧ x0 < (P.length : Int)) ∧ (0 ≤ x1 ∧ x1 < (P.length : Int)) := sideI_in (show 0 ≤ sideI T x0 x1 by omega) hM.idx
  obtain ⟨hil, hsi'⟩ := List.getElem?_eq_some_iff.1 hsi
  obtain ⟨hml, htm'⟩ := List.getElem?_eq_some_iff.1 htm
  have HT1 : Hid (∀ w, Calls Tryz.prog 37 #[.agg #[.int .i64 s.1, .int .i64 s.2.1, .int .i64 s.2.2], .int .i64 x0, .int .i64 x1] w (Ret (fun r _ => r = .int .i64 (p : Int)) w)) := fun w => by
    have h := lthird_any w s x0 x1
    rwa [hp1] at h
  have HT2 : Hid (∀ w, Calls Tryz.prog 37 #[.agg #[.int .i64 t.1, .int .i64 t.2.1, .int .i64 t.2.2], .int .i64 x0, .int .i64 x1] w (Ret (fun r _ => r = .int .i64 (q : Int)) w)) := fun w => by
    have h := lthird_any w t x0 x1
    rwa [hq1] at h
  have hsz : ∀ z : Int, SzP 2 (ptI P z) := ptI_szP hM.sz (by omega)
  have HTU : Hid (∀ (a b c : Int) (w : World), Good w → Calls Tryz.prog 38 #[.agg #[.string (RS (ptI P a).1), .string (RS (ptI P a).2)], .agg #[.string (RS (ptI P b).1), .string (RS (ptI P b).2)], .agg #[.string (RS (ptI P c).1), .string (RS (ptI P c).2)]] w (Ret (fun r _ => r = .int .i64 (turnZ (ptI P a) (ptI P b) (ptI P c))) w)) := fun a b c w hg => lturn_any _ _ _ 2 (by omega) (by omega) (hsz a) (hsz b) (hsz c) w hg
  have HTN : Hid (∀ (w : World) (vp vt : Value), RdP w vp (strP P) → RdT w vt T → Good w → Calls Tryz.prog 35 #[.agg #[vp, vt], .agg #[.int .i64 x0, .int .i64 x1]] w (Ret (fun r w' => ∃ vp vt, r = .tuple #[.agg #[vp, vt], .int .i64 0] ∧ RdP w' vp (strP P) ∧ RdT w' vt (turnT T i m x0 x1 p q)) w)) := fun w vp vt hp ht hg => by
    refine (mturn_both w vp vt P T 2 hp ht hM hI x0 x1 (by omega) (by omega) hlt i m s t p q hsi1 hsm1 him hsi htm hp3 hq3 hpl hql hg).mono ?_
    rintro e w' ⟨r, he, hr, hb⟩
    refine ⟨r, he, ?_, hb⟩
    rcases hr with ⟨_, _, h⟩ | ⟨h, _⟩
    · exact h
    · omega
  have HOK := Lib.hid hok
  clear hok
  have HM := Lib.hid hM
  have hwx0 : IntKind.i64.wrap x0 = x0 := IntWalk.i64_in _ (by omega)
  have hwx1 : IntKind.i64.wrap x1 = x1 := IntWalk.i64_in _ (by omega)
  clear hM hI
  go_enter Tryz.func8, Tryz.ntmps8
  go_wp2_with fail
  obtain ⟨W, hW⟩ : ∃ W, W = (w.alloc (.cells #[.int .u8 kz, .int .i8 s0, .int .i8 s1, .bool half] 49)).alloc (.cells #[.int .i8 x0, .int .i8 x1] 47) := ⟨_, rfl⟩
  have hB : Below w.heap.size w W := by rw [hW]; exact ((Below.refl _ _).alloc (Nat.le_refl _) _).alloc (by simp) _
  have b5 : BoxN W (w.heap.size + 1) 47 [.int .i8 x0, .int .i8 x1] := by rw [hW]; exact BoxN.new _ _ _ _ (by simp)
  have b3 : BoxN W w.heap.size 49 [.int .u8 kz, .int .i8 s0, .int .i8 s1, .bool half] := by
    rw [hW]
    have h1 := (BoxN.new w #[.int .u8 kz, .int .i8 s0, .int .i8 s1, .bool half] 49 _ rfl)
    exact h1.below ((Below.refl _ _).alloc (Nat.le_refl _) _) h1.lt
  rw [← hW]
  clear hW
  refine (known12_any W (hg.below hB)).mono ?_
  rintro e o1 ⟨_, rfl, rfl, hb1⟩
  have hB1 := hB.trans (hb1.mono hB.size)
  have b51 := b5.below hb1 b5.lt
  have b31 := b3.below hb1 b3.lt
  clear hb1 hB b5 b3
  have k0 := b31.cell 0 rfl
  have k1 := b31.cell 1 rfl
  have k2 := b31.cell 2 rfl
  have k3 := b31.cell 3 rfl
  go_wp2_with fail
  refine (HMK.out o1 (hg.below hB1)).mono ?_
  rintro e o2 ⟨_, rfl, ⟨vp, vt, rfl, hp, ht⟩, hb2⟩
  have hB2 := hB1.trans (hb2.mono hB1.size)
  have b52 := b51.below hb2 b51.lt
  obtain ⟨pp, cp, rfl, -, -, hpr⟩ := hp.open
  obtain ⟨pt, ct, rfl, -, -, htr⟩ := ht.open
  rw [strP_length] at *
  obtain ⟨b, off, rfl, hbl, hcell⟩ := htr (List.ne_nil_of_length_pos (by omega))
  obtain ⟨bp, op, rfl, hbp, hpcell⟩ := hpr (by intro e; have h := strP_length P; rw [e] at h; simp at h; omega)
  obtain ⟨q00, q01, q02⟩ := hcell i hil
  obtain ⟨r00, r01, r02⟩ := hcell m hml
  rw [hsi'] at q00 q01 q02
  rw [htm'] at r00 r01 r02
  have hpx : ∀ z : Int, 0 ≤ z → z < (P.length : Int) → o2.cell? ⟨bp, op + z.toNat * 2, none⟩ = some (.string (RS (ptI P z).1)) ∧ o2.cell? ⟨bp, op + z.toNat * 2 + 1, none⟩ = some (.string (RS (ptI P z).2)) := fun z h0 h1 => by
    have hzl : z.toNat < P.length := by omega
    obtain ⟨c0, c1⟩ := hpcell z.toNat (by rw [strP_length]; exact hzl)
    rw [strP_get P z.toNat hzl] at c0 c1
    have e : ptI P z = P[z.toNat] := by unfold ptI; rw [List.getElem?_eq_getElem hzl]; rfl
    rw [e]
    exact ⟨c0, c1⟩
  obtain ⟨cp0, cp1⟩ := hpx (p : Int) (by omega) (by omega)
  obtain ⟨cq0, cq1⟩ := hpx (q : Int) (by omega) (by omega)
  obtain ⟨cu0, cu1⟩ := hpx x0 hin.1.1 hin.1.2
  obtain ⟨cv0, cv1⟩ := hpx x1 hin.2.1 hin.2.2
  rw [Int.toNat_natCast] at cp0 cp1 cq0 cq1
  have HOT : Hid (∀ w', Below o2.heap.size o2 w' → w'.cell? ⟨b, off + i * 3, none⟩ = some (.int .i64 s.1) ∧ w'.cell? ⟨b, off + i * 3 + 1, none⟩ = some (.int .i64 s.2.1) ∧ w'.cell? ⟨b, off + i * 3 + 2, none⟩ = some (.int .i64 s.2.2) ∧ w'.cell? ⟨b, off + m * 3, none⟩ = some (.int .i64 t.1) ∧ w'.cell? ⟨b, off + m * 3 + 1, none⟩ = some (.int .i64 t.2.1) ∧ w'.cell? ⟨b, off + m * 3 + 2, none⟩ = some (.int .i64 t.2.2)) := fun w' hb =>
    ⟨(hb.cell (p := ⟨b, off + i * 3, none⟩) hbl).trans q00, (hb.cell (p := ⟨b, off + i * 3 + 1, none⟩) hbl).trans q01, (hb.cell (p := ⟨b, off + i * 3 + 2, none⟩) hbl).trans q02, (hb.cell (p := ⟨b, off + m * 3, none⟩) hbl).trans r00, (hb.cell (p := ⟨b, off + m * 3 + 1, none⟩) hbl).trans r01, (hb.cell (p := ⟨b, off + m * 3 + 2, none⟩) hbl).trans r02⟩
  have HOP : Hid (∀ w', Below o2.heap.size o2 w' → w'.cell? ⟨bp, op + p * 2, none⟩ = some (.string (RS (ptI P p).1)) ∧ w'.cell? ⟨bp, op + p * 2 + 1, none⟩ = some (.string (RS (ptI P p).2)) ∧ w'.cell? ⟨bp, op + q * 2, none⟩ = some (.string (RS (ptI P q).1)) ∧ w'.cell? ⟨bp, op + q * 2 + 1, none⟩ = some (.string (RS (ptI P q).2)) ∧
      w'.cell? ⟨bp, op + x1.toNat * 2, none⟩ = some (.string (RS (ptI P x1).1)) ∧ w'.cell? ⟨bp, op + x1.toNat * 2 + 1, none⟩ = some (.string (RS (ptI P x1).2)) ∧ w'.cell? ⟨bp, op + x0.toNat * 2, none⟩ = some (.string (RS (ptI P x0).1)) ∧ w'.cell? ⟨bp, op + x0.toNat * 2 + 1, none⟩ = some (.string (RS (ptI P x0).2))) := fun w' hb =>
    ⟨(hb.cell (p := ⟨bp, op + p * 2, none⟩) hbp).trans cp0, (hb.cell (p := ⟨bp, op + p * 2 + 1, none⟩) hbp).trans cp1, (hb.cell (p := ⟨bp, op + q * 2, none⟩) hbp).trans cq0, (hb.cell (p := ⟨bp, op + q * 2 + 1, none⟩) hbp).trans cq1,
     (hb.cell (p := ⟨bp, op + x1.toNat * 2, none⟩) hbp).trans cv0, (hb.cell (p := ⟨bp, op + x1.toNat * 2 + 1, none⟩) hbp).trans cv1, (hb.cell (p := ⟨bp, op + x0.toNat * 2, none⟩) hbp).trans cu0, (hb.cell (p := ⟨bp, op + x0.toNat * 2 + 1, none⟩) hbp).trans cu1⟩
  have hiz0 : ¬ (i : Int) < 0 := by omega
  have hmz0 : ¬ (m : Int) < 0 := by omega
  have hiz : (i : Int) < (T.length : Int) := by omega
  have hmz : (m : Int) < (T.length : Int) := by omega
  have hpz : (p : Int) < (P.length : Int) := by omega
  have hqz : (q : Int) < (P.length : Int) := by omega
  have hx00 := hin.1.1
  have hx01 := hin.1.2
  have hx10 := hin.2.1
  have hx11 := hin.2.2
  clear hcell hpcell hpx q00 q01 q02 r00 r01 r02 cp0 cp1 cq0 cq1 cu0 cu1 cv0 cv1 hsi' htm'
  have HPP := Lib.hid hp
  have HTT := Lib.hid ht
  clear hb2 hB1 b51 b31 hp ht k0 k1 k2 k3 HMK
  obtain ⟨o3, ho3⟩ : ∃ W, W = o2.alloc (.cells #[.slice (some ⟨bp, op, none⟩) P.length cp, .slice (some ⟨b, off, none⟩) T.length ct] 34) := ⟨_, rfl⟩
  have hb3 : Below o2.heap.size o2 o3 := by rw [ho3]; exact (Below.refl _ _).alloc (Nat.le_refl _) _
  have b7 : BoxN o3 o2.heap.size 34 [.slice (some ⟨bp, op, none⟩) P.length cp, .slice (some ⟨b, off, none⟩) T.length ct] := by rw [ho3]; exact BoxN.new _ _ _ _ rfl
  have b53 := b52.below hb3 b52.lt
  go_upto_region 4 with fail
  rw [← ho3]
  clear ho3 b52
  have j0 := b53.cell 0 rfl
  have j1 := b53.cell 1 rfl
  go_region
  all_goals
    obtain ⟨o4, ho4⟩ : ∃ W, W = o3.drew := ⟨_, rfl⟩
    have hb4 : Below o3.heap.size o3 o4 := by rw [ho4]; exact below_drewN o3 1
    rw [← ho4]
    have h24 := hb3.trans (hb4.mono hb3.size)
    have b74 := b7.below hb4 b7.lt
    clear ho4 hb3 hb4 b7 b53 j0 j1
    have m0 := b74.cell 0 rfl
    have m1 := b74.cell 1 rfl
    go_wp2_with fail
    refine (HTN.out o4 _ _ (RdC.below HPP.out h24) (RdC.below HTT.out h24) (hg.below (hB2.trans (h24.mono hB2.size)))).mono ?_
    rintro e o5 ⟨_, rfl, ⟨vp2, vt2, rfl, hp2, ht2⟩, hb5⟩
    obtain ⟨pp2, cp2, rfl, -, -, -⟩ := hp2.open
    obtain ⟨pt2, ct2, rfl, -, -, -⟩ := ht2.open
    rw [strP_length] at *
    rw [turnT_length] at *
    have HP2 := Lib.hid hp2
    have HT2' := Lib.hid ht2
    clear hp2 ht2
    have h25 := h24.trans (hb5.mono h24.size)
    have b75 := b74.below hb5 b74.lt
    clear m0 m1 b74 h24 HTN
    go_upto_region 7 with fail
    obtain ⟨o6, ho6⟩ : ∃ W, W = o5.alloc (.cells #[.slice pp2 P.length cp2, .slice pt2 T.length ct2] 34) := ⟨_, rfl⟩
    have hb6 : Below o5.heap.size o5 o6 := by rw [ho6]; exact (Below.refl _ _).alloc (Nat.le_refl _) _
    have b8 : BoxN o6 o5.heap.size 34 [.slice pp2 P.length cp2, .slice pt2 T.length ct2] := by rw [ho6]; exact BoxN.new _ _ _ _ rfl
    rw [← ho6]
    have h26 := h25.trans (hb6.mono h25.size)
    have b76 := b75.below hb6 b75.lt
    have hl7 := b76.lt
    have hl8 := b8.lt
    clear ho6 b75 h25
    have m0 := b76.cell 0 rfl
    have m1 := b76.cell 1 rfl
    have n0 := b8.cell 0 rfl
    have n1 := b8.cell 1 rfl
    have hz1 : turnZ (ptI P p) (ptI P q) (ptI P x1) = turnZ (ptI P q) (ptI P x1) (ptI P p) := turnZ_cyc _ _ _
    have hz2 : turnZ (ptI P p) (ptI P q) (ptI P x0) = -turnZ (ptI P x0) (ptI P q) (ptI P p) := by rw [turnZ_cyc, turnZ_swap]
    have hd0 : decide (0 ≤ x0) = true := decide_eq_true hin.1.1
    have hd1 : decide (x0 < x1) = true := decide_eq_true hlt
    have hd2 : decide (x1 < (P.length : Int)) = true := decide_eq_true hin.2.2
    have HK8 : Hid (∀ w', Below o6.heap.size o6 w' → w'.cell? ⟨o2.heap.size, 0, none⟩ = some (.slice (some ⟨bp, op, none⟩) P.length cp) ∧ w'.cell? ⟨o2.heap.size, 1, none⟩ = some (.slice (some ⟨b, off, none⟩) T.length ct)) := fun w' hb => ⟨(hb.cell (p := ⟨o2.heap.size, 0, none⟩) hl7).trans m0, (hb.cell (p := ⟨o2.heap.size, 1, none⟩) hl7).trans m1⟩
    have HSS : Hid (∀ (u v : Int) (w' : World), Below o6.heap.size o6 w' → Calls Tryz.prog 36 #[.agg #[.slice (some ⟨bp, op, none⟩) P.length cp, .slice (some ⟨b, off, none⟩) T.length ct], .int .i64 u, .int .i64 v] w' (Ret (fun r _ => r = .int .i64 (sideI T u v)) w')) := fun u v w' hb => HSD.out u v w' _ _ (RdC.below HPP.out (h26.trans (hb.mono h26.size))) (RdC.below HTT.out (h26.trans (hb.mono h26.size)))
    have q0 : Below o6.heap.size o6 o6.drew := below_drewN o6 1
    go_upto_region 8 with fail
    refine wp_region_held_drew (S := (fun w' => w'.cell? ⟨o2.heap.size, 0, none⟩ = some (.slice (some ⟨bp, op, none⟩) P.length cp) ∧ w'.cell? ⟨o2.heap.size, 1, none⟩ = some (.slice (some ⟨b, off, none⟩) T.length ct))) (by kernel_rfl) ?_ (fun hHeld => ?_)
    · first | exact HK8.out _ q2 | exact HK8.out _ q1 | exact HK8.out _ q0
    refine wpAnyH_take (i := 0) (oi := _) (v := ?_) rfl (by kernel_rfl) (by kernel_rfl) (by kernel_rfl) (fun _ _ _ h => h) (Or.inl ⟨by rfl, ?_⟩) (by assumption) ?_
    rotate_left
    · intro w hSw; (try dsimp only at hSw); first | (go_simp; done) | (go_simp; with_reducible rfl)
    try simp only [Act.put, List.getElem_toArray, List.getElem_cons_zero, List.setIfInBounds_toArray, List.set_cons_zero, List.set_cons_succ]
    refine wpAnyH_take (i := 1) (oi := _) (v := ?_) rfl (by kernel_rfl) (by kernel_rfl) (by kernel_rfl) (fun _ _ _ h => h) (Or.inl ⟨by rfl, ?_⟩) (by assumption) ?_
    rotate_left
    · intro w hSw; (try dsimp only at hSw); first | (go_simp; done) | (go_simp; with_reducible rfl)
    try simp only [Act.put, List.getElem_toArray, List.getElem_cons_zero, List.getElem_cons_succ, List.setIfInBounds_toArray, List.set_cons_zero, List.set_cons_succ]
    refine wpAnyH_take (i := 2) (oi := _) (v := ?_) rfl (by kernel_rfl) (by kernel_rfl) (by kernel_rfl) (fun _ _ _ h => h) (Or.inl ⟨by rfl, ?_⟩) (by assumption) ?_
    rotate_left
    · intro w hSw; (try dsimp only at hSw); first | (go_simp; done) | (go_simp; with_reducible rfl)
    try simp only [Act.put, List.getElem_toArray, List.getElem_cons_zero, List.getElem_cons_succ, List.setIfInBounds_toArray, List.set_cons_zero, List.set_cons_succ]
    refine wpAnyH_take (i := 4) (oi := _) (v := ?_) rfl (by kernel_rfl) (by kernel_rfl) (by kernel_rfl) (fun _ _ _ h => h) (Or.inl ⟨by rfl, ?_⟩) (by assumption) ?_
    rotate_left
    · intro w hSw; (try dsimp only at hSw); first | (go_simp; done) | (go_simp; with_reducible rfl)
    try simp only [Act.put, List.getElem_toArray, List.getElem_cons_zero, List.getElem_cons_succ, List.setIfInBounds_toArray, List.set_cons_zero, List.set_cons_succ]
    refine wpAnyH_take (i := 5) (oi := _) (v := ?_) rfl (by kernel_rfl) (by kernel_rfl) (by kernel_rfl) (fun _ _ _ h => h) (Or.inl ⟨by rfl, ?_⟩) (by assumption) ?_
    rotate_left
    · intro w hSw; (try dsimp only at hSw); first | (go_simp; done) | (go_simp; with_reducible rfl)
    try simp only [Act.put, List.getElem_toArray, List.getElem_cons_zero, List.getElem_cons_succ, List.setIfInBounds_toArray, List.set_cons_zero, List.set_cons_succ]
    refine wpAnyH_take (i := 6) (oi := _) (v := ?_) rfl (by kernel_rfl) (by kernel_rfl) (by kernel_rfl) (fun _ _ _ h => h) (Or.inl ⟨by rfl, ?_⟩) (by assumption) ?_
    rotate_left
    · intro w hSw; (try dsimp only at hSw); first | (go_simp; done) | (go_simp; with_reducible rfl)
    try simp only [Act.put, List.getElem_toArray, List.getElem_cons_zero, List.getElem_cons_succ, List.setIfInBounds_toArray, List.set_cons_zero, List.set_cons_succ]
    refine wpAnyH_ready (rs := [3]) (by kernel_rfl) (by simp) ?_
    refine AllReadyH.cons (o := _) rfl (fun K hK => ?_) AllReadyH.nil
    go_simp
    (refine (HSS.out x0 x1 _ q0).mono ?_; rintro e y1 ⟨_, rfl, rfl, hy1⟩; have q1 := q0.trans (hy1.mono q0.size))
    refine hK.out _ _ ?_ (fun hHeld => ?_)
    · first | exact HK8.out _ q2 | exact HK8.out _ q1 | exact HK8.out _ q0
    clear hK K
    try simp only [Act.put, List.getElem_toArray, List.getElem_cons_zero, List.getElem_cons_succ, List.setIfInBounds_toArray, List.set_cons_zero, List.set_cons_succ]
    refine wpAnyH_ready (rs := [7]) (by kernel_rfl) (by simp) ?_
    refine AllReadyH.cons (o := _) rfl (fun K hK => ?_) AllReadyH.nil
    go_simp
    (refine (HSS.out x1 x0 _ q1).mono ?_; rintro e y2 ⟨_, rfl, rfl, hy2⟩; have q2 := q1.trans (hy2.mono q1.size))
    refine hK.out _ _ ?_ (fun hHeld => ?_)
    · first | exact HK8.out _ q2 | exact HK8.out _ q1 | exact HK8.out _ q0
    clear hK K
    try simp only [Act.put, List.getElem_toArray, List.getElem_cons_zero, List.getElem_cons_succ, List.setIfInBounds_toArray, List.set_cons_zero, List.set_cons_succ]
    refine wpAnyH_take (i := 8) (oi := _) (v := ?_) rfl (by kernel_rfl) (by kernel_rfl) (by kernel_rfl) (fun _ _ _ h => h) (Or.inl ⟨by rfl, ?_⟩) (by assumption) ?_
    rotate_left
    · intro w hSw; (try dsimp only at hSw); first | (go_simp; done) | (go_simp; with_reducible rfl)
    try simp only [Act.put, List.getElem_toArray, List.getElem_cons_zero, List.getElem_cons_succ, List.setIfInBounds_toArray, List.set_cons_zero, List.set_cons_succ]
    refine wpAnyH_take (i := 9) (oi := _) (v := ?_) rfl (by kernel_rfl) (by kernel_rfl) (by kernel_rfl) (fun _ _ _ h => h) (Or.inl ⟨by rfl, ?_⟩) (by assumption) ?_
    rotate_left
    · intro w hSw; (try dsimp only at hSw); first | (go_simp; done) | (go_simp; with_reducible rfl)
    try simp only [Act.put, List.getElem_toArray, List.getElem_cons_zero, List.getElem_cons_succ, List.setIfInBounds_toArray, List.set_cons_zero, List.set_cons_succ]
    refine wpAnyH_done (by kernel_rfl) ?_ _
    have n0 := (q2.cell (p := ⟨o5.heap.size, 0, none⟩) hl8).trans n0
    have n1 := (q2.cell (p := ⟨o5.heap.size, 1, none⟩) hl8).trans n1
    try rw [hsi1]
    try rw [hsm1]
    have HK13 : Hid (∀ w', Below o6.heap.size o6 w' → w'.cell? ⟨o2.heap.size, 1, none⟩ = some (.slice (some ⟨b, off, none⟩) T.length ct) ∧ w'.cell? ⟨b, off + i * 3, none⟩ = some (.int .i64 s.1) ∧ w'.cell? ⟨b, off + i * 3 + 1, none⟩ = some (.int .i64 s.2.1) ∧ w'.cell? ⟨b, off + i * 3 + 2, none⟩ = some (.int .i64 s.2.2) ∧ w'.cell? ⟨b, off + m * 3, none⟩ = some (.int .i64 t.1) ∧ w'.cell? ⟨b, off + m * 3 + 1, none⟩ = some (.int .i64 t.2.1) ∧ w'.cell? ⟨b, off + m * 3 + 2, none⟩ = some (.int .i64 t.2.2)) := fun w' hb => ⟨(HK8.out w' hb).2, HOT.out w' (h26.trans (hb.mono h26.size))⟩
    have HK14 : Hid (∀ w', Below o6.heap.size o6 w' → w'.cell? ⟨o2.heap.size, 0, none⟩ = some (.slice (some ⟨bp, op, none⟩) P.length cp) ∧ w'.cell? ⟨bp, op + p * 2, none⟩ = some (.string (RS (ptI P p).1)) ∧ w'.cell? ⟨bp, op + p * 2 + 1, none⟩ = some (.string (RS (ptI P p).2)) ∧ w'.cell? ⟨bp, op + q * 2, none⟩ = some (.string (RS (ptI P q).1)) ∧ w'.cell? ⟨bp, op + q * 2 + 1, none⟩ = some (.string (RS (ptI P q).2)) ∧ w'.cell? ⟨bp, op + x1.toNat * 2, none⟩ = some (.string (RS (ptI P x1).1)) ∧ w'.cell? ⟨bp, op + x1.toNat * 2 + 1, none⟩ = some (.string (RS (ptI P x1).2)) ∧ w'.cell? ⟨bp, op + x0.toNat * 2, none⟩ = some (.string (RS (ptI P x0).1)) ∧ w'.cell? ⟨bp, op + x0.toNat * 2 + 1, none⟩ = some (.string (RS (ptI P x0).2))) := fun w' hb => ⟨(HK8.out w' hb).1, HOP.out w' (h26.trans (hb.mono h26.size))⟩
    have HGD : Hid (∀ w', Below o6.heap.size o6 w' → Good w') := fun w' hb => hg.below (hB2.trans ((h26.trans (hb.mono h26.size)).mono hB2.size))
    have q3 : Below o6.heap.size o6 y2.drew := q2.trans ((below_drewN y2 1).mono q2.size)
    go_upto_region 13 with fail
    refine wp_region_held_drew (S := (fun w' => w'.cell? ⟨o2.heap.size, 1, none⟩ = some (.slice (some ⟨b, off, none⟩) T.length ct) ∧ w'.cell? ⟨b, off + i * 3, none⟩ = some (.int .i64 s.1) ∧ w'.cell? ⟨b, off + i * 3 + 1, none⟩ = some (.int .i64 s.2.1) ∧ w'.cell? ⟨b, off + i * 3 + 2, none⟩ = some (.int .i64 s.2.2) ∧ w'.cell? ⟨b, off + m * 3, none⟩ = some (.int .i64 t.1) ∧ w'.cell? ⟨b, off + m * 3 + 1, none⟩ = some (.int .i64 t.2.1) ∧ w'.cell? ⟨b, off + m * 3 + 2, none⟩ = some (.int .i64 t.2.2))) (by kernel_rfl) ?_ (fun hHeld => ?_)
    · first | exact HK13.out _ q5 | exact HK13.out _ q4 | exact HK13.out _ q3
    refine wpAnyH_take (i := 0) (oi := _) (v := ?_) rfl (by kernel_rfl) (by kernel_rfl) (by kernel_rfl) (fun _ _ _ h => h) (Or.inl ⟨by rfl, ?_⟩) (by assumption) ?_
    rotate_left
    · intro w hSw; (try dsimp only at hSw); first | (go_simp; done) | (go_simp; with_reducible rfl)
    try simp only [Act.put, List.getElem_toArray, List.getElem_cons_zero, List.setIfInBounds_toArray, List.set_cons_zero, List.set_cons_succ]
    refine wpAnyH_take (i := 1) (oi := _) (v := ?_) rfl (by kernel_rfl) (by kernel_rfl) (by kernel_rfl) (fun _ _ _ h => h) (Or.inl ⟨by rfl, ?_⟩) (by assumption) ?_
    rotate_left
    · intro w hSw; (try dsimp only at hSw); first | (go_simp; done) | (go_simp; with_reducible rfl)
    try simp only [Act.put, List.getElem_toArray, List.getElem_cons_zero, List.getElem_cons_succ, List.setIfInBounds_toArray, List.set_cons_zero, List.set_cons_succ]
    refine wpAnyH_take (i := 2) (oi := _) (v := ?_) rfl (by kernel_rfl) (by kernel_rfl) (by kernel_rfl) (fun _ _ _ h => h) (Or.inl ⟨by rfl, ?_⟩) (by assumption) ?_
    rotate_left
    · intro w hSw; (try dsimp only at hSw); first | (go_simp; done) | (go_simp; with_reducible rfl)
    try simp only [Act.put, List.getElem_toArray, List.getElem_cons_zero, List.getElem_cons_succ, List.setIfInBounds_toArray, List.set_cons_zero, List.set_cons_succ]
    refine wpAnyH_take (i := 3) (oi := _) (v := ?_) rfl (by kernel_rfl) (by kernel_rfl) (by kernel_rfl) (fun _ _ _ h => h) (Or.inl ⟨by rfl, ?_⟩) (by assumption) ?_
    rotate_left
    · intro w hSw; (try dsimp only at hSw); first | (go_simp; done) | (go_simp; with_reducible rfl)
    try simp only [Act.put, List.getElem_toArray, List.getElem_cons_zero, List.getElem_cons_succ, List.setIfInBounds_toArray, List.set_cons_zero, List.set_cons_succ]
    refine wpAnyH_take (i := 4) (oi := _) (v := ?_) rfl (by kernel_rfl) (by kernel_rfl) (by kernel_rfl) (fun _ _ _ h => h) (Or.inl ⟨by rfl, ?_⟩) (by assumption) ?_
    rotate_left
    · intro w hSw; (try dsimp only at hSw); first | (go_simp; done) | (go_simp; with_reducible rfl)
    try simp only [Act.put, List.getElem_toArray, List.getElem_cons_zero, List.getElem_cons_succ, List.setIfInBounds_toArray, List.set_cons_zero, List.set_cons_succ]
    refine wpAnyH_take (i := 5) (oi := _) (v := ?_) rfl (by kernel_rfl) (by kernel_rfl) (by kernel_rfl) (fun _ _ _ h => h) (Or.inl ⟨by rfl, ?_⟩) (by assumption) ?_
    rotate_left
    · intro w hSw; (try dsimp only at hSw); first | (go_simp; done) | (go_simp; with_reducible rfl)
    try simp only [Act.put, List.getElem_toArray, List.getElem_cons_zero, List.getElem_cons_succ, List.setIfInBounds_toArray, List.set_cons_zero, List.set_cons_succ]
    refine wpAnyH_take (i := 6) (oi := _) (v := ?_) rfl (by kernel_rfl) (by kernel_rfl) (by kernel_rfl) (fun _ _ _ h => h) (Or.inl ⟨by rfl, ?_⟩) (by assumption) ?_
    rotate_left
    · intro w hSw; (try dsimp only at hSw); first | (go_simp; done) | (go_simp; with_reducible rfl)
    try simp only [Act.put, List.getElem_toArray, List.getElem_cons_zero, List.getElem_cons_succ, List.setIfInBounds_toArray, List.set_cons_zero, List.set_cons_succ]
    refine wpAnyH_take (i := 8) (oi := _) (v := ?_) rfl (by kernel_rfl) (by kernel_rfl) (by kernel_rfl) (fun _ _ _ h => h) (Or.inl ⟨by rfl, ?_⟩) (by assumption) ?_
    rotate_left
    · intro w hSw; (try dsimp only at hSw); first | (go_simp; done) | (go_simp; with_reducible rfl)
    try simp only [Act.put, List.getElem_toArray, List.getElem_cons_zero, List.getElem_cons_succ, List.setIfInBounds_toArray, List.set_cons_zero, List.set_cons_succ]
    refine wpAnyH_take (i := 9) (oi := _) (v := ?_) rfl (by kernel_rfl) (by kernel_rfl) (by kernel_rfl) (fun _ _ _ h => h) (Or.inl ⟨by rfl, ?_⟩) (by assumption) ?_
    rotate_left
    · intro w hSw; (try dsimp only at hSw); first | (go_simp; done) | (go_simp; with_reducible rfl)
    try simp only [Act.put, List.getElem_toArray, List.getElem_cons_zero, List.getElem_cons_succ, List.setIfInBounds_toArray, List.set_cons_zero, List.set_cons_succ]
    refine wpAnyH_take (i := 10) (oi := _) (v := ?_) rfl (by kernel_rfl) (by kernel_rfl) (by kernel_rfl) (fun _ _ _ h => h) (Or.inl ⟨by rfl, ?_⟩) (by assumption) ?_
    rotate_left
    · intro w hSw; (try dsimp only at hSw); first | (go_simp; done) | (go_simp; with_reducible rfl)
    try simp only [Act.put, List.getElem_toArray, List.getElem_cons_zero, List.getElem_cons_succ, List.setIfInBounds_toArray, List.set_cons_zero, List.set_cons_succ]
    refine wpAnyH_take (i := 11) (oi := _) (v := ?_) rfl (by kernel_rfl) (by kernel_rfl) (by kernel_rfl) (fun _ _ _ h => h) (Or.inl ⟨by rfl, ?_⟩) (by assumption) ?_
    rotate_left
    · intro w hSw; (try dsimp only at hSw); first | (go_simp; done) | (go_simp; with_reducible rfl)
    try simp only [Act.put, List.getElem_toArray, List.getElem_cons_zero, List.getElem_cons_succ, List.setIfInBounds_toArray, List.set_cons_zero, List.set_cons_succ]
    refine wpAnyH_take (i := 12) (oi := _) (v := ?_) rfl (by kernel_rfl) (by kernel_rfl) (by kernel_rfl) (fun _ _ _ h => h) (Or.inl ⟨by rfl, ?_⟩) (by assumption) ?_
    rotate_left
    · intro w hSw; (try dsimp only at hSw); first | (go_simp; done) | (go_simp; with_reducible rfl)
    try simp only [Act.put, List.getElem_toArray, List.getElem_cons_zero, List.getElem_cons_succ, List.setIfInBounds_toArray, List.set_cons_zero, List.set_cons_succ]
    refine wpAnyH_take (i := 13) (oi := _) (v := ?_) rfl (by kernel_rfl) (by kernel_rfl) (by kernel_rfl) (fun _ _ _ h => h) (Or.inl ⟨by rfl, ?_⟩) (by assumption) ?_
    rotate_left
    · intro w hSw; (try dsimp only at hSw); first | (go_simp; done) | (go_simp; with_reducible rfl)
    try simp only [Act.put, List.getElem_toArray, List.getElem_cons_zero, List.getElem_cons_succ, List.setIfInBounds_toArray, List.set_cons_zero, List.set_cons_succ]
    refine wpAnyH_take (i := 14) (oi := _) (v := ?_) rfl (by kernel_rfl) (by kernel_rfl) (by kernel_rfl) (fun _ _ _ h => h) (Or.inl ⟨by rfl, ?_⟩) (by assumption) ?_
    rotate_left
    · intro w hSw; (try dsimp only at hSw); first | (go_simp; done) | (go_simp; with_reducible rfl)
    try simp only [Act.put, List.getElem_toArray, List.getElem_cons_zero, List.getElem_cons_succ, List.setIfInBounds_toArray, List.set_cons_zero, List.set_cons_succ]
    refine wpAnyH_ready (rs := [7]) (by kernel_rfl) (by simp) ?_
    refine AllReadyH.cons (o := _) rfl (fun K hK => ?_) AllReadyH.nil
    go_simp
    (refine (HT1.out _).mono ?_; rintro e y3 ⟨_, rfl, rfl, hy3⟩; have q4 := q3.trans (hy3.mono q3.size))
    refine hK.out _ _ ?_ (fun hHeld => ?_)
    · first | exact HK13.out _ q5 | exact HK13.out _ q4 | exact HK13.out _ q3
    clear hK K
    try simp only [Act.put, List.getElem_toArray, List.getElem_cons_zero, List.getElem_cons_succ, List.setIfInBounds_toArray, List.set_cons_zero, List.set_cons_succ]
    refine wpAnyH_ready (rs := [15]) (by kernel_rfl) (by simp) ?_
    refine AllReadyH.cons (o := _) rfl (fun K hK => ?_) AllReadyH.nil
    go_simp
    (refine (HT2.out _).mono ?_; rintro e y4 ⟨_, rfl, rfl, hy4⟩; have q5 := q4.trans (hy4.mono q4.size))
    refine hK.out _ _ ?_ (fun hHeld => ?_)
    · first | exact HK13.out _ q5 | exact HK13.out _ q4 | exact HK13.out _ q3
    clear hK K
    try simp only [Act.put, List.getElem_toArray, List.getElem_cons_zero, List.getElem_cons_succ, List.setIfInBounds_toArray, List.set_cons_zero, List.set_cons_succ]
    refine wpAnyH_take (i := 16) (oi := _) (v := ?_) rfl (by kernel_rfl) (by kernel_rfl) (by kernel_rfl) (fun _ _ _ h => h) (Or.inl ⟨by rfl, ?_⟩) (by assumption) ?_
    rotate_left
    · intro w hSw; (try dsimp only at hSw); first | (go_simp; done) | (go_simp; with_reducible rfl)
    try simp only [Act.put, List.getElem_toArray, List.getElem_cons_zero, List.getElem_cons_succ, List.setIfInBounds_toArray, List.set_cons_zero, List.set_cons_succ]
    refine wpAnyH_take (i := 17) (oi := _) (v := ?_) rfl (by kernel_rfl) (by kernel_rfl) (by kernel_rfl) (fun _ _ _ h => h) (Or.inl ⟨by rfl, ?_⟩) (by assumption) ?_
    rotate_left
    · intro w hSw; (try dsimp only at hSw); first | (go_simp; done) | (go_simp; with_reducible rfl)
    try simp only [Act.put, List.getElem_toArray, List.getElem_cons_zero, List.getElem_cons_succ, List.setIfInBounds_toArray, List.set_cons_zero, List.set_cons_succ]
    refine wpAnyH_done (by kernel_rfl) ?_ _
    have q6 : Below o6.heap.size o6 y4.drew := q5.trans ((below_drewN y4 1).mono q5.size)
    have gd6 := HGD.out _ q6
    go_upto_region 14 with fail
    have hzb : decide (turnZ (ptI P p) (ptI P q) (ptI P x1) ≤ 0) = false := decide_eq_false (by omega)
    have hzc : decide (0 ≤ turnZ (ptI P p) (ptI P q) (ptI P x0)) = false := decide_eq_false (by omega)
    clear hz1 hz2 hgd1 hgd2
    refine wp_region_held_drew (S := (fun w' => w'.cell? ⟨o2.heap.size, 0, none⟩ = some (.slice (some ⟨bp, op, none⟩) P.length cp) ∧ w'.cell? ⟨bp, op + p * 2, none⟩ = some (.string (RS (ptI P p).1)) ∧ w'.cell? ⟨bp, op + p * 2 + 1, none⟩ = some (.string (RS (ptI P p).2)) ∧ w'.cell? ⟨bp, op + q * 2, none⟩ = some (.string (RS (ptI P q).1)) ∧ w'.cell? ⟨bp, op + q * 2 + 1, none⟩ = some (.string (RS (ptI P q).2)) ∧ w'.cell? ⟨bp, op + x1.toNat * 2, none⟩ = some (.string (RS (ptI P x1).1)) ∧ w'.cell? ⟨bp, op + x1.toNat * 2 + 1, none⟩ = some (.string (RS (ptI P x1).2)) ∧ w'.cell? ⟨bp, op + x0.toNat * 2, none⟩ = some (.string (RS (ptI P x0).1)) ∧ w'.cell? ⟨bp, op + x0.toNat * 2 + 1, none⟩ = some (.string (RS (ptI P x0).2)))) (by kernel_rfl) ?_ (fun hHeld => ?_)
    · first | exact HK14.out _ q8 | exact HK14.out _ q7 | exact HK14.out _ q6
    refine wpAnyH_take (i := 0) (oi := _) (v := ?_) rfl (by kernel_rfl) (by kernel_rfl) (by kernel_rfl) (fun _ _ _ h => h) (Or.inl ⟨by rfl, ?_⟩) (by assumption) ?_
    rotate_left
    · intro w hSw; (try dsimp only at hSw); first | (go_simp; done) | (go_simp; with_reducible rfl)
    try simp only [Act.put, List.getElem_toArray, List.getElem_cons_zero, List.setIfInBounds_toArray, List.set_cons_zero, List.set_cons_succ]
    refine wpAnyH_take (i := 1) (oi := _) (v := ?_) rfl (by kernel_rfl) (by kernel_rfl) (by kernel_rfl) (fun _ _ _ h => h) (Or.inl ⟨by rfl, ?_⟩) (by assumption) ?_
    rotate_left
    · intro w hSw; (try dsimp only at hSw); first | (go_simp; done) | (go_simp; with_reducible rfl)
    try simp only [Act.put, List.getElem_toArray, List.getElem_cons_zero, List.getElem_cons_succ, List.setIfInBounds_toArray, List.set_cons_zero, List.set_cons_succ]
    refine wpAnyH_take (i := 2) (oi := _) (v := ?_) rfl (by kernel_rfl) (by kernel_rfl) (by kernel_rfl) (fun _ _ _ h => h) (Or.inl ⟨by rfl, ?_⟩) (by assumption) ?_
    rotate_left
    · intro w hSw; (try dsimp only at hSw); first | (go_simp; done) | (go_simp; with_reducible rfl)
    try simp only [Act.put, List.getElem_toArray, List.getElem_cons_zero, List.getElem_cons_succ, List.setIfInBounds_toArray, List.set_cons_zero, List.set_cons_succ]
    refine wpAnyH_take (i := 3) (oi := _) (v := ?_) rfl (by kernel_rfl) (by kernel_rfl) (by kernel_rfl) (fun _ _ _ h => h) (Or.inl ⟨by rfl, ?_⟩) (by assumption) ?_
    rotate_left
    · intro w hSw; (try dsimp only at hSw); first | (go_simp; done) | (go_simp; with_reducible rfl)
    try simp only [Act.put, List.getElem_toArray, List.getElem_cons_zero, List.getElem_cons_succ, List.setIfInBounds_toArray, List.set_cons_zero, List.set_cons_succ]
    refine wpAnyH_take (i := 4) (oi := _) (v := ?_) rfl (by kernel_rfl) (by kernel_rfl) (by kernel_rfl) (fun _ _ _ h => h) (Or.inl ⟨by rfl, ?_⟩) (by assumption) ?_
    rotate_left
    · intro w hSw; (try dsimp only at hSw); first | (go_simp; done) | (go_simp; with_reducible rfl)
    try simp only [Act.put, List.getElem_toArray, List.getElem_cons_zero, List.getElem_cons_succ, List.setIfInBounds_toArray, List.set_cons_zero, List.set_cons_succ]
    refine wpAnyH_take (i := 5) (oi := _) (v := ?_) rfl (by kernel_rfl) (by kernel_rfl) (by kernel_rfl) (fun _ _ _ h => h) (Or.inl ⟨by rfl, ?_⟩) (by assumption) ?_
    rotate_left
    · intro w hSw; (try dsimp only at hSw); first | (go_simp; done) | (go_simp; with_reducible rfl)
    try simp only [Act.put, List.getElem_toArray, List.getElem_cons_zero, List.getElem_cons_succ, List.setIfInBounds_toArray, List.set_cons_zero, List.set_cons_succ]
    refine wpAnyH_take (i := 6) (oi := _) (v := ?_) rfl (by kernel_rfl) (by kernel_rfl) (by kernel_rfl) (fun _ _ _ h => h) (Or.inl ⟨by rfl, ?_⟩) (by assumption) ?_
    rotate_left
    · intro w hSw; (try dsimp only at hSw); first | (go_simp; done) | (go_simp; with_reducible rfl)
    try simp only [Act.put, List.getElem_toArray, List.getElem_cons_zero, List.getElem_cons_succ, List.setIfInBounds_toArray, List.set_cons_zero, List.set_cons_succ]
    refine wpAnyH_take (i := 7) (oi := _) (v := ?_) rfl (by kernel_rfl) (by kernel_rfl) (by kernel_rfl) (fun _ _ _ h => h) (Or.inl ⟨by rfl, ?_⟩) (by assumption) ?_
    rotate_left
    · intro w hSw; (try dsimp only at hSw); first | (go_simp; done) | (go_simp; with_reducible rfl)
    try simp only [Act.put, List.getElem_toArray, List.getElem_cons_zero, List.getElem_cons_succ, List.setIfInBounds_toArray, List.set_cons_zero, List.set_cons_succ]
    refine wpAnyH_take (i := 8) (oi := _) (v := ?_) rfl (by kernel_rfl) (by kernel_rfl) (by kernel_rfl) (fun _ _ _ h => h) (Or.inl ⟨by rfl, ?_⟩) (by assumption) ?_
    rotate_left
    · intro w hSw; (try dsimp only at hSw); first | (go_simp; done) | (go_simp; with_reducible rfl)
    try simp only [Act.put, List.getElem_toArray, List.getElem_cons_zero, List.getElem_cons_succ, List.setIfInBounds_toArray, List.set_cons_zero, List.set_cons_succ]
    refine wpAnyH_take (i := 9) (oi := _) (v := ?_) rfl (by kernel_rfl) (by kernel_rfl) (by kernel_rfl) (fun _ _ _ h => h) (Or.inl ⟨by rfl, ?_⟩) (by assumption) ?_
    rotate_left
    · intro w hSw; (try dsimp only at hSw); first | (go_simp; done) | (go_simp; with_reducible rfl)
    try simp only [Act.put, List.getElem_toArray, List.getElem_cons_zero, List.getElem_cons_succ, List.setIfInBounds_toArray, List.set_cons_zero, List.set_cons_succ]
    refine wpAnyH_take (i := 10) (oi := _) (v := ?_) rfl (by kernel_rfl) (by kernel_rfl) (by kernel_rfl) (fun _ _ _ h => h) (Or.inl ⟨by rfl, ?_⟩) (by assumption) ?_
    rotate_left
    · intro w hSw; (try dsimp only at hSw); first | (go_simp; done) | (go_simp; with_reducible rfl)
    try simp only [Act.put, List.getElem_toArray, List.getElem_cons_zero, List.getElem_cons_succ, List.setIfInBounds_toArray, List.set_cons_zero, List.set_cons_succ]
    refine wpAnyH_take (i := 11) (oi := _) (v := ?_) rfl (by kernel_rfl) (by kernel_rfl) (by kernel_rfl) (fun _ _ _ h => h) (Or.inl ⟨by rfl, ?_⟩) (by assumption) ?_
    rotate_left
    · intro w hSw; (try dsimp only at hSw); first | (go_simp; done) | (go_simp; with_reducible rfl)
    try simp only [Act.put, List.getElem_toArray, List.getElem_cons_zero, List.getElem_cons_succ, List.setIfInBounds_toArray, List.set_cons_zero, List.set_cons_succ]
    refine wpAnyH_take (i := 12) (oi := _) (v := ?_) rfl (by kernel_rfl) (by kernel_rfl) (by kernel_rfl) (fun _ _ _ h => h) (Or.inl ⟨by rfl, ?_⟩) (by assumption) ?_
    rotate_left
    · intro w hSw; (try dsimp only at hSw); first | (go_simp; done) | (go_simp; with_reducible rfl)
    try simp only [Act.put, List.getElem_toArray, List.getElem_cons_zero, List.getElem_cons_succ, List.setIfInBounds_toArray, List.set_cons_zero, List.set_cons_succ]
    refine wpAnyH_take (i := 13) (oi := _) (v := ?_) rfl (by kernel_rfl) (by kernel_rfl) (by kernel_rfl) (fun _ _ _ h => h) (Or.inl ⟨by rfl, ?_⟩) (by assumption) ?_
    rotate_left
    · intro w hSw; (try dsimp only at hSw); first | (go_simp; done) | (go_simp; with_reducible rfl)
    try simp only [Act.put, List.getElem_toArray, List.getElem_cons_zero, List.getElem_cons_succ, List.setIfInBounds_toArray, List.set_cons_zero, List.set_cons_succ]
    refine wpAnyH_take (i := 14) (oi := _) (v := ?_) rfl (by kernel_rfl) (by kernel_rfl) (by kernel_rfl) (fun _ _ _ h => h) (Or.inl ⟨by rfl, ?_⟩) (by assumption) ?_
    rotate_left
    · intro w hSw; (try dsimp only at hSw); first | (go_simp; done) | (go_simp; with_reducible rfl)
    try simp only [Act.put, List.getElem_toArray, List.getElem_cons_zero, List.getElem_cons_succ, List.setIfInBounds_toArray, List.set_cons_zero, List.set_cons_succ]
    refine wpAnyH_ready (rs := [15]) (by kernel_rfl) (by simp) ?_
    refine AllReadyH.cons (o := _) rfl (fun K hK => ?_) AllReadyH.nil
    go_simp
    (refine (HTU.out p q x1 _ gd6).mono ?_; rintro e y5 ⟨_, rfl, rfl, hy5⟩; have q7 := q6.trans (hy5.mono q6.size); have gd7 := HGD.out _ q7)
    refine hK.out _ _ ?_ (fun hHeld => ?_)
    · first | exact HK14.out _ q8 | exact HK14.out _ q7 | exact HK14.out _ q6
    clear hK K
    try simp only [Act.put, List.getElem_toArray, List.getElem_cons_zero, List.getElem_cons_succ, List.setIfInBounds_toArray, List.set_cons_zero, List.set_cons_succ]
    refine wpAnyH_take (i := 16) (oi := _) (v := ?_) rfl (by kernel_rfl) (by kernel_rfl) (by kernel_rfl) (fun _ _ _ h => h) (Or.inl ⟨by rfl, ?_⟩) (by assumption) ?_
    rotate_left
    · intro w hSw; (try dsimp only at hSw); first | (go_simp; done) | (go_simp; with_reducible rfl)
    try simp only [Act.put, List.getElem_toArray, List.getElem_cons_zero, List.getElem_cons_succ, List.setIfInBounds_toArray, List.set_cons_zero, List.set_cons_succ]
    refine wpAnyH_take (i := 17) (oi := _) (v := ?_) rfl (by kernel_rfl) (by kernel_rfl) (by kernel_rfl) (fun _ _ _ h => h) (Or.inl ⟨by rfl, ?_⟩) (by assumption) ?_
    rotate_left
    · intro w hSw; (try dsimp only at hSw); first | (go_simp; done) | (go_simp; with_reducible rfl)
    try simp only [Act.put, List.getElem_toArray, List.getElem_cons_zero, List.getElem_cons_succ, List.setIfInBounds_toArray, List.set_cons_zero, List.set_cons_succ]
    refine wpAnyH_take (i := 18) (oi := _) (v := ?_) rfl (by kernel_rfl) (by kernel_rfl) (by kernel_rfl) (fun _ _ _ h => h) (Or.inl ⟨by rfl, ?_⟩) (by assumption) ?_
    rotate_left
    · intro w hSw; (try dsimp only at hSw); first | (go_simp; done) | (go_simp; with_reducible rfl)
    try simp only [Act.put, List.getElem_toArray, List.getElem_cons_zero, List.getElem_cons_succ, List.setIfInBounds_toArray, List.set_cons_zero, List.set_cons_succ]
    refine wpAnyH_take (i := 19) (oi := _) (v := ?_) rfl (by kernel_rfl) (by kernel_rfl) (by kernel_rfl) (fun _ _ _ h => h) (Or.inl ⟨by rfl, ?_⟩) (by assumption) ?_
    rotate_left
    · intro w hSw; (try dsimp only at hSw); first | (go_simp; done) | (go_simp; with_reducible rfl)
    try simp only [Act.put, List.getElem_toArray, List.getElem_cons_zero, List.getElem_cons_succ, List.setIfInBounds_toArray, List.set_cons_zero, List.set_cons_succ]
    refine wpAnyH_take (i := 20) (oi := _) (v := ?_) rfl (by kernel_rfl) (by kernel_rfl) (by kernel_rfl) (fun _ _ _ h => h) (Or.inl ⟨by rfl, ?_⟩) (by assumption) ?_
    rotate_left
    · intro w hSw; (try dsimp only at hSw); first | (go_simp; done) | (go_simp; with_reducible rfl)
    try simp only [Act.put, List.getElem_toArray, List.getElem_cons_zero, List.getElem_cons_succ, List.setIfInBounds_toArray, List.set_cons_zero, List.set_cons_succ]
    refine wpAnyH_take (i := 21) (oi := _) (v := ?_) rfl (by kernel_rfl) (by kernel_rfl) (by kernel_rfl) (fun _ _ _ h => h) (Or.inl ⟨by rfl, ?_⟩) (by assumption) ?_
    rotate_left
    · intro w hSw; (try dsimp only at hSw); first | (go_simp; done) | (go_simp; with_reducible rfl)
    try simp only [Act.put, List.getElem_toArray, List.getElem_cons_zero, List.getElem_cons_succ, List.setIfInBounds_toArray, List.set_cons_zero, List.set_cons_succ]
    refine wpAnyH_take (i := 22) (oi := _) (v := ?_) rfl (by kernel_rfl) (by kernel_rfl) (by kernel_rfl) (fun _ _ _ h => h) (Or.inl ⟨by rfl, ?_⟩) (by assumption) ?_
    rotate_left
    · intro w hSw; (try dsimp only at hSw); first | (go_simp; done) | (go_simp; with_reducible rfl)
    try simp only [Act.put, List.getElem_toArray, List.getElem_cons_zero, List.getElem_cons_succ, List.setIfInBounds_toArray, List.set_cons_zero, List.set_cons_succ]
    refine wpAnyH_take (i := 23) (oi := _) (v := ?_) rfl (by kernel_rfl) (by kernel_rfl) (by kernel_rfl) (fun _ _ _ h => h) (Or.inl ⟨by rfl, ?_⟩) (by assumption) ?_
    rotate_left
    · intro w hSw; (try dsimp only at hSw); first | (go_simp; done) | (go_simp; with_reducible rfl)
    try simp only [Act.put, List.getElem_toArray, List.getElem_cons_zero, List.getElem_cons_succ, List.setIfInBounds_toArray, List.set_cons_zero, List.set_cons_succ]
    refine wpAnyH_take (i := 24) (oi := _) (v := ?_) rfl (by kernel_rfl) (by kernel_rfl) (by kernel_rfl) (fun _ _ _ h => h) (Or.inl ⟨by rfl, ?_⟩) (by assumption) ?_
    rotate_left
    · intro w hSw; (try dsimp only at hSw); first | (go_simp; done) | (go_simp; with_reducible rfl)
    try simp only [Act.put, List.getElem_toArray, List.getElem_cons_zero, List.getElem_cons_succ, List.setIfInBounds_toArray, List.set_cons_zero, List.set_cons_succ]
    refine wpAnyH_take (i := 25) (oi := _) (v := ?_) rfl (by kernel_rfl) (by kernel_rfl) (by kernel_rfl) (fun _ _ _ h => h) (Or.inl ⟨by rfl, ?_⟩) (by assumption) ?_
    rotate_left
    · intro w hSw; (try dsimp only at hSw); first | (go_simp; done) | (go_simp; with_reducible rfl)
    try simp only [Act.put, List.getElem_toArray, List.getElem_cons_zero, List.getElem_cons_succ, List.setIfInBounds_toArray, List.set_cons_zero, List.set_cons_succ]
    refine wpAnyH_take (i := 26) (oi := _) (v := ?_) rfl (by kernel_rfl) (by kernel_rfl) (by kernel_rfl) (fun _ _ _ h => h) (Or.inl ⟨by rfl, ?_⟩) (by assumption) ?_
    rotate_left
    · intro w hSw; (try dsimp only at hSw); first | (go_simp; done) | (go_simp; with_reducible rfl)
    try simp only [Act.put, List.getElem_toArray, List.getElem_cons_zero, List.getElem_cons_succ, List.setIfInBounds_toArray, List.set_cons_zero, List.set_cons_succ]
    refine wpAnyH_take (i := 27) (oi := _) (v := ?_) rfl (by kernel_rfl) (by kernel_rfl) (by kernel_rfl) (fun _ _ _ h => h) (Or.inl ⟨by rfl, ?_⟩) (by assumption) ?_
    rotate_left
    · intro w hSw; (try dsimp only at hSw); first | (go_simp; done) | (go_simp; with_reducible rfl)
    try simp only [Act.put, List.getElem_toArray, List.getElem_cons_zero, List.getElem_cons_succ, List.setIfInBounds_toArray, List.set_cons_zero, List.set_cons_succ]
    refine wpAnyH_take (i := 28) (oi := _) (v := ?_) rfl (by kernel_rfl) (by kernel_rfl) (by kernel_rfl) (fun _ _ _ h => h) (Or.inl ⟨by rfl, ?_⟩) (by assumption) ?_
    rotate_left
    · intro w hSw; (try dsimp only at hSw); first | (go_simp; done) | (go_simp; with_reducible rfl)
    try simp only [Act.put, List.getElem_toArray, List.getElem_cons_zero, List.getElem_cons_succ, List.setIfInBounds_toArray, List.set_cons_zero, List.set_cons_succ]
    refine wpAnyH_take (i := 29) (oi := _) (v := ?_) rfl (by kernel_rfl) (by kernel_rfl) (by kernel_rfl) (fun _ _ _ h => h) (Or.inl ⟨by rfl, ?_⟩) (by assumption) ?_
    rotate_left
    · intro w hSw; (try dsimp only at hSw); first | (go_simp; done) | (go_simp; with_reducible rfl)
    try simp only [Act.put, List.getElem_toArray, List.getElem_cons_zero, List.getElem_cons_succ, List.setIfInBounds_toArray, List.set_cons_zero, List.set_cons_succ]
    refine wpAnyH_take (i := 30) (oi := _) (v := ?_) rfl (by kernel_rfl) (by kernel_rfl) (by kernel_rfl) (fun _ _ _ h => h) (Or.inl ⟨by rfl, ?_⟩) (by assumption) ?_
    rotate_left
    · intro w hSw; (try dsimp only at hSw); first | (go_simp; done) | (go_simp; with_reducible rfl)
    try simp only [Act.put, List.getElem_toArray, List.getElem_cons_zero, List.getElem_cons_succ, List.setIfInBounds_toArray, List.set_cons_zero, List.set_cons_succ]
    refine wpAnyH_take (i := 31) (oi := _) (v := ?_) rfl (by kernel_rfl) (by kernel_rfl) (by kernel_rfl) (fun _ _ _ h => h) (Or.inl ⟨by rfl, ?_⟩) (by assumption) ?_
    rotate_left
    · intro w hSw; (try dsimp only at hSw); first | (go_simp; done) | (go_simp; with_reducible rfl)
    try simp only [Act.put, List.getElem_toArray, List.getElem_cons_zero, List.getElem_cons_succ, List.setIfInBounds_toArray, List.set_cons_zero, List.set_cons_succ]
    refine wpAnyH_take (i := 32) (oi := _) (v := ?_) rfl (by kernel_rfl) (by kernel_rfl) (by kernel_rfl) (fun _ _ _ h => h) (Or.inl ⟨by rfl, ?_⟩) (by assumption) ?_
    rotate_left
    · intro w hSw; (try dsimp only at hSw); first | (go_simp; done) | (go_simp; with_reducible rfl)
    try simp only [Act.put, List.getElem_toArray, List.getElem_cons_zero, List.getElem_cons_succ, List.setIfInBounds_toArray, List.set_cons_zero, List.set_cons_succ]
    refine wpAnyH_ready (rs := [33]) (by kernel_rfl) (by simp) ?_
    refine AllReadyH.cons (o := _) rfl (fun K hK => ?_) AllReadyH.nil
    go_simp
    (refine (HTU.out p q x0 _ gd7).mono ?_; rintro e y6 ⟨_, rfl, rfl, hy6⟩; have q8 := q7.trans (hy6.mono q7.size))
    refine hK.out _ _ ?_ (fun hHeld => ?_)
    · first | exact HK14.out _ q8 | exact HK14.out _ q7 | exact HK14.out _ q6
    clear hK K
    try simp only [Act.put, List.getElem_toArray, List.getElem_cons_zero, List.getElem_cons_succ, List.setIfInBounds_toArray, List.set_cons_zero, List.set_cons_succ]
    refine wpAnyH_take (i := 34) (oi := _) (v := ?_) rfl (by kernel_rfl) (by kernel_rfl) (by kernel_rfl) (fun _ _ _ h => h) (Or.inl ⟨by rfl, ?_⟩) (by assumption) ?_
    rotate_left
    · intro w hSw; (try dsimp only at hSw); first | (go_simp; done) | (go_simp; with_reducible rfl)
    try simp only [Act.put, List.getElem_toArray, List.getElem_cons_zero, List.getElem_cons_succ, List.setIfInBounds_toArray, List.set_cons_zero, List.set_cons_succ]
    refine wpAnyH_take (i := 35) (oi := _) (v := ?_) rfl (by kernel_rfl) (by kernel_rfl) (by kernel_rfl) (fun _ _ _ h => h) (Or.inl ⟨by rfl, ?_⟩) (by assumption) ?_
    rotate_left
    · intro w hSw; (try dsimp only at hSw); first | (go_simp; done) | (go_simp; with_reducible rfl)
    try simp only [Act.put, List.getElem_toArray, List.getElem_cons_zero, List.getElem_cons_succ, List.setIfInBounds_toArray, List.set_cons_zero, List.set_cons_succ]
    refine wpAnyH_done (by kernel_rfl) ?_ _
    have HKB : Hid (∀ w', Below y6.heap.size y6 w' → w'.cell? ⟨o2.heap.size, 0, none⟩ = some (.slice (some ⟨bp, op, none⟩) P.length cp) ∧ w'.cell? ⟨o2.heap.size, 1, none⟩ = some (.slice (some ⟨b, off, none⟩) T.length ct)) := fun w' hb => HK8.out w' (q8.trans (hb.mono q8.size))
    have HNW : Hid (∀ w', Below y6.heap.size y6 w' → ∀ (j : Nat) (x : Value), (cellsT T)[j]? = some x → w'.cell? ((⟨b, off, none⟩ : Addr).add j) = some x) := fun w' hb j x hx => by
      have h28 := h26.trans (q8.mono h26.size)
      have hrd := RdC.below HTT.out (h28.trans (hb.mono h28.size))
      obtain ⟨pq, cq, he, _, _, _, h4⟩ := hrd
      have hadd : (⟨b, off, none⟩ : Addr).add j = ⟨b, off + j, none⟩ := by unfold Addr.add; split <;> simp_all
      rw [hadd]
      obtain ⟨b', off', hpe, hc⟩ := h4 (fun e => by rw [e] at hx; simp at hx)
      injection he with he1 he2 he3
      rw [← he1] at hpe
      injection hpe with hpe
      injection hpe with e1 e2 e3
      rw [e1, e2]
      exact hc j x hx
    have HCL : Hid ((cellsT T).length = T.length * 3) := by
      obtain ⟨_, _, _, _, _, h3, _⟩ := HTT.out
      exact h3
    have p0 : Below y6.heap.size y6 y6.drew := below_drewN y6 1
    go_upto_region 16 with fail
    go_cut [14] (fun s14 wx => ∃ (B g9 c9 : Nat), s14 = .pointer (some ⟨B, 0, none⟩) ∧ BoxN wx B 34 [.slice (some ⟨bp, op, none⟩) P.length cp, .slice (some ⟨g9, 0, none⟩) T.length c9] ∧ wx.ownsRow y6.heap.size 42 3 (.slice (some ⟨g9, 0, none⟩) T.length c9) T.length (cellsT T) ∧ Below y6.heap.size y6 wx)
    case first =>
      refine AnyL.region (S := Till 8 (fun w' => w'.cell? ⟨o2.heap.size, 0, none⟩ = some (.slice (some ⟨bp, op, none⟩) P.length cp) ∧ w'.cell? ⟨o2.heap.size, 1, none⟩ = some (.slice (some ⟨b, off, none⟩) T.length ct)) (fun _ => True)) (by kernel_rfl) ?_
      have hHeld : Till 8 (fun w' => w'.cell? ⟨o2.heap.size, 0, none⟩ = some (.slice (some ⟨bp, op, none⟩) P.length cp) ∧ w'.cell? ⟨o2.heap.size, 1, none⟩ = some (.slice (some ⟨b, off, none⟩) T.length ct)) (fun _ => True) (Array.replicate 9 false) _ := ⟨HKB.out _ p0, fun _ => trivial⟩
      refine AnyL.take (i := 0) (oi := _) (v := ?_) rfl (by kernel_rfl) (by kernel_rfl) (by kernel_rfl) (by decide) (fun _ _ _ h => h) (Or.inl ⟨by rfl, ?_⟩) ⟨hHeld.1, fun _ => hHeld.2 (by rfl)⟩ ?_
      rotate_left
      · intro w hSw; (try dsimp only at hSw); first | (go_simp; done) | (go_simp; with_reducible rfl)
      try simp only [Act.put, List.getElem_toArray, List.getElem_cons_zero, List.setIfInBounds_toArray, List.set_cons_zero, List.set_cons_succ]
      refine AnyL.take (i := 1) (oi := _) (v := ?_) rfl (by kernel_rfl) (by kernel_rfl) (by kernel_rfl) (by decide) (fun _ _ _ h => h) (Or.inl ⟨by rfl, ?_⟩) ⟨hHeld.1, fun _ => hHeld.2 (by rfl)⟩ ?_
      rotate_left
      · intro w hSw; (try dsimp only at hSw); first | (go_simp; done) | (go_simp; with_reducible rfl)
      try simp only [Act.put, List.getElem_toArray, List.getElem_cons_zero, List.getElem_cons_succ, List.setIfInBounds_toArray, List.set_cons_zero, List.set_cons_succ]
      refine AnyL.take (i := 3) (oi := _) (v := ?_) rfl (by kernel_rfl) (by kernel_rfl) (by kernel_rfl) (by decide) (fun _ _ _ h => h) (Or.inl ⟨by rfl, ?_⟩) ⟨hHeld.1, fun _ => hHeld.2 (by rfl)⟩ ?_
      rotate_left
      · intro w hSw; (try dsimp only at hSw); first | (go_simp; done) | (go_simp; with_reducible rfl)
      try simp only [Act.put, List.getElem_toArray, List.getElem_cons_zero, List.getElem_cons_succ, List.setIfInBounds_toArray, List.set_cons_zero, List.set_cons_succ]
      refine AnyL.take (i := 4) (oi := _) (v := ?_) rfl (by kernel_rfl) (by kernel_rfl) (by kernel_rfl) (by decide) (fun _ _ _ h => h) (Or.inl ⟨by rfl, ?_⟩) ⟨hHeld.1, fun _ => hHeld.2 (by rfl)⟩ ?_
      rotate_left
      · intro w hSw; (try dsimp only at hSw); first | (go_simp; done) | (go_simp; with_reducible rfl)
      try simp only [Act.put, List.getElem_toArray, List.getElem_cons_zero, List.getElem_cons_succ, List.setIfInBounds_toArray, List.set_cons_zero, List.set_cons_succ]
      refine AnyL.two (i := 2) (j := 7) (oi := _) (oj := _) (by kernel_rfl) rfl rfl (fun K hK => ?_) (fun K hK => ?_)
      · go_simp
        refine hK.out _ _ ⟨HKB.out _ (p0.alloc p0.size _), fun hk => trivial⟩ (fun hHeld => ?_)
        clear hK K
        try simp only [Act.put, List.getElem_toArray, List.getElem_cons_zero, List.getElem_cons_succ, List.setIfInBounds_toArray, List.set_cons_zero, List.set_cons_succ]
        have hz0 : (y6.drew.alloc (.cells #[] 42)).ownsRow y6.heap.size 42 3 (.slice (some ⟨y6.drew.heap.size, 0, none⟩) 0 0) 0 [] := World.ownsRow_made y6.drew #[] 0 (p0).size (by decide) rfl
        have p1 := p0.alloc p0.size (.cells #[] 42)
        refine AnyL.two (i := 5) (j := 7) (oi := _) (oj := _) (by kernel_rfl) rfl rfl (fun K hK => ?_) (fun K hK => ?_)
        · refine step_append_lies _ (by rfl) (.tmp 139) (.tmp 141) 32 (by rfl) y6.heap.size 42 i1 (.agg #[.int .i64 0, .int .i64 0, .int .i64 0]) 3 24 Tryz.underlying32 hjT iz0 iz1 iz2 rfl (by decide) _ 0 [] (by simp [Act.eval]) hz0 ⟨b, off, none⟩ T.length ct (cellsT T) (by simp [Act.eval]) HCL.out (HNW.out _ p1) (one_cells_T T) (by omega) (by unfold maxLen; omega) (by omega) ((p1).size) _ rfl ?_
          intro g7 cap7 w7 hown7 hgr7 hat7 hlt7
          rw [show 0 + T.length = T.length from Nat.zero_add _] at hown7 ⊢
          rw [List.nil_append] at hown7
          have p2 : Below y6.heap.size y6 w7 := (p1).grown hgr7 (p1).size (fun j hj => by simp [Value.ownBlock] at hj; omega)
          refine hK.out _ _ ⟨HKB.out _ p2, fun hk => trivial⟩ (fun hHeld => ?_)
          clear hK K
          try simp only [Act.put, List.getElem_toArray, List.getElem_cons_zero, List.getElem_cons_succ, List.setIfInBounds_toArray, List.set_cons_zero, List.set_cons_succ]
          refine AnyL.take (i := 6) (oi := _) (v := ?_) rfl (by kernel_rfl) (by kernel_rfl) (by kernel_rfl) (by decide) (fun _ _ _ h => h) (Or.inl ⟨by rfl, ?_⟩) ⟨hHeld.1, fun _ => hHeld.2 (by rfl)⟩ ?_
          rotate_left
          · intro w hSw; (try dsimp only at hSw); first | (go_simp; done) | (go_simp; with_reducible rfl)
          try simp only [Act.put, List.getElem_toArray, List.getElem_cons_zero, List.getElem_cons_succ, List.setIfInBounds_toArray, List.set_cons_zero, List.set_cons_succ]
          refine AnyL.one (i := 7) (o := _) (by kernel_rfl) rfl (fun K hK => ?_)
          go_simp
          refine hK.out _ _ ⟨HKB.out _ (p2.alloc p2.size _), fun hk => trivial⟩ (fun hHeld => ?_)
          clear hK K
          try simp only [Act.put, List.getElem_toArray, List.getElem_cons_zero, List.getElem_cons_succ, List.setIfInBounds_toArray, List.set_cons_zero, List.set_cons_succ]
          refine AnyL.one (i := 8) (o := _) (by kernel_rfl) rfl (fun K hK => ?_)
          go_simp
          refine hK.out _ _ ⟨HKB.out _ (p2.alloc p2.size _), fun hk => (by simp at hk)⟩ (fun hHeld => ?_)
          clear hK K
          try simp only [Act.put, List.getElem_toArray, List.getElem_cons_zero, List.getElem_cons_succ, List.setIfInBounds_toArray, List.set_cons_zero, List.set_cons_succ]
          refine AnyL.done (by kernel_rfl) ?_ _
          go_wp2_with fail
          go_meet
          exact ⟨_, g7, cap7, rfl, BoxN.new _ _ _ _ rfl, hown7.alloc _, p2.alloc p2.size _⟩
        · go_simp
          refine hK.out _ _ ⟨HKB.out _ (p1.alloc p1.size _), fun hk => trivial⟩ (fun hHeld => ?_)
          clear hK K
          try simp only [Act.put, List.getElem_toArray, List.getElem_cons_zero, List.getElem_cons_succ, List.setIfInBounds_toArray, List.set_cons_zero, List.set_cons_succ]
          have bz : BoxN ((y6.drew.alloc (.cells #[] 42)).alloc (.cells #[.slice none 0 0, .slice none 0 0] 34)) (y6.heap.size + 1) 34 [.slice none 0 0, .slice none 0 0] := BoxN.new _ _ _ _ (by simp)
          have p1a := p1.alloc p1.size (.cells #[.slice none 0 0, .slice none 0 0] 34)
          have hz0 := hz0.alloc (.cells #[.slice none 0 0, .slice none 0 0] 34)
          refine AnyL.one (i := 5) (o := _) (by kernel_rfl) rfl (fun K hK => ?_)
          refine step_append_lies _ (by rfl) (.tmp 139) (.tmp 141) 32 (by rfl) y6.heap.size 42 i1 (.agg #[.int .i64 0, .int .i64 0, .int .i64 0]) 3 24 Tryz.underlying32 hjT iz0 iz1 iz2 rfl (by decide) _ 0 [] (by simp [Act.eval]) hz0 ⟨b, off, none⟩ T.length ct (cellsT T) (by simp [Act.eval]) HCL.out (HNW.out _ p1a) (one_cells_T T) (by omega) (by unfold maxLen; omega) (by omega) ((p1a).size) _ rfl ?_
          intro g7 cap7 w7 hown7 hgr7 hat7 hlt7
          rw [show 0 + T.length = T.length from Nat.zero_add _] at hown7 ⊢
          rw [List.nil_append] at hown7
          have p2 : Below y6.heap.size y6 w7 := (p1a).grown hgr7 (p1a).size (fun j hj => by simp [Value.ownBlock] at hj; omega)
          have bz := bz.gb hgr7 (by intro e; simp [Value.ownBlock] at e)
          have z0 := bz.cell 0 rfl
          have z1 := bz.cell 1 rfl
          have e0 := bz.frozen 0
          have e1 := bz.frozen 1
          refine hK.out _ _ ⟨HKB.out _ p2, fun hk => trivial⟩ (fun hHeld => ?_)
          clear hK K
          try simp only [Act.put, List.getElem_toArray, List.getElem_cons_zero, List.getElem_cons_succ, List.setIfInBounds_toArray, List.set_cons_zero, List.set_cons_succ]
          refine AnyL.take (i := 6) (oi := _) (v := ?_) rfl (by kernel_rfl) (by kernel_rfl) (by kernel_rfl) (by decide) (fun _ _ _ h => h) (Or.inl ⟨by rfl, ?_⟩) ⟨hHeld.1, fun _ => hHeld.2 (by rfl)⟩ ?_
          rotate_left
          · intro w hSw; (try dsimp only at hSw); first | (go_simp; done) | (go_simp; with_reducible rfl)
          try simp only [Act.put, List.getElem_toArray, List.getElem_cons_zero, List.getElem_cons_succ, List.setIfInBounds_toArray, List.set_cons_zero, List.set_cons_succ]
          refine AnyL.one (i := 8) (o := _) (by kernel_rfl) rfl (fun K hK => ?_)
          go_simp
          refine hK.out _ _ ⟨HKB.out _ (((p2).setCell (p := ⟨y6.heap.size + 1, 0, none⟩) (by show y6.heap.size ≤ y6.heap.size + 1; omega) _).setCell (p := ⟨y6.heap.size + 1, 1, none⟩) (by show y6.heap.size ≤ y6.heap.size + 1; omega) _), fun hk => (by simp at hk)⟩ (fun hHeld => ?_)
          clear hK K
          try simp only [Act.put, List.getElem_toArray, List.getElem_cons_zero, List.getElem_cons_succ, List.setIfInBounds_toArray, List.set_cons_zero, List.set_cons_succ]
          refine AnyL.done (by kernel_rfl) ?_ _
          go_wp2_with fail
          go_meet
          exact ⟨_, g7, cap7, rfl, (bz.set 0 _).set 1 _, (ownsRow_setCell_other (ownsRow_setCell_other hown7 (a := ⟨y6.heap.size + 1, 0, none⟩) (fun e => owns_boxN hown7 bz (by decide) e.symm) _) (a := ⟨y6.heap.size + 1, 1, none⟩) (fun e => owns_boxN hown7 bz (by decide) e.symm) _), (((p2).setCell (p := ⟨y6.heap.size + 1, 0, none⟩) (by show y6.heap.size ≤ y6.heap.size + 1; omega) _).setCell (p := ⟨y6.heap.size + 1, 1, none⟩) (by show y6.heap.size ≤ y6.heap.size + 1; omega) _)⟩
      · go_simp
        refine hK.out _ _ ⟨HKB.out _ (p0.alloc p0.size _), fun hk => trivial⟩ (fun hHeld => ?_)
        clear hK K
        try simp only [Act.put, List.getElem_toArray, List.getElem_cons_zero, List.getElem_cons_succ, List.setIfInBounds_toArray, List.set_cons_zero, List.set_cons_succ]
        have bz : BoxN (y6.drew.alloc (.cells #[.slice none 0 0, .slice none 0 0] 34)) y6.heap.size 34 [.slice none 0 0, .slice none 0 0] := BoxN.new _ _ _ _ (by simp)
        have p1 := p0.alloc p0.size (.cells #[.slice none 0 0, .slice none 0 0] 34)
        refine AnyL.one (i := 2) (o := _) (by kernel_rfl) rfl (fun K hK => ?_)
        go_simp
        refine hK.out _ _ ⟨HKB.out _ (p1.alloc p1.size _), fun hk => trivial⟩ (fun hHeld => ?_)
        clear hK K
        try simp only [Act.put, List.getElem_toArray, List.getElem_cons_zero, List.getElem_cons_succ, List.setIfInBounds_toArray, List.set_cons_zero, List.set_cons_succ]
        have hz0 : ((y6.drew.alloc (.cells #[.slice none 0 0, .slice none 0 0] 34)).alloc (.cells #[] 42)).ownsRow y6.heap.size 42 3 (.slice (some ⟨(y6.drew.alloc (.cells #[.slice none 0 0, .slice none 0 0] 34)).heap.size, 0, none⟩) 0 0) 0 [] := World.ownsRow_made (y6.drew.alloc (.cells #[.slice none 0 0, .slice none 0 0] 34)) #[] 0 (p1).size (by decide) rfl
        have p1a := p1.alloc p1.size (.cells #[] 42)
        have bz := bz.alloc (.cells #[] 42)
        refine AnyL.one (i := 5) (o := _) (by kernel_rfl) rfl (fun K hK => ?_)
        refine step_append_lies _ (by rfl) (.tmp 139) (.tmp 141) 32 (by rfl) y6.heap.size 42 i1 (.agg #[.int .i64 0, .int .i64 0, .int .i64 0]) 3 24 Tryz.underlying32 hjT iz0 iz1 iz2 rfl (by decide) _ 0 [] (by simp [Act.eval]) hz0 ⟨b, off, none⟩ T.length ct (cellsT T) (by simp [Act.eval]) HCL.out (HNW.out _ p1a) (one_cells_T T) (by omega) (by unfold maxLen; omega) (by omega) ((p1a).size) _ rfl ?_
        intro g7 cap7 w7 hown7 hgr7 hat7 hlt7
        rw [show 0 + T.length = T.length from Nat.zero_add _] at hown7 ⊢
        rw [List.nil_append] at hown7
        have p2 : Below y6.heap.size y6 w7 := (p1a).grown hgr7 (p1a).size (fun j hj => by simp [Value.ownBlock] at hj; omega)
        have bz := bz.gb hgr7 (by intro e; simp [Value.ownBlock] at e)
        have z0 := bz.cell 0 rfl
        have z1 := bz.cell 1 rfl
        have e0 := bz.frozen 0
        have e1 := bz.frozen 1
        refine hK.out _ _ ⟨HKB.out _ p2, fun hk => trivial⟩ (fun hHeld => ?_)
        clear hK K
        try simp only [Act.put, List.getElem_toArray, List.getElem_cons_zero, List.getElem_cons_succ, List.setIfInBounds_toArray, List.set_cons_zero, List.set_cons_succ]
        refine AnyL.take (i := 6) (oi := _) (v := ?_) rfl (by kernel_rfl) (by kernel_rfl) (by kernel_rfl) (by decide) (fun _ _ _ h => h) (Or.inl ⟨by rfl, ?_⟩) ⟨hHeld.1, fun _ => hHeld.2 (by rfl)⟩ ?_
        rotate_left
        · intro w hSw; (try dsimp only at hSw); first | (go_simp; done) | (go_simp; with_reducible rfl)
        try simp only [Act.put, List.getElem_toArray, List.getElem_cons_zero, List.getElem_cons_succ, List.setIfInBounds_toArray, List.set_cons_zero, List.set_cons_succ]
        refine AnyL.one (i := 8) (o := _) (by kernel_rfl) rfl (fun K hK => ?_)
        go_simp
        refine hK.out _ _ ⟨HKB.out _ (((p2).setCell (p := ⟨y6.heap.size, 0, none⟩) (Nat.le_refl _) _).setCell (p := ⟨y6.heap.size, 1, none⟩) (Nat.le_refl _) _), fun hk => (by simp at hk)⟩ (fun hHeld => ?_)
        clear hK K
        try simp only [Act.put, List.getElem_toArray, List.getElem_cons_zero, List.getElem_cons_succ, List.setIfInBounds_toArray, List.set_cons_zero, List.set_cons_succ]
        refine AnyL.done (by kernel_rfl) ?_ _
        go_wp2_with fail
        go_meet
        exact ⟨_, g7, cap7, rfl, (bz.set 0 _).set 1 _, (ownsRow_setCell_other (ownsRow_setCell_other hown7 (a := ⟨y6.heap.size, 0, none⟩) (fun e => owns_boxN hown7 bz (by decide) e.symm) _) (a := ⟨y6.heap.size, 1, none⟩) (fun e => owns_boxN hown7 bz (by decide) e.symm) _), (((p2).setCell (p := ⟨y6.heap.size, 0, none⟩) (Nat.le_refl _) _).setCell (p := ⟨y6.heap.size, 1, none⟩) (Nat.le_refl _) _)⟩
    case rest =>
      obtain ⟨B, g9, c9, rfl, b14, hown9, hbx⟩ := hcut
      have hgB : g9 ≠ B := fun e => owns_boxN hown9 b14 (by decide) (by rw [e]; rfl)
      obtain ⟨hg9, hg9l⟩ := hown9.lt g9 rfl
      have HCA : Hid (∀ (w' : World) (l : List Value), w'.ownsRow y6.heap.size 42 3 (.slice (some ⟨g9, 0, none⟩) T.length c9) T.length l → ∀ j, j < T.length → (∃ x, w'.cell? ⟨g9, j * 3, none⟩ = some x) ∧ (∃ x, w'.cell? ⟨g9, j * 3 + 1, none⟩ = some x) ∧ (∃ x, w'.cell? ⟨g9, j * 3 + 2, none⟩ = some x)) := fun w' l hl j hj => by
        have hll := hl.1
        exact ⟨⟨_, (hl.cellAt (j * 3) (by omega)).trans (List.getElem?_eq_getElem (by omega))⟩, ⟨_, (hl.cellAt (j * 3 + 1) (by omega)).trans (List.getElem?_eq_getElem (by omega))⟩, ⟨_, (hl.cellAt (j * 3 + 2) (by omega)).trans (List.getElem?_eq_getElem (by omega))⟩⟩
      have v1 := b14.cell 1 rfl
      clear HKB HNW HCL HSD HTU HT1 HT2 HK8 HSS HK13 HK14 HOT HOP iz0 iz1 iz2 hjT
      rcases Nat.lt_or_gt_of_ne him with hlt2 | hlt2
      · have hmn : min (i : Int) (m : Int) = (i : Int) := by omega
        have hmx : max (i : Int) (m : Int) = (m : Int) := by omega
        obtain ⟨⟨za0, a0⟩, ⟨za1, a1⟩, ⟨za2, a2⟩⟩ := HCA.out _ _ hown9 i (by omega)
        have fa0 := hown9.frozenAt (i * 3)
        have fa1 := hown9.frozenAt (i * 3 + 1)
        have fa2 := hown9.frozenAt (i * 3 + 2)
        obtain ⟨hoa, gba⟩ := hown9.stored (i * 3) (.int .i64 x0)
        obtain ⟨hob, gbb⟩ := hoa.stored (i * 3 + 1) (.int .i64 (q : Int))
        obtain ⟨hoc, gbc⟩ := hob.stored (i * 3 + 2) (.int .i64 (p : Int))
        have gb1 := gb_set (gb_set (gb_set (gb_refl wc (some g9)) (i * 3) (.int .i64 x0)) (i * 3 + 1) (.int .i64 (q : Int))) (i * 3 + 2) (.int .i64 (p : Int))
        clear hoa gba hob gbb gbc
        go_upto_region 18 with fail
        obtain ⟨o9, ho9⟩ : ∃ W, W = ((wc.setCell ⟨g9, i * 3, none⟩ (.int .i64 x0)).setCell ⟨g9, i * 3 + 1, none⟩ (.int .i64 (q : Int))).setCell ⟨g9, i * 3 + 2, none⟩ (.int .i64 (p : Int)) := ⟨_, rfl⟩
        rw [← ho9] at gb1 hoc ⊢
        clear a0 a1 a2 fa0 fa1 fa2 ho9 v1
        have v1 := (b14.gb gb1 (by intro e; injection e with e; exact hgB e)).cell 1 rfl
        obtain ⟨⟨zb0, m0'⟩, ⟨zb1, m1'⟩, ⟨zb2, m2'⟩⟩ := HCA.out _ _ hoc m (by omega)
        have fb0 := hoc.frozenAt (m * 3)
        have fb1 := hoc.frozenAt (m * 3 + 1)
        have fb2 := hoc.frozenAt (m * 3 + 2)
        obtain ⟨hod, gbd⟩ := hoc.stored (m * 3) (.int .i64 (q : Int))
        obtain ⟨hoe, gbe⟩ := hod.stored (m * 3 + 1) (.int .i64 x1)
        obtain ⟨hof, gbf⟩ := hoe.stored (m * 3 + 2) (.int .i64 (p : Int))
        have gb2 := gb_set (gb_set (gb_set gb1 (m * 3) (.int .i64 (q : Int))) (m * 3 + 1) (.int .i64 x1)) (m * 3 + 2) (.int .i64 (p : Int))
        clear hod gbd hoe gbe gbf
        go_upto_region 19 with fail
        obtain ⟨oA, hoA⟩ : ∃ W, W = ((o9.setCell ⟨g9, m * 3, none⟩ (.int .i64 (q : Int))).setCell ⟨g9, m * 3 + 1, none⟩ (.int .i64 x1)).setCell ⟨g9, m * 3 + 2, none⟩ (.int .i64 (p : Int)) := ⟨_, rfl⟩
        rw [← hoA] at gb2 hof ⊢
        clear hoA m0' m1' m2' fb0 fb1 fb2 gb1 hoc hown9 HCA v1
        have hTT : (T.set i (x0, (q : Int), (p : Int))).set m ((q : Int), x1, (p : Int)) = turnT T i m x0 x1 p q := by unfold turnT; rw [show min i m = i by omega, show max i m = m by omega]
        have hcs := cellsT_set (T.set i (x0, (q : Int), (p : Int))) m q x1 p (by rw [List.length_set]; omega)
        rw [cellsT_set T i x0 q p (by omega), hTT] at hcs
        rw [← hcs] at hof
        have HTW : Hid (RdT oA (.slice (some ⟨g9, 0, none⟩) T.length c9) (turnT T i m x0 x1 p q)) := by
          unfold Hid RdT
          rw [turnT_length]
          exact RdC.of_owns hof
        have h6A : Below y6.heap.size y6 oA := below_gb hbx gb2 (by omega)
        have q8A := q8.trans (h6A.mono q8.size)
        have h2A := h26.trans (q8A.mono h26.size)
        have h5A := hb6.trans (q8A.mono hb6.size)
        have hBA := hB2.trans (h2A.mono hB2.size)
        have b14A := b14.gb gb2 (by intro e; injection e with e; exact hgB e)
        have b8A := b8.below q8A hl8
        have HPW : Hid (RdP oA (.slice (some ⟨bp, op, none⟩) P.length cp) (strP P)) := RdC.below HPP.out h2A
        have HPV : Hid (RdP oA (.slice pp2 P.length cp2) (strP P)) := RdC.below HP2.out h5A
        have HTV : Hid (RdT oA (.slice pt2 T.length ct2) (turnT T i m x0 x1 p q)) := RdC.below HT2'.out h5A
        have n0 := b8A.cell 0 rfl
        have n1 := b8A.cell 1 rfl
        have v0 := b14A.cell 0 rfl
        have v1 := b14A.cell 1 rfl
        clear hTT hcs hof gb2 hmn hmx hbx h6A h2A h5A b8
        go_wp2_with fail
        refine (sameMesh_true oA _ _ _ _ (strP P) (turnT T i m x0 x1 p q) HPV.out HTV.out HPW.out HTW.out).mono ?_
        rintro e w8 ⟨_, rfl, rfl, hb8⟩
        have hB8 := hBA.trans (hb8.mono hBA.size)
        have b88 := b8A.below hb8 b8A.lt
        clear n0 n1 v0 v1
        have n0 := b88.cell 0 rfl
        have n1 := b88.cell 1 rfl
        go_wp2_with fail
        refine (check_any w8 _ _ P (turnT T i m x0 x1 p q) _ (RdC.below HPV.out hb8) (RdC.below HTV.out hb8) HOK.out (hg.below hB8)).mono ?_
        rintro e w9 ⟨_, rfl, rfl, hb9⟩
        go_wp2_with fail
        go_ret
        exact ⟨_, rfl, rfl, hB8.trans (hb9.mono hB8.size)⟩
      · have hmn : min (i : Int) (m : Int) = (m : Int) := by omega
        have hmx : max (i : Int) (m : Int) = (i : Int) := by omega
        obtain ⟨⟨za0, a0⟩, ⟨za1, a1⟩, ⟨za2, a2⟩⟩ := HCA.out _ _ hown9 m (by omega)
        have fa0 := hown9.frozenAt (m * 3)
        have fa1 := hown9.frozenAt (m * 3 + 1)
        have fa2 := hown9.frozenAt (m * 3 + 2)
        obtain ⟨hoa, gba⟩ := hown9.stored (m * 3) (.int .i64 x0)
        obtain ⟨hob, gbb⟩ := hoa.stored (m * 3 + 1) (.int .i64 (q : Int))
        obtain ⟨hoc, gbc⟩ := hob.stored (m * 3 + 2) (.int .i64 (p : Int))
        have gb1 := gb_set (gb_set (gb_set (gb_refl wc (some g9)) (m * 3) (.int .i64 x0)) (m * 3 + 1) (.int .i64 (q : Int))) (m * 3 + 2) (.int .i64 (p : Int))
        clear hoa gba hob gbb gbc
        go_upto_region 18 with fail
        obtain ⟨o9, ho9⟩ : ∃ W, W = ((wc.setCell ⟨g9, m * 3, none⟩ (.int .i64 x0)).setCell ⟨g9, m * 3 + 1, none⟩ (.int .i64 (q : Int))).setCell ⟨g9, m * 3 + 2, none⟩ (.int .i64 (p : Int)) := ⟨_, rfl⟩
        rw [← ho9] at gb1 hoc ⊢
        clear a0 a1 a2 fa0 fa1 fa2 ho9 v1
        have v1 := (b14.gb gb1 (by intro e; injection e with e; exact hgB e)).cell 1 rfl
        obtain ⟨⟨zb0, m0'⟩, ⟨zb1, m1'⟩, ⟨zb2, m2'⟩⟩ := HCA.out _ _ hoc i (by omega)
        have fb0 := hoc.frozenAt (i * 3)
        have fb1 := hoc.frozenAt (i * 3 + 1)
        have fb2 := hoc.frozenAt (i * 3 + 2)
        obtain ⟨hod, gbd⟩ := hoc.stored (i * 3) (.int .i64 (q : Int))
        obtain ⟨hoe, gbe⟩ := hod.stored (i * 3 + 1) (.int .i64 x1)
        obtain ⟨hof, gbf⟩ := hoe.stored (i * 3 + 2) (.int .i64 (p : Int))
        have gb2 := gb_set (gb_set (gb_set gb1 (i * 3) (.int .i64 (q : Int))) (i * 3 + 1) (.int .i64 x1)) (i * 3 + 2) (.int .i64 (p : Int))
        clear hod gbd hoe gbe gbf
        go_upto_region 19 with fail
        obtain ⟨oA, hoA⟩ : ∃ W, W = ((o9.setCell ⟨g9, i * 3, none⟩ (.int .i64 (q : Int))).setCell ⟨g9, i * 3 + 1, none⟩ (.int .i64 x1)).setCell ⟨g9, i * 3 + 2, none⟩ (.int .i64 (p : Int)) := ⟨_, rfl⟩
        rw [← hoA] at gb2 hof ⊢
        clear hoA m0' m1' m2' fb0 fb1 fb2 gb1 hoc hown9 HCA v1
        have hTT : (T.set m (x0, (q : Int), (p : Int))).set i ((q : Int), x1, (p : Int)) = turnT T i m x0 x1 p q := by unfold turnT; rw [show min i m = m by omega, show max i m = i by omega]
        have hcs := cellsT_set (T.set m (x0, (q : Int), (p : Int))) i q x1 p (by rw [List.length_set]; omega)
        rw [cellsT_set T m x0 q p (by omega), hTT] at hcs
        rw [← hcs] at hof
        have HTW : Hid (RdT oA (.slice (some ⟨g9, 0, none⟩) T.length c9) (turnT T i m x0 x1 p q)) := by
          unfold Hid RdT
          rw [turnT_length]
          exact RdC.of_owns hof
        have h6A : Below y6.heap.size y6 oA := below_gb hbx gb2 (by omega)
        have q8A := q8.trans (h6A.mono q8.size)
        have h2A := h26.trans (q8A.mono h26.size)
        have h5A := hb6.trans (q8A.mono hb6.size)
        have hBA := hB2.trans (h2A.mono hB2.size)
        have b14A := b14.gb gb2 (by intro e; injection e with e; exact hgB e)
        have b8A := b8.below q8A hl8
        have HPW : Hid (RdP oA (.slice (some ⟨bp, op, none⟩) P.length cp) (strP P)) := RdC.below HPP.out h2A
        have HPV : Hid (RdP oA (.slice pp2 P.length cp2) (strP P)) := RdC.below HP2.out h5A
        have HTV : Hid (RdT oA (.slice pt2 T.length ct2) (turnT T i m x0 x1 p q)) := RdC.below HT2'.out h5A
        have n0 := b8A.cell 0 rfl
        have n1 := b8A.cell 1 rfl
        have v0 := b14A.cell 0 rfl
        have v1 := b14A.cell 1 rfl
        clear hTT hcs hof gb2 hmn hmx hbx h6A h2A h5A b8
        go_wp2_with fail
        refine (sameMesh_true oA _ _ _ _ (strP P) (turnT T i m x0 x1 p q) HPV.out HTV.out HPW.out HTW.out).mono ?_
        rintro e w8 ⟨_, rfl, rfl, hb8⟩
        have hB8 := hBA.trans (hb8.mono hBA.size)
        have b88 := b8A.below hb8 b8A.lt
        clear n0 n1 v0 v1
        have n0 := b88.cell 0 rfl
        have n1 := b88.cell 1 rfl
        go_wp2_with fail
        refine (check_any w8 _ _ P (turnT T i m x0 x1 p q) _ (RdC.below HPV.out hb8) (RdC.below HTV.out hb8) HOK.out (hg.below hB8)).mono ?_
        rintro e w9 ⟨_, rfl, rfl, hb9⟩
        go_wp2_with fail
        go_ret
        exact ⟨_, rfl, rfl, hB8.trans (hb9.mono hB8.size)⟩

theorem meshTurns_all (w : World) (kz s0 s1 : Int) (half : Bool) (x0 x1 : Int) (hk0 : 0 ≤ kz) (hk1 : kz ≤ 255) (hs0 : -128 ≤ s0 ∧ s0 ≤ 127) (hs1 : -128 ≤ s1 ∧ s1 ≤ 127)
    (hx0 : -128 ≤ x0 ∧ x0 ≤ 127) (hx1 : -128 ≤ x1 ∧ x1 ≤ 127) (hg : Good w) :
    Calls Tryz.prog 8 #[.agg #[.int .u8 kz, .int .i8 s0, .int .i8 s1, .bool half], .agg #[.int .i8 x0, .int .i8 x1]] w (Ret (fun r _ => r = .bool true) w) := by
  obtain ⟨k, hk⟩ : ∃ k : Nat, kz.tmod 8 = (k : Int) := ⟨(kz.tmod 8).toNat, by have := Int.tmod_nonneg 8 hk0; omega⟩
  obtain ⟨P, hP⟩ : ∃ P, P = sheetP k s0 s1 half := ⟨_, rfl⟩
  obtain ⟨T, hT⟩ : ∃ T, T = shapeT k := ⟨_, rfl⟩
  by_cases hle : x1 ≤ x0
  · exact mt_none w kz s0 s1 half x0 x1 hk0 hk1 hs0 hs1 hx0 hx1 k hk P hP T hT (.inl hle) hg
  have hlt : x0 < x1 := by omega
  by_cases a : sideI T x0 x1 < 0
  · by_cases b : sideI T x1 x0 < 0
    · exact mt_none w kz s0 s1 half x0 x1 hk0 hk1 hs0 hs1 hx0 hx1 k hk P hP T hT (.inr ⟨hlt, a, b⟩) hg
    · exact mt_open w kz s0 s1 half x0 x1 hk0 hk1 hs0 hs1 hx0 hx1 k hk P hP T hT hlt (.inl ⟨a, by omega⟩) hg
  · by_cases b : sideI T x1 x0 < 0
    · exact mt_open w kz s0 s1 half x0 x1 hk0 hk1 hs0 hs1 hx0 hx1 k hk P hP T hT hlt (.inr ⟨by omega, b⟩) hg
    · obtain ⟨i, m, s, t, p, q, hi, hm, him, hsi, htm, hp1, hq1, hp3, hq3, hpl, hql, hok⟩ := turn_facts k s0 s1 half P hP T hT x0 x1 hlt (by omega) (by omega)
      by_cases z1 : 0 < turnZ (ptI P x0) (ptI P q) (ptI P p)
      · by_cases z2 : 0 < turnZ (ptI P q) (ptI P x1) (ptI P p)
        · exact mt_good w kz s0 s1 half x0 x1 hk0 hk1 hs0 hs1 hx0 hx1 k hk P hP T hT hlt i m s t p q hi hm him hsi htm hp1 hq1 hp3 hq3 hpl hql z1 z2 (hok z1 z2) hg
        · exact mt_form w kz s0 s1 half x0 x1 hk0 hk1 hs0 hs1 hx0 hx1 k hk P hP T hT hlt i m s t p q hi hm him hsi htm hp1 hq1 hp3 hq3 hpl hql (.inr (by omega)) hg
      · exact mt_form w kz s0 s1 half x0 x1 hk0 hk1 hs0 hs1 hx0 hx1 k hk P hP T hT hlt i m s t p q hi hm him hsi htm hp1 hq1 hp3 hq3 hpl hql (.inl (by omega)) hg

end Go.Proofs.YtccngnjkehibiaaGreatDoor
