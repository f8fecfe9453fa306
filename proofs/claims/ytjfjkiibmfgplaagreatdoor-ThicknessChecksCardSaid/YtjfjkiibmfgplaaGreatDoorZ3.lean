/- Klippelaw38.Make. -/
import Derived.Test.YtjfjkiibmfgplaaGreatDoorZ2
import Derived.Test.YtjfjkiibmfgplaaGreatDoorZ1
import Derived.Deep.RegionHeld3
import Derived.Deep.RegionLaw
import Derived.Deep.DeepCutAuto
/- The walk over klippelaw38.Make. -/
namespace Go.Proofs.YtjfjkiibmfgplaaGreatDoor
open Go.RowKit Go.Lib

theorem str_ne (F : List Rat) : ∀ y ∈ F.map (fun q => Value.string (RS q)), y ≠ .slice none 0 0 := by
  intro y hy
  obtain ⟨q, _, rfl⟩ := List.mem_map.1 hy
  simp
theorem RdC.set4 {sz : Nat} {w : World} {b t : Nat} {v : Value} {n : Nat} {cs : List Value} (hb : BoxN w b t [.slice none 0 0, .slice none 0 0, .slice none 0 0, .slice none 0 0]) (h : RdC sz w v n cs) (hne : ∀ y ∈ cs, y ≠ .slice none 0 0) (v0 v1 v2 v3 : Value) :
    RdC sz ((((w.setCell ⟨b, 0, none⟩ v0).setCell ⟨b, 1, none⟩ v1).setCell ⟨b, 2, none⟩ v2).setCell ⟨b, 3, none⟩ v3) v n cs := by
  have h1 := RdC.set_other (x := v0) h (hb.cell 0 rfl) hne
  have h2 := RdC.set_other (x := v1) h1 ((hb.set 0 v0).cell 1 rfl) hne
  have h3 := RdC.set_other (x := v2) h2 (((hb.set 0 v0).set 1 v1).cell 2 rfl) hne
  exact RdC.set_other (x := v3) h3 ((((hb.set 0 v0).set 1 v1).set 2 v2).cell 3 rfl) hne

theorem cellsP_ne (ps : List PtS) : ∀ y ∈ cellsP ps, y ≠ .slice none 0 0 := by
  intro y hy
  unfold cellsP at hy
  obtain ⟨q, _, hq⟩ := List.mem_flatMap.1 hy
  simp at hq
  rcases hq with rfl | rfl <;> simp
theorem cellsT_ne (ts : List Tri) : ∀ y ∈ cellsT ts, y ≠ .slice none 0 0 := by
  intro y hy
  unfold cellsT at hy
  obtain ⟨q, _, hq⟩ := List.mem_flatMap.1 hy
  simp at hq
  rcases hq with rfl | rfl | rfl <;> simp
theorem PairIn.set4 {w : World} {b t : Nat} {vp vt vl vu : Value} {P : List PtQ} {T : List Tri} {k : Nat} {L U : List Rat} (h : PairIn w vp vt vl vu P T k L U) (hb : BoxN w b t [.slice none 0 0, .slice none 0 0, .slice none 0 0, .slice none 0 0]) (v0 v1 v2 v3 : Value) :
    PairIn ((((w.setCell ⟨b, 0, none⟩ v0).setCell ⟨b, 1, none⟩ v1).setCell ⟨b, 2, none⟩ v2).setCell ⟨b, 3, none⟩ v3) vp vt vl vu P T k L U :=
  ⟨⟨RdC.set4 hb h.l.p (cellsP_ne _) _ _ _ _, RdC.set4 hb h.l.t (cellsT_ne _) _ _ _ _, h.l.m, RdC.set4 hb h.l.f (str_ne _) _ _ _ _, h.l.fs, h.l.fl⟩, ⟨RdC.set4 hb h.u.p (cellsP_ne _) _ _ _ _, RdC.set4 hb h.u.t (cellsT_ne _) _ _ _ _, h.u.m, RdC.set4 hb h.u.f (str_ne _) _ _ _ _, h.u.fs, h.u.fl⟩⟩

theorem str_ne2 (F : List Rat) (p : Option Addr) (n c : Nat) : ∀ y ∈ F.map (fun q => Value.string (RS q)), y ≠ .slice p n c := by
  intro y hy
  obtain ⟨q, _, rfl⟩ := List.mem_map.1 hy
  simp
theorem shapeP_pos (k : Nat) : 0 < (shapeP k).length := by
  unfold shapeP
  split <;> decide

set_option maxHeartbeats 8000000 in
set_option maxRecDepth 100000 in
theorem make38_any (w : World) (kz s0 s1 : Int) (half : Bool) (a0 a1 a2 a3 a4 a5 : Int) (ah : Bool) (b0 b1 b2 b3 b4 b5 : Int) (bh even : Bool) (add : Int) (k : Nat) (hk : kz.tmod 8 = (k : Int)) (hk0 : 0 ≤ kz) (hk1 : kz ≤ 255) (hs0 : -128 ≤ s0 ∧ s0 ≤ 127) (hs1 : -128 ≤ s1 ∧ s1 ≤ 127)
    (ha : ∀ x ∈ [a0, a1, a2, a3, a4, a5], -128 ≤ x ∧ x ≤ 127) (hb : ∀ x ∈ [b0, b1, b2, b3, b4, b5], -128 ≤ x ∧ x ≤ 127) (hadd : -128 ≤ add ∧ add ≤ 127) (hg : Good w) :
    Calls Tryz.prog 11 #[.agg #[.int .u8 kz, .int .i8 s0, .int .i8 s1, .bool half, .int .i8 a0, .int .i8 a1, .int .i8 a2, .int .i8 a3, .int .i8 a4, .int .i8 a5, .bool ah, .int .i8 b0, .int .i8 b1, .int .i8 b2, .int .i8 b3, .int .i8 b4, .int .i8 b5, .bool bh, .bool even, .int .i8 add]] w
      (Ret (fun r w' => ∃ vp vt vl vu, r = .agg #[vp, vt, vl, vu] ∧ PairIn w' vp vt vl vu (sheetP k s0 s1 half) (shapeT k) 2 (planL k [a0, a1, a2, a3, a4, a5] ah) (planU k [a0, a1, a2, a3, a4, a5] ah [b0, b1, b2, b3, b4, b5] bh even add)) w) := by
  have HM := Lib.hid (sheet_ok k s0 s1 half)
  have hln := shapeP_len k
  have HM12 : Hid (∀ w, Good w → _) := fun w hg => make12_any w kz s0 s1 half k hk hk0 hk1 hs0 hs1 hg
  have HMA : Hid (∀ (w : World) (pp : Option Addr) (n cp : Nat) (vt : Value), n ≤ 6 → Good w → _) := fun w pp n cp vt hn hg => make13_any w pp n cp vt a0 a1 a2 a3 a4 a5 ah ha hn hg
  have HMB : Hid (∀ (w : World) (pp : Option Addr) (n cp : Nat) (vt : Value), n ≤ 6 → Good w → _) := fun w pp n cp vt hn hg => make13_any w pp n cp vt b0 b1 b2 b3 b4 b5 bh hb hn hg
  have HPL := Lib.hid (sheetP_length k s0 s1 half)
  clear hk hk0 hk1 hs0 hs1 ha hb
  go_enter Tryz.func11, Tryz.ntmps11
  --BODY
  go_wp2_with fail
  obtain ⟨W, hW⟩ : ∃ W, W = (w.alloc (.cells #[.int .u8 kz, .int .i8 s0, .int .i8 s1, .bool half, .int .i8 a0, .int .i8 a1, .int .i8 a2, .int .i8 a3, .int .i8 a4, .int .i8 a5, .bool ah, .int .i8 b0, .int .i8 b1, .int .i8 b2, .int .i8 b3, .int .i8 b4, .int .i8 b5, .bool bh, .bool even, .int .i8 add] 32)).alloc (.cells #[.slice none 0 0, .slice none 0 0, .slice none 0 0, .slice none 0 0] 44) := ⟨_, rfl⟩
  have hB : Below w.heap.size w W := by rw [hW]; exact ((Below.refl _ _).alloc (Nat.le_refl _) _).alloc (by simp) _
  have x1 : BoxN W w.heap.size 32 [.int .u8 kz, .int .i8 s0, .int .i8 s1, .bool half, .int .i8 a0, .int .i8 a1, .int .i8 a2, .int .i8 a3, .int .i8 a4, .int .i8 a5, .bool ah, .int .i8 b0, .int .i8 b1, .int .i8 b2, .int .i8 b3, .int .i8 b4, .int .i8 b5, .bool bh, .bool even, .int .i8 add] := by
    rw [hW]
    have h1 := (BoxN.new w #[.int .u8 kz, .int .i8 s0, .int .i8 s1, .bool half, .int .i8 a0, .int .i8 a1, .int .i8 a2, .int .i8 a3, .int .i8 a4, .int .i8 a5, .bool ah, .int .i8 b0, .int .i8 b1, .int .i8 b2, .int .i8 b3, .int .i8 b4, .int .i8 b5, .bool bh, .bool even, .int .i8 add] 32 _ rfl)
    exact h1.below ((Below.refl _ _).alloc (Nat.le_refl _) _) h1.lt
  have x2 : BoxN W (w.heap.size + 1) 44 [.slice none 0 0, .slice none 0 0, .slice none 0 0, .slice none 0 0] := by rw [hW]; exact BoxN.new _ _ _ _ (by simp)
  rw [← hW]
  clear hW
  refine (HM12.out W (hg.below hB)).mono ?_
  rintro e w1 ⟨_, rfl, ⟨vp, vt, rfl, hP, hT⟩, hb1⟩
  have hB1 := hB.trans (hb1.mono hB.size)
  have x11 := x1.below hb1 x1.lt
  have x21 := x2.below hb1 x2.lt
  clear hb1 hB x1 x2 HM12
  obtain ⟨pp, cp, rfl, _, _, _⟩ := hP.open
  obtain ⟨pt, ct, rfl, _, _, _⟩ := hT.open
  rw [strP_length, HPL.out] at hP ⊢
  obtain ⟨N, hN⟩ : ∃ N, N = (shapeP k).length := ⟨_, rfl⟩
  obtain ⟨M, hMM⟩ : ∃ M, M = (shapeT k).length := ⟨_, rfl⟩
  rw [← hN] at hP hln ⊢
  rw [← hMM] at hT ⊢
  have HP := Lib.hid hP
  have HT := Lib.hid hT
  have HN := Lib.hid hN
  clear hP hT hN hMM
  go_upto_region 2 with fail
  obtain ⟨W3, hW3⟩ : ∃ W, W = w1.alloc (.cells #[.slice pp N cp, .slice pt M ct] 40) := ⟨_, rfl⟩
  have hb3 : Below w1.heap.size w1 W3 := by rw [hW3]; exact (Below.refl _ _).alloc (Nat.le_refl _) _
  have x3 : BoxN W3 w1.heap.size 40 [.slice pp N cp, .slice pt M ct] := by rw [hW3]; exact BoxN.new _ _ _ _ rfl
  have hB3 := hB1.trans (hb3.mono hB1.size)
  have x13 := x11.below hb3 x11.lt
  have x23 := x21.below hb3 x21.lt
  rw [← hW3]
  clear hW3 x11 x21
  go_cut [4] (fun s4 wx => ∃ (bq : Nat) (pl pu : Option Addr) (cl cu : Nat), s4 = .pointer (some ⟨bq, 0, none⟩) ∧ W3.heap.size ≤ bq ∧ BoxN wx bq 44 [.slice pp N cp, .slice pt M ct, .slice pl N cl, .slice pu N cu] ∧
      RdQ wx (.slice pl N cl) (heightsF [a0, a1, a2, a3, a4, a5] ah N) ∧ RdQ wx (.slice pu N cu) (heightsF [b0, b1, b2, b3, b4, b5] bh N) ∧ Below W3.heap.size W3 wx)
  case first =>
    have HF : Hid (∀ w', Below W3.heap.size W3 w' → w'.cell? ⟨w1.heap.size, 0, none⟩ = some (.slice pp N cp) ∧ w'.cell? ⟨w1.heap.size, 1, none⟩ = some (.slice pt M ct) ∧ w'.cell? ⟨w.heap.size, 4, none⟩ = some (.int .i8 a0) ∧ w'.cell? ⟨w.heap.size, 5, none⟩ = some (.int .i8 a1) ∧ w'.cell? ⟨w.heap.size, 6, none⟩ = some (.int .i8 a2) ∧ w'.cell? ⟨w.heap.size, 7, none⟩ = some (.int .i8 a3) ∧ w'.cell? ⟨w.heap.size, 8, none⟩ = some (.int .i8 a4) ∧ w'.cell? ⟨w.heap.size, 9, none⟩ = some (.int .i8 a5) ∧ w'.cell? ⟨w.heap.size, 10, none⟩ = some (.bool ah) ∧ w'.cell? ⟨w.heap.size, 11, none⟩ = some (.int .i8 b0) ∧ w'.cell? ⟨w.heap.size, 12, none⟩ = some (.int .i8 b1) ∧ w'.cell? ⟨w.heap.size, 13, none⟩ = some (.int .i8 b2) ∧ w'.cell? ⟨w.heap.size, 14, none⟩ = some (.int .i8 b3) ∧ w'.cell? ⟨w.heap.size, 15, none⟩ = some (.int .i8 b4) ∧ w'.cell? ⟨w.heap.size, 16, none⟩ = some (.int .i8 b5) ∧ w'.cell? ⟨w.heap.size, 17, none⟩ = some (.bool bh)) := fun w' hb => by
      have y3 := x3.below hb x3.lt
      have y1 := x13.below hb x13.lt
      exact ⟨y3.cell 0 rfl, y3.cell 1 rfl, y1.cell 4 rfl, y1.cell 5 rfl, y1.cell 6 rfl, y1.cell 7 rfl, y1.cell 8 rfl, y1.cell 9 rfl, y1.cell 10 rfl, y1.cell 11 rfl, y1.cell 12 rfl, y1.cell 13 rfl, y1.cell 14 rfl, y1.cell 15 rfl, y1.cell 16 rfl, y1.cell 17 rfl⟩
    have HGD : Hid (∀ w', Below W3.heap.size W3 w' → Good w') := fun w' hb => (hg.below hB3).below hb
    have h0 : Below W3.heap.size W3 W3.drew := below_drewN W3 1
    have hZZ : ∀ w' : World, BoxN (w'.alloc (.cells #[.slice none 0 0, .slice none 0 0, .slice none 0 0, .slice none 0 0] 44)) w'.heap.size 44 [.slice none 0 0, .slice none 0 0, .slice none 0 0, .slice none 0 0] := fun w' => BoxN.new _ _ _ _ rfl
    have hAA : ∀ (w' : World) (o : Obj), Below W3.heap.size W3 w' → Below W3.heap.size W3 (w'.alloc o) := fun w' o hb => hb.alloc hb.size _
    have HSC : Hid (∀ (w' : World) (b i : Nat) (v : Value), W3.heap.size ≤ b → Below W3.heap.size W3 w' → Below W3.heap.size W3 (w'.setCell ⟨b, i, none⟩ v)) := fun w' b i v hb h => h.setCell (p := ⟨b, i, none⟩) hb v
    have HZZ := Lib.hid hZZ
    have HAA := Lib.hid hAA
    have HTR : Hid (∀ w' w'', Below W3.heap.size W3 w' → Below w'.heap.size w' w'' → Below W3.heap.size W3 w'') := fun w' w'' h1 h2 => h1.trans (h2.mono h1.size)
    have h0a := (hAA _ (.cells #[.slice none 0 0, .slice none 0 0, .slice none 0 0, .slice none 0 0] 44) (Below.refl _ W3)).drew
    have g0 := HGD.out _ h0
    have g0a := HGD.out _ h0a
    clear hZZ hAA
    go_region_held3 (fun w' => w'.cell? ⟨w1.heap.size, 0, none⟩ = some (.slice pp N cp) ∧ w'.cell? ⟨w1.heap.size, 1, none⟩ = some (.slice pt M ct) ∧ w'.cell? ⟨w.heap.size, 4, none⟩ = some (.int .i8 a0) ∧ w'.cell? ⟨w.heap.size, 5, none⟩ = some (.int .i8 a1) ∧ w'.cell? ⟨w.heap.size, 6, none⟩ = some (.int .i8 a2) ∧ w'.cell? ⟨w.heap.size, 7, none⟩ = some (.int .i8 a3) ∧ w'.cell? ⟨w.heap.size, 8, none⟩ = some (.int .i8 a4) ∧ w'.cell? ⟨w.heap.size, 9, none⟩ = some (.int .i8 a5) ∧ w'.cell? ⟨w.heap.size, 10, none⟩ = some (.bool ah) ∧ w'.cell? ⟨w.heap.size, 11, none⟩ = some (.int .i8 b0) ∧ w'.cell? ⟨w.heap.size, 12, none⟩ = some (.int .i8 b1) ∧ w'.cell? ⟨w.heap.size, 13, none⟩ = some (.int .i8 b2) ∧ w'.cell? ⟨w.heap.size, 14, none⟩ = some (.int .i8 b3) ∧ w'.cell? ⟨w.heap.size, 15, none⟩ = some (.int .i8 b4) ∧ w'.cell? ⟨w.heap.size, 16, none⟩ = some (.int .i8 b5) ∧ w'.cell? ⟨w.heap.size, 17, none⟩ = some (.bool bh))
      ((refine HF.out _ ?_; first | with_reducible assumption | exact (HAA.out _ _ (by with_reducible assumption)).drew | exact HAA.out _ _ (by with_reducible assumption) | (iterate 4 (refine HSC.out _ _ _ _ (by omega) ?_)); with_reducible assumption))
      (first
        | (go_at_call 49; (first | refine (HMB.out _ pp N cp _ hln g4).mono ?_ | refine (HMB.out _ pp N cp _ hln g4a).mono ?_); rintro e w5 ⟨vu, rfl, ⟨hru, hfu⟩, hb5⟩
           have h5 : Below W3.heap.size W3 w5 := by first | exact HTR.out _ _ h4 hb5 | exact HTR.out _ _ h4a hb5
           have hru' := hru
           have hs5 := h5.size
           obtain ⟨pu, cu, hvu, _, _, _⟩ := hru'.open
           rw [heightsF_length] at hvu
           subst hvu
           try have bz5 := bz4.below hb5 bz4.lt
           try have bz5 := (HZZ.out w4).below hb5 (by simp)
           try have q0 := bz5.cell 0 rfl
           try have q1 := bz5.cell 1 rfl
           try have q2 := bz5.cell 2 rfl
           try have q3 := bz5.cell 3 rfl
           try have e0 := bz5.frozen 0
           try have e1 := bz5.frozen 1
           try have e2 := bz5.frozen 2
           try have e3 := bz5.frozen 3)
        | (go_at_call 49; (first | refine (HMA.out _ pp N cp _ hln g0).mono ?_ | refine (HMA.out _ pp N cp _ hln g0a).mono ?_); rintro e w4 ⟨vl, rfl, ⟨hrl, hfl⟩, hb4⟩
           have h4 : Below W3.heap.size W3 w4 := by first | exact HTR.out _ _ h0 hb4 | exact HTR.out _ _ h0a hb4
           have h4a := HAA.out _ (.cells #[.slice none 0 0, .slice none 0 0, .slice none 0 0, .slice none 0 0] 44) h4
           have g4 := HGD.out _ h4
           have g4a := HGD.out _ h4a
           have hrl' := hrl
           have hs4 := h4.size
           obtain ⟨pl, cl, hvl, _, _, _⟩ := hrl'.open
           rw [heightsF_length] at hvl
           subst hvl
           try have bz4 := (HZZ.out W3).drew.below hb4 (by simp)))
    · go_wp2_with fail
      go_meet
      exact ⟨_, pl, pu, cl, cu, rfl, hs5, BoxN.new _ _ _ _ rfl, RdC.alloc (RdC.below hrl hb5) _, RdC.alloc hru _, HAA.out _ _ h5⟩
    · go_wp2_with fail
      go_meet
      exact ⟨_, pl, pu, cl, cu, rfl, hs4, (((bz5.set 0 _).set 1 _).set 2 _).set 3 _, RdC.set4 bz5 (RdC.below (RdC.alloc hrl _) hb5) (str_ne _) _ _ _ _, RdC.set4 bz5 hru (str_ne _) _ _ _ _, HSC.out _ _ _ _ hs4 (HSC.out _ _ _ _ hs4 (HSC.out _ _ _ _ hs4 (HSC.out _ _ _ _ hs4 h5)))⟩
    · go_wp2_with fail
      go_meet
      exact ⟨_, pl, pu, cl, cu, rfl, Nat.le_refl _, (((bz5.set 0 _).set 1 _).set 2 _).set 3 _, RdC.set4 bz5 (RdC.below hrl hb5) (str_ne _) _ _ _ _, RdC.set4 bz5 hru (str_ne _) _ _ _ _, HSC.out _ _ _ _ (Nat.le_refl _) (HSC.out _ _ _ _ (Nat.le_refl _) (HSC.out _ _ _ _ (Nat.le_refl _) (HSC.out _ _ _ _ (Nat.le_refl _) h5)))⟩
  case rest =>
    obtain ⟨bq, pl, pu, cl, cu, rfl, hbq, xq, hrl, hru, hbc⟩ := hcut
    have y1 := x13.below hbc x13.lt
    have y2 := x23.below hbc x23.lt
    have hl1 := y1.lt
    have hl2 := y2.lt
    have hlq := xq.lt
    have hl13 := x13.lt
    have hl23 := x23.lt
    have hs3 := hB3.size
    have hBc : Below w.heap.size w wc := hB3.trans (hbc.mono hs3)
    have HPc := RdC.below (RdC.below HP.out hb3) (hbc.mono (Nat.le_refl _))
    have HTc := RdC.below (RdC.below HT.out hb3) (hbc.mono (Nat.le_refl _))
    have z18 := y1.cell 18 rfl
    have z19 := y1.cell 19 rfl
    have q0 := xq.cell 0 rfl
    have q1 := xq.cell 1 rfl
    have q2 := xq.cell 2 rfl
    have q3 := xq.cell 3 rfl
    have q3f := xq.frozen 3
    have r0 := y2.cell 0 rfl
    have r1 := y2.cell 1 rfl
    have r2 := y2.cell 2 rfl
    have r3 := y2.cell 3 rfl
    have r0f := y2.frozen 0
    have r1f := y2.frozen 1
    have r2f := y2.frozen 2
    have r3f := y2.frozen 3
    cases even
    · go_wp2_with fail
      have hPI : PairIn wc (.slice pp N cp) (.slice pt M ct) (.slice pl N cl) (.slice pu N cu) (sheetP k s0 s1 half) (shapeT k) 2 (planL k [a0, a1, a2, a3, a4, a5] ah) (planU k [a0, a1, a2, a3, a4, a5] ah [b0, b1, b2, b3, b4, b5] bh false add) := by
        have hN := HN.out
        subst hN
        exact ⟨⟨HPc, HTc, HM.out, hrl, heights_Sz _ _ _, by rw [HPL.out]; exact planL_length _ _ _⟩, ⟨HPc, HTc, HM.out, hru, planU_Sz _ _ _ _ _ _ _, by rw [HPL.out]; exact planU_length _ _ _ _ _ _ _⟩⟩
      have BF := (((y2.set 0 (.slice pp N cp)).set 1 (.slice pt M ct)).set 2 (.slice pl N cl)).set 3 (.slice pu N cu)
      have g0 := BF.cell 0 rfl
      have g1 := BF.cell 1 rfl
      have g2 := BF.cell 2 rfl
      have g3 := BF.cell 3 rfl
      have hBF := (((hBc.setCell (p := ⟨w.heap.size + 1, 0, none⟩) (by show w.heap.size ≤ w.heap.size + 1; omega) (.slice pp N cp)).setCell (p := ⟨w.heap.size + 1, 1, none⟩) (by show w.heap.size ≤ w.heap.size + 1; omega) (.slice pt M ct)).setCell (p := ⟨w.heap.size + 1, 2, none⟩) (by show w.heap.size ≤ w.heap.size + 1; omega) (.slice pl N cl)).setCell (p := ⟨w.heap.size + 1, 3, none⟩) (by show w.heap.size ≤ w.heap.size + 1; omega) (.slice pu N cu)
      exact bodyPost_ret (v := .agg #[.slice pp N cp, .slice pt M ct, .slice pl N cl, .slice pu N cu]) (by simp [results, Tryz.results11, go_sem, g0, g1, g2, g3]) rfl ⟨_, rfl, ⟨_, _, _, _, rfl, hPI.set4 y2 _ _ _ _⟩, hBF⟩
    · go_wp2_with fail
      obtain ⟨WL, hWL⟩ : ∃ X, X = wc.setCell ⟨bq, 3, none⟩ (.slice none 0 0) := ⟨_, rfl⟩
      have xqL : BoxN WL bq 44 [.slice pp N cp, .slice pt M ct, .slice pl N cl, .slice none 0 0] := by rw [hWL]; exact xq.set 3 _
      obtain ⟨F, hF⟩ : ∃ F, F = heightsF [a0, a1, a2, a3, a4, a5] ah N := ⟨_, rfl⟩
      have hFl : F.length = N := by rw [hF]; exact heightsF_length _ _ _
      have HFS : Hid (∀ q ∈ F, Sz 2 q) := by rw [hF]; exact heights_Sz _ _ _
      rw [← hF] at hrl
      have hrlL : RdQ WL (.slice pl N cl) F := by rw [hWL]; exact RdC.set_other hrl q3 (str_ne2 _ _ _ _)
      have hBL : Below W3.heap.size W3 WL := by rw [hWL]; exact hbc.setCell (p := ⟨bq, 3, none⟩) hbq _
      have hzL : WL.heap.size = wc.heap.size := by rw [hWL]; simp [World.setCell]
      have hNp : 0 < N := by have h1 := HN.out; have h2 := shapeP_pos k; omega
      have hold : OldV wc.heap.size (.slice pl N cl) := RdC.old hrl (by intro e; have := congrArg List.length e; rw [List.length_map, hFl] at this; simp at this; omega)
      have HOLD := Lib.hid hold
      have HFE := Lib.hid hF
      have HFL := Lib.hid hFl
      rw [← hWL]
      obtain ⟨i0, hi, hz0, hz1, hz2⟩ := info_parts info_str
      have hq0 := hlq
      obtain ⟨mq, hmq⟩ : ∃ mq, mq = mkRat (add.tmod 12) 2 := ⟨_, rfl⟩
      have hmz : Sz 2 mq := by rw [hmq]; have := tmod12_bound add; exact Sz.mkRat (by decide) (by omega) (by decide)
      have HOF : Hid (∀ w, Good w → _) := fun w hg => ofQ_any (add.tmod 12) 2 (add.tmod 12) 2 2 rfl (by omega) (by have := tmod12_bound add; omega) (by omega) (.inl ⟨rfl, rfl⟩) w hg
      rw [← hmq] at HOF
      have HRQ : Hid (∀ z, raiseQ add z = z + mq) := fun z => by rw [hmq]; rfl
      have hw1' : IntKind.i64.wrap add = add := IntWalk.i64_in _ (by omega)
      have hab := tmod12_bound add
      have hw2' : IntKind.i64.wrap (add.tmod 12) = add.tmod 12 := IntWalk.i64_in _ (by omega)
      obtain ⟨ha1, ha2⟩ := hadd
      clear hWL hF hFl hold hmq xq q0 q1 q2 q3 q3f r0 r1 r2 r3 r0f r1f r2f r3f z18 z19 hru
      go_loopw [29] (fun t29 wr => ∃ (i : Nat) (v : Value), t29 = .int .i64 i ∧ i ≤ N ∧ BoxN wr bq 44 [.slice pp N cp, .slice pt M ct, .slice pl N cl, v] ∧ RdQ wr (.slice pl N cl) F ∧ wr.ownsRow wc.heap.size 33 1 v i (((F.map (raiseQ add)).take i).map fun q => Value.string (RS q)) ∧ Below W3.heap.size W3 wr ∧ wc.heap.size ≤ wr.heap.size) (fun t29 _ => N - (RowKit.intOf t29).toNat)
      case atStart => exact ⟨0, _, rfl, Nat.zero_le _, xqL, hrlL, World.ownsRow_nil _ _ _ _, hBL, by omega⟩
      case round =>
        obtain ⟨i, v, rfl, hin, xr, hrlr, hown, hbr, hzr⟩ := hrel
        obtain ⟨p6, c6, rfl⟩ := ownsRow_shape hown
        clear xqL hrlL hBL
        rcases Nat.lt_or_ge i N with h | h
        · obtain ⟨pf, cf, e1, _, _, hfr⟩ := hrlr.open
          have hfl := HFL.out
          obtain ⟨bf, of, e2, hbf, hfc⟩ := hfr (by intro e; rw [e] at hfl; simp at hfl; omega)
          rw [e2, hfl] at e1
          cases e1
          have f1 := hfc i (by omega)
          have hFi : (F.map (raiseQ add))[i]? = some (raiseQ add F[i]) := by rw [List.getElem?_map, List.getElem?_eq_getElem (by omega)]; rfl
          rw [HRQ.out] at hFi
          have HTK := Lib.hid (take_snoc _ _ _ hFi)
          have HZF := Lib.hid (HFS.out F[i] (List.getElem_mem _))
          have HADD : Hid (∀ w, Good w → _) := fun w hg => addQ_any F[i] mq 2 (by omega) (by omega) HZF.out hmz w hg
          generalize F[i]'_ = z at *
          generalize z + mq = zm at *
          have y1r := x13.below hbr x13.lt
          have z19 := y1r.cell 19 rfl
          have z3 := xr.cell 3 rfl
          have z2 := xr.cell 2 rfl
          have z3f := xr.frozen 3
          have hilt : (i : Int) < (N : Int) := by omega
          have HF2 : Hid (∀ w', Below W3.heap.size W3 w' → w'.cell? ⟨w.heap.size, 19, none⟩ = some (.int .i8 add)) := fun w' hb => (x13.below hb x13.lt).cell 19 rfl
          have h0 : Below W3.heap.size W3 wr.drew := hbr.trans ((below_drewN wr 1).mono hbr.size)
          have HGD : Hid (∀ w', Below W3.heap.size W3 w' → Good w') := fun w' hb => (hg.below hB3).below hb
          have hgd := HGD.out _ h0
          have HD : Hid (∀ w4, Below wr.drew.heap.size wr.drew w4 → Below W3.heap.size W3 w4 ∧ w4.cell? ⟨bq, 3, none⟩ = some (.slice p6 i c6) ∧ w4.frozen? ⟨bq, 3, none⟩ = false ∧ w4.ownsRow wc.heap.size 33 1 (.slice p6 i c6) i (((F.map (raiseQ add)).take i).map fun q => Value.string (RS q)) ∧ wr.heap.size ≤ w4.heap.size ∧ BoxN w4 bq 44 [.slice pp N cp, .slice pt M ct, .slice (some ⟨bf, of, none⟩) N cl, .slice p6 i c6] ∧ RdQ w4 (.slice (some ⟨bf, of, none⟩) N cl) F) := fun w4 hb4 => by
            have hb4' : Below wr.heap.size wr w4 := (below_drewN wr 1).trans hb4
            exact ⟨hbr.trans (hb4'.mono hbr.size), (hb4'.cell (p := ⟨bq, 3, none⟩) xr.lt).trans z3, (hb4'.frozen (p := ⟨bq, 3, none⟩) xr.lt).trans z3f, World.ownsRow.belowAll hown hb4', hb4'.size, xr.below hb4' xr.lt, RdC.below hrlr hb4'⟩
          clear hfr hfc hFi hfl
          go_upto_region 8 with fail
          rw [show Op.load 42 (.tmp 33) = id (Op.load 42 (.tmp 33)) from rfl]
          go_region_held3 (fun w' => w'.cell? ⟨w.heap.size, 19, none⟩ = some (.int .i8 add))
            ((refine HF2.out _ ?_; first | with_reducible assumption | exact hw5a | exact hw6s))
            (first
              | (refine step_append_lies _ (by rfl) (.tmp 34) (.tmp 42) 42 (by rfl) wc.heap.size 33 i0 (.string ⟨#[]⟩) 1 16 Tryz.underlying42 hi hz0 hz1 hz2 rfl (by decide) _ i _ (by simp [Act.eval]) (hown5.alloc _) ⟨w5.heap.size, 0, none⟩ 1 1 [.string (RS zm)] (by simp [Act.eval]) rfl (cell_one_str _ _ _) (one_cell_str _) (by omega) (by unfold maxLen; omega) (by omega) (by simp; omega) _ rfl ?_
                 intro g6 cap6 w6 hown6 hgr6 hat6 hlt6
                 have hne6 : some bq ≠ (Value.slice p6 i c6).ownBlock := fun e => by have := (hown5.lt _ e.symm).1; omega
                 have z6 := (hgr6.cell_far ⟨bq, 3, none⟩ (by simp; omega) hne6).trans (cell_alloc_l _ z35)
                 have z6f := (hgr6.frozen_far ⟨bq, 3, none⟩ (by simp; omega) hne6).trans (frozen_alloc_l _ z35 z35f)
                 have bz6 : BoxN w6 bq 44 [.slice pp N cp, .slice pt M ct, .slice (some ⟨bf, of, none⟩) N cl, .slice p6 i c6] := (hgr6.block bq (by simp; omega) hne6).trans (xr5.below ((Below.refl _ _).alloc (Nat.le_refl _) _) xr5.lt)
                 have hw6 : Below W3.heap.size W3 w6 := (hw5.alloc hw5.size _).grown hgr6 (by have := hw5.size; simp; omega) (fun j hj => by have := (hown5.lt j hj).1; have := hbc.size; omega)
                 have hw56 : Below wc.heap.size w5 w6 := ((Below.refl wc.heap.size w5).alloc (by omega) _).grown hgr6 (by simp; omega) (fun j hj => (hown5.lt j hj).1)
                 have hrl6 := RdC.belowB hrl5 hw56 HOLD.out
                 have hw6s : Below W3.heap.size W3 (w6.setCell ⟨bq, 3, none⟩ (.slice (some ⟨g6, 0, none⟩) (i + 1) cap6)) := hw6.setCell hbq _
                 have hz6 := hgr6.size)
              | (go_at_call 18; refine (HADD.out _ g4).mono ?_; rintro e w5 ⟨_, rfl, rfl, hb5⟩
                 obtain ⟨hw5, z35, z35f, hown5, hz5, xr5, hrl5⟩ := HD.out _ (hb4.trans (hb5.mono hb4.size))
                 have z35a := cell_alloc_l (.cells #[.string (RS zm)] 33) z35
                 have hw5a : Below W3.heap.size W3 (w5.alloc (.cells #[.string (RS zm)] 33)) := hw5.alloc hw5.size _)
              | (go_at_call 44; refine (HOF.out _ hgd).mono ?_; rintro e w4 ⟨_, rfl, rfl, hb4⟩
                 obtain ⟨hw4, z34, z34f, hown4, hz4, xr4, hrl4⟩ := HD.out _ hb4
                 have g4 := HGD.out _ hw4))
          all_goals
            go_wp2_with fail
            go_roundw
            case rel => exact ⟨i + 1, _, by simp, by omega, bz6.set 3 _, RdC.set_other hrl6 z6 (str_ne2 _ _ _ _), by rw [HTK.out, List.map_append]; exact ownsRow_setCell_below hown6 (by show bq < wc.heap.size; omega) _, hw6s, by simp [World.setCell] at hz6 ⊢; omega⟩
            case measure =>
              show N - ((i : Int) + 1).toNat < N - (i : Int).toNat
              omega
        · obtain rfl : i = N := by omega
          have hrur : RdC 1 wr (.slice p6 i c6) (F.map (raiseQ add)).length ((F.map (raiseQ add)).map fun q => Value.string (RS q)) := by
            have h1 : RdC 1 wr (.slice p6 i c6) i (((F.map (raiseQ add)).take i).map fun q => Value.string (RS q)) := RdC.of_owns hown
            have hl : (F.map (raiseQ add)).length = i := by rw [List.length_map, HFL.out]
            rw [List.take_of_length_le (by omega)] at h1
            rw [hl]
            exact h1
          have HPr := RdC.below (RdC.below HP.out hb3) hbr
          have HTr := RdC.below (RdC.below HT.out hb3) hbr
          have y2r := x23.below hbr x23.lt
          have hBr : Below w.heap.size w wr := hB3.trans (hbr.mono hs3)
          have hPI : PairIn wr (.slice pp i cp) (.slice pt M ct) (.slice pl i cl) (.slice p6 i c6) (sheetP k s0 s1 half) (shapeT k) 2 (planL k [a0, a1, a2, a3, a4, a5] ah) (planU k [a0, a1, a2, a3, a4, a5] ah [b0, b1, b2, b3, b4, b5] bh true add) := by
            have hN := HN.out
            have hF := HFE.out
            subst hN
            subst hF
            exact ⟨⟨HPr, HTr, HM.out, hrlr, heights_Sz _ _ _, by rw [HPL.out]; exact planL_length _ _ _⟩, ⟨HPr, HTr, HM.out, hrur, planU_Sz _ _ _ _ _ _ _, by rw [HPL.out]; exact planU_length _ _ _ _ _ _ _⟩⟩
          have w0 := xr.cell 0 rfl
          have w1' := xr.cell 1 rfl
          have w2' := xr.cell 2 rfl
          have w3' := xr.cell 3 rfl
          have r0 := y2r.cell 0 rfl
          have r1 := y2r.cell 1 rfl
          have r2 := y2r.cell 2 rfl
          have r3 := y2r.cell 3 rfl
          have r0f := y2r.frozen 0
          have r1f := y2r.frozen 1
          have r2f := y2r.frozen 2
          have r3f := y2r.frozen 3
          go_wp2_with fail
          have BF := (((y2r.set 0 (.slice pp i cp)).set 1 (.slice pt M ct)).set 2 (.slice pl i cl)).set 3 (.slice p6 i c6)
          have g0 := BF.cell 0 rfl
          have g1 := BF.cell 1 rfl
          have g2 := BF.cell 2 rfl
          have g3 := BF.cell 3 rfl
          have hBF := (((hBr.setCell (p := ⟨w.heap.size + 1, 0, none⟩) (by show w.heap.size ≤ w.heap.size + 1; omega) (.slice pp i cp)).setCell (p := ⟨w.heap.size + 1, 1, none⟩) (by show w.heap.size ≤ w.heap.size + 1; omega) (.slice pt M ct)).setCell (p := ⟨w.heap.size + 1, 2, none⟩) (by show w.heap.size ≤ w.heap.size + 1; omega) (.slice pl i cl)).setCell (p := ⟨w.heap.size + 1, 3, none⟩) (by show w.heap.size ≤ w.heap.size + 1; omega) (.slice p6 i c6)
          exact bodyPost_ret (v := .agg #[.slice pp i cp, .slice pt M ct, .slice pl i cl, .slice p6 i c6]) (by simp [results, Tryz.results11, go_sem, g0, g1, g2, g3]) rfl ⟨_, rfl, ⟨_, _, _, _, rfl, hPI.set4 y2r _ _ _ _⟩, hBF⟩

end Go.Proofs.YtjfjkiibmfgplaaGreatDoor
