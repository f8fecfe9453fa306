/- klippelaw12.MeshGrids: where Grid succeeds, at no more than three columns and rows. -/
import Derived.Test.YtccngnjkehibiaaGreatDoorM18
import Derived.Test.YtccngnjkehibiaaGreatDoorN2
namespace Go.Proofs.YtccngnjkehibiaaGreatDoor
open Go.RowKit Go.Lib

theorem neP (l : List PtQ) : ∀ y ∈ cellsP (strP l), ∀ p n c, y ≠ .slice p n c := by
  intro y hy
  unfold cellsP at hy
  obtain ⟨q, _, hq⟩ := List.mem_flatMap.1 hy
  simp at hq
  rcases hq with rfl | rfl <;> simp
theorem neT (l : List Tri) : ∀ y ∈ cellsT l, ∀ p n c, y ≠ .slice p n c := by
  intro y hy
  unfold cellsT at hy
  obtain ⟨q, _, hq⟩ := List.mem_flatMap.1 hy
  simp at hq
  rcases hq with rfl | rfl | rfl <;> simp

set_option maxHeartbeats 8000000 in
set_option maxRecDepth 100000 in
theorem mg_good (ax ay bx bz : Rat) (s1 : Sz 20 ax) (s2 : Sz 20 ay) (s3 : Sz 20 bx) (s4 : Sz 20 bz) (hlx : ax < bx) (hly : ay < bz) (hz : (RS ax).size ≤ 20 ∧ (RS ay).size ≤ 20 ∧ (RS bx).size ≤ 20 ∧ (RS bz).size ≤ 20)
    (c r : Nat) (hc : 1 ≤ c) (hc3 : c ≤ 3) (hr : 1 ≤ r) (hr3 : r ≤ 3) (w : World) (hg : Good w) :
    Calls Tryz.prog 3 #[.agg #[.string (RS ax), .string (RS ay)], .agg #[.string (RS bx), .string (RS bz)], .agg #[.int .i64 (c : Int), .int .i64 (r : Int)]] w (Ret (fun r _ => r = .bool true) w) := by
  obtain ⟨i0, hi, hz0, hz1, hz2⟩ := info_parts info_Point
  obtain ⟨i1, hj, hy0, hy1, hy2⟩ := info_parts info_Tri
  have hM := grid_ok (k := 20) (by omega) s1 s2 s3 s4 hlx hly c r (by omega) hc3 (by omega) hr3
  have HM := Lib.hid hM
  have hall : allQ [RS ax, RS ay, RS bx, RS bz] = true := by
    unfold allQ
    simp only [List.all_cons, List.all_nil, Bool.and_true]
    rw [RS_list, RS_list, RS_list, RS_list, rightQ_RL (s1.mono (by omega)), rightQ_RL (s2.mono (by omega)), rightQ_RL (s3.mono (by omega)), rightQ_RL (s4.mono (by omega))]
    rfl
  have HGR : Hid (∀ w, Good w → _) := fun w hg => grid_any ax ay bx bz 20 (by omega) (by omega) s1 s2 s3 s4 hlx hly c r (by omega) (by omega) (by omega) (by omega) w hg
  have HKX : Hid (∀ w, Good w → Calls Tryz.prog 14 #[.string (RS ax), .string (RS bx)] w (Ret (fun v _ => v = .int .i64 (-1)) w)) := fun w hg => by
    have := ratCompare_any ax bx 20 (by omega) (by omega) s1 s3 w hg
    rwa [show cmpQ ax bx = -1 by unfold cmpQ; rw [if_pos hlx]] at this
  have HKY : Hid (∀ w, Good w → Calls Tryz.prog 14 #[.string (RS ay), .string (RS bz)] w (Ret (fun v _ => v = .int .i64 (-1)) w)) := fun w hg => by
    have := ratCompare_any ay bz 20 (by omega) (by omega) s2 s4 w hg
    rwa [show cmpQ ay bz = -1 by unfold cmpQ; rw [if_pos hly]] at this
  have hdx := s3.sub s1
  have hdy := s4.sub s2
  have HSX : Hid (∀ w, Good w → _) := fun w hg => ratSub_any bx ax 20 (by omega) (by omega) s3 s1 w hg
  have HSY : Hid (∀ w, Good w → _) := fun w hg => ratSub_any bz ay 20 (by omega) (by omega) s4 s2 w hg
  have hmk : ∀ n i : Nat, 1 ≤ n → n ≤ 3 → i ≤ n → Sz 2 (mkRat i n) := fun n i h1 h2 h3 => Sz.mkRat (by omega) (by omega) (by omega)
  have HOX : Hid (∀ i : Nat, i ≤ c → ∀ w, Good w → _) := fun i _ w hg => ratOf_any (i : Int) (c : Int) (i : Int) c (c : Int) rfl (by omega) (by omega) (by omega) (.inl ⟨rfl, rfl⟩) w hg
  have HOY : Hid (∀ i : Nat, i ≤ r → ∀ w, Good w → _) := fun i _ w hg => ratOf_any (i : Int) (r : Int) (i : Int) r (r : Int) rfl (by omega) (by omega) (by omega) (.inl ⟨rfl, rfl⟩) w hg
  have HMX : Hid (∀ i : Nat, i ≤ c → ∀ w, Good w → _) := fun i hi w hg => ratMul_any (mkRat i c) (bx - ax) 50 (by omega) (by omega) ((hmk c i hc hc3 hi).mono (by omega)) (hdx.mono (by omega)) w hg
  have HMY : Hid (∀ i : Nat, i ≤ r → ∀ w, Good w → _) := fun i hi w hg => ratMul_any (mkRat i r) (bz - ay) 50 (by omega) (by omega) ((hmk r i hr hr3 hi).mono (by omega)) (hdy.mono (by omega)) w hg
  have HAX : Hid (∀ i : Nat, i ≤ c → ∀ w, Good w → Calls Tryz.prog 18 #[.string (RS ax), .string (RS (mkRat i c * (bx - ax)))] w (Ret (fun v _ => v = .string (RS (gridX ax bx c i))) w)) := fun i hi w hg => ratAdd_any ax (mkRat i c * (bx - ax)) 100 (by omega) (by omega) (s1.mono (by omega)) (((hmk c i hc hc3 hi).mul hdx).mono (by omega)) w hg
  have HAY : Hid (∀ i : Nat, i ≤ r → ∀ w, Good w → Calls Tryz.prog 18 #[.string (RS ay), .string (RS (mkRat i r * (bz - ay)))] w (Ret (fun v _ => v = .string (RS (gridX ay bz r i))) w)) := fun i hi w hg => ratAdd_any ay (mkRat i r * (bz - ay)) 100 (by omega) (by omega) (s2.mono (by omega)) (((hmk r i hr hr3 hi).mul hdy).mono (by omega)) w hg
  obtain ⟨G, hG⟩ : ∃ G : Nat → List PtQ, G = gridPn ax ay bx bz c r := ⟨_, rfl⟩
  have HG : Hid (∀ j i, i ≤ c → cellsP (strP (G (j * (c + 1) + i + 1))) = cellsP (strP (G (j * (c + 1) + i))) ++ [.string (RS (gridX ax bx c i)), .string (RS (gridX ay bz r j))]) := fun j i hi => by
    rw [hG, gridPn_snoc _ _ _ _ _ _ _ _ hi]
    simp [cellsP, strP]
  have HG0 : Hid (cellsP (strP (G 0)) = []) := by unfold Hid; rw [hG]; rfl
  obtain ⟨P, hP⟩ : ∃ P, P = gridP ax ay bx bz c r := ⟨_, rfl⟩
  have HGF : Hid (G ((r + 1) * (c + 1)) = P ∧ (G ((r + 1) * (c + 1))).length = (r + 1) * (c + 1)) := by
    unfold Hid; rw [hG, hP]; exact ⟨rfl, gridPn_length _ _ _ _ _ _ _⟩
  have HT : Hid (∀ j i, i < c → cellsT (gridTn c (j * c + i + 1)) = cellsT (gridTn c (j * c + i)) ++ [.int .i64 (j * (c + 1) + i : Nat), .int .i64 (j * (c + 1) + i + 1 : Nat), .int .i64 (j * (c + 1) + i + c + 2 : Nat), .int .i64 (j * (c + 1) + i : Nat), .int .i64 (j * (c + 1) + i + c + 2 : Nat), .int .i64 (j * (c + 1) + i + c + 1 : Nat)]) := fun j i hi => by
    rw [gridTn_snoc _ _ _ hi]
    simp [cellsT]
  rw [← hP] at HM HGR
  generalize RS ax = lx at *
  generalize RS ay = ly at *
  generalize RS bx = hx at *
  generalize RS bz = hy at *
  generalize RS (bx - ax) = sdx at *
  generalize RS (bz - ay) = sdy at *
  clear hG hP s1 s2 s3 s4 hlx hly hdx hdy hmk hM
  have HF := Lib.hid (four_get lx ly hx hy hz)
  clear hz
  go_enter Tryz.func3, Tryz.ntmps3
  go_wp2_with fail
  obtain ⟨W, hW⟩ : ∃ W, W = ((w.alloc (.cells #[.string lx, .string ly] 24)).alloc (.cells #[.string hx, .string hy] 24)).alloc (.cells #[.int .i64 (c : Int), .int .i64 (r : Int)] 25) := ⟨_, rfl⟩
  have hB : Below w.heap.size w W := by rw [hW]; exact (((Below.refl _ _).alloc (Nat.le_refl _) _).alloc (by simp) _).alloc (by simp; omega) _
  have b5 : BoxN W (w.heap.size + 2) 25 [.int .i64 (c : Int), .int .i64 (r : Int)] := by rw [hW]; exact BoxN.new _ _ _ _ (by simp)
  have b4 : BoxN W (w.heap.size + 1) 24 [.string hx, .string hy] := by
    rw [hW]
    have h1 := (BoxN.new (w.alloc (.cells #[.string lx, .string ly] 24)) #[.string hx, .string hy] 24 (w.heap.size + 1) (by simp))
    exact h1.below ((Below.refl _ _).alloc (Nat.le_refl _) _) h1.lt
  have b3 : BoxN W w.heap.size 24 [.string lx, .string ly] := by
    rw [hW]
    have h1 := (BoxN.new w #[.string lx, .string ly] 24 _ rfl)
    exact (h1.below ((Below.refl _ _).alloc (Nat.le_refl _) _) h1.lt).below ((Below.refl _ _).alloc (Nat.le_refl _) _) (by simp; omega)
  rw [← hW]
  clear hW
  refine (known12_any W (hg.below hB)).mono ?_
  rintro e o1 ⟨_, rfl, rfl, hb1⟩
  have hB1 := hB.trans (hb1.mono hB.size)
  have b51 := b5.below hb1 b5.lt
  have b41 := b4.below hb1 b4.lt
  have b31 := b3.below hb1 b3.lt
  clear hb1 hB b5 b4 b3
  have k0 := b31.cell 0 rfl
  have k1 := b31.cell 1 rfl
  have k2 := b41.cell 0 rfl
  have k3 := b41.cell 1 rfl
  obtain ⟨o2, ho2⟩ : ∃ W, W = o1.alloc (.cells #[.string lx, .string ly, .string hx, .string hy] 22) := ⟨_, rfl⟩
  have hb2 : Below o1.heap.size o1 o2 := by rw [ho2]; exact (Below.refl _ _).alloc (Nat.le_refl _) _
  have e7 : BoxN o2 o1.heap.size 22 [.string lx, .string ly, .string hx, .string hy] := by rw [ho2]; exact BoxN.new _ _ _ _ rfl
  have hB2 := hB1.trans (hb2.mono hB1.size)
  have e5 := b51.below hb2 b51.lt
  have e4 := b41.below hb2 b41.lt
  have e3 := b31.below hb2 b31.lt
  go_upto_region 4 with fail
  rw [← ho2]
  clear ho2 hb2 hB1 b51 b41 b31 k0 k1 k2 k3
  go_wp2_with fail
  go_loopw [8, 9] (fun t8 t9 wr => ∃ (i : Nat) (b : Bool), t9 = .int .i64 i ∧ i ≤ 4 ∧ t8 = .int .i64 (errNum b) ∧ Hid (allQ ([lx, ly, hx, hy].take i) = b) ∧ Below o2.heap.size o2 wr) (fun _ t9 _ => 4 - (RowKit.intOf t9).toNat)
  case atStart => exact ⟨0, true, rfl, by omega, rfl, rfl, Below.refl _ _⟩
  case round =>
    obtain ⟨i, b, rfl, hi4, rfl, HB, hbr⟩ := hrel
    have hBr := hB2.trans (hbr.mono hB2.size)
    rcases Nat.lt_or_ge i 4 with h | h
    · obtain ⟨s, hs, hq, hst⟩ := HF.out i h
      have d0 := (e7.below hbr e7.lt).cell i hq
      have hsz : (s.size : Int) ≤ 20 := by omega
      have hiz : (i : Int) < 4 := by omega
      have HST := Lib.hid hst
      clear hq hst
      go_wp2_with fail
      refine (checkQ_any s (by omega) wr (hg.below hBr)).mono ?_
      rintro e w3 ⟨_, rfl, rfl, hb3⟩
      have hbr3 := hbr.trans (hb3.mono hbr.size)
      have HN : Hid (allQ ([lx, ly, hx, hy].take (i + 1)) = (b && rightQ s.data.toList)) := by unfold Hid; rw [HST.out, HB.out]
      generalize rightQ s.data.toList = q at *
      clear hb3 hsz d0
      cases q
      · rw [show errNum false = 2 from rfl]
        go_wp2_with fail
        go_roundw
        case rel => exact ⟨i + 1, false, by go_num, by omega, rfl, by unfold Hid; rw [HN.out, Bool.and_false], hbr3⟩
        case measure =>
          show 4 - ((i : Int) + 1).toNat < 4 - (i : Int).toNat
          omega
      · rw [show errNum true = 0 from rfl]
        go_wp2_with fail
        go_roundw
        case rel => exact ⟨i + 1, b, by go_num, by omega, rfl, by unfold Hid; rw [HN.out, Bool.and_true], hbr3⟩
        case measure =>
          show 4 - ((i : Int) + 1).toNat < 4 - (i : Int).toNat
          omega
    · have hige : (4 : Int) ≤ (i : Int) := by omega
      have hi4' : i = 4 := by omega
      rw [hi4'] at HB
      obtain rfl : b = allQ [lx, ly, hx, hy] := HB.out.symm
      rw [hall]
      have f5 := e5.below hbr e5.lt
      have f4 := e4.below hbr e4.lt
      have f3 := e3.below hbr e3.lt
      clear HB hbr hi4' e5 e4 e3 e7 hB2 HF
      rw [show errNum true = 0 from rfl]
      have q0 := f3.cell 0 rfl
      have q1 := f4.cell 0 rfl
      go_wp2_with fail
      refine (HKX.out wr (hg.below hBr)).mono ?_
      rintro e x1 ⟨_, rfl, rfl, hb⟩
      replace hBr := hBr.trans (hb.mono hBr.size)
      replace f5 := f5.below hb f5.lt
      replace f4 := f4.below hb f4.lt
      replace f3 := f3.below hb f3.lt
      clear hb q0 q1
      have q0 := f3.cell 1 rfl
      have q1 := f4.cell 1 rfl
      go_wp2_with fail
      refine (HKY.out x1 (hg.below hBr)).mono ?_
      rintro e x2 ⟨_, rfl, rfl, hb⟩
      replace hBr := hBr.trans (hb.mono hBr.size)
      replace f5 := f5.below hb f5.lt
      replace f4 := f4.below hb f4.lt
      replace f3 := f3.below hb f3.lt
      clear hb q0 q1
      have hcz1 : (1 : Int) ≤ (c : Int) := by omega
      have hcz2 : (c : Int) ≤ 15 := by omega
      have hcz3 : (c : Int) ≤ 3 := by omega
      have hrz1 : (1 : Int) ≤ (r : Int) := by omega
      have hrz2 : (r : Int) ≤ 15 := by omega
      have hrz3 : (r : Int) ≤ 3 := by omega
      have p0 := f5.cell 0 rfl
      have p1 := f5.cell 1 rfl
      have HP0 : Hid (x2.drew.cell? ⟨w.heap.size + 2, 0, none⟩ = some (.int .i64 (c : Int)) ∧ x2.drew.cell? ⟨w.heap.size + 2, 1, none⟩ = some (.int .i64 (r : Int))) := ⟨p0, p1⟩
      go_upto_region 14 with fail
      go_region_held3 (fun w' => w'.cell? ⟨w.heap.size + 2, 0, none⟩ = some (.int .i64 (c : Int)) ∧ w'.cell? ⟨w.heap.size + 2, 1, none⟩ = some (.int .i64 (r : Int)))
        (exact HP0.out)
        (fail)
      obtain ⟨o5, ho5⟩ : ∃ o5 : World, o5 = x2.drew := ⟨_, rfl⟩
      have hbd1 : Below x2.heap.size x2 o5 := by rw [ho5]; exact below_drewN x2 1
      rw [← ho5]
      have g4 := f4.below hbd1 f4.lt
      have g3 := f3.below hbd1 f3.lt
      have hB5 := hBr.trans (hbd1.mono hBr.size)
      clear p0 p1 HP0 ho5 hbd1 f5 f4 f3 hBr HKX HKY
      have m0 := g3.cell 0 rfl
      have m1 := g3.cell 1 rfl
      have m2 := g4.cell 0 rfl
      have m3 := g4.cell 1 rfl
      go_wp2_with fail
      refine (HGR.out o5 (hg.below hB5)).mono ?_
      rintro e o6 ⟨_, rfl, ⟨vp, vt, rfl, hp, ht⟩, hb6⟩
      obtain ⟨pp, cp, rfl, -, -, -⟩ := hp.open
      obtain ⟨pt, ct, rfl, -, -, -⟩ := ht.open
      rw [strP_length] at *
      obtain ⟨o7, ho7⟩ : ∃ W, W = o6.alloc (.cells #[.slice pp P.length cp, .slice pt (gridT c r).length ct] 34) := ⟨_, rfl⟩
      have hb7 : Below o6.heap.size o6 o7 := by rw [ho7]; exact (Below.refl _ _).alloc (Nat.le_refl _) _
      have b12 : BoxN o7 o6.heap.size 34 [.slice pp P.length cp, .slice pt (gridT c r).length ct] := by rw [ho7]; exact BoxN.new _ _ _ _ rfl
      have hb57 := hb6.trans (hb7.mono hb6.size)
      have hB7 := hB5.trans (hb57.mono hB5.size)
      have g37 := g3.below hb57 g3.lt
      have g47 := g4.below hb57 g4.lt
      have hp7 := RdC.below hp hb7
      have ht7 := RdC.below ht hb7
      clear m0 m1 m2 m3
      go_upto_region 20 with fail
      rw [← ho7]
      clear ho7 hb6 hb7 hb57 hB5 g3 g4 hp ht HGR
      obtain ⟨W, hW⟩ : ∃ W, W = o7.alloc (.cells #[.slice none 0 0, .slice none 0 0] 34) := ⟨_, rfl⟩
      have hbW : Below o7.heap.size o7 W := by rw [hW]; exact (Below.refl _ _).alloc (Nat.le_refl _) _
      have bm : BoxN W o7.heap.size 34 [.slice none 0 0, .slice none 0 0] := by rw [hW]; exact BoxN.new _ _ _ _ rfl
      have hWz : W.heap.size = o7.heap.size + 1 := by rw [hW]; simp
      have hBW := hB7.trans (hbW.mono hB7.size)
      have B12 := Lib.hid (b12.below hbW b12.lt)
      have B3 := Lib.hid (g37.below hbW g37.lt)
      have B4 := Lib.hid (g47.below hbW g47.lt)
      have HPW := Lib.hid (RdC.below hp7 hbW)
      have HTW := Lib.hid (RdC.below ht7 hbW)
      have hM4 : o6.heap.size < o7.heap.size := b12.lt
      have hM3 : w.heap.size + 1 < o7.heap.size := g47.lt
      have hWZ := Lib.hid hWz
      have hWz1 : o7.heap.size < W.heap.size := by omega
      have BMW := Lib.hid bm
      go_upto_region 23 with fail
      rw [← hW]
      clear hW hbW hB7 b12 g37 g47 hp7 ht7 hWz
      go_wp2_with fail
      go_loopw [15] (fun t15 wr => ∃ (j n : Nat) (v : Value), t15 = .int .i64 j ∧ j ≤ r + 1 ∧ Hid (n = j * (c + 1)) ∧ n ≤ 4 * j ∧ BoxN wr o7.heap.size 34 [v, .slice none 0 0] ∧ wr.ownsRow W.heap.size 24 2 v n (cellsP (strP (G n))) ∧ W.grownBy wr (some o7.heap.size)) (fun t15 _ => r + 1 - (RowKit.intOf t15).toNat)
      case atStart => exact ⟨0, 0, _, rfl, Nat.zero_le _, (by unfold Hid; simp), Nat.le_refl _, bm, by rw [HG0.out]; exact World.ownsRow_nil _ _ _ _, gb_refl _ _⟩
      case round =>
        obtain ⟨j, n, v, rfl, hjr, HN, hn16, bmr, hown, hgb⟩ := hrel
        rcases Nat.lt_or_ge j (r + 1) with h | h
        · have hjz : (j : Int) ≤ (r : Int) := by omega
          obtain ⟨wo, hwo⟩ : ∃ wo : World, wo = wr := ⟨_, rfl⟩
          subst hwo
          go_wp2_with fail
          go_loopw [16] (fun t16 wr => ∃ (i : Nat) (v : Value), t16 = .int .i64 i ∧ i ≤ c + 1 ∧ BoxN wr o7.heap.size 34 [v, .slice none 0 0] ∧ wr.ownsRow W.heap.size 24 2 v (n + i) (cellsP (strP (G (n + i)))) ∧ W.grownBy wr (some o7.heap.size)) (fun t16 _ => c + 1 - (RowKit.intOf t16).toNat)
          case atStart => exact ⟨0, _, rfl, Nat.zero_le _, bmr, hown, hgb⟩
          case round =>
            clear bmr hown hgb
            obtain ⟨i, v, rfl, hic, bmr, hown, hgb⟩ := hrel
            obtain ⟨p5, c5, rfl⟩ := ownsRow_shape hown
            rcases Nat.lt_or_ge i (c + 1) with h2 | h2
            · have hiz : (i : Int) ≤ (c : Int) := by omega
              have HQ : Hid (cellsP (strP (G (n + i + 1))) = cellsP (strP (G (n + i))) ++ [.string (RS (gridX ax bx c i)), .string (RS (gridX ay bz r j))]) := by
                unfold Hid; rw [HN.out]; exact HG.out j i (by omega)
              have KOX := Lib.hid (HOX.out i (by omega))
              have KMX := Lib.hid (HMX.out i (by omega))
              have KAX := Lib.hid (HAX.out i (by omega))
              have KOY := Lib.hid (HOY.out j (by omega))
              have KMY := Lib.hid (HMY.out j (by omega))
              have KAY := Lib.hid (HAY.out j (by omega))
              generalize RS (gridX ax bx c i) = px at *
              generalize RS (gridX ay bz r j) = py at *
              generalize RS (mkRat i c * (bx - ax)) = smx at *
              generalize RS (mkRat j r * (bz - ay)) = smy at *
              generalize RS (mkRat i c) = sox at *
              generalize RS (mkRat j r) = soy at *
              have HGD : Hid (∀ w', W.grownBy w' (some o7.heap.size) → Good w') := fun w' hb => hg.below (below_gb hBW hb (by omega))
              clear HOX HMX HAX HOY HMY HAY
              go_wp2_with fail
              refine (KOX.out wr (HGD.out _ hgb)).mono ?_
              rintro e q1 ⟨_, rfl, rfl, hb1⟩
              have gb1 := gb_below hgb hb1
              have bm1 := bmr.below hb1 bmr.lt
              have ow1 := World.ownsRow.belowAll hown hb1
              clear hb1 hgb bmr hown
              go_wp2_with fail
              refine (KOY.out q1 (HGD.out _ gb1)).mono ?_
              rintro e q2 ⟨_, rfl, rfl, hb2⟩
              have gb2 := gb_below gb1 hb2
              have bm2 := bm1.below hb2 bm1.lt
              have ow2 := World.ownsRow.belowAll ow1 hb2
              clear hb2 gb1 bm1 ow1
              go_upto_region 31 with fail
              have HKS : Hid (∀ w', W.grownBy w' (some o7.heap.size) → w'.cell? ⟨w.heap.size, 0, none⟩ = some (.string lx) ∧ w'.cell? ⟨w.heap.size, 1, none⟩ = some (.string ly) ∧ w'.cell? ⟨w.heap.size + 1, 0, none⟩ = some (.string hx) ∧ w'.cell? ⟨w.heap.size + 1, 1, none⟩ = some (.string hy)) := fun w' hb => by
                have y1 := B3.out.gb hb (by intro e; injection e with e; omega)
                have y2 := B4.out.gb hb (by intro e; injection e with e; omega)
                exact ⟨y1.cell 0 rfl, y1.cell 1 rfl, y2.cell 0 rfl, y2.cell 1 rfl⟩
              have gb0 : W.grownBy q2.drew (some o7.heap.size) := gb_below gb2 (below_drewN q2 1)
              have bm0 : BoxN q2.drew o7.heap.size 34 [.slice p5 (n + i) c5, .slice none 0 0] := bm2.drew
              have ow0 := World.ownsRow.belowAll ow2 (below_drewN q2 1)
              have gq0 := HGD.out _ gb0
              have d0 := bm0.cell 0 rfl
              clear gb2 bm2 ow2
              refine AnyL.region (S := Till 24 (fun w' => w'.cell? ⟨w.heap.size, 0, none⟩ = some (.string lx) ∧ w'.cell? ⟨w.heap.size, 1, none⟩ = some (.string ly) ∧ w'.cell? ⟨w.heap.size + 1, 0, none⟩ = some (.string hx) ∧ w'.cell? ⟨w.heap.size + 1, 1, none⟩ = some (.string hy)) (fun w' => w'.cell? ⟨o7.heap.size, 0, none⟩ = some (.slice p5 (n + i) c5))) (by kernel_rfl) ?_
              have hHeld : Till 24 (fun w' => w'.cell? ⟨w.heap.size, 0, none⟩ = some (.string lx) ∧ w'.cell? ⟨w.heap.size, 1, none⟩ = some (.string ly) ∧ w'.cell? ⟨w.heap.size + 1, 0, none⟩ = some (.string hx) ∧ w'.cell? ⟨w.heap.size + 1, 1, none⟩ = some (.string hy)) (fun w' => w'.cell? ⟨o7.heap.size, 0, none⟩ = some (.slice p5 (n + i) c5)) (Array.replicate 27 false) _ := ⟨HKS.out _ gb0, fun _ => d0⟩
              refine AnyL.take (i := 0) (oi := _) (v := ?_) rfl (by kernel_rfl) (by kernel_rfl) (by kernel_rfl) (by decide) (fun _ _ _ h => h) (Or.inl ⟨by rfl, ?_⟩) ⟨hHeld.1, fun _ => hHeld.2 (by rfl)⟩ ?_
              rotate_left
              · intro w hSw; (try dsimp only at hSw); first | (go_simp; done) | (go_simp; with_reducible rfl)
              try simp only [Act.put, List.getElem_toArray, List.getElem_cons_zero, List.setIfInBounds_toArray, List.set_cons_zero, List.set_cons_succ]
              refine AnyL.take2 (i := 1) (oi := _) (v := ?_) rfl (by kernel_rfl) (by kernel_rfl) (by kernel_rfl) (by decide) (ok := _) rfl (by kernel_rfl) (by kernel_rfl) (fun _ _ _ h => h) (Or.inl ⟨by rfl, ?_⟩) ⟨hHeld.1, fun _ => hHeld.2 (by rfl)⟩ ?_
              rotate_left
              · intro w hSw; (try dsimp only at hSw); first | (go_simp; done) | (go_simp; with_reducible rfl)
              try simp only [Act.put, List.getElem_toArray, List.getElem_cons_zero, List.getElem_cons_succ, List.setIfInBounds_toArray, List.set_cons_zero, List.set_cons_succ]
              refine AnyL.take (i := 2) (oi := _) (v := ?_) rfl (by kernel_rfl) (by kernel_rfl) (by kernel_rfl) (by decide) (fun _ _ _ h => h) (Or.inl ⟨by rfl, ?_⟩) ⟨hHeld.1, fun _ => hHeld.2 (by rfl)⟩ ?_
              rotate_left
              · intro w hSw; (try dsimp only at hSw); first | (go_simp; done) | (go_simp; with_reducible rfl)
              try simp only [Act.put, List.getElem_toArray, List.getElem_cons_zero, List.getElem_cons_succ, List.setIfInBounds_toArray, List.set_cons_zero, List.set_cons_succ]
              refine AnyL.take (i := 3) (oi := _) (v := ?_) rfl (by kernel_rfl) (by kernel_rfl) (by kernel_rfl) (by decide) (fun _ _ _ h => h) (Or.inl ⟨by rfl, ?_⟩) ⟨hHeld.1, fun _ => hHeld.2 (by rfl)⟩ ?_
              rotate_left
              · intro w hSw; (try dsimp only at hSw); first | (go_simp; done) | (go_simp; with_reducible rfl)
              try simp only [Act.put, List.getElem_toArray, List.getElem_cons_zero, List.getElem_cons_succ, List.setIfInBounds_toArray, List.set_cons_zero, List.set_cons_succ]
              refine AnyL.take (i := 4) (oi := _) (v := ?_) rfl (by kernel_rfl) (by kernel_rfl) (by kernel_rfl) (by decide) (fun _ _ _ h => h) (Or.inl ⟨by rfl, ?_⟩) ⟨hHeld.1, fun _ => hHeld.2 (by rfl)⟩ ?_
              rotate_left
              · intro w hSw; (try dsimp only at hSw); first | (go_simp; done) | (go_simp; with_reducible rfl)
              try simp only [Act.put, List.getElem_toArray, List.getElem_cons_zero, List.getElem_cons_succ, List.setIfInBounds_toArray, List.set_cons_zero, List.set_cons_succ]
              refine AnyL.take (i := 5) (oi := _) (v := ?_) rfl (by kernel_rfl) (by kernel_rfl) (by kernel_rfl) (by decide) (fun _ _ _ h => h) (Or.inl ⟨by rfl, ?_⟩) ⟨hHeld.1, fun _ => hHeld.2 (by rfl)⟩ ?_
              rotate_left
              · intro w hSw; (try dsimp only at hSw); first | (go_simp; done) | (go_simp; with_reducible rfl)
              try simp only [Act.put, List.getElem_toArray, List.getElem_cons_zero, List.getElem_cons_succ, List.setIfInBounds_toArray, List.set_cons_zero, List.set_cons_succ]
              refine AnyL.take (i := 6) (oi := _) (v := ?_) rfl (by kernel_rfl) (by kernel_rfl) (by kernel_rfl) (by decide) (fun _ _ _ h => h) (Or.inl ⟨by rfl, ?_⟩) ⟨hHeld.1, fun _ => hHeld.2 (by rfl)⟩ ?_
              rotate_left
              · intro w hSw; (try dsimp only at hSw); first | (go_simp; done) | (go_simp; with_reducible rfl)
              try simp only [Act.put, List.getElem_toArray, List.getElem_cons_zero, List.getElem_cons_succ, List.setIfInBounds_toArray, List.set_cons_zero, List.set_cons_succ]
              refine AnyL.take (i := 7) (oi := _) (v := ?_) rfl (by kernel_rfl) (by kernel_rfl) (by kernel_rfl) (by decide) (fun _ _ _ h => h) (Or.inl ⟨by rfl, ?_⟩) ⟨hHeld.1, fun _ => hHeld.2 (by rfl)⟩ ?_
              rotate_left
              · intro w hSw; (try dsimp only at hSw); first | (go_simp; done) | (go_simp; with_reducible rfl)
              try simp only [Act.put, List.getElem_toArray, List.getElem_cons_zero, List.getElem_cons_succ, List.setIfInBounds_toArray, List.set_cons_zero, List.set_cons_succ]
              refine AnyL.take (i := 8) (oi := _) (v := ?_) rfl (by kernel_rfl) (by kernel_rfl) (by kernel_rfl) (by decide) (fun _ _ _ h => h) (Or.inl ⟨by rfl, ?_⟩) ⟨hHeld.1, fun _ => hHeld.2 (by rfl)⟩ ?_
              rotate_left
              · intro w hSw; (try dsimp only at hSw); first | (go_simp; done) | (go_simp; with_reducible rfl)
              try simp only [Act.put, List.getElem_toArray, List.getElem_cons_zero, List.getElem_cons_succ, List.setIfInBounds_toArray, List.set_cons_zero, List.set_cons_succ]
              refine AnyL.take (i := 12) (oi := _) (v := ?_) rfl (by kernel_rfl) (by kernel_rfl) (by kernel_rfl) (by decide) (fun _ _ _ h => h) (Or.inl ⟨by rfl, ?_⟩) ⟨hHeld.1, fun _ => hHeld.2 (by rfl)⟩ ?_
              rotate_left
              · intro w hSw; (try dsimp only at hSw); first | (go_simp; done) | (go_simp; with_reducible rfl)
              try simp only [Act.put, List.getElem_toArray, List.getElem_cons_zero, List.getElem_cons_succ, List.setIfInBounds_toArray, List.set_cons_zero, List.set_cons_succ]
              refine AnyL.take (i := 13) (oi := _) (v := ?_) rfl (by kernel_rfl) (by kernel_rfl) (by kernel_rfl) (by decide) (fun _ _ _ h => h) (Or.inl ⟨by rfl, ?_⟩) ⟨hHeld.1, fun _ => hHeld.2 (by rfl)⟩ ?_
              rotate_left
              · intro w hSw; (try dsimp only at hSw); first | (go_simp; done) | (go_simp; with_reducible rfl)
              try simp only [Act.put, List.getElem_toArray, List.getElem_cons_zero, List.getElem_cons_succ, List.setIfInBounds_toArray, List.set_cons_zero, List.set_cons_succ]
              refine AnyL.take (i := 14) (oi := _) (v := ?_) rfl (by kernel_rfl) (by kernel_rfl) (by kernel_rfl) (by decide) (fun _ _ _ h => h) (Or.inl ⟨by rfl, ?_⟩) ⟨hHeld.1, fun _ => hHeld.2 (by rfl)⟩ ?_
              rotate_left
              · intro w hSw; (try dsimp only at hSw); first | (go_simp; done) | (go_simp; with_reducible rfl)
              try simp only [Act.put, List.getElem_toArray, List.getElem_cons_zero, List.getElem_cons_succ, List.setIfInBounds_toArray, List.set_cons_zero, List.set_cons_succ]
              refine AnyL.take (i := 15) (oi := _) (v := ?_) rfl (by kernel_rfl) (by kernel_rfl) (by kernel_rfl) (by decide) (fun _ _ _ h => h) (Or.inl ⟨by rfl, ?_⟩) ⟨hHeld.1, fun _ => hHeld.2 (by rfl)⟩ ?_
              rotate_left
              · intro w hSw; (try dsimp only at hSw); first | (go_simp; done) | (go_simp; with_reducible rfl)
              try simp only [Act.put, List.getElem_toArray, List.getElem_cons_zero, List.getElem_cons_succ, List.setIfInBounds_toArray, List.set_cons_zero, List.set_cons_succ]
              refine AnyL.take (i := 16) (oi := _) (v := ?_) rfl (by kernel_rfl) (by kernel_rfl) (by kernel_rfl) (by decide) (fun _ _ _ h => h) (Or.inl ⟨by rfl, ?_⟩) ⟨hHeld.1, fun _ => hHeld.2 (by rfl)⟩ ?_
              rotate_left
              · intro w hSw; (try dsimp only at hSw); first | (go_simp; done) | (go_simp; with_reducible rfl)
              try simp only [Act.put, List.getElem_toArray, List.getElem_cons_zero, List.getElem_cons_succ, List.setIfInBounds_toArray, List.set_cons_zero, List.set_cons_succ]
              refine AnyL.take (i := 17) (oi := _) (v := ?_) rfl (by kernel_rfl) (by kernel_rfl) (by kernel_rfl) (by decide) (fun _ _ _ h => h) (Or.inl ⟨by rfl, ?_⟩) ⟨hHeld.1, fun _ => hHeld.2 (by rfl)⟩ ?_
              rotate_left
              · intro w hSw; (try dsimp only at hSw); first | (go_simp; done) | (go_simp; with_reducible rfl)
              try simp only [Act.put, List.getElem_toArray, List.getElem_cons_zero, List.getElem_cons_succ, List.setIfInBounds_toArray, List.set_cons_zero, List.set_cons_succ]
              refine AnyL.take (i := 18) (oi := _) (v := ?_) rfl (by kernel_rfl) (by kernel_rfl) (by kernel_rfl) (by decide) (fun _ _ _ h => h) (Or.inl ⟨by rfl, ?_⟩) ⟨hHeld.1, fun _ => hHeld.2 (by rfl)⟩ ?_
              rotate_left
              · intro w hSw; (try dsimp only at hSw); first | (go_simp; done) | (go_simp; with_reducible rfl)
              try simp only [Act.put, List.getElem_toArray, List.getElem_cons_zero, List.getElem_cons_succ, List.setIfInBounds_toArray, List.set_cons_zero, List.set_cons_succ]
              refine AnyL.one (i := 9) (o := _) (by kernel_rfl) rfl (fun K hK => ?_)
              go_simp
              (refine (HSX.out _ gq0).mono ?_; rintro e y1 ⟨_, rfl, rfl, hy1⟩; have gb1 := gb_below gb0 hy1; have gq1 := HGD.out _ gb1; have bm1 := bm0.below hy1 bm0.lt; have ow1 := World.ownsRow.belowAll ow0 hy1; have d1 := bm1.cell 0 rfl)
              refine hK.out _ _ ⟨HKS.out _ gb1, fun hk => d1⟩ (fun hHeld => ?_)
              clear hK K
              try simp only [Act.put, List.getElem_toArray, List.getElem_cons_zero, List.getElem_cons_succ, List.setIfInBounds_toArray, List.set_cons_zero, List.set_cons_succ]
              refine AnyL.one (i := 10) (o := _) (by kernel_rfl) rfl (fun K hK => ?_)
              go_simp
              (refine (KMX.out _ gq1).mono ?_; rintro e y2 ⟨_, rfl, rfl, hy2⟩; have gb2 := gb_below gb1 hy2; have gq2 := HGD.out _ gb2; have bm2 := bm1.below hy2 bm1.lt; have ow2 := World.ownsRow.belowAll ow1 hy2; have d2 := bm2.cell 0 rfl)
              refine hK.out _ _ ⟨HKS.out _ gb2, fun hk => d2⟩ (fun hHeld => ?_)
              clear hK K
              try simp only [Act.put, List.getElem_toArray, List.getElem_cons_zero, List.getElem_cons_succ, List.setIfInBounds_toArray, List.set_cons_zero, List.set_cons_succ]
              refine AnyL.one (i := 11) (o := _) (by kernel_rfl) rfl (fun K hK => ?_)
              go_simp
              (refine (KAX.out _ gq2).mono ?_; rintro e y3 ⟨_, rfl, rfl, hy3⟩; have gb3 := gb_below gb2 hy3; have gq3 := HGD.out _ gb3; have bm3 := bm2.below hy3 bm2.lt; have ow3 := World.ownsRow.belowAll ow2 hy3; have d3 := bm3.cell 0 rfl)
              refine hK.out _ _ ⟨HKS.out _ gb3, fun hk => d3⟩ (fun hHeld => ?_)
              clear hK K
              try simp only [Act.put, List.getElem_toArray, List.getElem_cons_zero, List.getElem_cons_succ, List.setIfInBounds_toArray, List.set_cons_zero, List.set_cons_succ]
              refine AnyL.one (i := 19) (o := _) (by kernel_rfl) rfl (fun K hK => ?_)
              go_simp
              (refine (HSY.out _ gq3).mono ?_; rintro e y4 ⟨_, rfl, rfl, hy4⟩; have gb4 := gb_below gb3 hy4; have gq4 := HGD.out _ gb4; have bm4 := bm3.below hy4 bm3.lt; have ow4 := World.ownsRow.belowAll ow3 hy4; have d4 := bm4.cell 0 rfl)
              refine hK.out _ _ ⟨HKS.out _ gb4, fun hk => d4⟩ (fun hHeld => ?_)
              clear hK K
              try simp only [Act.put, List.getElem_toArray, List.getElem_cons_zero, List.getElem_cons_succ, List.setIfInBounds_toArray, List.set_cons_zero, List.set_cons_succ]
              refine AnyL.one (i := 20) (o := _) (by kernel_rfl) rfl (fun K hK => ?_)
              go_simp
              (refine (KMY.out _ gq4).mono ?_; rintro e y5 ⟨_, rfl, rfl, hy5⟩; have gb5 := gb_below gb4 hy5; have gq5 := HGD.out _ gb5; have bm5 := bm4.below hy5 bm4.lt; have ow5 := World.ownsRow.belowAll ow4 hy5; have d5 := bm5.cell 0 rfl)
              refine hK.out _ _ ⟨HKS.out _ gb5, fun hk => d5⟩ (fun hHeld => ?_)
              clear hK K
              try simp only [Act.put, List.getElem_toArray, List.getElem_cons_zero, List.getElem_cons_succ, List.setIfInBounds_toArray, List.set_cons_zero, List.set_cons_succ]
              refine AnyL.one (i := 21) (o := _) (by kernel_rfl) rfl (fun K hK => ?_)
              go_simp
              (refine (KAY.out _ gq5).mono ?_; rintro e y6 ⟨_, rfl, rfl, hy6⟩; have gb6 := gb_below gb5 hy6; have gq6 := HGD.out _ gb6; have bm6 := bm5.below hy6 bm5.lt; have ow6 := World.ownsRow.belowAll ow5 hy6; have d6 := bm6.cell 0 rfl)
              refine hK.out _ _ ⟨HKS.out _ gb6, fun hk => d6⟩ (fun hHeld => ?_)
              clear hK K
              try simp only [Act.put, List.getElem_toArray, List.getElem_cons_zero, List.getElem_cons_succ, List.setIfInBounds_toArray, List.set_cons_zero, List.set_cons_succ]
              refine AnyL.take (i := 22) (oi := _) (v := ?_) rfl (by kernel_rfl) (by kernel_rfl) (by kernel_rfl) (by decide) (fun _ _ _ h => h) (Or.inl ⟨by rfl, ?_⟩) ⟨hHeld.1, fun _ => hHeld.2 (by rfl)⟩ ?_
              rotate_left
              · intro w hSw; (try dsimp only at hSw); first | (go_simp; done) | (go_simp; with_reducible rfl)
              try simp only [Act.put, List.getElem_toArray, List.getElem_cons_zero, List.getElem_cons_succ, List.setIfInBounds_toArray, List.set_cons_zero, List.set_cons_succ]
              refine AnyL.one (i := 23) (o := _) (by kernel_rfl) rfl (fun K hK => ?_)
              go_simp
              refine hK.out _ _ ⟨HKS.out _ (gb_alloc gb6 _), fun hk => cell_alloc_l _ d6⟩ (fun hHeld => ?_)
              clear hK K
              try simp only [Act.put, List.getElem_toArray, List.getElem_cons_zero, List.getElem_cons_succ, List.setIfInBounds_toArray, List.set_cons_zero, List.set_cons_succ]
              refine AnyL.one (i := 24) (o := _) (by kernel_rfl) rfl (fun K hK => ?_)
              (refine step_append_lies _ (by rfl) (.tmp 142) (.tmp 164) 31 (by rfl) W.heap.size 24 i0 (.agg #[.string ⟨#[]⟩, .string ⟨#[]⟩]) 2 32 Tryz.underlying31 hi hz0 hz1 hz2 rfl (by decide) _ (n + i) _ (by simp [Act.eval]) (ow6.alloc _) ⟨y6.heap.size, 0, none⟩ 1 1 [.string px, .string py] (by simp [Act.eval]) rfl (cell_two _ _ _ _) (two_str _ _) (by omega) (by unfold maxLen; omega) (by omega) (by have := gb6.size; simp; omega) _ rfl ?_; intro g7 cap7 w7 hown7 hgr7 hat7 hlt7; have bm7 := (bm6.alloc (.cells #[.string px, .string py] 24)).gb hgr7 (fun e => by have := (ow6.lt _ e).1; omega); have gb7 := gb_grown (gb_alloc gb6 (.cells #[.string px, .string py] 24)) hgr7 (fun j hj => by have := (ow6.lt j hj).1; omega); have kc7 := bm7.cell 0 rfl; have kf7 := bm7.frozen 0)
              refine hK.out _ _ ⟨HKS.out _ gb7, fun hk => (by simp at hk)⟩ (fun hHeld => ?_)
              clear hK K
              try simp only [Act.put, List.getElem_toArray, List.getElem_cons_zero, List.getElem_cons_succ, List.setIfInBounds_toArray, List.set_cons_zero, List.set_cons_succ]
              refine AnyL.take (i := 25) (oi := _) (v := ?_) rfl (by kernel_rfl) (by kernel_rfl) (by kernel_rfl) (by decide) (fun _ _ _ h => h) (Or.inl ⟨by rfl, ?_⟩) ⟨hHeld.1, fun hk => (by simp at hk)⟩ ?_
              rotate_left
              · intro w hSw; (try dsimp only at hSw); first | (go_simp; done) | (go_simp; with_reducible rfl)
              try simp only [Act.put, List.getElem_toArray, List.getElem_cons_zero, List.getElem_cons_succ, List.setIfInBounds_toArray, List.set_cons_zero, List.set_cons_succ]
              refine AnyL.one (i := 26) (o := _) (by kernel_rfl) rfl (fun K hK => ?_)
              go_simp
              refine hK.out _ _ ⟨HKS.out _ (gb_set gb7 0 _), fun hk => (by simp at hk)⟩ (fun hHeld => ?_)
              clear hK K
              try simp only [Act.put, List.getElem_toArray, List.getElem_cons_zero, List.getElem_cons_succ, List.setIfInBounds_toArray, List.set_cons_zero, List.set_cons_succ]
              refine AnyL.done (by kernel_rfl) ?_ _
              all_goals
                go_wp2_with fail
                go_roundw
                case rel => exact ⟨i + 1, _, by go_num, by omega, bm7.set 0 _, by rw [show n + (i + 1) = n + i + 1 by omega, HQ.out]; exact ownsRow_setCell_below hown7 (by show o7.heap.size < W.heap.size; exact hWz1) _, gb_set gb7 0 _⟩
                case measure =>
                  show c + 1 - ((i : Int) + 1).toNat < c + 1 - (i : Int).toNat
                  omega
            · have hieq : i = c + 1 := by omega
              have hige : (c : Int) < (i : Int) := by omega
              go_wp2_with fail
              go_roundw
              case rel => exact ⟨j + 1, n + i, _, by go_num, by omega, (by unfold Hid; rw [HN.out, Nat.add_mul, Nat.one_mul, hieq]), by omega, bmr, hown, hgb⟩
              case measure =>
                show r + 1 - ((j : Int) + 1).toNat < r + 1 - (j : Int).toNat
                omega
        · have HJ : Hid (j = r + 1) := by unfold Hid; omega
          have hjge : (r : Int) < (j : Int) := by omega
          have hjd : decide (j ≤ r) = false := decide_eq_false (by omega)
          obtain ⟨p5, c5, rfl⟩ := ownsRow_shape hown
          have HRP : Hid (RdP wr (.slice p5 n c5) (strP P)) := by
            have h1 : RdC 2 wr (.slice p5 n c5) n (cellsP (strP (G n))) := RdC.of_owns hown
            obtain ⟨g1, g2⟩ := HGF.out
            have hn' := HN.out
            have hj' := HJ.out
            subst hj'
            subst hn'
            rw [g1] at h1 g2
            unfold Hid RdP
            rw [strP_length, g2]
            exact h1
          have HRP0 : Hid (RdP wr (.slice pp P.length cp) (strP P)) := RdC.gb HPW.out hgb BMW.out (fun y hy hm => by
            simp at hm
            exact neP _ _ hy _ _ _ hm)
          have HRT0 : Hid (RdT wr (.slice pt (gridT c r).length ct) (gridT c r)) := RdC.gb HTW.out hgb BMW.out (fun y hy hm => by
            simp at hm
            exact neT _ _ hy _ _ _ hm)
          obtain ⟨W2, hW2⟩ : ∃ W2 : World, W2 = wr := ⟨_, rfl⟩
          subst hW2
          have hgb0 := Lib.hid hgb
          have hz2 := hgb.size
          have BMR0 := Lib.hid bmr
          clear hown hgb HSX HSY HOX HOY HMX HMY HAX HAY HG HG0 HGF HN h hn16 HPW HTW BMW
          go_wp2_with fail
          go_loopw [21] (fun t21 wr => ∃ (j n2 : Nat) (v : Value), t21 = .int .i64 j ∧ j ≤ r ∧ Hid (n2 = j * c) ∧ n2 ≤ 3 * j ∧ BoxN wr o7.heap.size 34 [.slice p5 n c5, v] ∧ wr.ownsRow W2.heap.size 42 3 v (2 * n2) (cellsT (gridTn c n2)) ∧ W2.grownBy wr (some o7.heap.size)) (fun t21 _ => r - (RowKit.intOf t21).toNat)
          case atStart => exact ⟨0, 0, _, rfl, Nat.zero_le _, (by unfold Hid; simp), Nat.le_refl _, bmr, World.ownsRow_nil _ _ _ _, gb_refl _ _⟩
          case round =>
            obtain ⟨j, n2, v, rfl, hjr, HN, hn16, bmr, hown, hgb⟩ := hrel
            rcases Nat.lt_or_ge j r with h | h
            · have hjz : (j : Int) < (r : Int) := by omega
              obtain ⟨wo, hwo⟩ : ∃ wo : World, wo = wr := ⟨_, rfl⟩
              subst hwo
              obtain ⟨jc, hjc⟩ : ∃ jc : Nat, jc = j * (c + 1) := ⟨_, rfl⟩
              have hjcb : jc ≤ 16 * j := by rw [hjc, Nat.mul_comm 16]; exact Nat.mul_le_mul_left _ (by omega)
              have hjcz : (j : Int) * ((c : Int) + 1) = (jc : Int) := by rw [hjc]; push_cast; rfl
              have HJC := Lib.hid hjc
              clear hjc
              go_wp2_with fail
              go_loopw [22] (fun t22 wr => ∃ (i : Nat) (v : Value), t22 = .int .i64 i ∧ i ≤ c ∧ BoxN wr o7.heap.size 34 [.slice p5 n c5, v] ∧ wr.ownsRow W2.heap.size 42 3 v (2 * (n2 + i)) (cellsT (gridTn c (n2 + i))) ∧ W2.grownBy wr (some o7.heap.size)) (fun t22 _ => c - (RowKit.intOf t22).toNat)
              case atStart => exact ⟨0, _, rfl, Nat.zero_le _, bmr, hown, hgb⟩
              case round =>
                clear bmr hown hgb
                obtain ⟨i, v, rfl, hic, bmr, hown, hgb⟩ := hrel
                obtain ⟨q5, d5, rfl⟩ := ownsRow_shape hown
                rcases Nat.lt_or_ge i c with h2 | h2
                · have hiz : (i : Int) < (c : Int) := by omega
                  have HQ : Hid (cellsT (gridTn c (n2 + i + 1)) = cellsT (gridTn c (n2 + i)) ++ [.int .i64 ((jc : Int) + (i : Int)), .int .i64 ((jc : Int) + (i : Int) + 1), .int .i64 ((jc : Int) + (i : Int) + (c : Int) + 1 + 1), .int .i64 ((jc : Int) + (i : Int)), .int .i64 ((jc : Int) + (i : Int) + (c : Int) + 1 + 1), .int .i64 ((jc : Int) + (i : Int) + (c : Int) + 1)]) := by
                    unfold Hid
                    rw [HN.out, HT.out j i h2, HJC.out]
                    simp only [Int.natCast_add, Int.cast_ofNat_Int, Int.add_assoc]
                    rfl
                  have m1 := bmr.cell 1 rfl
                  have m1f := bmr.frozen 1
                  have hz6 := hgb.size
                  have hbm6 := bmr.lt
                  go_wp2_with (at_builtin; refine wpList_append_own _ rfl _ _ 32 rfl W2.heap.size 42 i1 (.agg #[.int .i64 0, .int .i64 0, .int .i64 0]) 3 24 Tryz.underlying32 hj hy0 hy1 hy2 rfl (by decide) _ _ _ rfl (hown.alloc _) ⟨wr.heap.size, 0, none⟩ 2 2 [.int .i64 ((jc : Int) + (i : Int)), .int .i64 ((jc : Int) + (i : Int) + 1), .int .i64 ((jc : Int) + (i : Int) + (c : Int) + 1 + 1), .int .i64 ((jc : Int) + (i : Int)), .int .i64 ((jc : Int) + (i : Int) + (c : Int) + 1 + 1), .int .i64 ((jc : Int) + (i : Int) + (c : Int) + 1)] rfl rfl (cell_six _ _ _ _ _ _ _ _) (six_int _ _ _ _ _ _) (by unfold maxLen; omega) (by omega) (by simp; omega) ?_
                               intro v7 w7 hown7 hgrow7 _
                               have hne7 : some o7.heap.size ≠ (Value.slice q5 (2 * (n2 + i)) d5).ownBlock := fun e => by have := (hown.lt _ e.symm).1; omega
                               have m07 := (hgrow7.cell_far ⟨o7.heap.size, 1, none⟩ (by simp; omega) hne7).trans (cell_alloc_l _ m1)
                               have m07f := (hgrow7.frozen_far ⟨o7.heap.size, 1, none⟩ (by simp; omega) hne7).trans (frozen_alloc_l _ m1 m1f)
                               have bm7 : BoxN w7 o7.heap.size 34 [.slice p5 n c5, .slice q5 (2 * (n2 + i)) d5] := (hgrow7.block o7.heap.size (by simp; omega) hne7).trans (bmr.below ((Below.refl _ _).alloc (Nat.le_refl _) _) bmr.lt)
                               have hgb7 : W2.grownBy w7 (some o7.heap.size) := gb_grown (gb_alloc hgb _) hgrow7 (fun j hj => by have := (hown.lt j hj).1; omega)
                               obtain ⟨p7, c7, rfl⟩ := ownsRow_shape hown7
                               clear hgrow7 m1 m1f)
                  go_roundw
                  case rel => exact ⟨i + 1, _, by go_num, by omega, bm7.set 1 _, by rw [show n2 + (i + 1) = n2 + i + 1 by omega, HQ.out, show 2 * (n2 + i + 1) = 2 * (n2 + i) + 2 by omega]; exact ownsRow_setCell_below hown7 (by show o7.heap.size < W2.heap.size; omega) _, gb_set hgb7 1 _⟩
                  case measure =>
                    show c - ((i : Int) + 1).toNat < c - (i : Int).toNat
                    omega
                · obtain rfl : i = c := by omega
                  go_wp2_with fail
                  go_roundw
                  case rel => exact ⟨j + 1, n2 + i, _, by go_num, by omega, (by unfold Hid; rw [HN.out, Nat.add_mul, Nat.one_mul]), by omega, bmr, hown, hgb⟩
                  case measure =>
                    show r - ((j : Int) + 1).toNat < r - (j : Int).toNat
                    omega
            · obtain rfl : j = r := by omega
              obtain ⟨q5, d5, rfl⟩ := ownsRow_shape hown
              have hM := HN.out
              subst hM
              have HRT : Hid (RdT wr (.slice q5 (2 * (j * c)) d5) (gridT c j)) := by
                have h1 : RdC 3 wr (.slice q5 (2 * (j * c)) d5) (2 * (j * c)) (cellsT (gridTn c (j * c))) := RdC.of_owns hown
                unfold Hid RdT gridT
                rw [gridTn_length]
                exact h1
              have hx : ∀ y : Value, y ∈ [Value.slice p5 n c5, .slice none 0 0] → ∃ p n c, y = .slice p n c := fun y hm => by
                simp at hm
                rcases hm with rfl | rfl
                · exact ⟨_, _, _, rfl⟩
                · exact ⟨_, _, _, rfl⟩
              have HRP2 : Hid (RdP wr (.slice p5 n c5) (strP P)) := RdC.gb HRP.out hgb BMR0.out (fun y hy hm => by
                obtain ⟨_, _, _, e⟩ := hx y hm
                exact neP _ _ hy _ _ _ e)
              have HRP1 : Hid (RdP wr (.slice pp P.length cp) (strP P)) := RdC.gb HRP0.out hgb BMR0.out (fun y hy hm => by
                obtain ⟨_, _, _, e⟩ := hx y hm
                exact neP _ _ hy _ _ _ e)
              have HRT1 : Hid (RdT wr (.slice pt (gridT c j).length ct) (gridT c j)) := RdC.gb HRT0.out hgb BMR0.out (fun y hy hm => by
                obtain ⟨_, _, _, e⟩ := hx y hm
                exact neT _ _ hy _ _ _ e)
              have b12r := (B12.out.gb hgb0.out (by intro e; injection e with e; omega)).gb hgb (by intro e; injection e with e; omega)
              have hBr : Below w.heap.size w wr := below_gb (below_gb hBW hgb0.out (by omega)) hgb (by omega)
              have z0 := bmr.cell 0 rfl
              have z1 := bmr.cell 1 rfl
              have y0 := b12r.cell 0 rfl
              have y1 := b12r.cell 1 rfl
              clear hown hgb bmr hgb0 B3 B4 B12 BMR0 HRP HRP0 HRT0 hx
              go_wp2_with fail
              refine (sameMesh_true wr _ _ _ _ (strP P) (gridT c j) HRP1.out HRT1.out HRP2.out HRT.out).mono ?_
              rintro e w8 ⟨_, rfl, rfl, hb8⟩
              have hB8 := hBr.trans (hb8.mono hBr.size)
              have b128 := b12r.below hb8 b12r.lt
              clear z0 z1 y0 y1
              have y0 := b128.cell 0 rfl
              have y1 := b128.cell 1 rfl
              go_wp2_with fail
              refine (check_any w8 _ _ P (gridT c j) _ (RdC.below HRP1.out hb8) (RdC.below HRT1.out hb8) HM.out (hg.below hB8)).mono ?_
              rintro e w9 ⟨_, rfl, rfl, hb9⟩
              go_wp2_with fail
              go_ret
              exact ⟨_, rfl, rfl, hB8.trans (hb9.mono hB8.size)⟩

end Go.Proofs.YtccngnjkehibiaaGreatDoor
