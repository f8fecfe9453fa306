/- The walks over rational.Whole, klippelaw12.point, mesh.Grid. -/
import Derived.Test.YtdhcliekejiegaaGreatDoorM1
import Derived.Laws.EntriesVeiled
import Derived.Deep.RegionHeld3
import Derived.Deep.DeepCutAuto
namespace Go.Proofs.YtdhcliekejiegaaGreatDoor
open Go.RowKit Go.Lib

theorem gb_below {W wr wx : World} {M : Option Nat} (h : W.grownBy wr M) (hb : Below wr.heap.size wr wx) : W.grownBy wx M :=
  ⟨hb.os.trans h.os, hb.tape.trans h.tape, hb.output.trans h.output, Nat.le_trans h.size hb.size, fun j hj hjn => (hb.block j (Nat.lt_of_lt_of_le hj h.size)).trans (h.block j hj hjn)⟩
theorem gb_grown {W wr wx : World} {M row : Option Nat} (h : W.grownBy wr M) (hg : wr.grownBy wx row) (hr : ∀ j, row = some j → W.heap.size ≤ j) : W.grownBy wx M :=
  ⟨hg.os.trans h.os, hg.tape.trans h.tape, hg.output.trans h.output, Nat.le_trans h.size hg.size, fun j hj hjn => (hg.block j (Nat.lt_of_lt_of_le hj h.size) (fun e => by have := hr _ e.symm; omega)).trans (h.block j hj hjn)⟩
theorem gb_set {W wr : World} {M : Nat} (h : W.grownBy wr (some M)) (i : Nat) (v : Value) : W.grownBy (wr.setCell ⟨M, i, none⟩ v) (some M) :=
  ⟨h.os, h.tape, h.output, by simpa using h.size, fun j hj hjn => (Below.heap_setCell _ _ _ j (by rintro rfl; exact hjn rfl)).trans (h.block j hj hjn)⟩
theorem gb_alloc {W wr : World} {M : Option Nat} (h : W.grownBy wr M) (o : Obj) : W.grownBy (wr.alloc o) M :=
  gb_below h ((Below.refl _ _).alloc (Nat.le_refl _) _)
theorem gb_refl (W : World) (M : Option Nat) : W.grownBy W M := ⟨rfl, rfl, rfl, Nat.le_refl _, fun _ _ _ => rfl⟩
theorem BoxN.gb {w w' : World} {M : Option Nat} {b t : Nat} {l : List Value} (h : BoxN w b t l) (hb : w.grownBy w' M) (hn : M ≠ some b) : BoxN w' b t l := (hb.block b h.lt (fun e => hn e.symm)).trans h
theorem below_gb {M : Nat} {w0 w w' : World} (h : Below w0.heap.size w0 w) (hb : w.grownBy w' (some M)) (hM : w0.heap.size ≤ M) : Below w0.heap.size w0 w' :=
  h.grown hb h.size (fun j e => by cases e; omega)

theorem RdC.gb {sz : Nat} {w w' : World} {v : Value} {n M t : Nat} {cs l : List Value} (h : RdC sz w v n cs) (hg : w.grownBy w' (some M)) (hb : BoxN w M t l) (hne : ∀ y ∈ cs, y ∉ l) : RdC sz w' v n cs := by
  obtain ⟨p, q, hv, h1, h2, h3, h4⟩ := h
  refine ⟨p, q, hv, h1, h2, h3, fun hn => ?_⟩
  obtain ⟨b, off, hp, hr⟩ := h4 hn
  refine ⟨b, off, hp, fun i x hx => ?_⟩
  have hc := hr i x hx
  have hbM : b ≠ M := by
    rintro rfl
    have hh : w.heap[b]? = some (.cells l.toArray t (0, 0)) := hb
    have h5 : l[off + i]? = some x := by
      simp [World.cell?, hh] at hc
      exact hc
    exact hne x (List.mem_of_getElem? hx) (List.mem_of_getElem? h5)
  have hlt : b < w.heap.size := by
    rcases Nat.lt_or_ge b w.heap.size with h | h
    · exact h
    · have : w.heap[b]? = none := Array.getElem?_eq_none h
      simp [World.cell?, this] at hc
  have he := hg.block b hlt (by intro e; injection e with e; exact hbM e)
  have : w'.cell? ⟨b, off + i, none⟩ = w.cell? ⟨b, off + i, none⟩ := by simp [World.cell?, he]
  rw [this]; exact hc

theorem cpt_ok (p : PtQ) (k : Nat) (h : SzP k p) (hk : 0 < k) (hk2 : k ≤ 200) (w : World) (hg : Good w) :
    Calls Tryz.prog 76 #[.agg #[.string (RS p.1), .string (RS p.2)]] w (Ret (fun r _ => r = .int .i64 0) w) := by
  have s1 := h.1.size hk
  have s2 := h.2.size hk
  refine (checkPoint_any (RS p.1) (RS p.2) (by omega) (by omega) w hg).mono ?_
  rintro e w' ⟨v, he, hv, hb⟩
  exact ⟨v, he, by rw [hv, h.right hk2], hb⟩

theorem whole_num (n : Int) (h0 : -9223372036854775808 ≤ n) (h1 : n ≤ 9223372036854775807) (w : World) (hg : Good w) :
    Calls Tryz.prog 103 #[.int .i64 n] w (Ret (fun r _ => r = .string (RS (n : Rat))) w) := by
  have HE : Hid (IS n = RS (n : Rat)) := by
    unfold Hid IS RS
    rw [RL_int]
  go_enter Tryz.func103, Tryz.ntmps103
  go_wp2_with fail
  refine (of_any n h0 h1 w hg).mono ?_
  rintro e w1 ⟨_, rfl, rfl, hb1⟩
  go_wp2_with fail
  go_ret
  rw [HE.out]
  exact ⟨_, rfl, rfl, hb1⟩

theorem lpoint_any (x y : Int) (hx : -1000 ≤ x ∧ x ≤ 1000) (hy : -1000 ≤ y ∧ y ≤ 1000) (w : World) (hg : Good w) :
    Calls Tryz.prog 42 #[.int .i64 x, .int .i64 y] w (Ret (fun r _ => r = .agg #[.string (RS (x : Rat)), .string (RS (y : Rat))]) w) := by
  have H1 : Hid (∀ w, Good w → _) := fun w hg => whole_num x (by omega) (by omega) w hg
  have H2 : Hid (∀ w, Good w → _) := fun w hg => whole_num y (by omega) (by omega) w hg
  generalize RS (x : Rat) = px at *
  generalize RS (y : Rat) = py at *
  go_enter Tryz.func42, Tryz.ntmps42
  go_wp2_with fail
  obtain ⟨W, hW⟩ : ∃ W, W = w.alloc (.cells #[.string ⟨#[]⟩, .string ⟨#[]⟩] 59) := ⟨_, rfl⟩
  have hB : Below w.heap.size w W := by rw [hW]; exact (Below.refl _ _).alloc (Nat.le_refl _) _
  have b4 : BoxN W w.heap.size 59 [.string ⟨#[]⟩, .string ⟨#[]⟩] := by rw [hW]; exact BoxN.new _ _ _ _ rfl
  rw [← hW]
  clear hW
  refine (H1.out W (hg.below hB)).mono ?_
  rintro e w1 ⟨_, rfl, rfl, hb1⟩
  have hB1 := hB.trans (hb1.mono hB.size)
  have b41 := b4.below hb1 b4.lt
  clear hb1 b4
  go_wp2_with fail
  refine (H2.out w1 (hg.below hB1)).mono ?_
  rintro e w2 ⟨_, rfl, rfl, hb2⟩
  have hB2 := hB1.trans (hb2.mono hB1.size)
  have b42 := b41.below hb2 b41.lt
  have c0 := b42.cell 0 rfl
  have c1 := b42.cell 1 rfl
  have d0 := b42.frozen 0
  have d1 := b42.frozen 1
  clear hb2 b41
  go_wp2_with fail
  have BF := (b42.set 0 (.string px)).set 1 (.string py)
  have hBF := (hB2.setCell (p := ⟨w.heap.size, 0, none⟩) (Nat.le_refl _) (.string px)).setCell (p := ⟨w.heap.size, 1, none⟩) (Nat.le_refl _) (.string py)
  have g0 := BF.cell 0 rfl
  have g1 := BF.cell 1 rfl
  exact bodyPost_ret (v := .agg #[.string px, .string py]) (by simp [results, Tryz.results42, go_sem, g0, g1]) rfl ⟨_, rfl, rfl, hBF⟩

theorem gridAt_any (a b : Rat) (k : Nat) (hk : 0 < k) (hk2 : k ≤ 1000) (ha : Sz k a) (hb : Sz k b) (n i : Nat) (hn : 0 < n) (hn2 : n ≤ 15) (hi : i ≤ n) (w : World) (hg : Good w) :
    Calls Tryz.prog 100 #[.string (RS a), .string (RS b), .int .i64 (i : Int), .int .i64 (n : Int)] w (Ret (fun r _ => r = .string (RS (gridX a b n i))) w) := by
  have h1 : Sz 2 (mkRat i n) := Sz.mkRat (by omega) (by omega) (by omega)
  have hd := hb.sub ha
  have hm := h1.mul hd
  have H0 : Hid (∀ w, Good w → _) := fun w hg => ratOf_any (i : Int) (n : Int) (i : Int) n (n : Int) rfl hn (by omega) (by omega) (.inl ⟨rfl, rfl⟩) w hg
  have H1 : Hid (∀ w, Good w → _) := fun w hg => ratSub_any b a k hk (by omega) hb ha w hg
  have H2 : Hid (∀ w, Good w → _) := fun w hg => ratMul_any (mkRat i n) (b - a) (2 * k + 3) (by omega) (by omega) (h1.mono (by omega)) (hd.mono (by omega)) w hg
  have H3 : Hid (∀ w, Good w → _) := fun w hg => ratAdd_any a (mkRat i n * (b - a)) (3 * k + 3) (by omega) (by omega) (ha.mono (by omega)) (hm.mono (by omega)) w hg
  unfold gridX
  generalize RS (a + mkRat i n * (b - a)) = s3 at *
  generalize RS (mkRat i n * (b - a)) = s2 at *
  generalize RS (mkRat i n) = s0 at *
  generalize RS (b - a) = s1 at *
  generalize RS a = sa at *
  generalize RS b = sb at *
  clear ha hb h1 hd hm hi hn hn2
  go_enter Tryz.func100, Tryz.ntmps100
  go_wp2_with fail
  refine (H0.out w hg).mono ?_
  rintro e w1 ⟨_, rfl, rfl, hb1⟩
  go_wp2_with fail
  refine (H1.out w1 (hg.below hb1)).mono ?_
  rintro e w2 ⟨_, rfl, rfl, hb2⟩
  have hB2 := hb1.trans (hb2.mono hb1.size)
  go_wp2_with fail
  refine (H2.out w2 (hg.below hB2)).mono ?_
  rintro e w3 ⟨_, rfl, rfl, hb3⟩
  have hB3 := hB2.trans (hb3.mono hB2.size)
  go_wp2_with fail
  refine (H3.out w3 (hg.below hB3)).mono ?_
  rintro e w4 ⟨_, rfl, rfl, hb4⟩
  have hB4 := hB3.trans (hb4.mono hB3.size)
  go_wp2_with fail
  go_ret
  exact ⟨_, rfl, rfl, hB4⟩

theorem info_Tri : ((Tryz.prog).info? 51).map (fun i => (i.zero, i.size, i.bytes)) = some (some (.agg #[.int .i64 0, .int .i64 0, .int .i64 0]), 3, 24) := by kernel_rfl
theorem cell_six (w : World) (a b c d e f : Value) (E : Nat) : ∀ (j : Nat) (u : Value), [a, b, c, d, e, f][j]? = some u → (w.alloc (.cells #[a, b, c, d, e, f] E)).cell? ((⟨w.heap.size, 0, none⟩ : Addr).add j) = some u := World.news_of_block (cs := #[a, b, c, d, e, f]) (t := E) (fr := (0, 0)) (World.alloc_heap_new w _)
theorem six_int (a b c d e f : Int) : ∀ u ∈ [Value.int .i64 a, .int .i64 b, .int .i64 c, .int .i64 d, .int .i64 e, .int .i64 f], u.oneCell' = true := by
  intro u hu; simp at hu; rcases hu with rfl | rfl | rfl | rfl | rfl | rfl <;> rfl
set_option maxHeartbeats 8000000 in
set_option maxRecDepth 100000 in
theorem grid_any (lx ly hx hy : Rat) (k : Nat) (hk : 0 < k) (hk2 : 3 * k + 4 ≤ 200) (s1 : Sz k lx) (s2 : Sz k ly) (s3 : Sz k hx) (s4 : Sz k hy) (hlx : lx < hx) (hly : ly < hy) (c r : Nat) (hc : 1 ≤ c) (hc2 : c ≤ 15) (hr : 1 ≤ r) (hr2 : r ≤ 15) (w : World) (hg : Good w) :
    Calls Tryz.prog 41 #[.agg #[.string (RS lx), .string (RS ly)], .agg #[.string (RS hx), .string (RS hy)], .int .i64 (c : Int), .int .i64 (r : Int)] w
      (Ret (fun r' w' => ∃ vp vt, r' = .tuple #[.agg #[vp, vt], .int .i64 0] ∧ RdP w' vp (strP (gridP lx ly hx hy c r)) ∧ RdT w' vt (gridT c r)) w) := by
  obtain ⟨i0, hi, hz0, hz1, hz2⟩ := info_parts info_Point
  obtain ⟨i1, hj, hy0, hy1, hy2⟩ := info_parts info_Tri
  have HCL : Hid (∀ w, Good w → _) := fun w hg => cpt_ok (lx, ly) k ⟨s1, s2⟩ hk (by omega) w hg
  have HCH : Hid (∀ w, Good w → _) := fun w hg => cpt_ok (hx, hy) k ⟨s3, s4⟩ hk (by omega) w hg
  have HAX : Hid (∀ i, i ≤ c → ∀ w, Good w → _) := fun i hi w hg => gridAt_any lx hx k hk (by omega) s1 s3 c i (by omega) hc2 hi w hg
  have HAY : Hid (∀ i, i ≤ r → ∀ w, Good w → _) := fun i hi w hg => gridAt_any ly hy k hk (by omega) s2 s4 r i (by omega) hr2 hi w hg
  have HCP : Hid (∀ i j, i ≤ c → j ≤ r → ∀ w, Good w → _) := fun i j hi hj w hg => cpt_ok (gridX lx hx c i, gridX ly hy r j) (3 * k + 4) ⟨gridX_Sz s1 s3 c i (by omega) hc2 hi, gridX_Sz s2 s4 r j (by omega) hr2 hj⟩ (by omega) hk2 w hg
  have cx : cmpQ lx hx = -1 := by unfold cmpQ; rw [if_pos hlx]
  have cy : cmpQ ly hy = -1 := by unfold cmpQ; rw [if_pos hly]
  have HKX : Hid (∀ w, Good w → Calls Tryz.prog 96 #[.string (RS lx), .string (RS hx)] w (Ret (fun v _ => v = .int .i64 (-1)) w)) := fun w hg => by
    have := ratCompare_any lx hx k hk (by omega) s1 s3 w hg
    rwa [cx] at this
  have HKY : Hid (∀ w, Good w → Calls Tryz.prog 96 #[.string (RS ly), .string (RS hy)] w (Ret (fun v _ => v = .int .i64 (-1)) w)) := fun w hg => by
    have := ratCompare_any ly hy k hk (by omega) s2 s4 w hg
    rwa [cy] at this
  obtain ⟨G, hG⟩ : ∃ G : Nat → List PtQ, G = gridPn lx ly hx hy c r := ⟨_, rfl⟩
  have HG : Hid (∀ j i, i ≤ c → cellsP (strP (G (j * (c + 1) + i + 1))) = cellsP (strP (G (j * (c + 1) + i))) ++ [.string (RS (gridX lx hx c i)), .string (RS (gridX ly hy r j))]) := fun j i hi => by
    rw [hG, gridPn_snoc _ _ _ _ _ _ _ _ hi]
    simp [cellsP, strP]
  have HG0 : Hid (cellsP (strP (G 0)) = []) := by unfold Hid; rw [hG]; rfl
  have HGF : Hid (G ((r + 1) * (c + 1)) = gridP lx ly hx hy c r ∧ (G ((r + 1) * (c + 1))).length = (r + 1) * (c + 1)) := by
    unfold Hid; rw [hG]; exact ⟨rfl, gridPn_length _ _ _ _ _ _ _⟩
  have HT : Hid (∀ j i, i < c → cellsT (gridTn c (j * c + i + 1)) = cellsT (gridTn c (j * c + i)) ++ [.int .i64 (j * (c + 1) + i : Nat), .int .i64 (j * (c + 1) + i + 1 : Nat), .int .i64 (j * (c + 1) + i + c + 2 : Nat), .int .i64 (j * (c + 1) + i : Nat), .int .i64 (j * (c + 1) + i + c + 2 : Nat), .int .i64 (j * (c + 1) + i + c + 1 : Nat)]) := fun j i hi => by
    rw [gridTn_snoc _ _ _ hi]
    simp [cellsT]
  have HTL := Lib.hid (gridTn_length c)
  generalize RS lx = slx at *
  generalize RS ly = sly at *
  generalize RS hx = shx at *
  generalize RS hy = shy at *
  clear hG s1 s2 s3 s4 hlx hly cx cy
  dsimp only at HCL HCH HCP
  go_enter Tryz.func41, Tryz.ntmps41
  go_wp2_with fail
  obtain ⟨W0, hW0⟩ : ∃ W, W = ((w.alloc (.cells #[.string slx, .string sly] 59)).alloc (.cells #[.string shx, .string shy] 59)).alloc (.cells #[.slice none 0 0, .slice none 0 0] 30) := ⟨_, rfl⟩
  have hB0 : Below w.heap.size w W0 := by rw [hW0]; exact (((Below.refl _ _).alloc (Nat.le_refl _) _).alloc (by simp) _).alloc (by simp; omega) _
  have b8 : BoxN W0 (w.heap.size + 2) 30 [.slice none 0 0, .slice none 0 0] := by rw [hW0]; exact BoxN.new _ _ _ _ (by simp)
  have b5 : BoxN W0 (w.heap.size + 1) 59 [.string shx, .string shy] := by
    rw [hW0]
    have h1 := (BoxN.new (w.alloc (.cells #[.string slx, .string sly] 59)) #[.string shx, .string shy] 59 (w.heap.size + 1) (by simp))
    exact h1.below ((Below.refl _ _).alloc (Nat.le_refl _) _) h1.lt
  have b4 : BoxN W0 w.heap.size 59 [.string slx, .string sly] := by
    rw [hW0]
    have h1 := (BoxN.new w #[.string slx, .string sly] 59 _ rfl)
    exact (h1.below ((Below.refl _ _).alloc (Nat.le_refl _) _) h1.lt).below ((Below.refl _ _).alloc (Nat.le_refl _) _) (by simp; omega)
  rw [← hW0]
  clear hW0
  refine (HCL.out W0 (hg.below hB0)).mono ?_
  rintro e w1 ⟨_, rfl, rfl, hb1⟩
  have hB1 := hB0.trans (hb1.mono hB0.size)
  have b81 := b8.below hb1 b8.lt
  have b51 := b5.below hb1 b5.lt
  have b41 := b4.below hb1 b4.lt
  clear hb1 hB0 b8 b5 b4
  have x0 := b51.cell 0 rfl
  have x1 := b51.cell 1 rfl
  go_wp2_with fail
  refine (HCH.out w1 (hg.below hB1)).mono ?_
  rintro e w2 ⟨_, rfl, rfl, hb2⟩
  have hB2 := hB1.trans (hb2.mono hB1.size)
  have b82 := b81.below hb2 b81.lt
  have b52 := b51.below hb2 b51.lt
  have b42 := b41.below hb2 b41.lt
  clear hb2 hB1 b81 b51 b41 x0 x1
  have x0 := b52.cell 0 rfl
  have y0 := b42.cell 0 rfl
  go_wp2_with fail
  refine (HKX.out w2 (hg.below hB2)).mono ?_
  rintro e w3 ⟨_, rfl, rfl, hb3⟩
  have hB3 := hB2.trans (hb3.mono hB2.size)
  have b83 := b82.below hb3 b82.lt
  have b53 := b52.below hb3 b52.lt
  have b43 := b42.below hb3 b42.lt
  clear hb3 hB2 b82 b52 b42 x0 y0
  have x1 := b53.cell 1 rfl
  have y1 := b43.cell 1 rfl
  go_wp2_with fail
  refine (HKY.out w3 (hg.below hB3)).mono ?_
  rintro e w4 ⟨_, rfl, rfl, hb4⟩
  have hB4 := hB3.trans (hb4.mono hB3.size)
  have b84 := b83.below hb4 b83.lt
  have b54 := b53.below hb4 b53.lt
  have b44 := b43.below hb4 b43.lt
  clear hb4 hB3 b83 b53 b43 x1 y1
  have hcz1 : (1 : Int) ≤ (c : Int) := by omega
  have hcz2 : (c : Int) ≤ 15 := by omega
  have hrz1 : (1 : Int) ≤ (r : Int) := by omega
  have hrz2 : (r : Int) ≤ 15 := by omega
  go_wp2_with fail
  obtain ⟨W, hW⟩ : ∃ W, W = w4.alloc (.cells #[.slice none 0 0, .slice none 0 0] 30) := ⟨_, rfl⟩
  have hbW : Below w4.heap.size w4 W := by rw [hW]; exact (Below.refl _ _).alloc (Nat.le_refl _) _
  have bm : BoxN W w4.heap.size 30 [.slice none 0 0, .slice none 0 0] := by rw [hW]; exact BoxN.new _ _ _ _ rfl
  have hWz : W.heap.size = w4.heap.size + 1 := by rw [hW]; simp
  have hBW := hB4.trans (hbW.mono hB4.size)
  have B8 := Lib.hid (b84.below hbW b84.lt)
  have B5 := Lib.hid (b54.below hbW b54.lt)
  have B4 := Lib.hid (b44.below hbW b44.lt)
  have hM4 : w.heap.size + 2 < w4.heap.size := b84.lt
  have HWZ := Lib.hid hWz
  have hWz1 : w4.heap.size < W.heap.size := by omega
  rw [← hW]
  clear hW hbW hB4 b84 b54 b44 hWz
  go_loopw [63] (fun t63 wr => ∃ (j n : Nat) (v : Value), t63 = .int .i64 j ∧ j ≤ r + 1 ∧ Hid (n = j * (c + 1)) ∧ n ≤ 16 * j ∧ BoxN wr w4.heap.size 30 [v, .slice none 0 0] ∧ wr.ownsRow W.heap.size 59 2 v n (cellsP (strP (G n))) ∧ W.grownBy wr (some w4.heap.size)) (fun t63 _ => r + 1 - (RowKit.intOf t63).toNat)
  case atStart => exact ⟨0, 0, _, rfl, Nat.zero_le _, (by unfold Hid; simp), Nat.le_refl _, bm, by rw [HG0.out]; exact World.ownsRow_nil _ _ _ _, gb_refl _ _⟩
  case round =>
    obtain ⟨j, n, v, rfl, hjr, HN, hn16, bmr, hown, hgb⟩ := hrel
    rcases Nat.lt_or_ge j (r + 1) with h | h
    · have hjz : (j : Int) < (r : Int) + 1 := by omega
      obtain ⟨wo, hwo⟩ : ∃ wo : World, wo = wr := ⟨_, rfl⟩
      subst hwo
      go_wp2_with fail
      go_loopw [68] (fun t68 wr => ∃ (i : Nat) (v : Value), t68 = .int .i64 i ∧ i ≤ c + 1 ∧ BoxN wr w4.heap.size 30 [v, .slice none 0 0] ∧ wr.ownsRow W.heap.size 59 2 v (n + i) (cellsP (strP (G (n + i)))) ∧ W.grownBy wr (some w4.heap.size)) (fun t68 _ => c + 1 - (RowKit.intOf t68).toNat)
      case atStart => exact ⟨0, _, rfl, Nat.zero_le _, bmr, hown, hgb⟩
      case round =>
        clear bmr hown hgb
        obtain ⟨i, v, rfl, hic, bmr, hown, hgb⟩ := hrel
        obtain ⟨p5, c5, rfl⟩ := ownsRow_shape hown
        rcases Nat.lt_or_ge i (c + 1) with h2 | h2
        · have hiz : (i : Int) < (c : Int) + 1 := by omega
          have HQ : Hid (cellsP (strP (G (n + i + 1))) = cellsP (strP (G (n + i))) ++ [.string (RS (gridX lx hx c i)), .string (RS (gridX ly hy r j))]) := by
            unfold Hid; rw [HN.out]; exact HG.out j i (by omega)
          have HX := Lib.hid (HAX.out i (by omega))
          have HY := Lib.hid (HAY.out j (by omega))
          have HC := Lib.hid (HCP.out i j (by omega) (by omega))
          generalize RS (gridX lx hx c i) = px at *
          generalize RS (gridX ly hy r j) = py at *
          have b5r := B5.out.gb hgb (by intro e; injection e with e; omega)
          have b4r := B4.out.gb hgb (by intro e; injection e with e; omega)
          have hbr : Below w.heap.size w wr := below_gb hBW hgb (by omega)
          have hzr := hgb.size
          clear HAX HAY HCP
          go_upto_region 15 with fail
          go_cut [14] (fun s14 wx => ∃ b14 : Nat, s14 = .pointer (some ⟨b14, 0, none⟩) ∧ wr.heap.size ≤ b14 ∧ BoxN wx b14 59 [.string px, .string py] ∧ Below wr.heap.size wr wx)
          case first =>
            have HF : Hid (∀ w', Below wr.heap.size wr w' → w'.cell? ⟨w.heap.size, 0, none⟩ = some (.string slx) ∧ w'.cell? ⟨w.heap.size, 1, none⟩ = some (.string sly) ∧ w'.cell? ⟨w.heap.size + 1, 0, none⟩ = some (.string shx) ∧ w'.cell? ⟨w.heap.size + 1, 1, none⟩ = some (.string shy)) := fun w' hb => by
              have y1 := b4r.below hb b4r.lt
              have y2 := b5r.below hb b5r.lt
              exact ⟨y1.cell 0 rfl, y1.cell 1 rfl, y2.cell 0 rfl, y2.cell 1 rfl⟩
            have HGD : Hid (∀ w', Below wr.heap.size wr w' → Good w') := fun w' hb => (hg.below hbr).below hb
            have b0 : Below wr.heap.size wr wr.drew := below_drewN wr 1
            have HZZ : Hid (∀ w' : World, BoxN (w'.alloc (.cells #[.string ⟨#[]⟩, .string ⟨#[]⟩] 59)) w'.heap.size 59 [.string ⟨#[]⟩, .string ⟨#[]⟩]) := fun w' => BoxN.new _ _ _ _ rfl
            have HAA : Hid (∀ (w' : World) (o : Obj), Below wr.heap.size wr w' → Below wr.heap.size wr (w'.alloc o)) := fun w' o hb => hb.alloc hb.size _
            have HSC : Hid (∀ (w' : World) (b i : Nat) (v : Value), wr.heap.size ≤ b → Below wr.heap.size wr w' → Below wr.heap.size wr (w'.setCell ⟨b, i, none⟩ v)) := fun w' b i v hb h => h.setCell (p := ⟨b, i, none⟩) hb v
            have HTR : Hid (∀ w' w'', Below wr.heap.size wr w' → Below w'.heap.size w' w'' → Below wr.heap.size wr w'') := fun w' w'' h1 h2 => h1.trans (h2.mono h1.size)
            have h0a := (HAA.out _ (.cells #[.string ⟨#[]⟩, .string ⟨#[]⟩] 59) (Below.refl _ wr)).drew
            have g0 := HGD.out _ b0
            have g0a := HGD.out _ h0a
            clear hown bmr hgb b4r b5r hbr hBW
            go_region_held3 (fun w' => w'.cell? ⟨w.heap.size, 0, none⟩ = some (.string slx) ∧ w'.cell? ⟨w.heap.size, 1, none⟩ = some (.string sly) ∧ w'.cell? ⟨w.heap.size + 1, 0, none⟩ = some (.string shx) ∧ w'.cell? ⟨w.heap.size + 1, 1, none⟩ = some (.string shy))
              ((refine HF.out _ ?_; first | with_reducible assumption | exact (HAA.out _ _ (by with_reducible assumption)).drew | exact HAA.out _ _ (by with_reducible assumption) | (iterate 2 (refine HSC.out _ _ _ _ (by omega) ?_)); with_reducible assumption))
              (first
                | (go_at_call 100; (first | with_reducible refine (HY.out _ g4).mono ?_ | with_reducible refine (HY.out _ g4a).mono ?_); rintro e v5 ⟨_, rfl, rfl, hb5⟩
                   have h5 : Below wr.heap.size wr v5 := by first | exact HTR.out _ _ h4 hb5 | exact HTR.out _ _ h4a hb5
                   have hs5 := h5.size
                   try have bz5 := bz4.below hb5 bz4.lt
                   try have bz5 := (HZZ.out v4).below hb5 (by simp)
                   try have q0 := bz5.cell 0 rfl
                   try have q1 := bz5.cell 1 rfl
                   try have e0 := bz5.frozen 0
                   try have e1 := bz5.frozen 1)
                | (go_at_call 100; (first | with_reducible refine (HX.out _ g0).mono ?_ | with_reducible refine (HX.out _ g0a).mono ?_); rintro e v4 ⟨_, rfl, rfl, hb4⟩
                   have h4 : Below wr.heap.size wr v4 := by first | exact HTR.out _ _ b0 hb4 | exact HTR.out _ _ h0a hb4
                   have h4a := HAA.out _ (.cells #[.string ⟨#[]⟩, .string ⟨#[]⟩] 59) h4
                   have g4 := HGD.out _ h4
                   have g4a := HGD.out _ h4a
                   have hs4 := h4.size
                   try have bz4 := (HZZ.out wr).drew.below hb4 (by simp)))
            · go_wp2_with fail
              go_meet
              exact ⟨_, rfl, hs5, BoxN.new _ _ _ _ rfl, HAA.out _ _ h5⟩
            · go_wp2_with fail
              go_meet
              exact ⟨_, rfl, hs4, (bz5.set 0 _).set 1 _, HSC.out _ _ _ _ hs4 (HSC.out _ _ _ _ hs4 h5)⟩
            · go_wp2_with fail
              go_meet
              exact ⟨_, rfl, Nat.le_refl _, (bz5.set 0 _).set 1 _, HSC.out _ _ _ _ (Nat.le_refl _) (HSC.out _ _ _ _ (Nat.le_refl _) h5)⟩
          case rest =>
            obtain ⟨b14, rfl, hb14, x14, hbx⟩ := hcut
            have hownx := World.ownsRow.belowAll hown hbx
            have hgbx := gb_below hgb hbx
            have bmx := bmr.below hbx bmr.lt
            have hgx : Good wc := (hg.below hbr).below hbx
            have k0 := x14.cell 0 rfl
            have k1 := x14.cell 1 rfl
            clear hbx hgb hown bmr b4r b5r hbr HX HY
            go_wp2_with fail
            refine (HC.out wc hgx).mono ?_
            rintro e w6 ⟨_, rfl, rfl, hb6⟩
            have hown6 := World.ownsRow.belowAll hownx hb6
            have hgb6 := gb_below hgbx hb6
            have bm6 := bmx.below hb6 bmx.lt
            have x146 := x14.below hb6 x14.lt
            have m0 := bm6.cell 0 rfl
            have m0f := bm6.frozen 0
            have l0 := x146.cell 0 rfl
            have l1 := x146.cell 1 rfl
            have hz6 := hgb6.size
            have hbm6 := bm6.lt
            clear hb6 hgbx hownx bmx x14 k0 k1 HC hgx
            go_wp2_with (at_builtin; refine wpList_append_own _ rfl _ _ 27 rfl W.heap.size 59 i0 (.agg #[.string ⟨#[]⟩, .string ⟨#[]⟩]) 2 32 Tryz.underlying27 hi hz0 hz1 hz2 rfl (by decide) _ _ _ rfl (hown6.alloc _) ⟨w6.heap.size, 0, none⟩ 1 1 [.string px, .string py] rfl rfl (cell_two _ _ _ _) (two_str _ _) (by unfold maxLen; omega) (by omega) (by simp; omega) ?_
                         intro v7 w7 hown7 hgrow7 _
                         have hne7 : some w4.heap.size ≠ (Value.slice p5 (n + i) c5).ownBlock := fun e => by have := (hown6.lt _ e.symm).1; omega
                         have m07 := (hgrow7.cell_far ⟨w4.heap.size, 0, none⟩ (by simp; omega) hne7).trans (cell_alloc_l _ m0)
                         have m07f := (hgrow7.frozen_far ⟨w4.heap.size, 0, none⟩ (by simp; omega) hne7).trans (frozen_alloc_l _ m0 m0f)
                         have bm7 : BoxN w7 w4.heap.size 30 [.slice p5 (n + i) c5, .slice none 0 0] := (hgrow7.block w4.heap.size (by simp; omega) hne7).trans (bm6.below ((Below.refl _ _).alloc (Nat.le_refl _) _) bm6.lt)
                         have hgb7 : W.grownBy w7 (some w4.heap.size) := gb_grown (gb_alloc hgb6 _) hgrow7 (fun j hj => by have := (hown6.lt j hj).1; omega)
                         obtain ⟨p7, c7, rfl⟩ := ownsRow_shape hown7
                         clear hgrow7 m0 m0f)
            go_roundw
            case rel => exact ⟨i + 1, _, by go_num, by omega, bm7.set 0 _, by rw [show n + (i + 1) = n + i + 1 by omega, HQ.out]; exact ownsRow_setCell_below hown7 (by show w4.heap.size < W.heap.size; omega) _, gb_set hgb7 0 _⟩
            case measure =>
              show c + 1 - ((i : Int) + 1).toNat < c + 1 - (i : Int).toNat
              omega
        · obtain rfl : i = c + 1 := by omega
          go_wp2_with fail
          go_roundw
          case rel => exact ⟨j + 1, n + (c + 1), _, by go_num, by omega, (by unfold Hid; rw [HN.out, Nat.add_mul, Nat.one_mul]), by omega, bmr, hown, hgb⟩
          case measure =>
            show r + 1 - ((j : Int) + 1).toNat < r + 1 - (j : Int).toNat
            omega
    · have HJ : Hid (j = r + 1) := by unfold Hid; omega
      have hjge : (r : Int) + 1 ≤ (j : Int) := by omega
      obtain ⟨p5, c5, rfl⟩ := ownsRow_shape hown
      have HRP : Hid (RdP wr (.slice p5 n c5) (strP (gridP lx ly hx hy c r))) := by
        have h1 : RdC 2 wr (.slice p5 n c5) n (cellsP (strP (G n))) := RdC.of_owns hown
        obtain ⟨g1, g2⟩ := HGF.out
        have hn' := HN.out
        have hj' := HJ.out
        subst hj'
        subst hn'
        rw [g1] at h1 g2
        unfold Hid RdP
        rw [strP_length, g2]
        exact h1
      obtain ⟨W2, hW2⟩ : ∃ W2 : World, W2 = wr := ⟨_, rfl⟩
      subst hW2
      have hMz := bmr.lt
      have hgb0 := Lib.hid hgb
      have hz2 := hgb.size
      have BMR0 := Lib.hid bmr
      clear hown hgb HAX HAY HCP HG HG0 HGF HN h hn16 HCL HCH HKX HKY
      go_wp2_with fail
      go_loopw [101] (fun t101 wr => ∃ (j n2 : Nat) (v : Value), t101 = .int .i64 j ∧ j ≤ r ∧ Hid (n2 = j * c) ∧ n2 ≤ 15 * j ∧ BoxN wr w4.heap.size 30 [.slice p5 n c5, v] ∧ wr.ownsRow W2.heap.size 51 3 v (2 * n2) (cellsT (gridTn c n2)) ∧ W2.grownBy wr (some w4.heap.size)) (fun t101 _ => r - (RowKit.intOf t101).toNat)
      case atStart => exact ⟨0, 0, _, rfl, Nat.zero_le _, (by unfold Hid; simp), Nat.le_refl _, bmr, World.ownsRow_nil _ _ _ _, gb_refl _ _⟩
      case round =>
        obtain ⟨j, n2, v, rfl, hjr, HN, hn16, bmr, hown, hgb⟩ := hrel
        rcases Nat.lt_or_ge j r with h | h
        · have hjz : (j : Int) < (r : Int) := by omega
          obtain ⟨wo, hwo⟩ : ∃ wo : World, wo = wr := ⟨_, rfl⟩
          subst hwo
          obtain ⟨jc, hjc⟩ : ∃ jc : Nat, jc = j * (c + 1) := ⟨_, rfl⟩
          have hjcb : jc ≤ 16 * j := by rw [hjc, Nat.mul_comm 16]; exact Nat.mul_le_mul_left _ (by omega)
          have hjcz : (j : Int) * ((c : Int) + 1) = (jc : Int) := by rw [hjc]; push_cast; rfl
          have HJC := Lib.hid hjc
          clear hjc
          go_wp2_with fail
          go_loopw [105] (fun t105 wr => ∃ (i : Nat) (v : Value), t105 = .int .i64 i ∧ i ≤ c ∧ BoxN wr w4.heap.size 30 [.slice p5 n c5, v] ∧ wr.ownsRow W2.heap.size 51 3 v (2 * (n2 + i)) (cellsT (gridTn c (n2 + i))) ∧ W2.grownBy wr (some w4.heap.size)) (fun t105 _ => c - (RowKit.intOf t105).toNat)
          case atStart => exact ⟨0, _, rfl, Nat.zero_le _, bmr, hown, hgb⟩
          case round =>
            clear bmr hown hgb
            obtain ⟨i, v, rfl, hic, bmr, hown, hgb⟩ := hrel
            obtain ⟨q5, d5, rfl⟩ := ownsRow_shape hown
            rcases Nat.lt_or_ge i c with h2 | h2
            · have hiz : (i : Int) < (c : Int) := by omega
              have HQ : Hid (cellsT (gridTn c (n2 + i + 1)) = cellsT (gridTn c (n2 + i)) ++ [.int .i64 ((jc : Int) + (i : Int)), .int .i64 ((jc : Int) + (i : Int) + 1), .int .i64 ((jc : Int) + (i : Int) + (c : Int) + 1 + 1), .int .i64 ((jc : Int) + (i : Int)), .int .i64 ((jc : Int) + (i : Int) + (c : Int) + 1 + 1), .int .i64 ((jc : Int) + (i : Int) + (c : Int) + 1)]) := by
                unfold Hid
                rw [HN.out, HT.out j i h2, HJC.out]
                simp only [Int.natCast_add, Int.cast_ofNat_Int, Int.add_assoc]
                rfl
              have m1 := bmr.cell 1 rfl
              have m1f := bmr.frozen 1
              have hz6 := hgb.size
              have hbm6 := bmr.lt
              go_wp2_with (at_builtin; refine wpList_append_own _ rfl _ _ 28 rfl W2.heap.size 51 i1 (.agg #[.int .i64 0, .int .i64 0, .int .i64 0]) 3 24 Tryz.underlying28 hj hy0 hy1 hy2 rfl (by decide) _ _ _ rfl (hown.alloc _) ⟨wr.heap.size, 0, none⟩ 2 2 [.int .i64 ((jc : Int) + (i : Int)), .int .i64 ((jc : Int) + (i : Int) + 1), .int .i64 ((jc : Int) + (i : Int) + (c : Int) + 1 + 1), .int .i64 ((jc : Int) + (i : Int)), .int .i64 ((jc : Int) + (i : Int) + (c : Int) + 1 + 1), .int .i64 ((jc : Int) + (i : Int) + (c : Int) + 1)] rfl rfl (cell_six _ _ _ _ _ _ _ _) (six_int _ _ _ _ _ _) (by unfold maxLen; omega) (by omega) (by simp; omega) ?_
                           intro v7 w7 hown7 hgrow7 _
                           have hne7 : some w4.heap.size ≠ (Value.slice q5 (2 * (n2 + i)) d5).ownBlock := fun e => by have := (hown.lt _ e.symm).1; omega
                           have m07 := (hgrow7.cell_far ⟨w4.heap.size, 1, none⟩ (by simp; omega) hne7).trans (cell_alloc_l _ m1)
                           have m07f := (hgrow7.frozen_far ⟨w4.heap.size, 1, none⟩ (by simp; omega) hne7).trans (frozen_alloc_l _ m1 m1f)
                           have bm7 : BoxN w7 w4.heap.size 30 [.slice p5 n c5, .slice q5 (2 * (n2 + i)) d5] := (hgrow7.block w4.heap.size (by simp; omega) hne7).trans (bmr.below ((Below.refl _ _).alloc (Nat.le_refl _) _) bmr.lt)
                           have hgb7 : W2.grownBy w7 (some w4.heap.size) := gb_grown (gb_alloc hgb _) hgrow7 (fun j hj => by have := (hown.lt j hj).1; omega)
                           obtain ⟨p7, c7, rfl⟩ := ownsRow_shape hown7
                           clear hgrow7 m1 m1f)
              go_roundw
              case rel => exact ⟨i + 1, _, by go_num, by omega, bm7.set 1 _, by rw [show n2 + (i + 1) = n2 + i + 1 by omega, HQ.out, show 2 * (n2 + i + 1) = 2 * (n2 + i) + 2 by omega]; exact ownsRow_setCell_below hown7 (by show w4.heap.size < W2.heap.size; omega) _, gb_set hgb7 1 _⟩
              case measure =>
                show c - ((i : Int) + 1).toNat < c - (i : Int).toNat
                omega
            · obtain rfl : i = c := by omega
              go_wp2_with fail
              go_roundw
              case rel => exact ⟨j + 1, n2 + i, _, by go_num, by omega, (by unfold Hid; rw [HN.out, Nat.add_mul, Nat.one_mul]), by omega, bmr, hown, hgb⟩
              case measure =>
                show r - ((j : Int) + 1).toNat < r - (j : Int).toNat
                omega
        · obtain rfl : j = r := by omega
          obtain ⟨q5, d5, rfl⟩ := ownsRow_shape hown
          have hM := HN.out
          subst hM
          have HRT : Hid (RdT wr (.slice q5 (2 * (j * c)) d5) (gridT c j)) := by
            have h1 : RdC 3 wr (.slice q5 (2 * (j * c)) d5) (2 * (j * c)) (cellsT (gridTn c (j * c))) := RdC.of_owns hown
            unfold Hid RdT gridT
            rw [gridTn_length]
            exact h1
          have hneP : ∀ y ∈ cellsP (strP (gridP lx ly hx hy c j)), ∀ p n c, y ≠ .slice p n c := by
            intro y hy
            unfold cellsP at hy
            obtain ⟨q, _, hq⟩ := List.mem_flatMap.1 hy
            simp at hq
            rcases hq with rfl | rfl <;> simp
          have hneT : ∀ y ∈ cellsT (gridT c j), ∀ p n c, y ≠ .slice p n c := by
            intro y hy
            unfold cellsT at hy
            obtain ⟨q, _, hq⟩ := List.mem_flatMap.1 hy
            simp at hq
            rcases hq with rfl | rfl | rfl <;> simp
          have HRP2 : Hid (RdP wr (.slice p5 n c5) (strP (gridP lx ly hx hy c j))) := RdC.gb HRP.out hgb BMR0.out (fun y hy hm => by
            simp at hm
            rcases hm with rfl | rfl <;> exact hneP _ hy _ _ _ rfl)
          have b8r := (B8.out.gb hgb0.out (by intro e; injection e with e; omega)).gb hgb (by intro e; injection e with e; omega)
          have hBr : Below w.heap.size w wr := below_gb (below_gb hBW hgb0.out (by omega)) hgb (by omega)
          have z0 := bmr.cell 0 rfl
          have z1 := bmr.cell 1 rfl
          have y0 := b8r.cell 0 rfl
          have y1 := b8r.cell 1 rfl
          have y2 := b8r.frozen 0
          have y3 := b8r.frozen 1
          clear hown hgb bmr hgb0 B4 B5 B8 BMR0 HRP
          go_wp2_with fail
          have BF := (b8r.set 0 (.slice p5 n c5)).set 1 (.slice q5 (2 * (j * c)) d5)
          have hle : w.heap.size ≤ w.heap.size + 2 := by omega
          have hBF := (hBr.setCell (p := ⟨w.heap.size + 2, 0, none⟩) hle (.slice p5 n c5)).setCell (p := ⟨w.heap.size + 2, 1, none⟩) hle (.slice q5 (2 * (j * c)) d5)
          have g0 := BF.cell 0 rfl
          have g1 := BF.cell 1 rfl
          have y1' := (b8r.set 0 (.slice p5 n c5)).cell 1 rfl
          exact bodyPost_ret (v := .tuple #[.agg #[.slice p5 n c5, .slice q5 (2 * (j * c)) d5], .int .i64 0]) (by simp [results, Tryz.results41, go_sem, g0, g1]) rfl ⟨_, rfl, ⟨_, _, rfl, RdC.set_other (RdC.set_other HRP2.out y0 (fun y hy => hneP y hy _ _ _)) y1' (fun y hy => hneP y hy _ _ _), RdC.set_other (RdC.set_other HRT.out y0 (fun y hy => hneT y hy _ _ _)) y1' (fun y hy => hneT y hy _ _ _)⟩, hBF⟩

end Go.Proofs.YtdhcliekejiegaaGreatDoor
