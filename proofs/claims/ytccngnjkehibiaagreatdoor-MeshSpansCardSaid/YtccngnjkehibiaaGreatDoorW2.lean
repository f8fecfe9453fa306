/- The walk over mesh.Locate. -/
import Derived.Test.YtccngnjkehibiaaGreatDoorW1
namespace Go.Proofs.YtccngnjkehibiaaGreatDoor
open Go.RowKit Go.Lib

/-- Does the i-th triangle have a place? -/
def insideT (P : List PtQ) (T : List Tri) (p : PtQ) (i : Nat) : Bool :=
  match T[i]? with
  | some tr => insideB (ptI P tr.1) (ptI P tr.2.1) (ptI P tr.2.2) p
  | none => false
/-- The first n triangles that have it. -/
def locN (P : List PtQ) (T : List Tri) (p : PtQ) (n : Nat) : List Int := ((List.range n).filter (insideT P T p)).map fun i : Nat => (i : Int)
theorem locN_step (P : List PtQ) (T : List Tri) (p : PtQ) (n : Nat) : locN P T p (n + 1) = locN P T p n ++ (if insideT P T p n then [(n : Int)] else []) := by
  unfold locN
  rw [List.range_succ, List.filter_append, List.map_append]
  congr 1
  cases h : insideT P T p n <;> simp [h]
theorem locN_length (P : List PtQ) (T : List Tri) (p : PtQ) (n : Nat) : (locN P T p n).length ≤ n := by
  unfold locN
  rw [List.length_map]
  exact Nat.le_trans (List.length_filter_le _ _) (by simp)

set_option maxHeartbeats 4000000 in
set_option maxRecDepth 100000 in
theorem locate_ok (w : World) (vp vt : Value) (P : List PtQ) (T : List Tri) (k : Nat) (hp : RdP w vp (strP P)) (ht : RdT w vt T) (hm : MeshOK P T k) (p : PtQ) (hpz : SzP 200 p) (hg : Good w) :
    Calls Tryz.prog 31 #[.agg #[vp, vt], .agg #[.string (RS p.1), .string (RS p.2)]] w (Ret (fun r w' => ∃ v, r = .tuple #[v, .int .i64 0] ∧ RdI .i64 w' v (locN P T p T.length)) w) := by
  have HER := Lib.hid (hpz.right (Nat.le_refl _))
  have hz1 := hpz.1.size (by omega)
  have hz2 := hpz.2.size (by omega)
  have HCK : Hid (∀ w', Below w.heap.size w w' → Good w' → Calls Tryz.prog 22 #[.agg #[vp, vt]] w' (Ret (fun r _ => r = .int .i64 0) w')) := fun w' hb hg' => check_any w' vp vt P T k (RdC.below hp hb) (RdC.below ht hb) hm hg'
  have HCO : Hid (∀ (i : Nat) (h : i < T.length) (w' : World), Below w.heap.size w w' → Calls Tryz.prog 69 #[.agg #[vp, vt], .int .i64 (i : Int)] w' (Ret (fun r _ => r = .agg #[.string (RS (ptI P T[i].1).1), .string (RS (ptI P T[i].1).2), .string (RS (ptI P T[i].2.1).1), .string (RS (ptI P T[i].2.1).2), .string (RS (ptI P T[i].2.2).1), .string (RS (ptI P T[i].2.2).2)]) w')) :=
    fun i h w' hb => mcorners_any w' vp vt P T k (RdC.below hp hb) (RdC.below ht hb) hm.toMeshIn i i rfl h T[i] rfl
  have HSZ : Hid (∀ (i : Nat) (h : i < T.length), SzP 200 (ptI P T[i].1) ∧ SzP 200 (ptI P T[i].2.1) ∧ SzP 200 (ptI P T[i].2.2)) := fun i h => by
    have hidx := hm.idx T[i] (List.getElem_mem h)
    have key : ∀ z ∈ idxOf T[i], SzP 200 (ptI P z) := fun z hz => by
      obtain ⟨h0, h1⟩ := hidx z hz
      obtain ⟨q, rfl⟩ : ∃ q : Nat, z = (q : Int) := ⟨z.toNat, by omega⟩
      rw [ptI_nat P q (by omega)]
      have := hm.sz _ (List.getElem_mem (show q < P.length by omega))
      exact ⟨this.1.mono hm.klim2, this.2.mono hm.klim2⟩
    exact ⟨key _ (by simp [idxOf]), key _ (by simp [idxOf]), key _ (by simp [idxOf])⟩
  have hpp := hp
  have htt := ht
  obtain ⟨pp, cp, rfl, -, -, -⟩ := hpp.open
  obtain ⟨pt, ct, rfl, -, -, -⟩ := htt.open
  have hn8 : T.length ≤ 800 := hm.tlen
  have HPZ := Lib.hid hpz
  obtain ⟨i0, hi, hzz0, hzz1, hzz2⟩ := info_parts info_i64
  generalize hpx : RS p.1 = px at *
  generalize hpy : RS p.2 = py at *
  have HPX := Lib.hid hpx
  have HPY := Lib.hid hpy
  rw [strP_length] at *
  clear hp ht hm hpp htt hpz hpx hpy
  go_enter Tryz.func31, Tryz.ntmps31
  go_wp2_with fail
  obtain ⟨W, hW⟩ : ∃ W, W = (w.alloc (.cells #[.slice pp P.length cp, .slice pt T.length ct] 34)).alloc (.cells #[.string px, .string py] 24) := ⟨_, rfl⟩
  have hB : Below w.heap.size w W := by rw [hW]; exact ((Below.refl _ _).alloc (Nat.le_refl _) _).alloc (by simp) _
  have e3 : BoxN W (w.heap.size + 1) 24 [.string px, .string py] := by rw [hW]; exact BoxN.new _ _ _ _ (by simp)
  have e2 : BoxN W w.heap.size 34 [.slice pp P.length cp, .slice pt T.length ct] := by
    rw [hW]
    have h1 := (BoxN.new w #[.slice pp P.length cp, .slice pt T.length ct] 34 _ rfl)
    exact h1.below ((Below.refl _ _).alloc (Nat.le_refl _) _) h1.lt
  rw [← hW]
  clear hW
  refine (HCK.out W hB (hg.below hB)).mono ?_
  rintro e w1 ⟨_, rfl, rfl, hb1⟩
  have hB1 := hB.trans (hb1.mono hB.size)
  have e21 := e2.below hb1 e2.lt
  have e31 := e3.below hb1 e3.lt
  have y0 := e31.cell 0 rfl
  have y1 := e31.cell 1 rfl
  clear hb1 hB e2 e3
  go_wp2_with fail
  refine (checkPoint_any px py (by omega) (by omega) w1 (hg.below hB1)).mono ?_
  rw [HER.out]
  rintro e w2 ⟨_, rfl, rfl, hb2⟩
  have hB2 := hB1.trans (hb2.mono hB1.size)
  have e22 := e21.below hb2 e21.lt
  have e32 := e31.below hb2 e31.lt
  have hz3 := e32.lt
  have x1 := e22.cell 1 rfl
  clear hb2 hB1 e21 e31 y0 y1
  go_wp2_with fail
  go_loopw [7, 20] (fun t7 t20 wr => ∃ (i m : Nat), t20 = .int .i64 i ∧ i ≤ T.length ∧ m ≤ i ∧ Hid ((locN P T p i).length = m) ∧ wr.ownsRow w2.heap.size 3 1 t7 m ((locN P T p i).map fun x => Value.int .i64 x) ∧ Below w2.heap.size w2 wr) (fun _ t20 _ => T.length - (RowKit.intOf t20).toNat)
  case atStart => exact ⟨0, 0, rfl, Nat.zero_le _, Nat.le_refl _, rfl, World.ownsRow_nil _ _ _ _, Below.refl _ _⟩
  case round =>
    obtain ⟨i, m, rfl, hin, hmi, HL, hown, hbr⟩ := hrel
    obtain ⟨p7, c7, rfl⟩ := ownsRow_shape hown
    have hzr := hbr.size
    rcases Nat.lt_or_ge i T.length with h | h
    · have HST := Lib.hid (locN_step P T p i)
      have HIT : Hid (insideT P T p i = insideB (ptI P T[i].1) (ptI P T[i].2.1) (ptI P T[i].2.2) p) := by unfold Hid insideT; rw [List.getElem?_eq_getElem h]
      obtain ⟨s1, s2, s3⟩ := HSZ.out i h
      have hbW : Below w.heap.size w wr := hB2.trans (hbr.mono hB2.size)
      have hbd : Below w.heap.size w wr.drew := hbW.trans ((below_drewN wr 1).mono hbW.size)
      have HC : Hid (∀ w', Below w.heap.size w w' → _) := fun w' hb => HCO.out i h w' hb
      have HI : Hid (∀ w', Good w' → _) := fun w' hg' => inside_any (ptI P T[i].1) (ptI P T[i].2.1) (ptI P T[i].2.2) p 200 (by omega) (by omega) s1 s2 s3 HPZ.out w' hg'
      rw [HPX.out, HPY.out] at HI
      generalize insideB (ptI P T[i].1) (ptI P T[i].2.1) (ptI P T[i].2.2) p = bi at *
      generalize RS (ptI P T[i].1).1 = q1 at *
      generalize RS (ptI P T[i].1).2 = q2 at *
      generalize RS (ptI P T[i].2.1).1 = q3 at *
      generalize RS (ptI P T[i].2.1).2 = q4 at *
      generalize RS (ptI P T[i].2.2).1 = q5 at *
      generalize RS (ptI P T[i].2.2).2 = q6 at *
      have a0 := (hbr.cell (p := ⟨w.heap.size, 0, none⟩) e22.lt).trans (e22.cell 0 rfl)
      have a1 := (hbr.cell (p := ⟨w.heap.size, 1, none⟩) e22.lt).trans (e22.cell 1 rfl)
      have b0 := (hbr.cell (p := ⟨w.heap.size + 1, 0, none⟩) e32.lt).trans (e32.cell 0 rfl)
      have b1 := (hbr.cell (p := ⟨w.heap.size + 1, 1, none⟩) e32.lt).trans (e32.cell 1 rfl)
      have hz2' := e22.lt
      have hiT : (i : Int) < (T.length : Int) := by omega
      have hgd : Good wr.drew := (hg.below hbW).drewN 1
      clear s1 s2 s3 x1
      go_upto_region 10 with fail
      go_region_held3 (fun w' => w'.cell? ⟨w.heap.size, 0, none⟩ = some (.slice pp P.length cp) ∧ w'.cell? ⟨w.heap.size, 1, none⟩ = some (.slice pt T.length ct) ∧ w'.cell? ⟨w.heap.size + 1, 0, none⟩ = some (.string px) ∧ w'.cell? ⟨w.heap.size + 1, 1, none⟩ = some (.string py))
        (first | exact ⟨a0, a1, b0, b1⟩ | exact ⟨p_1_0, p_1_1, p_1_2, p_1_3⟩ | exact ⟨p_2_0, p_2_1, p_2_2, p_2_3⟩)
        (first
        | (go_at_call 82; refine (HI.out _ pg1).mono ?_; rintro e pw2 ⟨_, rfl, rfl, pb2⟩
           have p_2_0 := (pb2.cell (p := ⟨w.heap.size, 0, none⟩) (by show w.heap.size < pw1.heap.size; omega)).trans p_1_0
           have p_2_1 := (pb2.cell (p := ⟨w.heap.size, 1, none⟩) (by show w.heap.size < pw1.heap.size; omega)).trans p_1_1
           have p_2_2 := (pb2.cell (p := ⟨w.heap.size + 1, 0, none⟩) (by show w.heap.size + 1 < pw1.heap.size; omega)).trans p_1_2
           have p_2_3 := (pb2.cell (p := ⟨w.heap.size + 1, 1, none⟩) (by show w.heap.size + 1 < pw1.heap.size; omega)).trans p_1_3
           have ps2 : pw1.heap.size ≤ pw2.heap.size := pb2.size
           have pg2 : Good pw2 := pg1.below pb2)
        | (go_at_call 69; refine (HC.out _ hbd).mono ?_; rintro e pw1 ⟨_, rfl, rfl, pb1⟩
           have p_1_0 := (pb1.cell (p := ⟨w.heap.size, 0, none⟩) (by show w.heap.size < wr.heap.size; omega)).trans a0
           have p_1_1 := (pb1.cell (p := ⟨w.heap.size, 1, none⟩) (by show w.heap.size < wr.heap.size; omega)).trans a1
           have p_1_2 := (pb1.cell (p := ⟨w.heap.size + 1, 0, none⟩) (by show w.heap.size + 1 < wr.heap.size; omega)).trans b0
           have p_1_3 := (pb1.cell (p := ⟨w.heap.size + 1, 1, none⟩) (by show w.heap.size + 1 < wr.heap.size; omega)).trans b1
           have ps1 : wr.heap.size ≤ pw1.heap.size := pb1.size
           have pg1 : Good pw1 := hgd.below pb1))
      have pB : Below wr.heap.size wr pw2 := (((below_drewN wr 1).trans (pb1.mono (by show wr.heap.size ≤ wr.heap.size; omega))).trans (pb2.mono (by show wr.heap.size ≤ pw1.heap.size; omega)))
      have hown2 := World.ownsRow.belowAll hown pB
      have hbr2 : Below w2.heap.size w2 pw2 := hbr.trans (pB.mono hzr)
      have hz4 := hbr2.size
      have hwo := pB.size
      clear pB pb1 pb2 ps1 ps2 pg1 pg2 p_1_0 p_1_1 p_1_2 p_1_3 p_2_0 p_2_1 p_2_2 p_2_3 a0 a1 b0 b1 hown hbr hgd hbd hbW
      cases bi
      · have HLN : Hid ((locN P T p (i + 1)).length = m) := by unfold Hid; rw [HST.out, HIT.out]; simpa using HL.out
        have HLE : Hid (locN P T p (i + 1) = locN P T p i) := by unfold Hid; rw [HST.out, HIT.out]; simp
        go_wp2_with fail
        go_roundw
        case rel => exact ⟨i + 1, m, by go_num, h, by omega, HLN, by rw [HLE.out]; exact hown2, hbr2⟩
        case measure => simp [RowKit.intOf]; omega
      · have HLN : Hid ((locN P T p (i + 1)).length = m + 1) := by unfold Hid; rw [HST.out, HIT.out]; simpa using HL.out
        have HLE : Hid (locN P T p (i + 1) = locN P T p i ++ [(i : Int)]) := by unfold Hid; rw [HST.out, HIT.out]; simp
        go_wp2_with (at_builtin; refine wpList_append_own _ rfl _ _ 70 rfl w2.heap.size 3 i0 (.int .i64 0) 1 8 Tryz.underlying70 hi hzz0 hzz1 hzz2 rfl (by decide) _ _ _ rfl (hown2.alloc _) ⟨pw2.heap.size, 0, none⟩ 1 1 [.int .i64 i] rfl rfl (cell_one_i64 _ _ _) (one_cell_i64 _) (by unfold maxLen; omega) (by omega) (by simp; omega) ?_
                     intro v3 w3 hown3 hgrow3 _
                     have hzw3 := hgrow3.size
                     have hbr3 : Below w2.heap.size w2 w3 := (hbr2.alloc hz4 _).grown hgrow3 (by simp; omega) (fun j hj => by have := (hown2.lt j hj).1; omega)
                     clear hgrow3)
        go_roundw
        case rel => exact ⟨i + 1, m + 1, by go_num, h, by omega, HLN, by rw [HLE.out, List.map_append]; exact hown3, hbr3⟩
        case measure => simp [RowKit.intOf]; omega
    · obtain rfl : i = T.length := by omega
      have hbW : Below w.heap.size w wr := hB2.trans (hbr.mono hB2.size)
      have hrd : RdI .i64 wr (.slice p7 m c7) (locN P T p T.length) := by
        have h1 : RdC 1 wr (.slice p7 m c7) m ((locN P T p T.length).map fun x => Value.int .i64 x) := RdC.of_owns hown
        unfold RdI
        rw [HL.out]
        exact h1
      go_wp2_with fail
      go_ret2
      exact ⟨_, rfl, ⟨_, rfl, hrd⟩, hbW⟩

end Go.Proofs.YtccngnjkehibiaaGreatDoor
