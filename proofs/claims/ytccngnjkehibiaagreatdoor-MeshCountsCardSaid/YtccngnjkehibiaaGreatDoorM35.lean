/- The walk over mesh.Area. -/
import Derived.Test.YtccngnjkehibiaaGreatDoorM3
import Derived.Test.YtccngnjkehibiaaGreatDoorW1
import Derived.Test.YtccngnjkehibiaaGreatDoorM4
namespace Go.Proofs.YtccngnjkehibiaaGreatDoor
open Go.RowKit Go.Lib

def sumA (P : List PtQ) (T : List Tri) : Nat → Rat
  | 0 => 0
  | n + 1 => sumA P T n + (match T[n]? with | some t => areaQ (ptI P t.1) (ptI P t.2.1) (ptI P t.2.2) | none => 0)
theorem sumA_succ {P : List PtQ} {T : List Tri} {n : Nat} {t : Tri} (h : T[n]? = some t) : sumA P T (n + 1) = sumA P T n + areaQ (ptI P t.1) (ptI P t.2.1) (ptI P t.2.2) := by
  conv => lhs; unfold sumA
  rw [h]
theorem sumA_Sz {P : List PtQ} {T : List Tri} {k : Nat} (hm : MeshOK P T k) (n : Nat) : Sz ((8 * k + 6) * n + 1) (sumA P T n) := by
  induction n with
  | zero => exact (Sz.zero 1 (by omega)).mono (by omega)
  | succ n ih =>
    unfold sumA
    cases h : T[n]? with
    | none =>
      dsimp only
      rw [Rat.add_zero]
      exact ih.mono (by rw [Nat.mul_add]; omega)
    | some t =>
      obtain ⟨z0, z1, z2⟩ := ptI_SzP hm (List.mem_of_getElem? h)
      exact (ih.add (areaQ_Sz z0 z1 z2)).mono (by rw [Nat.mul_add]; omega)

set_option maxHeartbeats 2000000 in
set_option maxRecDepth 100000 in
theorem marea_ok (w : World) (vp vt : Value) (P : List PtQ) (T : List Tri) (k : Nat) (hp : RdP w vp (strP P)) (ht : RdT w vt T) (hm : MeshOK P T k) (h6 : (8 * k + 6) * T.length + 1 ≤ 200) (hg : Good w) :
    Calls Tryz.prog 39 #[.agg #[vp, vt]] w (Ret (fun r _ => r = .tuple #[.string (RS (sumA P T T.length)), .int .i64 0]) w) := by
  have HCK : Hid (∀ w', Below w.heap.size w w' → Good w' → Calls Tryz.prog 22 #[.agg #[vp, vt]] w' (Ret (fun r _ => r = .int .i64 0) w')) := fun w' hb hg' => check_any w' vp vt P T k (RdC.below hp hb) (RdC.below ht hb) hm hg'
  have HMC : Hid (∀ (i : Nat) (tr : Tri), T[i]? = some tr → ∀ w', Below w.heap.size w w' → Calls Tryz.prog 69 #[.agg #[vp, vt], .int .i64 (i : Int)] w' (Ret (fun r _ => r = .agg #[.string (RS (ptI P tr.1).1), .string (RS (ptI P tr.1).2), .string (RS (ptI P tr.2.1).1), .string (RS (ptI P tr.2.1).2), .string (RS (ptI P tr.2.2).1), .string (RS (ptI P tr.2.2).2)]) w')) := fun i tr hti w' hb => by
    obtain ⟨h1, h2⟩ := List.getElem?_eq_some_iff.1 hti
    exact mcorners_any w' vp vt P T k (RdC.below hp hb) (RdC.below ht hb) hm.toMeshIn i (i : Int) rfl h1 tr h2.symm
  have hk0 := hm.kpos
  have HAR : Hid (∀ (i : Nat) (tr : Tri), T[i]? = some tr → ∀ w, Good w → Calls Tryz.prog 80 #[VP (ptI P tr.1), VP (ptI P tr.2.1), VP (ptI P tr.2.2)] w (Ret (fun r _ => r = .string (RS (areaQ (ptI P tr.1) (ptI P tr.2.1) (ptI P tr.2.2)))) w)) := fun i tr hti w hg => by
    obtain ⟨z0, z1, z2⟩ := ptI_SzP hm (List.mem_of_getElem? hti)
    exact area_any _ _ _ k hk0 hm.klim z0 z1 z2 w hg
  have hlen : ∀ n, n ≤ T.length → (8 * k + 6) * n + 1 ≤ 200 := fun n hn => Nat.le_trans (Nat.succ_le_succ (Nat.mul_le_mul_left _ hn)) h6
  have HSA : Hid (∀ n, n ≤ T.length → Sz 200 (sumA P T n)) := fun n hn => (sumA_Sz hm n).mono (hlen n hn)
  have HST : Hid (∀ (i : Nat) (tr : Tri), T[i]? = some tr → sumA P T (i + 1) = sumA P T i + areaQ (ptI P tr.1) (ptI P tr.2.1) (ptI P tr.2.2) ∧ Sz 200 (areaQ (ptI P tr.1) (ptI P tr.2.1) (ptI P tr.2.2))) := fun i tr hti => by
    obtain ⟨z0, z1, z2⟩ := ptI_SzP hm (List.mem_of_getElem? hti)
    have := hlen 1 (by have := (List.getElem?_eq_some_iff.1 hti).1; omega)
    exact ⟨sumA_succ hti, (areaQ_Sz z0 z1 z2).mono (by omega)⟩
  have HS0 : Hid (RS (sumA P T 0) = ⟨#[48]⟩) := RS_zero
  have htl := hm.tlen
  obtain ⟨SA, hSA⟩ : ∃ SA : Nat → Rat, SA = sumA P T := ⟨_, rfl⟩
  rw [← hSA] at HSA HST HS0 ⊢
  obtain ⟨pp, cp, rfl, -, -, -⟩ := hp.open
  obtain ⟨pt, ct, rfl, -, -, -⟩ := ht.open
  rw [strP_length] at *
  clear hp ht hm h6 hlen hSA
  go_enter Tryz.func39, Tryz.ntmps39
  go_wp2_with fail
  obtain ⟨W, hW⟩ : ∃ W, W = w.alloc (.cells #[.slice pp P.length cp, .slice pt T.length ct] 34) := ⟨_, rfl⟩
  have hB : Below w.heap.size w W := by rw [hW]; exact (Below.refl _ _).alloc (Nat.le_refl _) _
  have b1 : BoxN W w.heap.size 34 [.slice pp P.length cp, .slice pt T.length ct] := by rw [hW]; exact BoxN.new _ _ _ _ rfl
  rw [← hW]
  clear hW
  refine (HCK.out W hB (hg.below hB)).mono ?_
  rintro e w1 ⟨_, rfl, rfl, hb1⟩
  have hB1 := hB.trans (hb1.mono hB.size)
  have b11 := b1.below hb1 b1.lt
  have x1 := b11.cell 1 rfl
  clear hb1 hB b1
  go_upto_region 6 with fail
  clear x1
  go_loopw [5, 16] (fun t5 t16 wr => ∃ i : Nat, t16 = .int .i64 i ∧ i ≤ T.length ∧ t5 = .string (RS (SA i)) ∧ Below w1.heap.size w1 wr) (fun _ t16 _ => T.length - (RowKit.intOf t16).toNat)
  case atStart => exact ⟨0, rfl, Nat.zero_le _, by rw [HS0.out], Below.refl _ _⟩
  case round =>
    obtain ⟨i, rfl, hi, rfl, hbr⟩ := hrel
    have hbW := hB1.trans (hbr.mono hB1.size)
    have b1r := b11.below hbr b11.lt
    rcases Nat.lt_or_ge i T.length with h | h
    · obtain ⟨tr, htr⟩ : ∃ tr, T[i]? = some tr := ⟨_, List.getElem?_eq_getElem h⟩
      have HM := Lib.hid (HMC.out i tr htr wr hbW)
      have HA := Lib.hid (HAR.out i tr htr)
      obtain ⟨hst, hzz⟩ := HST.out i tr htr
      have HN := Lib.hid hst
      have HZ := Lib.hid hzz
      have HZI := Lib.hid (HSA.out i hi)
      have hiz : (i : Int) < (T.length : Int) := by omega
      have x0 := b1r.cell 0 rfl
      have x1 := b1r.cell 1 rfl
      unfold VP at HA
      generalize ptI P tr.1 = c0 at *
      generalize ptI P tr.2.1 = c1 at *
      generalize ptI P tr.2.2 = c2 at *
      clear hst hzz htr
      go_wp2_with fail
      refine HM.out.mono ?_
      rintro e w2 ⟨_, rfl, rfl, hb2⟩
      have hbr2 := hbr.trans (hb2.mono hbr.size)
      obtain ⟨o, ho⟩ : ∃ W, W = w2.alloc (.cells #[.string (RS c0.1), .string (RS c0.2), .string (RS c1.1), .string (RS c1.2), .string (RS c2.1), .string (RS c2.2)] 57) := ⟨_, rfl⟩
      have bc : BoxN o w2.heap.size 57 [.string (RS c0.1), .string (RS c0.2), .string (RS c1.1), .string (RS c1.2), .string (RS c2.1), .string (RS c2.2)] := by rw [ho]; exact BoxN.new _ _ _ _ rfl
      have hbo : Below w1.heap.size w1 o := by rw [ho]; exact hbr2.alloc hbr2.size _
      clear x0 x1
      go_upto_region 9 with fail
      rw [← ho]
      clear ho
      have y0 := bc.cell 0 rfl
      have y1 := bc.cell 1 rfl
      have y2 := bc.cell 2 rfl
      have y3 := bc.cell 3 rfl
      have y4 := bc.cell 4 rfl
      have y5 := bc.cell 5 rfl
      have hgo := hg.below (hB1.trans (hbo.mono hB1.size))
      clear hb2 hbr2 hbW b1r HM hbr
      go_wp2_with fail
      refine (HA.out o hgo).mono ?_
      rintro e w3 ⟨_, rfl, rfl, hb3⟩
      have hb3 := hbo.trans (hb3.mono hbo.size)
      have hg3 := hg.below (hB1.trans (hb3.mono hB1.size))
      clear hbo
      go_wp2_with fail
      refine (ratAdd_any (SA i) (areaQ c0 c1 c2) 200 (by omega) (by omega) HZI.out HZ.out w3 hg3).mono ?_
      rintro e w4 ⟨_, rfl, rfl, hb4⟩
      have hb4 := hb3.trans (hb4.mono hb3.size)
      rw [← HN.out]
      go_wp2_with fail
      go_roundw
      case rel => exact ⟨i + 1, by go_num, by omega, rfl, hb4⟩
      case measure => simp [RowKit.intOf]; omega
    · have HI : Hid (i = T.length) := by unfold Hid; omega
      have hige : ¬ (i : Int) < (T.length : Int) := by omega
      have HZI := Lib.hid (HSA.out i hi)
      clear b1r
      go_wp2_with fail
      refine (mright_ok (SA i) HZI.out wr (hg.below hbW)).mono ?_
      rintro e w4 ⟨_, rfl, rfl, hb4⟩
      have hb4 := hbW.trans (hb4.mono hbW.size)
      rw [HI.out]
      go_wp2_with fail
      go_ret2
      exact ⟨_, rfl, rfl, hb4⟩

end Go.Proofs.YtccngnjkehibiaaGreatDoor
