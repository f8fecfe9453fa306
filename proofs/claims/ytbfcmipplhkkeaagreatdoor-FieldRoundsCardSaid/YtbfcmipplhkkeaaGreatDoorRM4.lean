import Derived.Test.YtbfcmipplhkkeaaGreatDoorRE6
/- The walks over field.integral, field.volume, field.Volume. The walks over field.volume, field.Volume. A region that draws its order, with a condition on the world that may end with The walk over mesh.within. -/
set_option maxHeartbeats 8000000
set_option maxRecDepth 100000
namespace Go.Proofs.YtbfcmipplhkkeaaGreatDoor
open Go.RowKit Go.Lib
theorem RS_third13 : RS (1 / 3) = ⟨#[49, 47, 51]⟩ := by decide +kernel
theorem RS_half12 : RS (1 / 2) = ⟨#[49, 47, 50]⟩ := by decide +kernel
structure CorB (w : World) (b : Nat) (c : Cor) : Prop where
 x : w.cell? ⟨b, 0, none⟩ = some (.string (RS c.1.1))
 y : w.cell? ⟨b, 1, none⟩ = some (.string (RS c.1.2))
 z : w.cell? ⟨b, 2, none⟩ = some (.string (RS c.2))
theorem CorB.ofBox {w : World} {b ty : Nat} {c : Cor} (h : BoxN w b ty [.string (RS c.1.1), .string (RS c.1.2), .string (RS c.2)]) : CorB w b c := ⟨h.cell 0 rfl, h.cell 1 rfl, h.cell 2 rfl⟩
theorem CorB.new (w : World) (c : Cor) (ty b : Nat) (hb : w.heap.size = b) : CorB (w.alloc (.cells #[.string (RS c.1.1), .string (RS c.1.2), .string (RS c.2)] ty)) b c := .ofBox (BoxN.new w _ ty b hb)
theorem CorB.alloc {w : World} {b : Nat} {c : Cor} (h : CorB w b c) (o : Obj) : CorB (w.alloc o) b c := ⟨cell_alloc_l _ h.x, cell_alloc_l _ h.y, cell_alloc_l _ h.z⟩
theorem CorB.drew {w : World} {b : Nat} {c : Cor} (h : CorB w b c) : CorB w.drew b c := ⟨h.x, h.y, h.z⟩
theorem fanI_Sz {l : List Cor} {z : Rat} {k : Nat} (hk : 0 < k) (hl : ∀ c ∈ l, SzP k c.1 /\ Sz k c.2) (hz : Sz k z) (n : Nat) : Sz ((14 * k + 14) * n + 1) (fanI l z n) := by
 have hc : ∀ i, SzP k (corI l i).1 /\ Sz k (corI l i).2 := fun i => by
  unfold corI;rcases Nat.lt_or_ge i l.length with h | h
  ·rw [List.getElem?_eq_getElem h]; exact hl _ (List.getElem_mem h)
  ·rw [List.getElem?_eq_none h]; exact ⟨⟨Sz.zero _ hk, Sz.zero _ hk⟩, Sz.zero _ hk⟩
 induction n with
 | zero => exact Sz.zero 1 (by omega)
 | succ n ih =>
   have a := (areaQ_Sz (hc 0).1 (hc (n + 1)).1 (hc (n + 2)).1);have h2 : Sz 1 (1 / 2 : Rat) := ⟨by decide +kernel, by decide +kernel⟩;have h3 : Sz 1 (1 / 3 : Rat) := ⟨by decide +kernel, by decide +kernel⟩;have m := (((((hc 0).2.add (hc (n + 1)).2).add (hc (n + 2)).2).mul h3).sub hz);exact (ih.add ((a.mul h2).mul m)).mono (by rw [Nat.mul_add]; omega)
theorem integral_any (w : World) (v : Value) (l : List Cor) (z : Rat) (k : Nat) (hk : 0 < k) (hk2 : k <= 200) (hlen : l.length <= 6) (hl : ∀ c ∈ l, SzP k c.1 /\ Sz k c.2) (hz : Sz k z) (hv : RdK w v l) (hg : Good w) :
 Calls Tryz.prog 101 #[v, .string (RS z)] w (Ret (fun r _ => r = .string (RS (integ l z))) w) := by
 have HC : Hid (∀ i, SzP k (corI l i).1 /\ Sz k (corI l i).2) := fun i => by
  unfold corI;rcases Nat.lt_or_ge i l.length with h | h
  ·rw [List.getElem?_eq_getElem h]; exact hl _ (List.getElem_mem h)
  ·rw [List.getElem?_eq_none h]; exact ⟨⟨Sz.zero _ hk, Sz.zero _ hk⟩, Sz.zero _ hk⟩
 have HZF := Lib.hid (fanI_Sz hk hl hz);have HZ := Lib.hid hz;have h2 : Sz 1 (1 / 2 : Rat) := ⟨by decide +kernel, by decide +kernel⟩;have h3 : Sz 1 (1 / 3 : Rat) := ⟨by decide +kernel, by decide +kernel⟩;have HH2 := Lib.hid h2;have HH3 := Lib.hid h3;obtain ⟨p, cp, rfl, -, -, hcel⟩ := hv.open;have HCE : Hid (∀ i : Nat, i < l.length -> ∃ b off, p = some ⟨b, off, none⟩ /\ b < w.heap.size /\ w.cell? ⟨b, off + i * 3, none⟩ = some (.string (RS (corI l i).1.1)) /\ w.cell? ⟨b, off + i * 3 + 1, none⟩ = some (.string (RS (corI l i).1.2)) /\ w.cell? ⟨b, off + i * 3 + 2, none⟩ = some (.string (RS (corI l i).2))) := fun i hi => by
  obtain ⟨b, off, h1, h2, h3⟩ := hcel (List.ne_nil_of_length_pos (by omega));rw [corI_nat l i hi];exact ⟨b, off, h1, h2, h3 i hi⟩
 have hf0 : fanI l z 0 = 0 := rfl;clear hv hl hz hcel h2 h3;go_enter Tryz.func101, Tryz.ntmps101;go_wp2_with fail;go_loopw [5, 6] (fun t5 t6 wr => ∃ n j : Nat, t6 = .int .i64 (j : Int) /\ Hid (j = n + 1) /\ n <= l.length - 2 /\ t5 = .string (RS (fanI l z n)) /\ Below w.heap.size w wr) (fun _ t6 _ => 8 - (RowKit.intOf t6).toNat)
 case atStart => exact ⟨0, 1, rfl, rfl, Nat.zero_le _, by rw [hf0, RS_zero], Below.refl _ _⟩
 case round =>
  obtain ⟨n, j1, rfl, HJ, hn, rfl, hbr⟩ := hrel;have hj1 := HJ.out;obtain ⟨j2, hj2⟩ : ∃ j, j = n + 2 := ⟨_, rfl⟩;have hw1 : IntKind.i64.wrap ((j1 : Int) + 1) = (j2 : Int) := (IntWalk.i64_in _ (by omega)).trans (by omega);rcases Nat.lt_or_ge (n + 2) l.length with h | h
  ·have hnz : (j2 : Int) < (l.length : Int) := by omega
   have hnz1 : (j1 : Int) < (l.length : Int) := by omega
   have hn0 : (0 : Int) < (l.length : Int) := by omega
   have hn1 : 0 < l.length := by omega
   have hn2 : ¬ l = [] := List.ne_nil_of_length_pos hn1;have hn3 : ¬ l.length = 0 := by omega
   obtain ⟨bl, ol, rfl, hbl, a0, a1, a2⟩ := HCE.out 0 (by omega);obtain ⟨bl1, ol1, e1, -, b0, b1, b2⟩ := HCE.out (n + 1) (by omega);obtain ⟨bl2, ol2, e2, -, d0, d1, d2⟩ := HCE.out (n + 2) (by omega);injection e1 with e1
   injection e1 with e1 e1' _
   injection e2 with e2
   injection e2 with e2 e2' _
   subst e1 e1' e2 e2';have hbl' : bl < wr.heap.size := Nat.lt_of_lt_of_le hbl hbr.size;have HST : Hid (fanI l z (n + 1) = fanI l z n + areaQ (corI l 0).1 (corI l (n + 1)).1 (corI l (n + 2)).1 * (1 / 2) * (((corI l 0).2 + (corI l (n + 1)).2 + (corI l (n + 2)).2) * (1 / 3) - z)) := rfl;have zf := HZF.out n;have za := HC.out 0;have zb := HC.out (n + 1);have zd := HC.out (n + 2);have x0 := zcq hbr hbl a0;have x1 := zcq hbr hbl a1;have x2 := zcq hbr hbl a2;have x3 := zcq hbr hbl b0;have x4 := zcq hbr hbl b1;have x5 := zcq hbr hbl b2;have x6 := zcq hbr hbl d0;have x7 := zcq hbr hbl d1;have x8 := zcq hbr hbl d2;rw [Nat.zero_mul, Nat.add_zero] at x0 x1 x2;obtain ⟨ca, hca⟩ : ∃ c, c = corI l 0 := ⟨_, rfl⟩;obtain ⟨cb, hcb⟩ : ∃ c, c = corI l (n + 1) := ⟨_, rfl⟩;obtain ⟨cd, hcd⟩ : ∃ c, c = corI l (n + 2) := ⟨_, rfl⟩;rw [<- hca] at za HST x0 x1 x2;rw [<- hcb] at zb HST x3 x4 x5;rw [<- hcd] at zd HST x6 x7 x8;rw [<- hj1] at x3 x4 x5;rw [<- hj2] at x6 x7 x8;have HJ2 := Lib.hid hj2;clear hca hcb hcd a0 a1 a2 b0 b1 b2 d0 d1 d2;have HS : Hid (∀ w', Below wr.heap.size wr w' -> w'.cell? ⟨bl, ol, none⟩ = some (.string (RS ca.1.1)) /\ w'.cell? ⟨bl, ol + 1, none⟩ = some (.string (RS ca.1.2)) /\ w'.cell? ⟨bl, ol + 2, none⟩ = some (.string (RS ca.2)) /\ w'.cell? ⟨bl, ol + j1 * 3, none⟩ = some (.string (RS cb.1.1)) /\ w'.cell? ⟨bl, ol + j1 * 3 + 1, none⟩ = some (.string (RS cb.1.2)) /\ w'.cell? ⟨bl, ol + j1 * 3 + 2, none⟩ = some (.string (RS cb.2)) /\ w'.cell? ⟨bl, ol + j2 * 3, none⟩ = some (.string (RS cd.1.1)) /\ w'.cell? ⟨bl, ol + j2 * 3 + 1, none⟩ = some (.string (RS cd.1.2)) /\ w'.cell? ⟨bl, ol + j2 * 3 + 2, none⟩ = some (.string (RS cd.2))) := fun w' hb => ⟨(zcq hb hbl' x0 :), (zcq hb hbl' x1 :), (zcq hb hbl' x2 :), (zcq hb hbl' x3 :), (zcq hb hbl' x4 :), (zcq hb hbl' x5 :), (zcq hb hbl' x6 :), (zcq hb hbl' x7 :), (zcq hb hbl' x8 :)⟩;have hq00 : Below wr.heap.size wr wr.drew := below_drewN wr 1;clear HCE hj1 hj2;go_upto_region 5 with fail;go_cut [7, 8, 9] (fun s7 s8 s9 wx => ∃ b5 b6 b7 : Nat, s7 = .pointer (some ⟨b5, 0, none⟩) /\ s8 = .pointer (some ⟨b6, 0, none⟩) /\ s9 = .pointer (some ⟨b7, 0, none⟩) /\ CorB wx b5 ca /\ CorB wx b6 cb /\ CorB wx b7 cd /\ Below wr.heap.size wr wx)
   case first =>
    go_region_held3 (fun w' => w'.cell? ⟨bl, ol, none⟩ = some (.string (RS ca.1.1)) /\ w'.cell? ⟨bl, ol + 1, none⟩ = some (.string (RS ca.1.2)) /\ w'.cell? ⟨bl, ol + 2, none⟩ = some (.string (RS ca.2)) /\ w'.cell? ⟨bl, ol + j1 * 3, none⟩ = some (.string (RS cb.1.1)) /\ w'.cell? ⟨bl, ol + j1 * 3 + 1, none⟩ = some (.string (RS cb.1.2)) /\ w'.cell? ⟨bl, ol + j1 * 3 + 2, none⟩ = some (.string (RS cb.2)) /\ w'.cell? ⟨bl, ol + j2 * 3, none⟩ = some (.string (RS cd.1.1)) /\ w'.cell? ⟨bl, ol + j2 * 3 + 1, none⟩ = some (.string (RS cd.1.2)) /\ w'.cell? ⟨bl, ol + j2 * 3 + 2, none⟩ = some (.string (RS cd.2)))
     ((refine HS.out _ ?_; repeat (first | with_reducible exact hq00 | with_reducible exact Below.refl _ _ | with_reducible refine Below.drew ?_ | ((with_reducible refine Below.setCell ?_ ?_ _); rotate_left; (first | omega | (simp <;> omega))) | ((with_reducible refine Below.alloc ?_ ?_ _); rotate_left; (first | exact Nat.le_refl _ | omega | (simp <;> omega))))))
     (first | fail)
    all_goals
     go_wp2_with fail;go_meet;refine ⟨_, _, _, rfl, rfl, rfl, ?_, ?_, ?_, ?_⟩
     ·repeat (first | with_reducible refine CorB.drew ?_ | exact CorB.new _ ca _ _ (by first | rfl | simp) | with_reducible refine CorB.alloc ?_ _)
     ·repeat (first | with_reducible refine CorB.drew ?_ | exact CorB.new _ cb _ _ (by first | rfl | simp) | with_reducible refine CorB.alloc ?_ _)
     ·repeat (first | with_reducible refine CorB.drew ?_ | exact CorB.new _ cd _ _ (by first | rfl | simp) | with_reducible refine CorB.alloc ?_ _)
     ·repeat (first | with_reducible exact hq00 | with_reducible exact Below.refl _ _ | with_reducible refine Below.drew ?_ | ((with_reducible refine Below.setCell ?_ ?_ _); rotate_left; (first | omega | (simp <;> omega))) | ((with_reducible refine Below.alloc ?_ ?_ _); rotate_left; (first | exact Nat.le_refl _ | omega | (simp <;> omega))))
   case rest =>
   obtain ⟨b5, b6, b7, rfl, rfl, rfl, ⟨a0, a1, a2⟩, ⟨b0, b1, b2⟩, ⟨d0, d1, d2⟩, hbW⟩ := hcut;have hl5 : b5 < wc.heap.size := World.block_lt_of_cell? wc _ a0;have hl6 : b6 < wc.heap.size := World.block_lt_of_cell? wc _ b0;have hl7 : b7 < wc.heap.size := World.block_lt_of_cell? wc _ d0;have hB5 := hbr.trans (hbW.mono hbr.size);have hgd : Good wc.drew := (hg.below hB5).drewN 1;obtain ⟨⟨pax, pay⟩, za'⟩ := ca;obtain ⟨⟨pbx, pby⟩, zb'⟩ := cb;obtain ⟨⟨pdx, pdy⟩, zd'⟩ := cd;dsimp only [SzP] at a0 a1 a2 b0 b1 b2 d0 d1 d2 za zb zd;unfold areaQ at HST;dsimp only at HST;have HX1 := Lib.hid fun w hg => ratSub_any pbx pax k hk (by omega) zb.1.1 za.1.1 w hg
   have HX2 := Lib.hid fun w hg => ratSub_any pby pay k hk (by omega) zb.1.2 za.1.2 w hg
   have HX3 := Lib.hid fun w hg => ratSub_any pdx pax k hk (by omega) zd.1.1 za.1.1 w hg
   have HX4 := Lib.hid fun w hg => ratSub_any pdy pay k hk (by omega) zd.1.2 za.1.2 w hg
   have s1 : Sz (2 * k + 1) (pbx - pax) := (zb.1.1.sub za.1.1).mono (by omega);have s2 : Sz (2 * k + 1) (pby - pay) := (zb.1.2.sub za.1.2).mono (by omega);have s3 : Sz (2 * k + 1) (pdx - pax) := (zd.1.1.sub za.1.1).mono (by omega);have s4 : Sz (2 * k + 1) (pdy - pay) := (zd.1.2.sub za.1.2).mono (by omega);have HM1 := Lib.hid fun w hg => ratMul_any (pbx - pax) (pdy - pay) (2 * k + 1) (by omega) (by omega) s1 s4 w hg
   have HM2 := Lib.hid fun w hg => ratMul_any (pby - pay) (pdx - pax) (2 * k + 1) (by omega) (by omega) s2 s3 w hg
   have s5 : Sz (4 * k + 2) ((pbx - pax) * (pdy - pay)) := (s1.mul s4).mono (by omega);have s6 : Sz (4 * k + 2) ((pby - pay) * (pdx - pax)) := (s2.mul s3).mono (by omega);have HD1 := Lib.hid fun w hg => ratSub_any ((pbx - pax) * (pdy - pay)) ((pby - pay) * (pdx - pax)) (4 * k + 2) (by omega) (by omega) s5 s6 w hg
   have s7 : Sz (8 * k + 5) ((pbx - pax) * (pdy - pay) - (pby - pay) * (pdx - pax)) := (s5.sub s6).mono (by omega);have HSU : Hid (∀ (v : Value) (w : World), RdQ w v [za', zb', zd'] -> Good w -> _) := fun v w hr hg => ratSum_any [za', zb', zd'] k hk (by simp; omega) (by
    intro q hq;simp only [List.mem_cons, List.not_mem_nil, or_false] at hq;rcases hq with rfl | rfl | rfl
    ·exact za.2
    ·exact zb.2
    ·exact zd.2) v w hr hg
   rw [show [za', zb', zd'].foldl (·+ ·) 0 = za' + zb' + zd' by simp only [List.foldl_cons, List.foldl_nil]; grind] at HSU;have s8 : Sz (3 * k + 2) (za' + zb' + zd') := ((za.2.add zb.2).add zd.2).mono (by omega);have HM3 := Lib.hid fun w hg => ratMul_any (za' + zb' + zd') (1 / 3) (3 * k + 2) (by omega) (by omega) s8 (HH3.out.mono (by omega)) w hg
   have s9 : Sz (3 * k + 3) ((za' + zb' + zd') * (1 / 3)) := (s8.mul HH3.out).mono (by omega);have HD2 := Lib.hid fun w hg => ratSub_any ((za' + zb' + zd') * (1 / 3)) z (3 * k + 3) (by omega) (by omega) s9 (HZ.out.mono (by omega)) w hg
   have s10 : Sz (4 * k + 4) ((za' + zb' + zd') * (1 / 3) - z) := (s9.sub HZ.out).mono (by omega);have HM4 := Lib.hid fun w hg => ratMul_any ((pbx - pax) * (pdy - pay) - (pby - pay) * (pdx - pax)) (1 / 2) (8 * k + 5) (by omega) (by omega) s7 (HH2.out.mono (by omega)) w hg
   have s11 : Sz (8 * k + 6) (((pbx - pax) * (pdy - pay) - (pby - pay) * (pdx - pax)) * (1 / 2)) := (s7.mul HH2.out).mono (by omega);have HM5 := Lib.hid fun w hg => ratMul_any (((pbx - pax) * (pdy - pay) - (pby - pay) * (pdx - pax)) * (1 / 2)) ((za' + zb' + zd') * (1 / 3) - z) (8 * k + 6) (by omega) (by omega) s11 (s10.mono (by omega)) w hg
   have HAD := Lib.hid fun w hg => ratAdd_any (fanI l z n) (((pbx - pax) * (pdy - pay) - (pby - pay) * (pdx - pax)) * (1 / 2) * ((za' + zb' + zd') * (1 / 3) - z)) ((14 * k + 14) * 6 + 1) (by omega) (by omega) (zf.mono (by have := Nat.mul_le_mul_left (14 * k + 14) (show n <= 6 by omega); omega)) ((s11.mul s10).mono (by omega)) w hg
   rw [RS_third13] at HM3;rw [RS_half12] at HM4;obtain ⟨res, hres⟩ : ∃ r, r = fanI l z n + ((pbx - pax) * (pdy - pay) - (pby - pay) * (pdx - pax)) * (1 / 2) * ((za' + zb' + zd') * (1 / 3) - z) := ⟨_, rfl⟩;rw [<- hres] at HST HAD;clear hres za zb zd zf s1 s2 s3 s4 s5 s6 s7 s8 s9 s10 s11;generalize ((pbx - pax) * (pdy - pay) - (pby - pay) * (pdx - pax)) * (1 / 2) * ((za' + zb' + zd') * (1 / 3) - z) = r1 at *;generalize ((pbx - pax) * (pdy - pay) - (pby - pay) * (pdx - pax)) * (1 / 2) = r2 at *;generalize (pbx - pax) * (pdy - pay) - (pby - pay) * (pdx - pax) = r3 at *;generalize (za' + zb' + zd') * (1 / 3) - z = r4 at *;generalize (za' + zb' + zd') * (1 / 3) = r5 at *;generalize za' + zb' + zd' = r6 at *;generalize (pbx - pax) * (pdy - pay) = r7 at *;generalize (pby - pay) * (pdx - pax) = r8 at *;generalize pbx - pax = r9 at *;generalize pdy - pay = r10 at *;generalize pby - pay = r11 at *;generalize pdx - pax = r12 at *;clear x0 x1 x2 x3 x4 x5 x6 x7 x8 HS hq00;go_wp2_with fail;go_region_held3 (fun w' => w'.cell? ⟨b5, 0, none⟩ = some (.string (RS pax)) /\ w'.cell? ⟨b5, 1, none⟩ = some (.string (RS pay)) /\ w'.cell? ⟨b6, 0, none⟩ = some (.string (RS pbx)) /\ w'.cell? ⟨b6, 1, none⟩ = some (.string (RS pby)))
    (first | exact ⟨a0, a1, b0, b1⟩ | exact ⟨p_1_0, p_1_1, p_1_2, p_1_3⟩ | exact ⟨p_2_0, p_2_1, p_2_2, p_2_3⟩)
    (first
    | (go_at_call 68; refine (HX2.out _ pg1).mono ?_; rintro e pw2 ⟨_, rfl, rfl, pb2⟩
       have p_2_0 := zct pb2 p_1_0;have p_2_1 := zct pb2 p_1_1;have p_2_2 := zct pb2 p_1_2;have p_2_3 := zct pb2 p_1_3;have ps2 := pb2.size;have pg2 := pg1.below pb2)
    | (go_at_call 68; refine (HX1.out _ hgd).mono ?_; rintro e pw1 ⟨_, rfl, rfl, pb1⟩
       have p_1_0 := zct pb1 a0;have p_1_1 := zct pb1 a1;have p_1_2 := zct pb1 b0;have p_1_3 := zct pb1 b1;have ps1 : wc.heap.size <= pw1.heap.size := pb1.size;have pg1 := hgd.below pb1))
   have pB : Below wc.heap.size wc pw2 := zbt (zbt (below_drewN wc 1) pb1) pb2;have hB6 := hB5.trans (pB.mono hB5.size);have a0' := zcq pB hl5 a0;have a1' := zcq pB hl5 a1;have a2' := zcq pB hl5 a2;have b2' := zcq pB hl6 b2;have d0' := zcq pB hl7 d0;have d1' := zcq pB hl7 d1;have d2' := zcq pB hl7 d2;have hl5' : b5 < pw2.heap.size := Nat.lt_of_lt_of_le hl5 pB.size;have hl6' : b6 < pw2.heap.size := Nat.lt_of_lt_of_le hl6 pB.size;have hl7' : b7 < pw2.heap.size := Nat.lt_of_lt_of_le hl7 pB.size;have hgd2 : Good pw2.drew := pg2.drewN 1;obtain ⟨V, hV⟩ : ∃ V, V = pw2 := ⟨_, rfl⟩;rw [<- hV] at hB6 a0' a1' a2' b2' d0' d1' d2' hl5' hl6' hl7' hgd2 ⊢;clear hV a0 a1 a2 b0 b1 b2 d0 d1 d2 pB pg1 pg2 pb1 pb2 ps1 ps2 p_1_0 p_1_1 p_1_2 p_1_3 p_2_0 p_2_1 p_2_2 p_2_3 hl5 hl6 hl7 HX1 HX2;go_wp2_with fail;go_region_held3 (fun w' => w'.cell? ⟨b5, 0, none⟩ = some (.string (RS pax)) /\ w'.cell? ⟨b5, 1, none⟩ = some (.string (RS pay)) /\ w'.cell? ⟨b7, 0, none⟩ = some (.string (RS pdx)) /\ w'.cell? ⟨b7, 1, none⟩ = some (.string (RS pdy)))
    (first | exact ⟨a0', a1', d0', d1'⟩ | exact ⟨q_1_0, q_1_1, q_1_2, q_1_3⟩ | exact ⟨q_2_0, q_2_1, q_2_2, q_2_3⟩)
    (first
    | (go_at_call 68; refine (HX4.out _ qg1).mono ?_; rintro e qw2 ⟨_, rfl, rfl, qb2⟩
       have q_2_0 := zct qb2 q_1_0;have q_2_1 := zct qb2 q_1_1;have q_2_2 := zct qb2 q_1_2;have q_2_3 := zct qb2 q_1_3;have qs2 := qb2.size;have qg2 := qg1.below qb2)
    | (go_at_call 68; refine (HX3.out _ hgd2).mono ?_; rintro e qw1 ⟨_, rfl, rfl, qb1⟩
       have q_1_0 := zct qb1 a0';have q_1_1 := zct qb1 a1';have q_1_2 := zct qb1 d0';have q_1_3 := zct qb1 d1';have qs1 : V.heap.size <= qw1.heap.size := qb1.size;have qg1 := hgd2.below qb1))
   have qB : Below V.heap.size V qw2 := zbt (zbt (below_drewN V 1) qb1) qb2;have hB7 := hB6.trans (qB.mono hB6.size);have a2 := zcq qB hl5' a2';have b2 := zcq qB hl6' b2';have d2 := zcq qB hl7' d2';have hl5 : b5 < qw2.heap.size := Nat.lt_of_lt_of_le hl5' qB.size;have hl6 : b6 < qw2.heap.size := Nat.lt_of_lt_of_le hl6' qB.size;have hl7 : b7 < qw2.heap.size := Nat.lt_of_lt_of_le hl7' qB.size;obtain ⟨U, hU⟩ : ∃ V, V = qw2 := ⟨_, rfl⟩;rw [<- hU] at hB7 a2 b2 d2 hl5 hl6 hl7 ⊢;clear hU a0' a1' a2' b2' d0' d1' d2' qB qg1 qg2 qb1 qb2 qs1 qs2 q_1_0 q_1_1 q_1_2 q_1_3 q_2_0 q_2_1 q_2_2 q_2_3 hl5' hl6' hl7' HX3 HX4 hgd hgd2;have hB8 := hB7;go_wp2_with fail;refine (HM1.out _ (hg.below hB8)).mono ?_;rintro e y1 ⟨_, rfl, rfl, hy1⟩;have hB9 := hB8.trans (hy1.mono hB8.size);go_wp2_with fail;refine (HM2.out _ (hg.below hB9)).mono ?_;rintro e y2 ⟨_, rfl, rfl, hy2⟩;have hB10 := hB9.trans (hy2.mono hB9.size);go_wp2_with fail;refine (HD1.out _ (hg.below hB10)).mono ?_;rintro e y3 ⟨_, rfl, rfl, hy3⟩;have hB11 := hB10.trans (hy3.mono hB10.size);have s1 := hl5;have s2 := hl6;have s3 := hl7;have a2 := zcq hy1 s1 a2;have b2 := zcq hy1 s2 b2;have d2 := zcq hy1 s3 d2;have s1 := Nat.le_trans s1 hy1.size;have s2 := Nat.le_trans s2 hy1.size;have s3 := Nat.le_trans s3 hy1.size;have a2 := zcq hy2 s1 a2;have b2 := zcq hy2 s2 b2;have d2 := zcq hy2 s3 d2;have s1 := Nat.le_trans s1 hy2.size;have s2 := Nat.le_trans s2 hy2.size;have s3 := Nat.le_trans s3 hy2.size;have a2 := zcq hy3 s1 a2;have b2 := zcq hy3 s2 b2;have d2 := zcq hy3 s3 d2;go_wp2_with fail;have hBA := hB11.alloc hB11.size (.cells #[.string (RS za'), .string (RS zb'), .string (RS zd')] 40);refine (HSU.out _ _ (RdQ.fresh y3 [za', zb', zd'] _ _ rfl (by simp) 3 rfl _ rfl) (hg.below hBA)).mono ?_;rintro e y4 ⟨_, rfl, rfl, hy4⟩;have hB12 := hBA.trans (hy4.mono hBA.size);clear a2 b2 d2 s1 s2 s3;go_wp2_with fail;refine (HM3.out _ (hg.below hB12)).mono ?_;rintro e y5 ⟨_, rfl, rfl, hy5⟩;have hB13 := hB12.trans (hy5.mono hB12.size);go_wp2_with fail;refine (HD2.out _ (hg.below hB13)).mono ?_;rintro e y6 ⟨_, rfl, rfl, hy6⟩;have hB14 := hB13.trans (hy6.mono hB13.size);go_wp2_with fail;refine (HM4.out _ (hg.below hB14)).mono ?_;rintro e y7 ⟨_, rfl, rfl, hy7⟩;have hB15 := hB14.trans (hy7.mono hB14.size);go_wp2_with fail;refine (HM5.out _ (hg.below hB15)).mono ?_;rintro e y8 ⟨_, rfl, rfl, hy8⟩;have hB16 := hB15.trans (hy8.mono hB15.size);go_wp2_with fail;refine (HAD.out _ (hg.below hB16)).mono ?_;rintro e y9 ⟨_, rfl, rfl, hy9⟩;have hB17 := hB16.trans (hy9.mono hB16.size);go_wp2_with fail;go_roundw
   case rel => exact ⟨n + 1, j2, rfl, HJ2.out, by omega, by rw [HST.out], hB17⟩
   case measure =>
    have h7 := HJ.out;have h8 := HJ2.out;simp [RowKit.intOf]; omega
  ·have hnn : ¬ (j2 : Int) < (l.length : Int) := by omega
   have HI : Hid (fanI l z n = integ l z) := by unfold Hid integ; rw [show n = l.length - 2 by omega]
   rw [HI.out];go_wp2_with fail;go_ret;exact ⟨_, rfl, rfl, hbr⟩
theorem cross_Sz2 {a b : Cor} {z : Rat} {k m : Nat} (ha : SzP k a.1 /\ Sz k a.2) (hb : SzP k b.1 /\ Sz k b.2) (hz : Sz m z) : SzP (6 * k + m + 4) (crossK a b z).1 := by
 have d1 := ha.2.sub hz;have dd := d1.div (ha.2.sub hb.2) (by omega);unfold crossK towQ;rw [show (a.2 - z) - (b.2 - z) = a.2 - b.2 by grind];exact ⟨(ha.1.1.add (dd.mul (hb.1.1.sub ha.1.1))).mono (by omega), (ha.1.2.add (dd.mul (hb.1.2.sub ha.1.2))).mono (by omega)⟩
theorem cutS_Sz2 {a b : Cor} {z : Rat} {k m : Nat} (ha : SzP k a.1 /\ Sz k a.2) (hb : SzP k b.1 /\ Sz k b.2) (hz : Sz m z) : ∀ c ∈ cutS a b z, SzP (6 * k + m + 4) c.1 /\ Sz (k + m) c.2 := by
 intro c hc;unfold cutS at hc;rcases List.mem_append.1 hc with h | h
 ·split at h
  ·simp at h; subst h
   exact ⟨⟨ha.1.1.mono (by omega), ha.1.2.mono (by omega)⟩, ha.2.mono (by omega)⟩
  ·simp at h
 ·split at h
  ·simp at h; subst h
   exact ⟨cross_Sz2 ha hb hz, hz.mono (by omega)⟩
  ·simp at h
theorem cutTo_Sz2 {c0 c1 c2 : Cor} {z : Rat} {k m : Nat} (h0 : SzP k c0.1 /\ Sz k c0.2) (h1 : SzP k c1.1 /\ Sz k c1.2) (h2 : SzP k c2.1 /\ Sz k c2.2) (hz : Sz m z) : ∀ (i : Nat), ∀ c ∈ cutTo c0 c1 c2 z i, SzP (6 * k + m + 4) c.1 /\ Sz (k + m) c.2
 | 0 => fun c hc => by simp [cutTo] at hc
 | i + 1 => fun c hc => by
   unfold cutTo at hc;rcases List.mem_append.1 hc with h | h
   ·exact cutTo_Sz2 h0 h1 h2 hz i c h
   ·refine cutS_Sz2 ?_ ?_ hz c h
    ·unfold corA; split <;> assumption
    ·unfold corB; split <;> assumption
theorem partT_Sz2 {P : List PtQ} {F : List Rat} {tr : Tri} {z : Rat} {k m : Nat} (hs : ∀ x ∈ idxOf tr, SzP k (ptI P x) /\ Sz k (hI F x)) (hz : Sz m z) (c : Cor) (hc : c ∈ partT P F z tr) : SzP (6 * k + m + 4) c.1 /\ Sz (k + m) c.2 := by
 unfold partT cutL at hc;split at hc
 ·exact cutTo_Sz2 (hs _ (by simp [idxOf])) (hs _ (by simp [idxOf])) (hs _ (by simp [idxOf])) hz 3 c hc
 ·simp at hc
theorem partT_len (P : List PtQ) (F : List Rat) (z : Rat) (tr : Tri) : (partT P F z tr).length <= 6 := cutL_len _ _ _ _
theorem fvolume_any (w : World) (vp vt vf : Value) (P : List PtQ) (T : List Tri) (k : Nat) (F : List Rat) (h : FieldIn w vp vt vf P T k F) (z : Rat) (m n : Nat) (hz : Sz m z) (hkm : 6 * k + m + 4 <= 200) (hn : n <= 20000) (hn2 : (14 * (6 * k + m + 4) + 14) * 4 + 1 <= n) (hV : ∀ t, t <= T.length -> Sz n (volTo P T F z t)) (hg : Good w) :
 Calls Tryz.prog 56 #[.agg #[vp, vt], vf, .string (RS z)] w (Ret (fun r _ => r = .string (RS (volTo P T F z T.length))) w) := by
 have HH := Lib.hid h;have hkp := h.m.kpos;have HSZ : Hid (∀ tr ∈ T, ∀ x ∈ idxOf tr, SzP k (ptI P x) /\ Sz k (hI F x)) := fun tr htr x hx => by
  obtain ⟨h0, h1⟩ := h.m.idx tr htr x hx;obtain ⟨q, rfl⟩ : ∃ q : Nat, x = (q : Int) := ⟨x.toNat, by omega⟩;rw [ptI_nat P q (by omega), hI_nat F q (by have := h.fl; omega)];exact ⟨h.m.sz _ (List.getElem_mem _), h.fs _ (List.getElem_mem _)⟩
 have HCO : Hid (∀ (i : Nat) (hi : i < T.length) (w' : World), FieldIn w' vp vt vf P T k F -> Good w' -> _) := fun i hi w' h' hg' => corners_any w' vp vt vf P T k F h'.p h'.t h'.m.toMeshIn h'.f h'.fl i i rfl hi (triI T i) (triI_nat T i hi) hg';have HCU : Hid (∀ (i : Nat) (hi : i < T.length) (w' : World), Good w' -> _) := fun i hi w' hg' => part_any P F (triI T i) z k m hkp (by omega) (HSZ.out (triI T i) (by rw [triI_nat T i hi]; exact List.getElem_mem hi)) hz w' hg'
 have hps : ∀ (i : Nat) (hi : i < T.length), ∀ c ∈ partT P F z (triI T i), SzP (6 * k + m + 4) c.1 /\ Sz (6 * k + m + 4) c.2 := fun i hi c hc => by
  have := partT_Sz2 (HSZ.out (triI T i) (by rw [triI_nat T i hi]; exact List.getElem_mem hi)) hz c hc;exact ⟨this.1, this.2.mono (by omega)⟩
 have HIN : Hid (∀ (i : Nat) (hi : i < T.length) (v : Value) (w' : World), RdK w' v (partT P F z (triI T i)) -> Good w' -> _) := fun i hi v w' hv hg' => integral_any w' v (partT P F z (triI T i)) z (6 * k + m + 4) (by omega) hkm (partT_len _ _ _ _) (hps i hi) (hz.mono (by omega)) hv hg'
 have HIS : Hid (∀ (i : Nat) (hi : i < T.length), Sz n (integ (partT P F z (triI T i)) z)) := fun i hi => by
  have := fanI_Sz (l := partT P F z (triI T i)) (z := z) (k := 6 * k + m + 4) (by omega) (hps i hi) (hz.mono (by omega)) ((partT P F z (triI T i)).length - 2);refine this.mono (Nat.le_trans (Nat.add_le_add_right (Nat.mul_le_mul_left _ ?_) 1) hn2);have := partT_len P F z (triI T i);omega
 have HAD : Hid (∀ (i : Nat) (hi : i < T.length) (w' : World), Good w' -> _) := fun i hi w' hg' => ratAdd_any (volTo P T F z i) (integ (partT P F z (triI T i)) z) n (by omega) hn (hV i (by omega)) (HIS.out i hi) w' hg'
 have HST : Hid (∀ i, volTo P T F z (i + 1) = volTo P T F z i + integ (partT P F z (triI T i)) z) := fun i => rfl;have hv0 : volTo P T F z 0 = 0 := rfl;obtain ⟨pp, cp, pt, ct, pf, cf, rfl, rfl, rfl⟩ := h.open;have hTl : T.length <= 800 := h.m.tlen;obtain ⟨sz, hsz⟩ : ∃ s, s = RS z := ⟨_, rfl⟩;rw [<- hsz] at HCU HIN ⊢;clear h hz hkm hn hn2 hV hps HIS hsz HSZ;generalize volTo P T F z = VT at *;go_enter Tryz.func56, Tryz.ntmps56;go_wp2_with fail;obtain ⟨W, hW⟩ : ∃ W, W = w.alloc (.cells #[.slice pp P.length cp, .slice pt T.length ct] 35) := ⟨_, rfl⟩;have hB : Below w.heap.size w W := by rw [hW]; exact zal _ _
 have b0 : BoxN W w.heap.size 35 [.slice pp P.length cp, .slice pt T.length ct] := by rw [hW]; exact BoxN.new _ _ _ _ rfl
 rw [<- hW];clear hW;have x0 := b0.cell 0 rfl;have x1 := b0.cell 1 rfl;try go_wp2_with fail
 clear x0 x1;go_loopw [7, 12] (fun t7 t12 wr => ∃ i : Nat, t12 = .int .i64 i /\ i <= T.length /\ t7 = .string (RS (VT i)) /\ Below W.heap.size W wr) (fun _ t12 _ => T.length - (RowKit.intOf t12).toNat)
 case atStart => exact ⟨0, rfl, Nat.zero_le _, by rw [hv0, RS_zero], Below.refl _ _⟩
 case round =>
  obtain ⟨i, rfl, hin, rfl, hbr⟩ := hrel;have hBr := hB.trans (hbr.mono hB.size);rcases Nat.lt_or_ge i T.length with h | h
  ·have hiz : (i : Int) < (T.length : Int) := by omega
   have b1 := b0.below hbr b0.lt;have x0 := b1.cell 0 rfl;have x1 := b1.cell 1 rfl;have HC1 : Hid (∀ w', Below w.heap.size w w' -> _) := fun w' hb => HCO.out i h w' (HH.out.below hb) (hg.below hb);have HC2 : Hid (∀ w', Good w' -> _) := fun w' hg' => HCU.out i h w' hg';have HC3 : Hid (∀ (v : Value) (w' : World), RdK w' v (partT P F z (triI T i)) -> Good w' -> _) := fun v w' hv hg' => HIN.out i h v w' hv hg';have HC4 : Hid (∀ w', Good w' -> _) := fun w' hg' => HAD.out i h w' hg';have HS1 := Lib.hid (HST.out i);go_wp2_with fail;refine (HC1.out wr hBr).mono ?_;rintro e w1 ⟨_, rfl, rfl, hb1⟩;have hbr1 := hbr.trans (hb1.mono hbr.size);have hBr1 := hBr.trans (hb1.mono hBr.size);clear x0 x1 b1 hb1;go_wp2_with fail;refine (HC2.out w1 (hg.below hBr1)).mono ?_;rintro e w2 ⟨v2, rfl, hpv, hb2⟩;have hbr2 := hbr1.trans (hb2.mono hbr1.size);have hBr2 := hBr1.trans (hb2.mono hBr1.size);have hrd : RdK w2 v2 (partT P F z (triI T i)) := RdC.of_owns hpv.1;obtain ⟨pq, cq, rfl, -, -, -⟩ := hrd.open;clear hb2 hpv;go_wp2_with fail;refine (HC3.out _ w2 hrd (hg.below hBr2)).mono ?_;rintro e w3 ⟨_, rfl, rfl, hb3⟩;have hbr3 := hbr2.trans (hb3.mono hbr2.size);have hBr3 := hBr2.trans (hb3.mono hBr2.size);clear hb3 hrd;go_wp2_with fail;refine (HC4.out w3 (hg.below hBr3)).mono ?_;rintro e w4 ⟨_, rfl, rfl, hb4⟩;have hbr4 := hbr3.trans (hb4.mono hbr3.size);clear hb4;go_wp2_with fail;go_roundw
   case rel => exact ⟨i + 1, by go_num, by omega, by rw [HS1.out], hbr4⟩
   case measure => simp [RowKit.intOf]; omega
  ·have hige : ¬ (i : Int) < (T.length : Int) := by omega
   have HI : Hid (i = T.length) := by unfold Hid; omega
   rw [HI.out];go_wp2_with fail;go_ret;exact ⟨_, rfl, rfl, hBr⟩
theorem fVolume_ok (w : World) (vp vt vf : Value) (P : List PtQ) (T : List Tri) (k : Nat) (F : List Rat) (h : FieldIn w vp vt vf P T k F) (z : Rat) (m n : Nat) (hz : Sz m z) (hkm : 6 * k + m + 4 <= 200) (hn : n <= 20000) (hn2 : (14 * (6 * k + m + 4) + 14) * 4 + 1 <= n) (hV : ∀ t, t <= T.length -> Sz n (volTo P T F z t)) (hVE : Sz 200 (volTo P T F z T.length)) (hg : Good w) :
 Calls Tryz.prog 21 #[.agg #[vp, vt], vf, .string (RS z)] w (Ret (fun r _ => r = .tuple #[.string (RS (volTo P T F z T.length)), .int .i64 0]) w) := by
 have HH := Lib.hid h;have HLV : Hid (∀ w', FieldIn w' vp vt vf P T k F -> Good w' -> _) := fun w' h hg => flevel_ok w' vp vt vf P T k F h z (hz.mono (by omega)) hg
 have HVO : Hid (∀ w', FieldIn w' vp vt vf P T k F -> Good w' -> _) := fun w' h hg => fvolume_any w' vp vt vf P T k F h z m n hz hkm hn hn2 hV hg;have HNU : Hid (∀ w', Good w' -> _) := fun w' hg' => fnumber_ok (volTo P T F z T.length) hVE w' hg';obtain ⟨pp, cp, pt, ct, pf, cf, rfl, rfl, rfl⟩ := h.open;generalize volTo P T F z T.length = res at *;generalize RS res = ress at *;generalize RS z = sz at *;clear h hz hkm hn hn2 hV hVE;go_enter Tryz.func21, Tryz.ntmps21;go_wp2_with fail;obtain ⟨W, hW⟩ : ∃ W, W = w.alloc (.cells #[.slice pp P.length cp, .slice pt T.length ct] 35) := ⟨_, rfl⟩;have hB : Below w.heap.size w W := by rw [hW]; exact zal _ _
 have b0 : BoxN W w.heap.size 35 [.slice pp P.length cp, .slice pt T.length ct] := by rw [hW]; exact BoxN.new _ _ _ _ rfl
 rw [<- hW];clear hW;refine (HLV.out W (HH.out.below hB) (hg.below hB)).mono ?_;rintro e w1 ⟨_, rfl, rfl, hb1⟩;have hB1 := hB.trans (hb1.mono hB.size);have b1 := b0.below hb1 b0.lt;have x0 := b1.cell 0 rfl;have x1 := b1.cell 1 rfl;clear hb1 b0;go_wp2_with fail;refine (HVO.out w1 (HH.out.below hB1) (hg.below hB1)).mono ?_;rintro e w2 ⟨_, rfl, rfl, hb2⟩;have hB2 := hB1.trans (hb2.mono hB1.size);clear x0 x1;go_wp2_with fail;refine (HNU.out w2 (hg.below hB2)).mono ?_;rintro e w3 ⟨_, rfl, rfl, hb3⟩;go_wp2_with fail;go_ret2;exact ⟨_, rfl, rfl, hB2.trans (hb3.mono hB2.size)⟩
end Go.Proofs.YtbfcmipplhkkeaaGreatDoor
namespace Go.Proofs.YtbfcmipplhkkeaaGreatDoor
open Go
section
variable {P : Program} {ops : Array Oper} {Q : Exit -> Act -> World -> Prop} {md : Region.Mode} {S : Array Bool -> World -> Prop}
def AnyL (P : Program) (md : Region.Mode) (ops : Array Oper) (Q : Exit -> Act -> World -> Prop) (S : Array Bool -> World -> Prop) : Nat -> Array Bool -> Act -> World -> Prop
 | 0, l, a, w => Region.ready md ops l = [] /\ Q .normal a w
 | n + 1, l, a, w => (Region.ready md ops l = [] -> Q .normal a w) /\ ∀ i ∈ Region.ready md ops l, wpOp P ops Q i (fun a' w' => S (l.setIfInBounds i true) w' /\ AnyL P md ops Q S n (l.setIfInBounds i true) a' w') a w
theorem AnyL.any : ∀ (n : Nat) (l : Array Bool) (a : Act) (w : World), AnyL P md ops Q S n l a w -> wpAny P md ops Q n l a w
 | 0, _, _, _, h => h
 | n + 1, _, _, _, h => ⟨h.1, fun i hi => wpOp_mono (fun a' w' h' => AnyL.any n _ a' w' h'.2) (h.2 i hi)⟩
theorem AnyL.region {id : Nat} {a : Act} {w : World} (hm : P.follows .mixedOrders = true)
 (h : AnyL P .any ops Q S ops.size (Array.replicate ops.size false) a w.drew) : (Code.region id ops true).wp P Q a w :=
 wp_region_any hm (AnyL.any _ _ _ _ h)
theorem AnyL.first {i : Nat} {oi : Oper} {v : Value} {C : World -> Prop} {R : Array Bool -> Prop} (hi : ops[i]? = some oi) (hs : Region.noSelect ops = true)
 (hQ : ∀ c a w, Q (.panic c) (a.put oi.dst v) w -> Q (.panic c) a w)
 (hR : ∀ l j, R l -> j ∈ Region.ready md ops l -> l.getD i true = false -> j ≠ i -> R (l.setIfInBounds j true))
 (hC : ∀ l w, R l -> S (l.setIfInBounds i true) w -> C w) (hD : ∀ l w, R l -> S (l.setIfInBounds i true) w -> S l w) :
 ∀ (n : Nat) (l : Array Bool) (a : Act) (w : World),
  (∀ j oj, ops[j]? = some oj -> j ≠ i -> l.getD j true = false -> (∀ e ∈ oj.after, Region.binds md e = true -> e.on ≠ i) -> oi.apart ops oj = true) ->
  R l -> i ∈ Region.ready md ops l -> YieldsIf P ops C oi v a -> C w -> S (l.setIfInBounds i true) w ->
  AnyL P md ops Q S n (l.setIfInBounds i true) (a.put oi.dst v) w -> AnyL P md ops Q S (n + 1) l a w
 | 0, l, a, w, _, _, hr, hy, hc, hS, H => by
   refine ⟨fun h => (by rw [h] at hr; cases hr), fun j hj => ?_⟩;by_cases e : j = i
   ·subst e; exact hy.wpOp hi hc ⟨hS, H⟩
   ·have := ready_mono hj e
    rw [H.1] at this;cases this
 | n + 1, l, a, w, hf, hRl, hr, hy, hc, hS, H => by
   refine ⟨fun h => (by rw [h] at hr; cases hr), fun j hj => ?_⟩;by_cases e : j = i
   ·subst e; exact hy.wpOp hi hc ⟨hS, H⟩
   ·have hun := (mem_ready.1 hr).1
    obtain ⟨hju, oj, hoj, hall⟩ := mem_ready.1 hj;have hno : ∀ d ∈ oj.after, Region.binds md d = true -> d.on ≠ i := fun d hd hb heq => by
     have h1 := hall d hd hb;rw [heq] at h1;rw [Array.getD_eq_getD_getElem?] at h1 hun;cases hg : l[i]? with
     | none => rw [hg] at h1; cases h1
     | some b => rw [hg] at h1 hun; simp at h1 hun; rw [h1] at hun; cases hun
    have h2 := wpOp_putIf hoj (hf j oj hoj e hju hno) (fun cs b => Region.noSelect_spec hs i oi cs b hi) (fun cs b => Region.noSelect_spec hs j oj cs b hoj) hQ hy (H.2 j (ready_mono hj e));have hRj := hR l j hRl hj hun e;have hcomm : (l.setIfInBounds i true).setIfInBounds j true = (l.setIfInBounds j true).setIfInBounds i true := Array.setIfInBounds_comm _ _ (Ne.symm e);refine wpOp_mono (fun a' w' h3 => ?_) h2;obtain ⟨h4, h5, h6⟩ := h3;rw [hcomm] at h5 h6;refine ⟨hD _ _ hRj h5, AnyL.first hi hs hQ hR hC hD n _ a' w' (fun m om hom hmi hmu hmn => hf m om hom hmi ?_ hmn) hRj (ready_mono hr (Ne.symm e)) h4 (hC _ _ hRj h5) h5 h6⟩;by_cases hjm : j = m
    ·subst hjm; exact hju
    ·rw [getD_set_ne true hjm] at hmu; exact hmu
def Till (k : Nat) (A B : World -> Prop) (l : Array Bool) (w : World) : Prop := A w /\ (l.getD k true = false -> B w)
theorem AnyL.take {k i : Nat} {A B : World -> Prop} {oi : Oper} {v : Value} {n : Nat} {l : Array Bool} {a : Act} {w : World} (hi : ops[i]? = some oi) (hs : Region.noSelect ops = true)
 (hf : Region.free md ops l i = true) (hr : (Region.ready md ops l).contains i = true) (hki : i ≠ k) (hQ : ∀ c a w, Q (.panic c) (a.put oi.dst v) w -> Q (.panic c) a w)
 (hy : YieldsIf P ops A oi v a) (hS : Till k A B l w) (h : AnyL P md ops Q (Till k A B) n (l.setIfInBounds i true) (a.put oi.dst v) w) : AnyL P md ops Q (Till k A B) (n + 1) l a w := by
 refine AnyL.first (R := fun _ => True) (C := A) hi hs hQ (fun _ _ _ _ _ _ => trivial) (fun _ _ _ h => h.1) (fun l w _ h => ⟨h.1, fun hk => h.2 (by rw [getD_set_ne true hki]; exact hk)⟩) n l a w (Region.free_spec hi hf) trivial (by simpa using hr) hy hS.1 ⟨hS.1, fun hk => hS.2 (by rw [getD_set_ne true hki] at hk; exact hk)⟩ h
theorem AnyL.take2 {k i : Nat} {A B : World -> Prop} {oi ok : Oper} {v : Value} {n : Nat} {l : Array Bool} {a : Act} {w : World} (hi : ops[i]? = some oi) (hs : Region.noSelect ops = true)
 (hf : Region.free md ops l i = true) (hr : (Region.ready md ops l).contains i = true) (hki : i ≠ k) (hk : ops[k]? = some ok) (hw : (ok.after.any fun e => Region.binds md e && e.on == i) = true) (hkl : l.getD k true = false)
 (hQ : ∀ c a w, Q (.panic c) (a.put oi.dst v) w -> Q (.panic c) a w)
 (hy : YieldsIf P ops (fun w => A w /\ B w) oi v a) (hS : Till k A B l w) (h : AnyL P md ops Q (Till k A B) n (l.setIfInBounds i true) (a.put oi.dst v) w) : AnyL P md ops Q (Till k A B) (n + 1) l a w := by
 obtain ⟨e, he, hb⟩ := Array.any_eq_true'.1 hw;simp only [Bool.and_eq_true, beq_iff_eq] at hb;refine AnyL.first (R := fun l => l.getD k true = false) (C := fun w => A w /\ B w) hi hs hQ (fun l j hR hj hun hji => ?_) (fun l w hR h => ⟨h.1, h.2 (by rw [getD_set_ne true hki]; exact hR)⟩)
  (fun l w _ h => ⟨h.1, fun hk => h.2 (by rw [getD_set_ne true hki]; exact hk)⟩) n l a w (Region.free_spec hi hf) hkl (by simpa using hr) hy ⟨hS.1, hS.2 hkl⟩ ⟨hS.1, fun hk => hS.2 (by rw [getD_set_ne true hki] at hk; exact hk)⟩ h
 by_cases hjk : j = k
 ·subst hjk
  obtain ⟨_, oj, hoj, hall⟩ := mem_ready.1 hj;obtain rfl : oj = ok := Option.some.inj (hoj.symm.trans hk);have h1 := hall e he hb.1;rw [hb.2] at h1;rw [Array.getD_eq_getD_getElem?] at h1 hun;cases hg : l[i]? with
  | none => rw [hg] at h1; cases h1
  | some b => rw [hg] at h1 hun; simp at h1 hun; rw [h1] at hun; cases hun
 ·rw [getD_set_ne true hjk]; exact hR
theorem AnyL.one {i : Nat} {o : Oper} {n : Nat} {l : Array Bool} {a : Act} {w : World} (hr : Region.ready md ops l = [i]) (ho : ops[i]? = some o)
 (h : ∀ K' : Act -> World -> Prop, Shut (∀ a w, S (l.setIfInBounds i true) w -> (S (l.setIfInBounds i true) w -> AnyL P md ops Q S n (l.setIfInBounds i true) a w) -> K' a w) -> if Region.wanted o (yielded ops a.tmps) = true then Oper.wp P o a w K' Q else K' (a.put o.dst undef) w) :
 AnyL P md ops Q S (n + 1) l a w := by
 refine ⟨fun h0 => (by rw [h0] at hr; cases hr), fun j hj => ?_⟩;rw [hr] at hj;obtain rfl : j = i := by simpa using hj
 exact wpOp_step ho (fun K' hK => h K' (fun a w hS hW => hK a w ⟨hS, hW hS⟩))
theorem AnyL.done {l : Array Bool} {a : Act} {w : World} (hr : Region.ready md ops l = []) (h : Q .normal a w) : ∀ n, AnyL P md ops Q S n l a w
 | 0 => ⟨hr, h⟩
 | _ + 1 => ⟨fun _ => h, by rw [hr]; simp⟩
theorem zlk (i : Nat) {k : Nat} {A B : World -> Prop} {oi : Oper} {v : Value} {n : Nat} {l l0 : Array Bool} {a : Act} {w : World} (hH : Till k A B l0 w) (h : AnyL P md ops Q (Till k A B) n (l.setIfInBounds i true) (a.put oi.dst v) w)
 (hi : ops[i]? = some oi := by rfl) (hs : Region.noSelect ops = true := by kernel_rfl) (hf : Region.free md ops l i = true := by kernel_rfl) (hr : (Region.ready md ops l).contains i = true := by kernel_rfl) (hki : i ≠ k := by decide) (hl : l0.getD k true = false := by rfl)
 (hQ : ∀ c a w, Q (.panic c) (a.put oi.dst v) w -> Q (.panic c) a w := by exact fun _ _ _ h => h)
 (hy : YieldsIf P ops A oi v a := by exact Or.inl ⟨by rfl, by intro w h; (try dsimp only at h); first | (go_simp; done) | (go_simp; with_reducible rfl)⟩) : AnyL P md ops Q (Till k A B) (n + 1) l a w :=
 AnyL.take hi hs hf hr hki hQ hy ⟨hH.1, fun _ => hH.2 hl⟩ h
theorem zhk {S : World -> Prop} (i : Nat) {oi : Oper} {v : Value} {n : Nat} {l : Array Bool} {a : Act} {w : World} (h : wpAnyH P md ops Q S n (l.setIfInBounds i true) (a.put oi.dst v) w)
 (hi : ops[i]? = some oi := by rfl) (hs : Region.noSelect ops = true := by kernel_rfl) (hf : Region.free md ops l i = true := by kernel_rfl) (hr : (Region.ready md ops l).contains i = true := by kernel_rfl)
 (hQ : ∀ c a w, Q (.panic c) (a.put oi.dst v) w -> Q (.panic c) a w := by exact fun _ _ _ h => h)
 (hy : YieldsIf P ops S oi v a := by exact Or.inl ⟨by rfl, by intro w h; (try dsimp only at h); first | (go_simp; done) | (go_simp; with_reducible rfl)⟩) (hS : S w := by assumption) : wpAnyH P md ops Q S (n + 1) l a w :=
 wpAnyH_take hi hs hf hr hQ hy hS h
end
end Go.Proofs.YtbfcmipplhkkeaaGreatDoor
namespace Go.Proofs.YtbfcmipplhkkeaaGreatDoor
open Go.RowKit Go.Lib
def wStep (a b : PtQ) (st : Option (Rat × Rat)) (s : PtQ × PtQ) : Option (Rat × Rat) :=
 match st with
 | none => none
 | some l =>
   if areaQ s.1 s.2 a = areaQ s.1 s.2 b then (if areaQ s.1 s.2 a < 0 then none else some l)
   else if areaQ s.1 s.2 a < areaQ s.1 s.2 b then some (maxQ l.1 (areaQ s.1 s.2 a / (areaQ s.1 s.2 a - areaQ s.1 s.2 b)), l.2)
   else some (l.1, minQ l.2 (areaQ s.1 s.2 a / (areaQ s.1 s.2 a - areaQ s.1 s.2 b)))
def sidesW (c0 c1 c2 : PtQ) : List (PtQ × PtQ) := [(c0, c1), (c1, c2), (c2, c0)]
def withinN (c0 c1 c2 a b : PtQ) (n : Nat) : Option (Rat × Rat) := ((sidesW c0 c1 c2).take n).foldl (wStep a b) (some (0, 1))
def withinF (c0 c1 c2 a b : PtQ) : Option (Rat × Rat) := (withinN c0 c1 c2 a b 3).bind fun l => if l.1 < l.2 then some l else none
theorem withinN_step (c0 c1 c2 a b : PtQ) (i : Nat) (h : i < 3) : withinN c0 c1 c2 a b (i + 1) = wStep a b (withinN c0 c1 c2 a b i) ((sidesW c0 c1 c2)[i]'h) := by
 unfold withinN;rw [List.take_succ_eq_append_getElem (by exact h), List.foldl_append];rfl
theorem withinN_none (c0 c1 c2 a b : PtQ) (i : Nat) (h : i <= 3) (hn : withinN c0 c1 c2 a b i = none) : withinF c0 c1 c2 a b = none := by
 have key : ∀ n, n <= 3 -> i <= n -> withinN c0 c1 c2 a b n = none := by
  intro n
  induction n with
  | zero => intro _ h0; obtain rfl : i = 0 := by omega
            exact hn
  | succ n ih =>
    intro h3 h0;rcases Nat.lt_or_ge n i with h4 | h4
    ·obtain rfl : i = n + 1 := by omega
     exact hn
    ·rw [withinN_step _ _ _ _ _ _ (by omega), ih (by omega) h4]; rfl
 unfold withinF;rw [key 3 (by omega) h]; rfl
theorem wStep_eq {a b p q : PtQ} {l : Rat × Rat} (h : areaQ p q a = areaQ p q b) (h0 : ¬ areaQ p q a < 0) : wStep a b (some l) (p, q) = some l := by
 unfold wStep; dsimp only; rw [if_pos h, if_neg h0]
theorem wStep_out {a b p q : PtQ} {l : Rat × Rat} (h : areaQ p q a = areaQ p q b) (h0 : areaQ p q a < 0) : wStep a b (some l) (p, q) = none := by
 unfold wStep; dsimp only; rw [if_pos h, if_pos h0]
theorem wStep_lt {a b p q : PtQ} {l : Rat × Rat} (h : areaQ p q a < areaQ p q b) : wStep a b (some l) (p, q) = some (maxQ l.1 (areaQ p q a / (areaQ p q a - areaQ p q b)), l.2) := by
 have hne : ¬ areaQ p q a = areaQ p q b := fun e => by rw [e] at h; exact Rat.lt_irrefl h
 unfold wStep; dsimp only; rw [if_neg hne, if_pos h]
theorem wStep_gt {a b p q : PtQ} {l : Rat × Rat} (h : areaQ p q b < areaQ p q a) : wStep a b (some l) (p, q) = some (l.1, minQ l.2 (areaQ p q a / (areaQ p q a - areaQ p q b))) := by
 have hne : ¬ areaQ p q a = areaQ p q b := fun e => by rw [e] at h; exact Rat.lt_irrefl h
 unfold wStep; dsimp only; rw [if_neg hne, if_neg (Rat.not_lt.2 (Rat.le_of_lt h))]
theorem maxQ_Sz {k : Nat} {p q : Rat} (hp : Sz k p) (hq : Sz k q) : Sz k (maxQ p q) := by unfold maxQ; split <;> assumption
theorem minQ_Sz {k : Nat} {p q : Rat} (hp : Sz k p) (hq : Sz k q) : Sz k (minQ p q) := by unfold minQ; split <;> assumption
theorem ratSign_neg (q : Rat) (h : q < 0) (w : World) :
 Calls Tryz.prog 69 #[.string (RS q)] w (Ret (fun v _ => v = .int .i64 (-1)) w) :=
 (ratSign_any q w).mono fun e w' ⟨v, he, hv, n, hw⟩ => ⟨v, he, by rw [hv, Int.sign_eq_neg_one_of_neg (num_lt_zero_iff.2 h)], hw ▸ below_drewN w n⟩
theorem ratSign_nn (q : Rat) (h : ¬ q < 0) (w : World) :
 Calls Tryz.prog 69 #[.string (RS q)] w (Ret (fun v _ => ∃ z : Int, v = .int .i64 z /\ 0 <= z /\ z <= 1) w) :=
 (ratSign_any q w).mono fun e w' ⟨v, he, hv, n, hw⟩ => ⟨v, he, ⟨_, hv, by rw [sign_if, if_neg h]; split <;> decide⟩, hw ▸ below_drewN w n⟩
theorem ratCmp_lt (p q : Rat) (k : Nat) (hk : 0 < k) (hk2 : k <= 20000) (hp : Sz k p) (hq : Sz k q) (h : p < q) (w : World) (hg : Good w) :
 Calls Tryz.prog 104 #[.string (RS p), .string (RS q)] w (Ret (fun v _ => v = .int .i64 (-1)) w) := by
 have := ratCompare_any p q k hk hk2 hp hq w hg;rwa [show cmpQ p q = -1 by unfold cmpQ; rw [if_pos h]] at this
theorem ratCmp_nlt (p q : Rat) (k : Nat) (hk : 0 < k) (hk2 : k <= 20000) (hp : Sz k p) (hq : Sz k q) (h : ¬ p < q) (w : World) (hg : Good w) :
 Calls Tryz.prog 104 #[.string (RS p), .string (RS q)] w (Ret (fun v _ => ∃ z : Int, v = .int .i64 z /\ 0 <= z /\ z <= 1) w) :=
 (ratCompare_any p q k hk hk2 hp hq w hg).mono fun e w' ⟨v, he, hv, hb⟩ => ⟨v, he, ⟨_, hv, by unfold cmpQ; rw [if_neg h]; split <;> decide⟩, hb⟩
def WithinP (l : Option (Rat × Rat)) (v : Value) : Prop := ∃ x y, v = .tuple #[.string x, .string y, .bool l.isSome] /\ ∀ r, l = some r -> x = RS r.1 /\ y = RS r.2 /\ Sz 200 r.1 /\ Sz 200 r.2 /\ r.1 < r.2
theorem within_gen (c0 c1 c2 a b : PtQ) (m : Nat) (hm0 : 0 < m) (hm7 : m <= 100) (hS : ∀ r, withinF c0 c1 c2 a b = some r -> Sz 200 r.1 /\ Sz 200 r.2) (z0 : SzP m c0) (z1 : SzP m c1) (z2 : SzP m c2) (za : SzP m a) (zb : SzP m b) (w : World) (hg : Good w) :
 Calls Tryz.prog 102 #[.agg #[.string (RS c0.1), .string (RS c0.2), .string (RS c1.1), .string (RS c1.2), .string (RS c2.1), .string (RS c2.2)], .agg #[.string (RS a.1), .string (RS a.2)], .agg #[.string (RS b.1), .string (RS b.2)]] w (Ret (fun r _ => WithinP (withinF c0 c1 c2 a b) r) w) := by
 have HS4 := Lib.hid hS;clear hS;have HCO : Hid (∀ i : Nat, i < 3 -> ∃ (p q : PtQ) (jc : Nat), jc < 3 /\ ((i : Int) + 1) % 3 = (jc : Int) /\ SzP m p /\ SzP m q /\ withinN c0 c1 c2 a b (i + 1) = wStep a b (withinN c0 c1 c2 a b i) (p, q) /\
  ∀ (w' : World) (b t : Nat), BoxN w' b t [.string (RS c0.1), .string (RS c0.2), .string (RS c1.1), .string (RS c1.2), .string (RS c2.1), .string (RS c2.2)] ->
   w'.cell? ⟨b, i * 2, none⟩ = some (.string (RS p.1)) /\ w'.cell? ⟨b, i * 2 + 1, none⟩ = some (.string (RS p.2)) /\ w'.cell? ⟨b, jc * 2, none⟩ = some (.string (RS q.1)) /\ w'.cell? ⟨b, jc * 2 + 1, none⟩ = some (.string (RS q.2))) := fun i hi => by
  have hst := withinN_step c0 c1 c2 a b i hi;rcases (by omega : i = 0 \/ i = 1 \/ i = 2) with rfl | rfl | rfl
  ·exact ⟨c0, c1, 1, by omega, by decide, z0, z1, hst, fun w' b t h => ⟨h.cell 0 rfl, h.cell 1 rfl, h.cell 2 rfl, h.cell 3 rfl⟩⟩
  ·exact ⟨c1, c2, 2, by omega, by decide, z1, z2, hst, fun w' b t h => ⟨h.cell 2 rfl, h.cell 3 rfl, h.cell 4 rfl, h.cell 5 rfl⟩⟩
  ·exact ⟨c2, c0, 0, by omega, by decide, z2, z0, hst, fun w' b t h => ⟨h.cell 4 rfl, h.cell 5 rfl, h.cell 0 rfl, h.cell 1 rfl⟩⟩
 have HNO : Hid (∀ i, i <= 3 -> withinN c0 c1 c2 a b i = none -> withinF c0 c1 c2 a b = none) := fun i h hn => withinN_none c0 c1 c2 a b i h hn;have HFI : Hid (∀ l, withinN c0 c1 c2 a b 3 = some l -> withinF c0 c1 c2 a b = if l.1 < l.2 then some l else none) := fun l h => by unfold withinF; rw [h]; rfl
 have H00 : Hid (withinN c0 c1 c2 a b 0 = some (0, 1)) := rfl;have HZ0 := Lib.hid (RS_zero);have HZ1 := Lib.hid (RS_one);have HZA := Lib.hid za;have HZB := Lib.hid zb;obtain ⟨Nf, hNf⟩ : ∃ Nf : Nat -> Option (Rat × Rat), Nf = withinN c0 c1 c2 a b := ⟨_, rfl⟩;obtain ⟨Ff, hFf⟩ : ∃ Ff : Option (Rat × Rat), Ff = withinF c0 c1 c2 a b := ⟨_, rfl⟩;rw [<- hNf] at HCO HNO HFI H00;rw [<- hFf] at HNO HFI HS4 ⊢;clear z0 z1 z2 za zb hNf hFf;go_enter Tryz.func102, Tryz.ntmps102;go_wp2_with fail;obtain ⟨W, hW⟩ : ∃ W, W = ((w.alloc (.cells #[.string (RS c0.1), .string (RS c0.2), .string (RS c1.1), .string (RS c1.2), .string (RS c2.1), .string (RS c2.2)] 156)).alloc (.cells #[.string (RS a.1), .string (RS a.2)] 50)).alloc (.cells #[.string (RS b.1), .string (RS b.2)] 50) := ⟨_, rfl⟩;have hB : Below w.heap.size w W := by rw [hW]; exact (((Below.refl _ _).alloc (Nat.le_refl _) _).alloc (by simp) _).alloc (by simp; omega) _
 have b5 : BoxN W (w.heap.size + 1 + 1) 50 [.string (RS b.1), .string (RS b.2)] := by rw [hW]; exact BoxN.new _ _ _ _ (by simp)
 have b4 : BoxN W (w.heap.size + 1) 50 [.string (RS a.1), .string (RS a.2)] := by
  rw [hW];have h1 := (BoxN.new (w.alloc (.cells #[.string (RS c0.1), .string (RS c0.2), .string (RS c1.1), .string (RS c1.2), .string (RS c2.1), .string (RS c2.2)] 156)) #[.string (RS a.1), .string (RS a.2)] 50 (w.heap.size + 1) (by simp));exact h1.below (zal _ _) h1.lt
 have b3 : BoxN W w.heap.size 156 [.string (RS c0.1), .string (RS c0.2), .string (RS c1.1), .string (RS c1.2), .string (RS c2.1), .string (RS c2.2)] := by
  rw [hW];have h1 := (BoxN.new w #[.string (RS c0.1), .string (RS c0.2), .string (RS c1.1), .string (RS c1.2), .string (RS c2.1), .string (RS c2.2)] 156 _ rfl);exact h1.below (((Below.refl _ _).alloc (Nat.le_refl _) _).alloc (by simp) _) h1.lt
 rw [<- hW];clear hW;go_loopw [6, 7, 14] (fun t6 t7 t14 wr => ∃ (i : Nat) (lo hi : Rat), t14 = .int .i64 i /\ i <= 3 /\ t6 = .string (RS lo) /\ t7 = .string (RS hi) /\ Hid (Nf i = some (lo, hi)) /\ Hid (Sz (24 * m + 16) lo /\ Sz (24 * m + 16) hi) /\ Below W.heap.size W wr) (fun _ _ t14 _ => 3 - (RowKit.intOf t14).toNat)
 case atStart => exact ⟨0, 0, 1, rfl, by omega, by rw [HZ0.out], by rw [HZ1.out], H00, ⟨Sz.zero _ (by omega), Sz.one.mono (by omega)⟩, Below.refl _ _⟩
 case round =>
  obtain ⟨i, lo, hi, rfl, hi3, rfl, rfl, HST, HSZ, hbr⟩ := hrel;have hbW := hB.trans (hbr.mono hB.size);have b3r := b3.below hbr b3.lt;have b4r := b4.below hbr b4.lt;have b5r := b5.below hbr b5.lt;rcases Nat.lt_or_ge i 3 with h | h
  ·obtain ⟨p, q, jc, hj3, hjc, zp, zq, hst, hcells⟩ := HCO.out i h
   have HNX : Hid (Nf (i + 1) = wStep a b (some (lo, hi)) (p, q)) := by unfold Hid; rw [hst, HST.out]
   have za := HZA.out;have zb := HZB.out;have zu := areaQ_Sz zp zq za;have zv := areaQ_Sz zp zq zb;have HA1 := Lib.hid fun w hg => area_any p q a m hm0 (by omega) zp zq za w hg
   have HA2 := Lib.hid fun w hg => area_any p q b m hm0 (by omega) zp zq zb w hg
   unfold VP at HA1 HA2;have HWE : Hid (areaQ p q a = areaQ p q b -> ¬ areaQ p q a < 0 -> Nf (i + 1) = some (lo, hi)) := fun h1 h2 => by rw [HNX.out]; exact wStep_eq h1 h2
   have HWO : Hid (areaQ p q a = areaQ p q b -> areaQ p q a < 0 -> Nf (i + 1) = none) := fun h1 h2 => by rw [HNX.out]; exact wStep_out h1 h2
   have HWL : Hid (areaQ p q a < areaQ p q b -> Nf (i + 1) = some (maxQ lo (areaQ p q a / (areaQ p q a - areaQ p q b)), hi)) := fun h1 => by rw [HNX.out]; exact wStep_lt h1
   have HWG : Hid (areaQ p q b < areaQ p q a -> Nf (i + 1) = some (lo, minQ hi (areaQ p q a / (areaQ p q a - areaQ p q b)))) := fun h1 => by rw [HNX.out]; exact wStep_gt h1
   obtain ⟨y0, y1, y2, y3⟩ := hcells wr w.heap.size _ b3r;generalize areaQ p q a = u at *;generalize areaQ p q b = v at *;have HZU := Lib.hid zu;have HZV := Lib.hid zv;have a0 := b4r.cell 0 rfl;have a1 := b4r.cell 1 rfl;have c0' := b5r.cell 0 rfl;have c1' := b5r.cell 1 rfl;have hl3 := b3r.lt;have hl4 := b4r.lt;have hl5 := b5r.lt;have hiz : (i : Int) < 3 := by omega
   have hjz : (jc : Int) < 3 := by omega
   have hjt : ((i : Int) + 1).tmod 3 = (jc : Int) := by rw [Int.tmod_eq_emod_of_nonneg (by omega)]; exact hjc
   have hw1 : IntKind.i64.wrap ((i : Int) + 1) = (i : Int) + 1 := IntWalk.i64_in _ (by omega);have hw3 : (0 : Int) <= (i : Int) + 1 := by omega
   have hw5 : IntKind.i64.wrap (jc : Int) = (jc : Int) := IntWalk.i64_in _ (by omega);have hgr := hg.below hbW;have hgd : Good wr.drew := hgr.drewN 1;clear hcells zp zq za zb zu zv hst HCO HNX HST;go_upto_region 5 with fail;go_region_held3 (fun w' => w'.cell? ⟨w.heap.size, i * 2, none⟩ = some (.string (RS p.1)) /\ w'.cell? ⟨w.heap.size, i * 2 + 1, none⟩ = some (.string (RS p.2)) /\ w'.cell? ⟨w.heap.size, jc * 2, none⟩ = some (.string (RS q.1)) /\ w'.cell? ⟨w.heap.size, jc * 2 + 1, none⟩ = some (.string (RS q.2)) /\ w'.cell? ⟨w.heap.size + 1, 0, none⟩ = some (.string (RS a.1)) /\ w'.cell? ⟨w.heap.size + 1, 1, none⟩ = some (.string (RS a.2)) /\ w'.cell? ⟨w.heap.size + 1 + 1, 0, none⟩ = some (.string (RS b.1)) /\ w'.cell? ⟨w.heap.size + 1 + 1, 1, none⟩ = some (.string (RS b.2)))
    (first | exact ⟨y0, y1, y2, y3, a0, a1, c0', c1'⟩ | exact ⟨p_1_0, p_1_1, p_1_2, p_1_3, p_1_4, p_1_5, p_1_6, p_1_7⟩ | exact ⟨p_2_0, p_2_1, p_2_2, p_2_3, p_2_4, p_2_5, p_2_6, p_2_7⟩)
    (first
    | (go_at_call 126; refine (HA2.out _ pg1).mono ?_; rintro e pw2 ⟨_, rfl, rfl, pb2⟩
       have p_2_0 := zct pb2 p_1_0;have p_2_1 := zct pb2 p_1_1;have p_2_2 := zct pb2 p_1_2;have p_2_3 := zct pb2 p_1_3;have p_2_4 := zct pb2 p_1_4;have p_2_5 := zct pb2 p_1_5;have p_2_6 := zct pb2 p_1_6;have p_2_7 := zct pb2 p_1_7;have ps2 := pb2.size;have pg2 := pg1.below pb2)
    | (go_at_call 126; refine (HA1.out _ hgd).mono ?_; rintro e pw1 ⟨_, rfl, rfl, pb1⟩
       have p_1_0 := zct pb1 y0;have p_1_1 := zct pb1 y1;have p_1_2 := zct pb1 y2;have p_1_3 := zct pb1 y3;have p_1_4 := zct pb1 a0;have p_1_5 := zct pb1 a1;have p_1_6 := zct pb1 c0';have p_1_7 := zct pb1 c1';have ps1 : wr.heap.size <= pw1.heap.size := pb1.size;have pg1 := hgd.below pb1))
   have pB : Below wr.heap.size wr pw2 := zbt (zbt (below_drewN wr 1) pb1) pb2;have hbp : Below W.heap.size W pw2 := hbr.trans (pB.mono hbr.size);clear y0 y1 y2 y3 a0 a1 c0' c1' hgd hbr b3r b4r b5r hgr hbW HA1 HA2;go_wp2_with fail;refine (ratSub_any u v (8 * m + 5) (by omega) (by omega) HZU.out HZV.out pw2 pg2).mono ?_;rintro e w4 ⟨_, rfl, rfl, hb4⟩;have hbq : Below W.heap.size W w4 := hbp.trans (hb4.mono hbp.size);have hgq := hg.below (hB.trans (hbq.mono hB.size));clear hb4 hbp pg1 pg2 pB;have HZD : Hid (Sz (16 * m + 11) (u - v)) := (HZU.out.sub HZV.out).mono (by omega);go_wp2_with fail;by_cases hE : u = v
   ·have HE := Lib.hid hE
    rw [show u - v = 0 by rw [HE.out]; grind];clear hE;refine (ratDiv_zero u w4).mono ?_;rintro e w5 ⟨_, rfl, rfl, hb5⟩;have hbq5 : Below W.heap.size W w5 := hbq.trans (hb5.mono hbq.size);clear hb5 hbq hgq;go_wp2_with fail;by_cases h0 : u < 0
    ·have H0 := Lib.hid h0
     refine (ratSign_neg u h0 w5).mono ?_;rintro e w6 ⟨_, rfl, rfl, hb6⟩;have hbq6 : Below w.heap.size w w6 := hB.trans ((hbq5.trans (hb6.mono hbq5.size)).mono hB.size);have HF : Hid (WithinP Ff (.tuple #[.string ⟨#[]⟩, .string ⟨#[]⟩, .bool false])) := by
      have hF : Ff = none := HNO.out (i + 1) (by omega) (HWO.out HE.out H0.out);rw [hF];exact ⟨_, _, rfl, fun r h => by cases h⟩
     clear h0;go_wp2_with fail
     go_ret3
     exact ⟨_, rfl, HF.out, hbq6⟩
    ·have H0 := Lib.hid h0
     refine (ratSign_nn u h0 w5).mono ?_;rintro e w6 ⟨_, rfl, ⟨z, rfl, hz0, hz1⟩, hb6⟩;have hbq6 : Below W.heap.size W w6 := hbq5.trans (hb6.mono hbq5.size);have HNX := Lib.hid (HWE.out HE.out H0.out);clear h0 hb6;go_wp2_with fail;go_roundw
     case rel => exact ⟨i + 1, lo, hi, by go_num, by omega, rfl, rfl, HNX, HSZ, hbq6⟩
     case measure => simp [RowKit.intOf]; omega
   ·have hd0 : u - v ≠ 0 := fun e => hE (by grind)
    have HZS : Hid (Sz (24 * m + 16) (u / (u - v))) := (HZU.out.div HZD.out (by omega)).mono (by omega);refine (ratDiv_any u (u - v) (16 * m + 11) (by omega) (by omega) (HZU.out.mono (by omega)) HZD.out hd0 w4 hgq).mono ?_;rintro e w5 ⟨_, rfl, rfl, hb5⟩;have hbq5 : Below W.heap.size W w5 := hbq.trans (hb5.mono hbq.size);have hgq5 := hg.below (hB.trans (hbq5.mono hB.size));clear hb5 hbq hgq hd0;by_cases hL : u < v
    ·have HNX := Lib.hid (HWL.out hL)
     have HC := Lib.hid fun w hg => ratCmp_lt u v (8 * m + 5) (by omega) (by omega) HZU.out HZV.out hL w hg
     clear hE hL;generalize u / (u - v) = s at *;go_wp2_with fail;refine (HC.out w5 hgq5).mono ?_;rintro e w6 ⟨_, rfl, rfl, hb6⟩;have hbq6 : Below W.heap.size W w6 := hbq5.trans (hb6.mono hbq5.size);have hgq6 := hg.below (hB.trans (hbq6.mono hB.size));clear hb6;go_wp2_with fail;refine (ratMax_any lo s (24 * m + 16) (by omega) (by omega) HSZ.out.1 HZS.out w6 hgq6).mono ?_;rintro e w7 ⟨_, rfl, rfl, hb7⟩;have hbq7 : Below W.heap.size W w7 := hbq6.trans (hb7.mono hbq6.size);clear hb7;go_wp2_with fail;go_roundw
     case rel => exact ⟨i + 1, maxQ lo s, hi, by go_num, by omega, rfl, rfl, HNX, ⟨maxQ_Sz HSZ.out.1 HZS.out, HSZ.out.2⟩, hbq7⟩
     case measure => simp [RowKit.intOf]; omega
    ·have hG : v < u := Rat.lt_of_le_of_ne (Rat.not_lt.1 hL) (fun e => hE e.symm)
     have HNX := Lib.hid (HWG.out hG);have HC := Lib.hid fun w hg => ratCmp_nlt u v (8 * m + 5) (by omega) (by omega) HZU.out HZV.out hL w hg
     clear hE hL hG;generalize u / (u - v) = s at *;go_wp2_with fail;refine (HC.out w5 hgq5).mono ?_;rintro e w6 ⟨_, rfl, ⟨z, rfl, hz0, hz1⟩, hb6⟩;have hbq6 : Below W.heap.size W w6 := hbq5.trans (hb6.mono hbq5.size);have hgq6 := hg.below (hB.trans (hbq6.mono hB.size));clear hb6;go_wp2_with fail;refine (ratMin_any hi s (24 * m + 16) (by omega) (by omega) HSZ.out.2 HZS.out w6 hgq6).mono ?_;rintro e w7 ⟨_, rfl, rfl, hb7⟩;have hbq7 : Below W.heap.size W w7 := hbq6.trans (hb7.mono hbq6.size);clear hb7;go_wp2_with fail;go_roundw
     case rel => exact ⟨i + 1, lo, minQ hi s, by go_num, by omega, rfl, rfl, HNX, ⟨HSZ.out.1, minQ_Sz HSZ.out.2 HZS.out⟩, hbq7⟩
     case measure => simp [RowKit.intOf]; omega
  ·have HJ : Hid (i = 3) := by unfold Hid; omega
   have hige : (3 : Int) <= (i : Int) := by omega
   have HFL : Hid (Ff = if lo < hi then some (lo, hi) else none) := HFI.out (lo, hi) (by rw [<- HJ.out]; exact HST.out);have hgr := hg.below hbW;clear HCO b3r b4r b5r HFI HNO;go_wp2_with fail;by_cases hL : lo < hi
   ·have HL := Lib.hid hL
    refine (ratCmp_lt lo hi (24 * m + 16) (by omega) (by omega) HSZ.out.1 HSZ.out.2 hL wr hgr).mono ?_;rintro e w5 ⟨_, rfl, rfl, hb5⟩;have HSZ2 := Lib.hid (HS4.out (lo, hi) (by rw [HFL.out, if_pos HL.out]));have HF : Hid (WithinP Ff (.tuple #[.string (RS lo), .string (RS hi), .bool true])) := by
     rw [HFL.out, if_pos HL.out];exact ⟨_, _, rfl, fun r h => by cases h; exact ⟨rfl, rfl, HSZ2.out.1, HSZ2.out.2, HL.out⟩⟩
    clear hL;go_wp2_with fail
    go_ret3
    exact ⟨_, rfl, HF.out, hbW.trans (hb5.mono hbW.size)⟩
   ·have HL := Lib.hid hL
    refine (ratCmp_nlt lo hi (24 * m + 16) (by omega) (by omega) HSZ.out.1 HSZ.out.2 hL wr hgr).mono ?_;rintro e w5 ⟨_, rfl, ⟨z, rfl, hz0, hz1⟩, hb5⟩;have HF : Hid (WithinP Ff (.tuple #[.string (RS lo), .string (RS hi), .bool false])) := by
     rw [HFL.out, if_neg HL.out];exact ⟨_, _, rfl, fun r h => by cases h⟩
    have hzd : decide (z < 0) = false := by simp; exact hz0
    clear hL;go_wp2_with fail
    go_ret3
    exact ⟨_, rfl, HF.out, hbW.trans (hb5.mono hbW.size)⟩
end Go.Proofs.YtbfcmipplhkkeaaGreatDoor
