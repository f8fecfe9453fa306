import Derived.Test.YtgdpoankaojklaaGreatDoorVE6
import Derived.Deep.MidRow
import Derived.Laws.IdiomStrings
/- The walks over field.integral, field.volume, field.Volume. The walks over field.volume, field.Volume. A region that draws its order, with a condition on the world that may end with The walk over mesh.within. The walk over slices.SortFunc at numbers, where there are at most twelve. The walks over the predicate of mesh.Along and over slices.IndexFunc at spans. Plain The contracts of slices.SortFunc and slices.Compact at a slice of the call's The walks over field.combine with rational.Sub, field.Excess. klippelaw38.ThicknessVertical returns true at every plan and place klippelaw12.Place by 3 Slices of slices of numbers Names -/
set_option maxHeartbeats 8000000
set_option maxRecDepth 100000
namespace Go.Proofs.YtgdpoankaojklaaGreatDoor
open Go.RowKit Go.Lib
theorem RS_third13 : RS (1 / 3) = ⟨#[49, 47, 51]⟩ := by decide +kernel
theorem RS_half12 : RS (1 / 2) = ⟨#[49, 47, 50]⟩ := by decide +kernel
structure CorB (w : World) (b : Nat) (c : Cor) : Prop where
 x : w.cell? ⟨b, 0, none⟩ = some (.string (RS c.1.1))
 y : w.cell? ⟨b, 1, none⟩ = some (.string (RS c.1.2))
 z : w.cell? ⟨b, 2, none⟩ = some (.string (RS c.2))
theorem CorB.ofBox {w : World} {b ty : Nat} {c : Cor} (h : BoxN w b ty [.string (RS c.1.1), .string (RS c.1.2), .string (RS c.2)]) : CorB w b c := ⟨h.cell 0 rfl, h.cell 1 rfl, h.cell 2 rfl⟩
theorem CorB.new (w : World) (c : Cor) (ty b : Nat) (hb : w.heap.size = b) : CorB (w.alloc (.cells #[.string (RS c.1.1), .string (RS c.1.2), .string (RS c.2)] ty)) b c := .ofBox (BoxN.new w _ ty b hb)
theorem CorB.alloc {w : World} {b : Nat} {c : Cor} (h : CorB w b c) (o : Obj) : CorB (w.alloc o) b c := ⟨cell_alloc_l _ h.x, cell_alloc_l _ h.y, cell_alloc_l _ h.z⟩
theorem CorB.drew {w : World} {b : Nat} {c : Cor} (h : CorB w b c) : CorB w.drew b c := ⟨h.x, h.y, h.z⟩
theorem fanI_Sz {l : List Cor} {z : Rat} {k : Nat} (hk : 0 < k) (hl : ∀ c ∈ l, SzP k c.1 /\ Sz k c.2) (hz : Sz k z) (n : Nat) : Sz ((14 * k + 14) * n + 1) (fanI l z n) := by
 have hc : ∀ i, SzP k (corI l i).1 /\ Sz k (corI l i).2 := fun i => by
  unfold corI;rcases Nat.lt_or_ge i l.length with h | h
  ·rw [List.getElem?_eq_getElem h]; exact hl _ (List.getElem_mem h)
  ·rw [List.getElem?_eq_none h]; exact ⟨⟨Sz.zero _ hk, Sz.zero _ hk⟩, Sz.zero _ hk⟩
 induction n with
 | zero => exact Sz.zero 1 (by omega)
 | succ n ih =>
   have a := (areaQ_Sz (hc 0).1 (hc (n + 1)).1 (hc (n + 2)).1);have h2 : Sz 1 (1 / 2 : Rat) := ⟨by decide +kernel, by decide +kernel⟩;have h3 : Sz 1 (1 / 3 : Rat) := ⟨by decide +kernel, by decide +kernel⟩;have m := (((((hc 0).2.add (hc (n + 1)).2).add (hc (n + 2)).2).mul h3).sub hz);exact (ih.add ((a.mul h2).mul m)).mono (by rw [Nat.mul_add]; omega)
theorem integral_any (w : World) (v : Value) (l : List Cor) (z : Rat) (k : Nat) (hk : 0 < k) (hk2 : k <= 200) (hlen : l.length <= 6) (hl : ∀ c ∈ l, SzP k c.1 /\ Sz k c.2) (hz : Sz k z) (hv : RdK w v l) (hg : Good w) :
 Calls Tryz.prog 175 #[v, .string (RS z)] w (Ret (fun r _ => r = .string (RS (integ l z))) w) := by
 have HC : Hid (∀ i, SzP k (corI l i).1 /\ Sz k (corI l i).2) := fun i => by
  unfold corI;rcases Nat.lt_or_ge i l.length with h | h
  ·rw [List.getElem?_eq_getElem h]; exact hl _ (List.getElem_mem h)
  ·rw [List.getElem?_eq_none h]; exact ⟨⟨Sz.zero _ hk, Sz.zero _ hk⟩, Sz.zero _ hk⟩
 have HZF := Lib.hid (fanI_Sz hk hl hz);have HZ := Lib.hid hz;have h2 : Sz 1 (1 / 2 : Rat) := ⟨by decide +kernel, by decide +kernel⟩;have h3 : Sz 1 (1 / 3 : Rat) := ⟨by decide +kernel, by decide +kernel⟩;have HH2 := Lib.hid h2;have HH3 := Lib.hid h3;obtain ⟨p, cp, rfl, -, -, hcel⟩ := hv.open;have HCE : Hid (∀ i : Nat, i < l.length -> ∃ b off, p = some ⟨b, off, none⟩ /\ b < w.heap.size /\ w.cell? ⟨b, off + i * 3, none⟩ = some (.string (RS (corI l i).1.1)) /\ w.cell? ⟨b, off + i * 3 + 1, none⟩ = some (.string (RS (corI l i).1.2)) /\ w.cell? ⟨b, off + i * 3 + 2, none⟩ = some (.string (RS (corI l i).2))) := fun i hi => by
  obtain ⟨b, off, h1, h2, h3⟩ := hcel (List.ne_nil_of_length_pos (by omega));rw [corI_nat l i hi];exact ⟨b, off, h1, h2, h3 i hi⟩
 have hf0 : fanI l z 0 = 0 := rfl;clear hv hl hz hcel h2 h3;go_enter Tryz.func175, Tryz.ntmps175;go_wp2_with fail;go_loopw [5, 6] (fun t5 t6 wr => ∃ n j : Nat, t6 = .int .i64 (j : Int) /\ Hid (j = n + 1) /\ n <= l.length - 2 /\ t5 = .string (RS (fanI l z n)) /\ Below w.heap.size w wr) (fun _ t6 _ => 8 - (RowKit.intOf t6).toNat)
 case atStart => exact ⟨0, 1, rfl, rfl, Nat.zero_le _, by rw [hf0, RS_zero], Below.refl _ _⟩
 case round =>
  obtain ⟨n, j1, rfl, HJ, hn, rfl, hbr⟩ := hrel;have hj1 := HJ.out;obtain ⟨j2, hj2⟩ : ∃ j, j = n + 2 := ⟨_, rfl⟩;have hw1 : IntKind.i64.wrap ((j1 : Int) + 1) = (j2 : Int) := (IntWalk.i64_in _ (by omega)).trans (by omega);rcases Nat.lt_or_ge (n + 2) l.length with h | h
  ·have hnz : (j2 : Int) < (l.length : Int) := by omega
   have hnz1 : (j1 : Int) < (l.length : Int) := by omega
   have hn0 : (0 : Int) < (l.length : Int) := by omega
   have hn1 : 0 < l.length := by omega
   have hn2 : ¬ l = [] := List.ne_nil_of_length_pos hn1;have hn3 : ¬ l.length = 0 := by omega
   obtain ⟨bl, ol, rfl, hbl, a0, a1, a2⟩ := HCE.out 0 (by omega);obtain ⟨bl1, ol1, e1, -, b0, b1, b2⟩ := HCE.out (n + 1) (by omega);obtain ⟨bl2, ol2, e2, -, d0, d1, d2⟩ := HCE.out (n + 2) (by omega);injection e1 with e1
   injection e1 with e1 e1' _
   injection e2 with e2
   injection e2 with e2 e2' _
   subst e1 e1' e2 e2';have hbl' : bl < wr.heap.size := Nat.lt_of_lt_of_le hbl hbr.size;have HST : Hid (fanI l z (n + 1) = fanI l z n + areaQ (corI l 0).1 (corI l (n + 1)).1 (corI l (n + 2)).1 * (1 / 2) * (((corI l 0).2 + (corI l (n + 1)).2 + (corI l (n + 2)).2) * (1 / 3) - z)) := rfl;have zf := HZF.out n;have za := HC.out 0;have zb := HC.out (n + 1);have zd := HC.out (n + 2);have x0 := zcq hbr hbl a0;have x1 := zcq hbr hbl a1;have x2 := zcq hbr hbl a2;have x3 := zcq hbr hbl b0;have x4 := zcq hbr hbl b1;have x5 := zcq hbr hbl b2;have x6 := zcq hbr hbl d0;have x7 := zcq hbr hbl d1;have x8 := zcq hbr hbl d2;rw [Nat.zero_mul, Nat.add_zero] at x0 x1 x2;obtain ⟨ca, hca⟩ : ∃ c, c = corI l 0 := ⟨_, rfl⟩;obtain ⟨cb, hcb⟩ : ∃ c, c = corI l (n + 1) := ⟨_, rfl⟩;obtain ⟨cd, hcd⟩ : ∃ c, c = corI l (n + 2) := ⟨_, rfl⟩;rw [<- hca] at za HST x0 x1 x2;rw [<- hcb] at zb HST x3 x4 x5;rw [<- hcd] at zd HST x6 x7 x8;rw [<- hj1] at x3 x4 x5;rw [<- hj2] at x6 x7 x8;have HJ2 := Lib.hid hj2;clear hca hcb hcd a0 a1 a2 b0 b1 b2 d0 d1 d2;have HS : Hid (∀ w', Below wr.heap.size wr w' -> w'.cell? ⟨bl, ol, none⟩ = some (.string (RS ca.1.1)) /\ w'.cell? ⟨bl, ol + 1, none⟩ = some (.string (RS ca.1.2)) /\ w'.cell? ⟨bl, ol + 2, none⟩ = some (.string (RS ca.2)) /\ w'.cell? ⟨bl, ol + j1 * 3, none⟩ = some (.string (RS cb.1.1)) /\ w'.cell? ⟨bl, ol + j1 * 3 + 1, none⟩ = some (.string (RS cb.1.2)) /\ w'.cell? ⟨bl, ol + j1 * 3 + 2, none⟩ = some (.string (RS cb.2)) /\ w'.cell? ⟨bl, ol + j2 * 3, none⟩ = some (.string (RS cd.1.1)) /\ w'.cell? ⟨bl, ol + j2 * 3 + 1, none⟩ = some (.string (RS cd.1.2)) /\ w'.cell? ⟨bl, ol + j2 * 3 + 2, none⟩ = some (.string (RS cd.2))) := fun w' hb => ⟨(zcq hb hbl' x0 :), (zcq hb hbl' x1 :), (zcq hb hbl' x2 :), (zcq hb hbl' x3 :), (zcq hb hbl' x4 :), (zcq hb hbl' x5 :), (zcq hb hbl' x6 :), (zcq hb hbl' x7 :), (zcq hb hbl' x8 :)⟩;have hq00 : Below wr.heap.size wr wr.drew := below_drewN wr 1;clear HCE hj1 hj2;go_upto_region 5 with fail;go_cut [7, 8, 9] (fun s7 s8 s9 wx => ∃ b5 b6 b7 : Nat, s7 = .pointer (some ⟨b5, 0, none⟩) /\ s8 = .pointer (some ⟨b6, 0, none⟩) /\ s9 = .pointer (some ⟨b7, 0, none⟩) /\ CorB wx b5 ca /\ CorB wx b6 cb /\ CorB wx b7 cd /\ Below wr.heap.size wr wx)
   case first =>
    go_region_held3 (fun w' => w'.cell? ⟨bl, ol, none⟩ = some (.string (RS ca.1.1)) /\ w'.cell? ⟨bl, ol + 1, none⟩ = some (.string (RS ca.1.2)) /\ w'.cell? ⟨bl, ol + 2, none⟩ = some (.string (RS ca.2)) /\ w'.cell? ⟨bl, ol + j1 * 3, none⟩ = some (.string (RS cb.1.1)) /\ w'.cell? ⟨bl, ol + j1 * 3 + 1, none⟩ = some (.string (RS cb.1.2)) /\ w'.cell? ⟨bl, ol + j1 * 3 + 2, none⟩ = some (.string (RS cb.2)) /\ w'.cell? ⟨bl, ol + j2 * 3, none⟩ = some (.string (RS cd.1.1)) /\ w'.cell? ⟨bl, ol + j2 * 3 + 1, none⟩ = some (.string (RS cd.1.2)) /\ w'.cell? ⟨bl, ol + j2 * 3 + 2, none⟩ = some (.string (RS cd.2)))
     ((refine HS.out _ ?_; repeat (first | with_reducible exact hq00 | with_reducible exact Below.refl _ _ | with_reducible refine Below.drew ?_ | ((with_reducible refine Below.setCell ?_ ?_ _); rotate_left; (first | omega | (simp <;> omega))) | ((with_reducible refine Below.alloc ?_ ?_ _); rotate_left; (first | exact Nat.le_refl _ | omega | (simp <;> omega))))))
     (first | fail)
    all_goals
     go_wp2_with fail;go_meet;refine ⟨_, _, _, rfl, rfl, rfl, ?_, ?_, ?_, ?_⟩
     ·repeat (first | with_reducible refine CorB.drew ?_ | exact CorB.new _ ca _ _ (by first | rfl | simp) | with_reducible refine CorB.alloc ?_ _)
     ·repeat (first | with_reducible refine CorB.drew ?_ | exact CorB.new _ cb _ _ (by first | rfl | simp) | with_reducible refine CorB.alloc ?_ _)
     ·repeat (first | with_reducible refine CorB.drew ?_ | exact CorB.new _ cd _ _ (by first | rfl | simp) | with_reducible refine CorB.alloc ?_ _)
     ·repeat (first | with_reducible exact hq00 | with_reducible exact Below.refl _ _ | with_reducible refine Below.drew ?_ | ((with_reducible refine Below.setCell ?_ ?_ _); rotate_left; (first | omega | (simp <;> omega))) | ((with_reducible refine Below.alloc ?_ ?_ _); rotate_left; (first | exact Nat.le_refl _ | omega | (simp <;> omega))))
   case rest =>
   obtain ⟨b5, b6, b7, rfl, rfl, rfl, ⟨a0, a1, a2⟩, ⟨b0, b1, b2⟩, ⟨d0, d1, d2⟩, hbW⟩ := hcut;have hl5 : b5 < wc.heap.size := World.block_lt_of_cell? wc _ a0;have hl6 : b6 < wc.heap.size := World.block_lt_of_cell? wc _ b0;have hl7 : b7 < wc.heap.size := World.block_lt_of_cell? wc _ d0;have hB5 := hbr.trans (hbW.mono hbr.size);have hgd : Good wc.drew := (hg.below hB5).drewN 1;obtain ⟨⟨pax, pay⟩, za'⟩ := ca;obtain ⟨⟨pbx, pby⟩, zb'⟩ := cb;obtain ⟨⟨pdx, pdy⟩, zd'⟩ := cd;dsimp only [SzP] at a0 a1 a2 b0 b1 b2 d0 d1 d2 za zb zd;unfold areaQ at HST;dsimp only at HST;have HX1 := Lib.hid fun w hg => ratSub_any pbx pax k hk (by omega) zb.1.1 za.1.1 w hg
   have HX2 := Lib.hid fun w hg => ratSub_any pby pay k hk (by omega) zb.1.2 za.1.2 w hg
   have HX3 := Lib.hid fun w hg => ratSub_any pdx pax k hk (by omega) zd.1.1 za.1.1 w hg
   have HX4 := Lib.hid fun w hg => ratSub_any pdy pay k hk (by omega) zd.1.2 za.1.2 w hg
   have s1 : Sz (2 * k + 1) (pbx - pax) := (zb.1.1.sub za.1.1).mono (by omega);have s2 : Sz (2 * k + 1) (pby - pay) := (zb.1.2.sub za.1.2).mono (by omega);have s3 : Sz (2 * k + 1) (pdx - pax) := (zd.1.1.sub za.1.1).mono (by omega);have s4 : Sz (2 * k + 1) (pdy - pay) := (zd.1.2.sub za.1.2).mono (by omega);have HM1 := Lib.hid fun w hg => ratMul_any (pbx - pax) (pdy - pay) (2 * k + 1) (by omega) (by omega) s1 s4 w hg
   have HM2 := Lib.hid fun w hg => ratMul_any (pby - pay) (pdx - pax) (2 * k + 1) (by omega) (by omega) s2 s3 w hg
   have s5 : Sz (4 * k + 2) ((pbx - pax) * (pdy - pay)) := (s1.mul s4).mono (by omega);have s6 : Sz (4 * k + 2) ((pby - pay) * (pdx - pax)) := (s2.mul s3).mono (by omega);have HD1 := Lib.hid fun w hg => ratSub_any ((pbx - pax) * (pdy - pay)) ((pby - pay) * (pdx - pax)) (4 * k + 2) (by omega) (by omega) s5 s6 w hg
   have s7 : Sz (8 * k + 5) ((pbx - pax) * (pdy - pay) - (pby - pay) * (pdx - pax)) := (s5.sub s6).mono (by omega);have HSU : Hid (∀ (v : Value) (w : World), RdQ w v [za', zb', zd'] -> Good w -> _) := fun v w hr hg => ratSum_any [za', zb', zd'] k hk (by simp; omega) (by
    intro q hq;simp only [List.mem_cons, List.not_mem_nil, or_false] at hq;rcases hq with rfl | rfl | rfl
    ·exact za.2
    ·exact zb.2
    ·exact zd.2) v w hr hg
   rw [show [za', zb', zd'].foldl (·+ ·) 0 = za' + zb' + zd' by simp only [List.foldl_cons, List.foldl_nil]; grind] at HSU;have s8 : Sz (3 * k + 2) (za' + zb' + zd') := ((za.2.add zb.2).add zd.2).mono (by omega);have HM3 := Lib.hid fun w hg => ratMul_any (za' + zb' + zd') (1 / 3) (3 * k + 2) (by omega) (by omega) s8 (HH3.out.mono (by omega)) w hg
   have s9 : Sz (3 * k + 3) ((za' + zb' + zd') * (1 / 3)) := (s8.mul HH3.out).mono (by omega);have HD2 := Lib.hid fun w hg => ratSub_any ((za' + zb' + zd') * (1 / 3)) z (3 * k + 3) (by omega) (by omega) s9 (HZ.out.mono (by omega)) w hg
   have s10 : Sz (4 * k + 4) ((za' + zb' + zd') * (1 / 3) - z) := (s9.sub HZ.out).mono (by omega);have HM4 := Lib.hid fun w hg => ratMul_any ((pbx - pax) * (pdy - pay) - (pby - pay) * (pdx - pax)) (1 / 2) (8 * k + 5) (by omega) (by omega) s7 (HH2.out.mono (by omega)) w hg
   have s11 : Sz (8 * k + 6) (((pbx - pax) * (pdy - pay) - (pby - pay) * (pdx - pax)) * (1 / 2)) := (s7.mul HH2.out).mono (by omega);have HM5 := Lib.hid fun w hg => ratMul_any (((pbx - pax) * (pdy - pay) - (pby - pay) * (pdx - pax)) * (1 / 2)) ((za' + zb' + zd') * (1 / 3) - z) (8 * k + 6) (by omega) (by omega) s11 (s10.mono (by omega)) w hg
   have HAD := Lib.hid fun w hg => ratAdd_any (fanI l z n) (((pbx - pax) * (pdy - pay) - (pby - pay) * (pdx - pax)) * (1 / 2) * ((za' + zb' + zd') * (1 / 3) - z)) ((14 * k + 14) * 6 + 1) (by omega) (by omega) (zf.mono (by have := Nat.mul_le_mul_left (14 * k + 14) (show n <= 6 by omega); omega)) ((s11.mul s10).mono (by omega)) w hg
   rw [RS_third13] at HM3;rw [RS_half12] at HM4;obtain ⟨res, hres⟩ : ∃ r, r = fanI l z n + ((pbx - pax) * (pdy - pay) - (pby - pay) * (pdx - pax)) * (1 / 2) * ((za' + zb' + zd') * (1 / 3) - z) := ⟨_, rfl⟩;rw [<- hres] at HST HAD;clear hres za zb zd zf s1 s2 s3 s4 s5 s6 s7 s8 s9 s10 s11;generalize ((pbx - pax) * (pdy - pay) - (pby - pay) * (pdx - pax)) * (1 / 2) * ((za' + zb' + zd') * (1 / 3) - z) = r1 at *;generalize ((pbx - pax) * (pdy - pay) - (pby - pay) * (pdx - pax)) * (1 / 2) = r2 at *;generalize (pbx - pax) * (pdy - pay) - (pby - pay) * (pdx - pax) = r3 at *;generalize (za' + zb' + zd') * (1 / 3) - z = r4 at *;generalize (za' + zb' + zd') * (1 / 3) = r5 at *;generalize za' + zb' + zd' = r6 at *;generalize (pbx - pax) * (pdy - pay) = r7 at *;generalize (pby - pay) * (pdx - pax) = r8 at *;generalize pbx - pax = r9 at *;generalize pdy - pay = r10 at *;generalize pby - pay = r11 at *;generalize pdx - pax = r12 at *;clear x0 x1 x2 x3 x4 x5 x6 x7 x8 HS hq00;go_wp2_with fail;go_region_held3 (fun w' => w'.cell? ⟨b5, 0, none⟩ = some (.string (RS pax)) /\ w'.cell? ⟨b5, 1, none⟩ = some (.string (RS pay)) /\ w'.cell? ⟨b6, 0, none⟩ = some (.string (RS pbx)) /\ w'.cell? ⟨b6, 1, none⟩ = some (.string (RS pby)))
    (first | exact ⟨a0, a1, b0, b1⟩ | exact ⟨p_1_0, p_1_1, p_1_2, p_1_3⟩ | exact ⟨p_2_0, p_2_1, p_2_2, p_2_3⟩)
    (first
    | (go_at_call 32; refine (HX2.out _ pg1).mono ?_; rintro e pw2 ⟨_, rfl, rfl, pb2⟩
       have p_2_0 := zct pb2 p_1_0;have p_2_1 := zct pb2 p_1_1;have p_2_2 := zct pb2 p_1_2;have p_2_3 := zct pb2 p_1_3;have ps2 := pb2.size;have pg2 := pg1.below pb2)
    | (go_at_call 32; refine (HX1.out _ hgd).mono ?_; rintro e pw1 ⟨_, rfl, rfl, pb1⟩
       have p_1_0 := zct pb1 a0;have p_1_1 := zct pb1 a1;have p_1_2 := zct pb1 b0;have p_1_3 := zct pb1 b1;have ps1 : wc.heap.size <= pw1.heap.size := pb1.size;have pg1 := hgd.below pb1))
   have pB : Below wc.heap.size wc pw2 := zbt (zbt (below_drewN wc 1) pb1) pb2;have hB6 := hB5.trans (pB.mono hB5.size);have a0' := zcq pB hl5 a0;have a1' := zcq pB hl5 a1;have a2' := zcq pB hl5 a2;have b2' := zcq pB hl6 b2;have d0' := zcq pB hl7 d0;have d1' := zcq pB hl7 d1;have d2' := zcq pB hl7 d2;have hl5' : b5 < pw2.heap.size := Nat.lt_of_lt_of_le hl5 pB.size;have hl6' : b6 < pw2.heap.size := Nat.lt_of_lt_of_le hl6 pB.size;have hl7' : b7 < pw2.heap.size := Nat.lt_of_lt_of_le hl7 pB.size;have hgd2 : Good pw2.drew := pg2.drewN 1;obtain ⟨V, hV⟩ : ∃ V, V = pw2 := ⟨_, rfl⟩;rw [<- hV] at hB6 a0' a1' a2' b2' d0' d1' d2' hl5' hl6' hl7' hgd2 ⊢;clear hV a0 a1 a2 b0 b1 b2 d0 d1 d2 pB pg1 pg2 pb1 pb2 ps1 ps2 p_1_0 p_1_1 p_1_2 p_1_3 p_2_0 p_2_1 p_2_2 p_2_3 hl5 hl6 hl7 HX1 HX2;go_wp2_with fail;go_region_held3 (fun w' => w'.cell? ⟨b5, 0, none⟩ = some (.string (RS pax)) /\ w'.cell? ⟨b5, 1, none⟩ = some (.string (RS pay)) /\ w'.cell? ⟨b7, 0, none⟩ = some (.string (RS pdx)) /\ w'.cell? ⟨b7, 1, none⟩ = some (.string (RS pdy)))
    (first | exact ⟨a0', a1', d0', d1'⟩ | exact ⟨q_1_0, q_1_1, q_1_2, q_1_3⟩ | exact ⟨q_2_0, q_2_1, q_2_2, q_2_3⟩)
    (first
    | (go_at_call 32; refine (HX4.out _ qg1).mono ?_; rintro e qw2 ⟨_, rfl, rfl, qb2⟩
       have q_2_0 := zct qb2 q_1_0;have q_2_1 := zct qb2 q_1_1;have q_2_2 := zct qb2 q_1_2;have q_2_3 := zct qb2 q_1_3;have qs2 := qb2.size;have qg2 := qg1.below qb2)
    | (go_at_call 32; refine (HX3.out _ hgd2).mono ?_; rintro e qw1 ⟨_, rfl, rfl, qb1⟩
       have q_1_0 := zct qb1 a0';have q_1_1 := zct qb1 a1';have q_1_2 := zct qb1 d0';have q_1_3 := zct qb1 d1';have qs1 : V.heap.size <= qw1.heap.size := qb1.size;have qg1 := hgd2.below qb1))
   have qB : Below V.heap.size V qw2 := zbt (zbt (below_drewN V 1) qb1) qb2;have hB7 := hB6.trans (qB.mono hB6.size);have a2 := zcq qB hl5' a2';have b2 := zcq qB hl6' b2';have d2 := zcq qB hl7' d2';have hl5 : b5 < qw2.heap.size := Nat.lt_of_lt_of_le hl5' qB.size;have hl6 : b6 < qw2.heap.size := Nat.lt_of_lt_of_le hl6' qB.size;have hl7 : b7 < qw2.heap.size := Nat.lt_of_lt_of_le hl7' qB.size;obtain ⟨U, hU⟩ : ∃ V, V = qw2 := ⟨_, rfl⟩;rw [<- hU] at hB7 a2 b2 d2 hl5 hl6 hl7 ⊢;clear hU a0' a1' a2' b2' d0' d1' d2' qB qg1 qg2 qb1 qb2 qs1 qs2 q_1_0 q_1_1 q_1_2 q_1_3 q_2_0 q_2_1 q_2_2 q_2_3 hl5' hl6' hl7' HX3 HX4 hgd hgd2;have hB8 := hB7;go_wp2_with fail;refine (HM1.out _ (hg.below hB8)).mono ?_;rintro e y1 ⟨_, rfl, rfl, hy1⟩;have hB9 := hB8.trans (hy1.mono hB8.size);go_wp2_with fail;refine (HM2.out _ (hg.below hB9)).mono ?_;rintro e y2 ⟨_, rfl, rfl, hy2⟩;have hB10 := hB9.trans (hy2.mono hB9.size);go_wp2_with fail;refine (HD1.out _ (hg.below hB10)).mono ?_;rintro e y3 ⟨_, rfl, rfl, hy3⟩;have hB11 := hB10.trans (hy3.mono hB10.size);have s1 := hl5;have s2 := hl6;have s3 := hl7;have a2 := zcq hy1 s1 a2;have b2 := zcq hy1 s2 b2;have d2 := zcq hy1 s3 d2;have s1 := Nat.le_trans s1 hy1.size;have s2 := Nat.le_trans s2 hy1.size;have s3 := Nat.le_trans s3 hy1.size;have a2 := zcq hy2 s1 a2;have b2 := zcq hy2 s2 b2;have d2 := zcq hy2 s3 d2;have s1 := Nat.le_trans s1 hy2.size;have s2 := Nat.le_trans s2 hy2.size;have s3 := Nat.le_trans s3 hy2.size;have a2 := zcq hy3 s1 a2;have b2 := zcq hy3 s2 b2;have d2 := zcq hy3 s3 d2;go_wp2_with fail;have hBA := hB11.alloc hB11.size (.cells #[.string (RS za'), .string (RS zb'), .string (RS zd')] 57);refine (HSU.out _ _ (RdQ.fresh y3 [za', zb', zd'] _ _ rfl (by simp) 3 rfl _ rfl) (hg.below hBA)).mono ?_;rintro e y4 ⟨_, rfl, rfl, hy4⟩;have hB12 := hBA.trans (hy4.mono hBA.size);clear a2 b2 d2 s1 s2 s3;go_wp2_with fail;refine (HM3.out _ (hg.below hB12)).mono ?_;rintro e y5 ⟨_, rfl, rfl, hy5⟩;have hB13 := hB12.trans (hy5.mono hB12.size);go_wp2_with fail;refine (HD2.out _ (hg.below hB13)).mono ?_;rintro e y6 ⟨_, rfl, rfl, hy6⟩;have hB14 := hB13.trans (hy6.mono hB13.size);go_wp2_with fail;refine (HM4.out _ (hg.below hB14)).mono ?_;rintro e y7 ⟨_, rfl, rfl, hy7⟩;have hB15 := hB14.trans (hy7.mono hB14.size);go_wp2_with fail;refine (HM5.out _ (hg.below hB15)).mono ?_;rintro e y8 ⟨_, rfl, rfl, hy8⟩;have hB16 := hB15.trans (hy8.mono hB15.size);go_wp2_with fail;refine (HAD.out _ (hg.below hB16)).mono ?_;rintro e y9 ⟨_, rfl, rfl, hy9⟩;have hB17 := hB16.trans (hy9.mono hB16.size);go_wp2_with fail;go_roundw
   case rel => exact ⟨n + 1, j2, rfl, HJ2.out, by omega, by rw [HST.out], hB17⟩
   case measure =>
    have h7 := HJ.out;have h8 := HJ2.out;simp [RowKit.intOf]; omega
  ·have hnn : ¬ (j2 : Int) < (l.length : Int) := by omega
   have HI : Hid (fanI l z n = integ l z) := by unfold Hid integ; rw [show n = l.length - 2 by omega]
   rw [HI.out];go_wp2_with fail;go_ret;exact ⟨_, rfl, rfl, hbr⟩
theorem cross_Sz2 {a b : Cor} {z : Rat} {k m : Nat} (ha : SzP k a.1 /\ Sz k a.2) (hb : SzP k b.1 /\ Sz k b.2) (hz : Sz m z) : SzP (6 * k + m + 4) (crossK a b z).1 := by
 have d1 := ha.2.sub hz;have dd := d1.div (ha.2.sub hb.2) (by omega);unfold crossK towQ;rw [show (a.2 - z) - (b.2 - z) = a.2 - b.2 by grind];exact ⟨(ha.1.1.add (dd.mul (hb.1.1.sub ha.1.1))).mono (by omega), (ha.1.2.add (dd.mul (hb.1.2.sub ha.1.2))).mono (by omega)⟩
theorem cutS_Sz2 {a b : Cor} {z : Rat} {k m : Nat} (ha : SzP k a.1 /\ Sz k a.2) (hb : SzP k b.1 /\ Sz k b.2) (hz : Sz m z) : ∀ c ∈ cutS a b z, SzP (6 * k + m + 4) c.1 /\ Sz (k + m) c.2 := by
 intro c hc;unfold cutS at hc;rcases List.mem_append.1 hc with h | h
 ·split at h
  ·simp at h; subst h
   exact ⟨⟨ha.1.1.mono (by omega), ha.1.2.mono (by omega)⟩, ha.2.mono (by omega)⟩
  ·simp at h
 ·split at h
  ·simp at h; subst h
   exact ⟨cross_Sz2 ha hb hz, hz.mono (by omega)⟩
  ·simp at h
theorem cutTo_Sz2 {c0 c1 c2 : Cor} {z : Rat} {k m : Nat} (h0 : SzP k c0.1 /\ Sz k c0.2) (h1 : SzP k c1.1 /\ Sz k c1.2) (h2 : SzP k c2.1 /\ Sz k c2.2) (hz : Sz m z) : ∀ (i : Nat), ∀ c ∈ cutTo c0 c1 c2 z i, SzP (6 * k + m + 4) c.1 /\ Sz (k + m) c.2
 | 0 => fun c hc => by simp [cutTo] at hc
 | i + 1 => fun c hc => by
   unfold cutTo at hc;rcases List.mem_append.1 hc with h | h
   ·exact cutTo_Sz2 h0 h1 h2 hz i c h
   ·refine cutS_Sz2 ?_ ?_ hz c h
    ·unfold corA; split <;> assumption
    ·unfold corB; split <;> assumption
theorem partT_Sz2 {P : List PtQ} {F : List Rat} {tr : Tri} {z : Rat} {k m : Nat} (hs : ∀ x ∈ idxOf tr, SzP k (ptI P x) /\ Sz k (hI F x)) (hz : Sz m z) (c : Cor) (hc : c ∈ partT P F z tr) : SzP (6 * k + m + 4) c.1 /\ Sz (k + m) c.2 := by
 unfold partT cutL at hc;split at hc
 ·exact cutTo_Sz2 (hs _ (by simp [idxOf])) (hs _ (by simp [idxOf])) (hs _ (by simp [idxOf])) hz 3 c hc
 ·simp at hc
theorem partT_len (P : List PtQ) (F : List Rat) (z : Rat) (tr : Tri) : (partT P F z tr).length <= 6 := cutL_len _ _ _ _
theorem fvolume_any (w : World) (vp vt vf : Value) (P : List PtQ) (T : List Tri) (k : Nat) (F : List Rat) (h : FieldIn w vp vt vf P T k F) (z : Rat) (m n : Nat) (hz : Sz m z) (hkm : 6 * k + m + 4 <= 200) (hn : n <= 20000) (hn2 : (14 * (6 * k + m + 4) + 14) * 4 + 1 <= n) (hV : ∀ t, t <= T.length -> Sz n (volTo P T F z t)) (hg : Good w) :
 Calls Tryz.prog 135 #[.agg #[vp, vt], vf, .string (RS z)] w (Ret (fun r _ => r = .string (RS (volTo P T F z T.length))) w) := by
 have HH := Lib.hid h;have hkp := h.m.kpos;have HSZ : Hid (∀ tr ∈ T, ∀ x ∈ idxOf tr, SzP k (ptI P x) /\ Sz k (hI F x)) := fun tr htr x hx => by
  obtain ⟨h0, h1⟩ := h.m.idx tr htr x hx;obtain ⟨q, rfl⟩ : ∃ q : Nat, x = (q : Int) := ⟨x.toNat, by omega⟩;rw [ptI_nat P q (by omega), hI_nat F q (by have := h.fl; omega)];exact ⟨h.m.sz _ (List.getElem_mem _), h.fs _ (List.getElem_mem _)⟩
 have HCO : Hid (∀ (i : Nat) (hi : i < T.length) (w' : World), FieldIn w' vp vt vf P T k F -> Good w' -> _) := fun i hi w' h' hg' => corners_any w' vp vt vf P T k F h'.p h'.t h'.m.toMeshIn h'.f h'.fl i i rfl hi (triI T i) (triI_nat T i hi) hg';have HCU : Hid (∀ (i : Nat) (hi : i < T.length) (w' : World), Good w' -> _) := fun i hi w' hg' => part_any P F (triI T i) z k m hkp (by omega) (HSZ.out (triI T i) (by rw [triI_nat T i hi]; exact List.getElem_mem hi)) hz w' hg'
 have hps : ∀ (i : Nat) (hi : i < T.length), ∀ c ∈ partT P F z (triI T i), SzP (6 * k + m + 4) c.1 /\ Sz (6 * k + m + 4) c.2 := fun i hi c hc => by
  have := partT_Sz2 (HSZ.out (triI T i) (by rw [triI_nat T i hi]; exact List.getElem_mem hi)) hz c hc;exact ⟨this.1, this.2.mono (by omega)⟩
 have HIN : Hid (∀ (i : Nat) (hi : i < T.length) (v : Value) (w' : World), RdK w' v (partT P F z (triI T i)) -> Good w' -> _) := fun i hi v w' hv hg' => integral_any w' v (partT P F z (triI T i)) z (6 * k + m + 4) (by omega) hkm (partT_len _ _ _ _) (hps i hi) (hz.mono (by omega)) hv hg'
 have HIS : Hid (∀ (i : Nat) (hi : i < T.length), Sz n (integ (partT P F z (triI T i)) z)) := fun i hi => by
  have := fanI_Sz (l := partT P F z (triI T i)) (z := z) (k := 6 * k + m + 4) (by omega) (hps i hi) (hz.mono (by omega)) ((partT P F z (triI T i)).length - 2);refine this.mono (Nat.le_trans (Nat.add_le_add_right (Nat.mul_le_mul_left _ ?_) 1) hn2);have := partT_len P F z (triI T i);omega
 have HAD : Hid (∀ (i : Nat) (hi : i < T.length) (w' : World), Good w' -> _) := fun i hi w' hg' => ratAdd_any (volTo P T F z i) (integ (partT P F z (triI T i)) z) n (by omega) hn (hV i (by omega)) (HIS.out i hi) w' hg'
 have HST : Hid (∀ i, volTo P T F z (i + 1) = volTo P T F z i + integ (partT P F z (triI T i)) z) := fun i => rfl;have hv0 : volTo P T F z 0 = 0 := rfl;obtain ⟨pp, cp, pt, ct, pf, cf, rfl, rfl, rfl⟩ := h.open;have hTl : T.length <= 800 := h.m.tlen;obtain ⟨sz, hsz⟩ : ∃ s, s = RS z := ⟨_, rfl⟩;rw [<- hsz] at HCU HIN ⊢;clear h hz hkm hn hn2 hV hps HIS hsz HSZ;generalize volTo P T F z = VT at *;go_enter Tryz.func135, Tryz.ntmps135;go_wp2_with fail;obtain ⟨W, hW⟩ : ∃ W, W = w.alloc (.cells #[.slice pp P.length cp, .slice pt T.length ct] 37) := ⟨_, rfl⟩;have hB : Below w.heap.size w W := by rw [hW]; exact zal _ _
 have b0 : BoxN W w.heap.size 37 [.slice pp P.length cp, .slice pt T.length ct] := by rw [hW]; exact BoxN.new _ _ _ _ rfl
 rw [<- hW];clear hW;have x0 := b0.cell 0 rfl;have x1 := b0.cell 1 rfl;try go_wp2_with fail
 clear x0 x1;go_loopw [7, 12] (fun t7 t12 wr => ∃ i : Nat, t12 = .int .i64 i /\ i <= T.length /\ t7 = .string (RS (VT i)) /\ Below W.heap.size W wr) (fun _ t12 _ => T.length - (RowKit.intOf t12).toNat)
 case atStart => exact ⟨0, rfl, Nat.zero_le _, by rw [hv0, RS_zero], Below.refl _ _⟩
 case round =>
  obtain ⟨i, rfl, hin, rfl, hbr⟩ := hrel;have hBr := hB.trans (hbr.mono hB.size);rcases Nat.lt_or_ge i T.length with h | h
  ·have hiz : (i : Int) < (T.length : Int) := by omega
   have b1 := b0.below hbr b0.lt;have x0 := b1.cell 0 rfl;have x1 := b1.cell 1 rfl;have HC1 : Hid (∀ w', Below w.heap.size w w' -> _) := fun w' hb => HCO.out i h w' (HH.out.below hb) (hg.below hb);have HC2 : Hid (∀ w', Good w' -> _) := fun w' hg' => HCU.out i h w' hg';have HC3 : Hid (∀ (v : Value) (w' : World), RdK w' v (partT P F z (triI T i)) -> Good w' -> _) := fun v w' hv hg' => HIN.out i h v w' hv hg';have HC4 : Hid (∀ w', Good w' -> _) := fun w' hg' => HAD.out i h w' hg';have HS1 := Lib.hid (HST.out i);go_wp2_with fail;refine (HC1.out wr hBr).mono ?_;rintro e w1 ⟨_, rfl, rfl, hb1⟩;have hbr1 := hbr.trans (hb1.mono hbr.size);have hBr1 := hBr.trans (hb1.mono hBr.size);clear x0 x1 b1 hb1;go_wp2_with fail;refine (HC2.out w1 (hg.below hBr1)).mono ?_;rintro e w2 ⟨v2, rfl, hpv, hb2⟩;have hbr2 := hbr1.trans (hb2.mono hbr1.size);have hBr2 := hBr1.trans (hb2.mono hBr1.size);have hrd : RdK w2 v2 (partT P F z (triI T i)) := RdC.of_owns hpv.1;obtain ⟨pq, cq, rfl, -, -, -⟩ := hrd.open;clear hb2 hpv;go_wp2_with fail;refine (HC3.out _ w2 hrd (hg.below hBr2)).mono ?_;rintro e w3 ⟨_, rfl, rfl, hb3⟩;have hbr3 := hbr2.trans (hb3.mono hbr2.size);have hBr3 := hBr2.trans (hb3.mono hBr2.size);clear hb3 hrd;go_wp2_with fail;refine (HC4.out w3 (hg.below hBr3)).mono ?_;rintro e w4 ⟨_, rfl, rfl, hb4⟩;have hbr4 := hbr3.trans (hb4.mono hbr3.size);clear hb4;go_wp2_with fail;go_roundw
   case rel => exact ⟨i + 1, by go_num, by omega, by rw [HS1.out], hbr4⟩
   case measure => simp [RowKit.intOf]; omega
  ·have hige : ¬ (i : Int) < (T.length : Int) := by omega
   have HI : Hid (i = T.length) := by unfold Hid; omega
   rw [HI.out];go_wp2_with fail;go_ret;exact ⟨_, rfl, rfl, hBr⟩
end Go.Proofs.YtgdpoankaojklaaGreatDoor
namespace Go.Proofs.YtgdpoankaojklaaGreatDoor
open Go
section
variable {P : Program} {ops : Array Oper} {Q : Exit -> Act -> World -> Prop} {md : Region.Mode} {S : Array Bool -> World -> Prop}
def AnyL (P : Program) (md : Region.Mode) (ops : Array Oper) (Q : Exit -> Act -> World -> Prop) (S : Array Bool -> World -> Prop) : Nat -> Array Bool -> Act -> World -> Prop
 | 0, l, a, w => Region.ready md ops l = [] /\ Q .normal a w
 | n + 1, l, a, w => (Region.ready md ops l = [] -> Q .normal a w) /\ ∀ i ∈ Region.ready md ops l, wpOp P ops Q i (fun a' w' => S (l.setIfInBounds i true) w' /\ AnyL P md ops Q S n (l.setIfInBounds i true) a' w') a w
theorem AnyL.any : ∀ (n : Nat) (l : Array Bool) (a : Act) (w : World), AnyL P md ops Q S n l a w -> wpAny P md ops Q n l a w
 | 0, _, _, _, h => h
 | n + 1, _, _, _, h => ⟨h.1, fun i hi => wpOp_mono (fun a' w' h' => AnyL.any n _ a' w' h'.2) (h.2 i hi)⟩
theorem AnyL.region {id : Nat} {a : Act} {w : World} (hm : P.follows .mixedOrders = true)
 (h : AnyL P .any ops Q S ops.size (Array.replicate ops.size false) a w.drew) : (Code.region id ops true).wp P Q a w :=
 wp_region_any hm (AnyL.any _ _ _ _ h)
theorem AnyL.first {i : Nat} {oi : Oper} {v : Value} {C : World -> Prop} {R : Array Bool -> Prop} (hi : ops[i]? = some oi) (hs : Region.noSelect ops = true)
 (hQ : ∀ c a w, Q (.panic c) (a.put oi.dst v) w -> Q (.panic c) a w)
 (hR : ∀ l j, R l -> j ∈ Region.ready md ops l -> l.getD i true = false -> j ≠ i -> R (l.setIfInBounds j true))
 (hC : ∀ l w, R l -> S (l.setIfInBounds i true) w -> C w) (hD : ∀ l w, R l -> S (l.setIfInBounds i true) w -> S l w) :
 ∀ (n : Nat) (l : Array Bool) (a : Act) (w : World),
  (∀ j oj, ops[j]? = some oj -> j ≠ i -> l.getD j true = false -> (∀ e ∈ oj.after, Region.binds md e = true -> e.on ≠ i) -> oi.apart ops oj = true) ->
  R l -> i ∈ Region.ready md ops l -> YieldsIf P ops C oi v a -> C w -> S (l.setIfInBounds i true) w ->
  AnyL P md ops Q S n (l.setIfInBounds i true) (a.put oi.dst v) w -> AnyL P md ops Q S (n + 1) l a w
 | 0, l, a, w, _, _, hr, hy, hc, hS, H => by
   refine ⟨fun h => (by rw [h] at hr; cases hr), fun j hj => ?_⟩;by_cases e : j = i
   ·subst e; exact hy.wpOp hi hc ⟨hS, H⟩
   ·have := ready_mono hj e
    rw [H.1] at this;cases this
 | n + 1, l, a, w, hf, hRl, hr, hy, hc, hS, H => by
   refine ⟨fun h => (by rw [h] at hr; cases hr), fun j hj => ?_⟩;by_cases e : j = i
   ·subst e; exact hy.wpOp hi hc ⟨hS, H⟩
   ·have hun := (mem_ready.1 hr).1
    obtain ⟨hju, oj, hoj, hall⟩ := mem_ready.1 hj;have hno : ∀ d ∈ oj.after, Region.binds md d = true -> d.on ≠ i := fun d hd hb heq => by
     have h1 := hall d hd hb;rw [heq] at h1;rw [Array.getD_eq_getD_getElem?] at h1 hun;cases hg : l[i]? with
     | none => rw [hg] at h1; cases h1
     | some b => rw [hg] at h1 hun; simp at h1 hun; rw [h1] at hun; cases hun
    have h2 := wpOp_putIf hoj (hf j oj hoj e hju hno) (fun cs b => Region.noSelect_spec hs i oi cs b hi) (fun cs b => Region.noSelect_spec hs j oj cs b hoj) hQ hy (H.2 j (ready_mono hj e));have hRj := hR l j hRl hj hun e;have hcomm : (l.setIfInBounds i true).setIfInBounds j true = (l.setIfInBounds j true).setIfInBounds i true := Array.setIfInBounds_comm _ _ (Ne.symm e);refine wpOp_mono (fun a' w' h3 => ?_) h2;obtain ⟨h4, h5, h6⟩ := h3;rw [hcomm] at h5 h6;refine ⟨hD _ _ hRj h5, AnyL.first hi hs hQ hR hC hD n _ a' w' (fun m om hom hmi hmu hmn => hf m om hom hmi ?_ hmn) hRj (ready_mono hr (Ne.symm e)) h4 (hC _ _ hRj h5) h5 h6⟩;by_cases hjm : j = m
    ·subst hjm; exact hju
    ·rw [getD_set_ne true hjm] at hmu; exact hmu
def Till (k : Nat) (A B : World -> Prop) (l : Array Bool) (w : World) : Prop := A w /\ (l.getD k true = false -> B w)
theorem AnyL.take {k i : Nat} {A B : World -> Prop} {oi : Oper} {v : Value} {n : Nat} {l : Array Bool} {a : Act} {w : World} (hi : ops[i]? = some oi) (hs : Region.noSelect ops = true)
 (hf : Region.free md ops l i = true) (hr : (Region.ready md ops l).contains i = true) (hki : i ≠ k) (hQ : ∀ c a w, Q (.panic c) (a.put oi.dst v) w -> Q (.panic c) a w)
 (hy : YieldsIf P ops A oi v a) (hS : Till k A B l w) (h : AnyL P md ops Q (Till k A B) n (l.setIfInBounds i true) (a.put oi.dst v) w) : AnyL P md ops Q (Till k A B) (n + 1) l a w := by
 refine AnyL.first (R := fun _ => True) (C := A) hi hs hQ (fun _ _ _ _ _ _ => trivial) (fun _ _ _ h => h.1) (fun l w _ h => ⟨h.1, fun hk => h.2 (by rw [getD_set_ne true hki]; exact hk)⟩) n l a w (Region.free_spec hi hf) trivial (by simpa using hr) hy hS.1 ⟨hS.1, fun hk => hS.2 (by rw [getD_set_ne true hki] at hk; exact hk)⟩ h
theorem AnyL.take2 {k i : Nat} {A B : World -> Prop} {oi ok : Oper} {v : Value} {n : Nat} {l : Array Bool} {a : Act} {w : World} (hi : ops[i]? = some oi) (hs : Region.noSelect ops = true)
 (hf : Region.free md ops l i = true) (hr : (Region.ready md ops l).contains i = true) (hki : i ≠ k) (hk : ops[k]? = some ok) (hw : (ok.after.any fun e => Region.binds md e && e.on == i) = true) (hkl : l.getD k true = false)
 (hQ : ∀ c a w, Q (.panic c) (a.put oi.dst v) w -> Q (.panic c) a w)
 (hy : YieldsIf P ops (fun w => A w /\ B w) oi v a) (hS : Till k A B l w) (h : AnyL P md ops Q (Till k A B) n (l.setIfInBounds i true) (a.put oi.dst v) w) : AnyL P md ops Q (Till k A B) (n + 1) l a w := by
 obtain ⟨e, he, hb⟩ := Array.any_eq_true'.1 hw;simp only [Bool.and_eq_true, beq_iff_eq] at hb;refine AnyL.first (R := fun l => l.getD k true = false) (C := fun w => A w /\ B w) hi hs hQ (fun l j hR hj hun hji => ?_) (fun l w hR h => ⟨h.1, h.2 (by rw [getD_set_ne true hki]; exact hR)⟩)
  (fun l w _ h => ⟨h.1, fun hk => h.2 (by rw [getD_set_ne true hki]; exact hk)⟩) n l a w (Region.free_spec hi hf) hkl (by simpa using hr) hy ⟨hS.1, hS.2 hkl⟩ ⟨hS.1, fun hk => hS.2 (by rw [getD_set_ne true hki] at hk; exact hk)⟩ h
 by_cases hjk : j = k
 ·subst hjk
  obtain ⟨_, oj, hoj, hall⟩ := mem_ready.1 hj;obtain rfl : oj = ok := Option.some.inj (hoj.symm.trans hk);have h1 := hall e he hb.1;rw [hb.2] at h1;rw [Array.getD_eq_getD_getElem?] at h1 hun;cases hg : l[i]? with
  | none => rw [hg] at h1; cases h1
  | some b => rw [hg] at h1 hun; simp at h1 hun; rw [h1] at hun; cases hun
 ·rw [getD_set_ne true hjk]; exact hR
theorem AnyL.one {i : Nat} {o : Oper} {n : Nat} {l : Array Bool} {a : Act} {w : World} (hr : Region.ready md ops l = [i]) (ho : ops[i]? = some o)
 (h : ∀ K' : Act -> World -> Prop, Shut (∀ a w, S (l.setIfInBounds i true) w -> (S (l.setIfInBounds i true) w -> AnyL P md ops Q S n (l.setIfInBounds i true) a w) -> K' a w) -> if Region.wanted o (yielded ops a.tmps) = true then Oper.wp P o a w K' Q else K' (a.put o.dst undef) w) :
 AnyL P md ops Q S (n + 1) l a w := by
 refine ⟨fun h0 => (by rw [h0] at hr; cases hr), fun j hj => ?_⟩;rw [hr] at hj;obtain rfl : j = i := by simpa using hj
 exact wpOp_step ho (fun K' hK => h K' (fun a w hS hW => hK a w ⟨hS, hW hS⟩))
theorem AnyL.done {l : Array Bool} {a : Act} {w : World} (hr : Region.ready md ops l = []) (h : Q .normal a w) : ∀ n, AnyL P md ops Q S n l a w
 | 0 => ⟨hr, h⟩
 | _ + 1 => ⟨fun _ => h, by rw [hr]; simp⟩
end
end Go.Proofs.YtgdpoankaojklaaGreatDoor
namespace Go.Proofs.YtgdpoankaojklaaGreatDoor
open Go.RowKit Go.Lib
theorem ratSign_neg (q : Rat) (h : q < 0) (w : World) :
 Calls Tryz.prog 22 #[.string (RS q)] w (Ret (fun v _ => v = .int .i64 (-1)) w) :=
 (ratSign_any q w).mono fun e w' ⟨v, he, hv, n, hw⟩ => ⟨v, he, by rw [hv, Int.sign_eq_neg_one_of_neg (num_lt_zero_iff.2 h)], hw ▸ below_drewN w n⟩
theorem ratSign_nn (q : Rat) (h : ¬ q < 0) (w : World) :
 Calls Tryz.prog 22 #[.string (RS q)] w (Ret (fun v _ => ∃ z : Int, v = .int .i64 z /\ 0 <= z /\ z <= 1) w) :=
 (ratSign_any q w).mono fun e w' ⟨v, he, hv, n, hw⟩ => ⟨v, he, ⟨_, hv, by rw [sign_if, if_neg h]; split <;> decide⟩, hw ▸ below_drewN w n⟩
def RowQ (w : World) (g : Nat) (l : List Rat) : Prop := ∀ (a : Nat) (q : Rat), l[a]? = some q -> w.cell? ⟨g, a, none⟩ = some (.string (RS q)) /\ w.frozen? ⟨g, a, none⟩ = false
theorem RowQ.below {w w' : World} {g : Nat} {l : List Rat} (h : RowQ w g l) (hb : Below w.heap.size w w') (hg : g < w.heap.size) : RowQ w' g l := fun a q ha =>
 ⟨(zcq hb hg (h a q ha).1 :), (hb.frozen (p := ⟨g, a, none⟩) hg).trans (h a q ha).2⟩
theorem RowQ.set {w : World} {g : Nat} {l : List Rat} (h : RowQ w g l) (i : Nat) (q : Rat) (hi : i < l.length) : RowQ (w.setCell ⟨g, i, none⟩ (.string (RS q))) g (l.set i q) := fun a r ha => by
 rw [World.frozen?_setCell];by_cases e : i = a
 ·subst e
  rw [List.getElem?_set_self hi] at ha;cases ha;obtain ⟨h1, h2⟩ := h i _ (List.getElem?_eq_getElem hi);exact ⟨World.cell?_setCell_same _ _ _ h1, h2⟩
 ·rw [List.getElem?_set_ne e] at ha
  obtain ⟨h1, h2⟩ := h a r ha;exact ⟨(World.cell?_setCell_other _ _ _ _ (by intro e'; simp only [Addr.mk.injEq] at e'; omega)).trans h1, h2⟩
theorem RowQ.drew {w : World} {g : Nat} {l : List Rat} (h : RowQ w g l) : RowQ w.drew g l := h
def InsAt (l : List Rat) (i j : Nat) : Prop := ∀ (a b : Nat) (x y : Rat), a < b -> b <= i -> b ≠ j -> l[a]? = some x -> l[b]? = some y -> x <= y
def SortTo (l : List Rat) (i : Nat) : Prop := ∀ (a b : Nat) (x y : Rat), a < b -> b < i -> l[a]? = some x -> l[b]? = some y -> x <= y
theorem InsAt.start {l : List Rat} {i : Nat} (h : SortTo l i) : InsAt l i i := fun a b x y hab hbi hbj ha hb => h a b x y hab (by omega) ha hb
theorem InsAt.done {l : List Rat} {i j : Nat} (h : InsAt l i j) (hs : ∀ jp x y, j = jp + 1 -> l[jp]? = some x -> l[j]? = some y -> x <= y) (hji : j <= i) (hil : i < l.length) : SortTo l (i + 1) := by
 intro a b x y hab hbi ha hb;by_cases e : b = j
 ·subst e
  obtain ⟨jp, rfl⟩ : ∃ jp, b = jp + 1 := ⟨b - 1, by omega⟩;obtain ⟨z, hz⟩ : ∃ z, l[jp]? = some z := ⟨_, List.getElem?_eq_getElem (by omega)⟩;have h1 := hs jp z y rfl hz hb;by_cases e2 : a = jp
  ·subst e2; rw [ha] at hz; cases hz; exact h1
  ·exact Rat.le_trans (h a jp x z (by omega) (by omega) (by omega) ha hz) h1
 ·exact h a b x y hab (by omega) e ha hb
def swapL (l : List Rat) (j : Nat) (x y : Rat) : List Rat := (l.set (j + 1) x).set j y
theorem swapL_get (l : List Rat) (j : Nat) (x y : Rat) (hl : j + 1 < l.length) (a : Nat) : (swapL l j x y)[a]? = if a = j then some y else if a = j + 1 then some x else l[a]? := by
 unfold swapL;by_cases e : a = j
 ·subst e
  rw [if_pos rfl, List.getElem?_set_self (by rw [List.length_set]; omega)]
 ·rw [if_neg e, List.getElem?_set_ne (fun h => e h.symm)]
  by_cases e2 : a = j + 1
  ·subst e2; rw [if_pos rfl, List.getElem?_set_self hl]
  ·rw [if_neg e2, List.getElem?_set_ne (fun h => e2 h.symm)]
theorem InsAt.step {l : List Rat} {i j : Nat} {x y : Rat} (h : InsAt l i (j + 1)) (hx : l[j]? = some x) (hy : l[j + 1]? = some y) (hji : j + 1 <= i) (hlt : y < x) : InsAt (swapL l j x y) i j := by
 have hl : j + 1 < l.length := (List.getElem?_eq_some_iff.1 hy).1;intro a b u v hab hbi hbj ha hb;rw [swapL_get l j x y hl] at ha hb;rw [if_neg hbj] at hb;by_cases e1 : b = j + 1
 ·subst e1
  rw [if_pos rfl] at hb;cases hb;by_cases e2 : a = j
  ·subst e2; rw [if_pos rfl] at ha; cases ha; exact Rat.le_of_lt hlt
  ·rw [if_neg e2, if_neg (by omega)] at ha
   exact h a j u x (by omega) (by omega) (by omega) ha hx
 ·rw [if_neg e1] at hb
  by_cases e2 : a = j
  ·subst e2; rw [if_pos rfl] at ha; cases ha
   exact h (a + 1) b _ v (by omega) hbi e1 hy hb
  ·rw [if_neg e2] at ha
   by_cases e3 : a = j + 1
   ·subst e3; rw [if_pos rfl] at ha; cases ha
    exact h j b _ v (by omega) hbi e1 hx hb
   ·rw [if_neg e3] at ha
    exact h a b u v hab hbi e1 ha hb
abbrev SpanQ := Nat × Rat × Rat
def cellS (s : SpanQ) : List Value := [.int .i64 (s.1 : Int), .string (RS s.2.1), .string (RS s.2.2)]
def cellsS (l : List SpanQ) : List Value := l.flatMap cellS
def RdSp (w : World) (v : Value) (l : List SpanQ) : Prop := RdC 3 w v l.length (cellsS l)
theorem cellsS_get (l : List SpanQ) (i : Nat) (s : SpanQ) (h : l[i]? = some s) (k : Nat) (hk : k < 3) : (cellsS l)[i * 3 + k]? = (cellS s)[k]? := by
 unfold cellsS;rw [getElem?_flatMap_const cellS 3 (fun _ => rfl) l i k hk, h];rfl
theorem RdSp.cells {w : World} {v : Value} {l : List SpanQ} (h : RdSp w v l) : ∃ p c, v = .slice p l.length c /\ (l ≠ [] -> ∃ b off, p = some ⟨b, off, none⟩ /\ b < w.heap.size /\
 ∀ i s, l[i]? = some s -> w.cell? ⟨b, off + i * 3, none⟩ = some (.int .i64 (s.1 : Int)) /\ w.cell? ⟨b, off + i * 3 + 1, none⟩ = some (.string (RS s.2.1)) /\ w.cell? ⟨b, off + i * 3 + 2, none⟩ = some (.string (RS s.2.2))) := by
 obtain ⟨p, c, hv, _, _, _, h4⟩ := h;refine ⟨p, c, hv, fun hne => ?_⟩;have hne2 : cellsS l ≠ [] := by
  intro e;rcases l with _ | ⟨a, l⟩
  ·exact hne rfl
  ·simp [cellsS, cellS] at e
 obtain ⟨b, off, hp, hc⟩ := h4 hne2;have key : ∀ i s, l[i]? = some s -> w.cell? ⟨b, off + i * 3, none⟩ = some (.int .i64 (s.1 : Int)) /\ w.cell? ⟨b, off + i * 3 + 1, none⟩ = some (.string (RS s.2.1)) /\ w.cell? ⟨b, off + i * 3 + 2, none⟩ = some (.string (RS s.2.2)) := fun i s hs => by
  have k0 := hc (i * 3 + 0) _ ((cellsS_get l i s hs 0 (by omega)).trans rfl);have k1 := hc (i * 3 + 1) _ ((cellsS_get l i s hs 1 (by omega)).trans rfl);have k2 := hc (i * 3 + 2) _ ((cellsS_get l i s hs 2 (by omega)).trans rfl);rw [<- Nat.add_assoc] at k0 k1 k2;exact ⟨k0, k1, k2⟩
 refine ⟨b, off, hp, ?_, key⟩;obtain ⟨s, hs⟩ : ∃ s, l[0]? = some s := ⟨_, List.getElem?_eq_getElem (List.length_pos_iff.2 hne)⟩;exact World.block_lt_of_cell? w _ (key 0 s hs).1
theorem BoxN.alloc {w : World} {b t : Nat} {l : List Value} (h : BoxN w b t l) (o : Obj) : BoxN (w.alloc o) b t l := h.below ((Below.refl _ _).alloc (Nat.le_refl _) _) h.lt
section
variable {W : World} {Be : Nat} {v0 vA vB : Value} {nA nB : Nat} {LA LB cA cB : List Value} {bA bB : Option Nat} {x : World}
end
end Go.Proofs.YtgdpoankaojklaaGreatDoor
namespace Go.Proofs.YtgdpoankaojklaaGreatDoor
open Go.RowKit Go.Lib
theorem ratChk_ok (q : Rat) (h : Sz 200 q) (w : World) (hg : Good w) :
 Calls Tryz.prog 66 #[.string (RS q)] w (Ret (fun r _ => r = .int .i64 0) w) := by
 have hs := h.size (by omega);refine (checkQ_any (RS q) (by omega) w hg).mono ?_;rintro e w' ⟨v, he, hv, hb⟩;exact ⟨v, he, by rw [hv, RS_list, rightQ_RL h]; rfl, hb⟩
def RowV (w : World) (v : Value) (l : List Rat) : Prop := (v = .slice none 0 0 /\ l = []) \/ ∃ g cap, v = .slice (some ⟨g, 0, none⟩) l.length cap /\ RowQ w g l /\ l.length <= cap /\ g < w.heap.size
theorem RowV.shape {w : World} {v : Value} {l : List Rat} (h : RowV w v l) : ∃ p c, v = .slice p l.length c := by
 rcases h with ⟨rfl, rfl⟩ | ⟨g, cap, rfl, _⟩
 ·exact ⟨_, _, rfl⟩
 ·exact ⟨_, _, rfl⟩
theorem RowV.below {w w' : World} {v : Value} {l : List Rat} {B : Nat} (h : RowV w v l) (hb : Below B w w') (hB : ∀ g, v.ownBlock = some g -> g < B) : RowV w' v l := by
 rcases h with ⟨rfl, rfl⟩ | ⟨g, cap, rfl, hr, hc, hg⟩
 ·exact .inl ⟨rfl, rfl⟩
 ·have hgB := hB g rfl
  exact .inr ⟨g, cap, rfl, fun a q ha => ⟨(zcq hb hgB (hr a q ha).1 :), (hb.frozen (p := ⟨g, a, none⟩) hgB).trans (hr a q ha).2⟩, hc, Nat.lt_of_lt_of_le hg hb.size⟩
theorem RowV.lt {w : World} {v : Value} {l : List Rat} (h : RowV w v l) (g : Nat) (hg : v.ownBlock = some g) : g < w.heap.size := by
 rcases h with ⟨rfl, rfl⟩ | ⟨g', cap, rfl, hr, hc, hg'⟩
 ·cases hg
 ·cases hg; exact hg'
theorem RowV.at {w : World} {v : Value} {l : List Rat} (h : RowV w v l) {a : Nat} {q : Rat} (ha : l[a]? = some q) : ∃ g cap, v = .slice (some ⟨g, 0, none⟩) l.length cap /\ g < w.heap.size /\ RowQ w g l := by
 rcases h with ⟨rfl, rfl⟩ | ⟨g, cap, rfl, hr, hc, hg⟩
 ·cases ha
 ·exact ⟨g, cap, rfl, hg, hr⟩
def CapP (A x y w V : Rat) : Prop := (y < 0 \/ w < 0) /\ 0 < x /\ y <= 0 /\ w <= 0 /\ ∃ r s : Rat, r * (x - y) = x /\ s * (x - w) = x /\ 6 * V = A * (x * r * s)
def NotP (A x y w V : Rat) : Prop := (0 < y \/ 0 < w) /\ x < 0 /\ 0 <= y /\ 0 <= w /\ ∃ r s : Rat, r * (x - y) = x /\ s * (x - w) = x /\ 6 * V = A * (x + y + w) - A * (x * r * s)
def VolP (A x y w V : Rat) : Prop :=
 (x <= 0 /\ y <= 0 /\ w <= 0 /\ V = 0) \/ (0 <= x /\ 0 <= y /\ 0 <= w /\ 6 * V = A * (x + y + w)) \/ (CapP A x y w V \/ NotP A x y w V) \/ (CapP A y w x V \/ NotP A y w x V) \/ (CapP A w x y V \/ NotP A w x y V)
def subQ (F G : List Rat) : List Rat := List.zipWith (fun a b => a - b) F G
theorem subQ_length (F G : List Rat) (h : F.length = G.length) : (subQ F G).length = G.length := by unfold subQ; rw [List.length_zipWith]; omega
theorem subQ_get (F G : List Rat) (i : Nat) (h1 : i < F.length) (h2 : i < G.length) : (subQ F G)[i]? = some (F[i] - G[i]) := by
 unfold subQ;rw [List.getElem?_zipWith];simp [h1, h2]
theorem combine_sub (w : World) (vf vg : Value) (k : Nat) (F G : List Rat) (hk : 0 < k) (hk2 : k <= 20000) (hL : RdQ w vf F) (hU : RdQ w vg G) (hlen : F.length = G.length) (hn : G.length <= 1000000) (hsL : ∀ q ∈ F, Sz k q) (hsU : ∀ q ∈ G, Sz k q) (hg : Good w) :
 Calls Tryz.prog 136 #[vf, vg, .func (.func 32) #[] #[]] w (Ret (fun r w' => RdQ w' r (subQ F G) /\ FreshV w.heap.size r) w) := by
 obtain ⟨pl, cl, rfl, hlc, hlm, hlr⟩ := hL.open;obtain ⟨pu, cu, rfl, huc, hum, hur⟩ := hU.open;obtain ⟨n, hn0⟩ : ∃ n, n = G.length := ⟨_, rfl⟩;have HLR := Lib.hid hlr;have HUR := Lib.hid hur;have HL := Lib.hid hsL;have HU := Lib.hid hsU;have HN1 : Hid (F.length = n) := by unfold Hid; omega
 have HN2 : Hid (G.length = n) := hn0.symm;rw [hlen, <- hn0];rw [<- hn0] at hn huc;have hlc' : n <= cl := by omega
 clear hL hU hlr hur hsL hsU hlen hn0 hlc;obtain ⟨i0, hi, hz0, hz1, hz2⟩ := info_parts info_str;go_enter Tryz.func136, Tryz.ntmps136;go_wp2_with fail;go_loopw [7, 12] (fun t7 t12 wr => ∃ (i : Nat), t12 = .int .i64 i /\ i <= n /\ wr.ownsRow w.heap.size 57 1 t7 i (((subQ F G).take i).map fun q => Value.string (RS q)) /\ Below w.heap.size w wr) (fun _ t12 _ => n - (RowKit.intOf t12).toNat)
 case atStart => exact ⟨0, rfl, Nat.zero_le _, World.ownsRow_nil _ _ _ _, Below.refl _ _⟩
 case round =>
  obtain ⟨i, rfl, hin, hown, hbr⟩ := hrel;obtain ⟨p3, c3', rfl⟩ := ownsRow_shape hown;rcases Nat.lt_or_ge i n with h | h
  ·obtain ⟨bl, ol, rfl, hbl, hlc⟩ := HLR.out (by intro e; have := HN1.out; rw [e] at this; simp at this; omega)
   obtain ⟨bu, ou, rfl, hbu, huc⟩ := HUR.out (by intro e; have := HN2.out; rw [e] at this; simp at this; omega);have l1 := hlc i (by have := HN1.out; omega);have u1 := huc i (by have := HN2.out; omega);have hq := subQ_get F G i (by have := HN1.out; omega) (by have := HN2.out; omega);have zl := HL.out _ (List.getElem_mem (show i < F.length by have := HN1.out; omega));have zu := HU.out _ (List.getElem_mem (show i < G.length by have := HN2.out; omega));generalize F[i]'_ = l at *;generalize G[i]'_ = u at *;have HTK := Lib.hid (take_snoc _ _ _ hq);have HZL := Lib.hid zl;have HZU := Lib.hid zu;have xl := zcq hbr hbl l1;have xu := zcq hbr hbu u1;have hgr : Good wr := hg.below hbr;have hiz : (i : Int) < (n : Int) := by omega
   clear hlc huc l1 u1 hq zl zu;go_wp2_with fail;refine (ratSub_any l u k hk hk2 HZL.out HZU.out _ hgr).mono ?_;rintro e w2 ⟨_, rfl, rfl, hb2⟩;have hown2 := World.ownsRow.belowAll hown hb2;have hbr2 : Below w.heap.size w w2 := hbr.trans (hb2.mono hbr.size);have hzw := hbr.size;have hz2' : w.heap.size <= w2.heap.size := hbr2.size;clear hb2 hown hbr hgr xl xu
   go_wp2_with (at_builtin; refine wpList_append_own _ rfl _ _ 39 rfl w.heap.size 57 i0 (.string ⟨#[]⟩) 1 16 Tryz.underlying39 hi hz0 hz1 hz2 rfl (by decide) _ _ _ rfl (hown2.alloc _) ⟨w2.heap.size, 0, none⟩ 1 1 [.string (RS (l - u))] rfl rfl (cell_one_str _ _ _) (one_cell_str _) (by unfold maxLen; omega) (by omega) (by simp; omega) ?_
                intro v2 w3 hown3 hgrow3 _;have hzw3 := hgrow3.size;have hbr3 : Below w.heap.size w w3 := (hbr2.alloc (by omega) _).grown hgrow3 (by simp; omega) (fun j hj => by have := (hown2.lt j hj).1; omega);clear hgrow3)
   go_roundw
   case rel => exact ⟨i + 1, by go_num, by omega, by rw [HTK.out, List.map_append]; exact hown3, hbr3⟩
   case measure =>
    show n - ((i : Int) + 1).toNat < n - (i : Int).toNat;omega
  ·obtain rfl : i = n := by omega
   have hfr : FreshV w.heap.size (.slice p3 i c3') := FreshV.of_owns hown;have hrd : RdQ wr (.slice p3 i c3') (subQ F G) := by
    have hl : (subQ F G).length = i := by rw [subQ_length _ _ (by rw [HN1.out, HN2.out]), HN2.out]
    have h1 : RdC 1 wr (.slice p3 i c3') i ((List.take i (subQ F G)).map fun q => Value.string (RS q)) := RdC.of_owns hown;rw [List.take_of_length_le (by omega)] at h1;unfold RdQ;rw [hl];exact h1
   go_wp2_with fail;go_ret;exact ⟨_, rfl, ⟨hrd, hfr⟩, hbr⟩
theorem subQ_Sz {F G : List Rat} {k : Nat} (hF : ∀ q ∈ F, Sz k q) (hG : ∀ q ∈ G, Sz k q) : ∀ q ∈ subQ F G, Sz (2 * k + 1) q := fun q hq => by
 unfold subQ at hq;obtain ⟨i, hi, rfl⟩ := List.getElem_of_mem hq;rw [List.getElem_zipWith];rw [List.length_zipWith] at hi;exact ((hF _ (List.getElem_mem (by omega))).sub (hG _ (List.getElem_mem (by omega)))).mono (by omega)
theorem MeshOK.up {P : List PtQ} {T : List Tri} {k m : Nat} (h : MeshOK P T k) (hkm : k <= m) (hm : m <= 200) : MeshOK P T m :=
 { kpos := by have := h.kpos; omega, klim := by omega, sz := fun p hp => ⟨(h.sz p hp).1.mono hkm, (h.sz p hp).2.mono hkm⟩, plen := h.plen, tlen := h.tlen, idx := h.idx, klim2 := hm, some := h.some, apart := h.apart, turns := h.turns, whole := h.whole }
theorem volTo_Sz {P : List PtQ} {T : List Tri} {F : List Rat} {z : Rat} {k m c : Nat} (hk : 0 < k) (hs : ∀ tr ∈ T, ∀ x ∈ idxOf tr, SzP k (ptI P x) /\ Sz k (hI F x)) (hz : Sz m z) (hc : (14 * (6 * k + m + 4) + 14) * 4 + 1 <= c) : ∀ t, t <= T.length -> Sz (t * (c + 1) + 1) (volTo P T F z t)
 | 0, _ => Sz.zero _ (by omega)
 | t + 1, ht => by
   have h0 := volTo_Sz hk hs hz hc t (by omega);have hps : ∀ d ∈ partT P F z (triI T t), SzP (6 * k + m + 4) d.1 /\ Sz (6 * k + m + 4) d.2 := fun d hd => by
    have := partT_Sz2 (hs (triI T t) (by rw [triI_nat T t (by omega)]; exact List.getElem_mem (by omega))) hz d hd;exact ⟨this.1, this.2.mono (by omega)⟩
   have h1 : Sz c (integ (partT P F z (triI T t)) z) := by
    have := fanI_Sz (l := partT P F z (triI T t)) (z := z) (k := 6 * k + m + 4) (by omega) hps (hz.mono (by omega)) ((partT P F z (triI T t)).length - 2);refine this.mono (Nat.le_trans (Nat.add_le_add_right (Nat.mul_le_mul_left _ ?_) 1) hc);have := partT_len P F z (triI T t);omega
   show Sz _ (volTo P T F z t + integ (partT P F z (triI T t)) z);exact (h0.add h1).mono (by rw [Nat.add_mul]; omega)
theorem checks_two (w : World) (vp vt vf vg : Value) (P : List PtQ) (T : List Tri) (k : Nat) (F G : List Rat) (h : FieldIn w vp vt vf P T k F) (h2 : FieldIn w vp vt vg P T k G) (b : Nat) (hb0 : w.cell? ⟨b, 0, none⟩ = some vf) (hb1 : w.cell? ⟨b, 1, none⟩ = some vg) (hg : Good w) :
    Calls Tryz.prog 68 #[.agg #[vp, vt], .slice (some ⟨b, 0, none⟩) 2 2] w (Ret (fun r _ => r = .int .i64 0) w) := by
  have HFS : Hid (∀ j : Nat, j < 2 → ∃ (pf : Option Addr) (cf : Nat) (l : List Rat), w.cell? ⟨b, j, none⟩ = some (.slice pf P.length cf) ∧ l.length = P.length ∧ (l ≠ [] → ∃ bf off, pf = some ⟨bf, off, none⟩ ∧ bf < w.heap.size ∧ ∀ i (hi : i < l.length), w.cell? ⟨bf, off + i, none⟩ = some (.string (RS l[i]))) ∧ (∀ q ∈ l, (RS q).size < 1000000000 ∧ rightQ (RS q).data.toList = true)) := fun j hj => by
    have key : ∀ (v : Value) (L : List Rat), FieldIn w vp vt v P T k L → w.cell? ⟨b, j, none⟩ = some v → ∃ (pf : Option Addr) (cf : Nat) (l : List Rat), w.cell? ⟨b, j, none⟩ = some (.slice pf P.length cf) ∧ l.length = P.length ∧ (l ≠ [] → ∃ bf off, pf = some ⟨bf, off, none⟩ ∧ bf < w.heap.size ∧ ∀ i (hi : i < l.length), w.cell? ⟨bf, off + i, none⟩ = some (.string (RS l[i]))) ∧ (∀ q ∈ l, (RS q).size < 1000000000 ∧ rightQ (RS q).data.toList = true) := fun v L hL hv => by
      obtain ⟨pf, cf, rfl, -, -, hr⟩ := hL.f.open
      rw [hL.fl] at hv
      refine ⟨pf, cf, L, hv, hL.fl, hr, fun q hq => ⟨?_, ?_⟩⟩
      · have := (hL.fs q hq).size hL.m.kpos; have := hL.m.klim2; omega
      · rw [RS_list]; exact rightQ_RL ((hL.fs q hq).mono (by have := hL.m.klim2; omega))
    rcases (by omega : j = 0 ∨ j = 1) with rfl | rfl
    · exact key vf F h hb0
    · exact key vg G h2 hb1
  have HP := Lib.hid h.p
  have HT := Lib.hid h.t
  have HM := Lib.hid h.m
  have hbl := World.block_lt_of_cell? w _ hb0
  obtain ⟨pp, cp, pt, ct, pf, cf, rfl, rfl, rfl⟩ := h.open
  have hpl := h.m.plen
  dsimp only at hbl
  clear h h2 hb0 hb1
  go_enter Tryz.func68, Tryz.ntmps68
  go_wp2_with fail
  obtain ⟨W0, hW0⟩ : ∃ W0, W0 = w.alloc (.cells #[.slice pp P.length cp, .slice pt T.length ct] 37) := ⟨_, rfl⟩
  have hB0 : Below w.heap.size w W0 := by rw [hW0]; exact (Below.refl _ _).alloc (Nat.le_refl _) _
  have b2 : BoxN W0 w.heap.size 37 [.slice pp P.length cp, .slice pt T.length ct] := by rw [hW0]; exact BoxN.new _ _ _ _ rfl
  rw [← hW0]
  clear hW0
  refine (check_any W0 _ _ P T k (RdC.below HP.out hB0) (RdC.below HT.out hB0) HM.out (hg.below hB0)).mono ?_
  rintro e w1 ⟨_, rfl, rfl, hb1⟩
  have hB1 : Below w.heap.size w w1 := hB0.trans (hb1.mono hB0.size)
  have b3 := b2.below hb1 b2.lt
  clear hb1 hB0 b2
  go_wp2_with fail
  go_loopw [18] (fun t18 wr => ∃ j : Nat, j ≤ 2 ∧ t18 = .int .i64 (j : Int) ∧ Below w1.heap.size w1 wr) (fun t18 _ => 2 - (RowKit.intOf t18).toNat)
  case atStart => exact ⟨0, by omega, rfl, Below.refl _ _⟩
  case round =>
    obtain ⟨j, hj, rfl, hB⟩ := hrel
    have hBw : Below w.heap.size w wr := hB1.trans (hB.mono hB1.size)
    rcases Nat.lt_or_ge j 2 with hj2 | hj2
    · obtain ⟨pf, cf, l, hcell, hll, hrd, hrt⟩ := HFS.out j hj2
      have b4 := b3.below hB b3.lt
      have u0 := b4.cell 0 rfl
      have u1 := (hBw.cell (p := ⟨b, j, none⟩) hbl).trans hcell
      have hjz : (j : Int) < 2 := by omega
      have HRD := Lib.hid hrd
      have HRT := Lib.hid hrt
      have HBW := Lib.hid hBw
      have hlP : l.length ≤ P.length := by omega
      have HLE := Lib.hid hll
      have hnb : ((P.length : Int) != (P.length : Int)) = false := by simp
      clear hcell hrd hrt hll hBw
      go_wp2_with fail
      obtain ⟨wo, hwo⟩ : ∃ wo : World, wo = wr := ⟨_, rfl⟩
      subst hwo
      go_loopw [30] (fun t30 wr => ∃ (i : Nat), t30 = .int .i64 i ∧ i ≤ P.length ∧ Below wo.heap.size wo wr) (fun t30 _ => P.length - (RowKit.intOf t30).toNat)
      case atStart => exact ⟨0, rfl, Nat.zero_le _, Below.refl _ _⟩
      case round =>
        obtain ⟨i, rfl, hi, hbl2⟩ := hrel
        have hBi := HBW.out.trans (hbl2.mono HBW.out.size)
        rcases Nat.lt_or_ge i P.length with hlt | hlt
        · have hil : i < l.length := by have := HLE.out; omega
          obtain ⟨bf, off, rfl, hbs, hcell⟩ := HRD.out (by intro e; rw [e] at hil; simp at hil)
          have hc := (hBi.cell (p := ⟨bf, off + i, none⟩) hbs).trans (hcell i hil)
          have hzx := HRT.out l[i] (List.getElem_mem hil)
          obtain ⟨x, hx⟩ : ∃ x, x = RS l[i] := ⟨_, rfl⟩
          rw [← hx] at hc hzx
          have hgr := hg.below hBi
          have hiz : (i : Int) < (P.length : Int) := by omega
          have HZ := Lib.hid hzx
          clear hx hcell hil hzx
          go_wp2_with fail
          refine (checkQ_any x HZ.out.1 _ hgr).mono ?_
          rintro e w2 ⟨_, rfl, rfl, hb2⟩
          have hb3 := hbl2.trans (hb2.mono hbl2.size)
          rw [HZ.out.2, show errNum true = 0 from rfl]
          clear hb2 hgr
          go_wp2_with fail
          go_roundw
          case rel => exact ⟨i + 1, by go_num, hlt, hb3⟩
          case measure => simp [RowKit.intOf]; omega
        · go_wp2_with fail
          go_roundw
          case rel => exact ⟨j + 1, by omega, by go_num, hB.trans (hbl2.mono hB.size)⟩
          case measure => simp [RowKit.intOf]; omega
    · obtain rfl : j = 2 := by omega
      rw [show ((2 : Nat) : Int) = 2 from rfl]
      go_wp2_with fail
      go_ret
      exact ⟨_, rfl, rfl, hBw⟩
theorem fexcess_ok (w : World) (vp vt vf vg : Value) (P : List PtQ) (T : List Tri) (k : Nat) (F G : List Rat) (h : FieldIn w vp vt vf P T k F) (h2 : FieldIn w vp vt vg P T k G) (hk : k <= 2) (hT : T.length <= 8) (hVE : Sz 200 (volTo P T (subQ F G) 0 T.length)) (hg : Good w) :
 Calls Tryz.prog 90 #[.agg #[vp, vt], vf, vg] w (Ret (fun r _ => r = .tuple #[.string (RS (volTo P T (subQ F G) 0 T.length)), .int .i64 0]) w) := by
 have HF := Lib.hid h;have HG := Lib.hid h2;have hkp := h.m.kpos;have hfl := h.fl;have hgl := h2.fl;have hpl := h.m.plen;have hsl : (subQ F G).length = P.length := by rw [subQ_length _ _ (by omega), hgl]
 have HSL := Lib.hid hsl;have hss := subQ_Sz h.fs h2.fs;have HFI : Hid (∀ w' v, RdP w' vp (strP P) -> RdT w' vt T -> RdQ w' v (subQ F G) -> FieldIn w' vp vt v P T (2 * k + 1) (subQ F G)) := fun w' v hp ht hv => ⟨hp, ht, h.m.up (by omega) (by omega), hv, hss, hsl⟩
 have hsz : ∀ tr ∈ T, ∀ x ∈ idxOf tr, SzP (2 * k + 1) (ptI P x) /\ Sz (2 * k + 1) (hI (subQ F G) x) := fun tr htr x hx => by
  obtain ⟨h0, h1⟩ := h.m.idx tr htr x hx;obtain ⟨q, rfl⟩ : ∃ q : Nat, x = (q : Int) := ⟨x.toNat, by omega⟩;rw [ptI_nat P q (by omega), hI_nat (subQ F G) q (by omega)];exact ⟨⟨(h.m.sz _ (List.getElem_mem _)).1.mono (by omega), (h.m.sz _ (List.getElem_mem _)).2.mono (by omega)⟩, hss _ (List.getElem_mem _)⟩
 have hV : ∀ t, t <= T.length -> Sz 20000 (volTo P T (subQ F G) 0 t) := fun t ht => (volTo_Sz (k := 2 * k + 1) (m := 1) (c := 2017) (by omega) hsz (Sz.zero _ (by omega)) (by omega) t ht).mono (by
  have : t <= 8 := by omega
  rcases (by omega : t = 0 \/ t = 1 \/ t = 2 \/ t = 3 \/ t = 4 \/ t = 5 \/ t = 6 \/ t = 7 \/ t = 8) with e | e | e | e | e | e | e | e | e <;> rw [e] <;> omega)
 have HVO : Hid (∀ w' v, FieldIn w' vp vt v P T (2 * k + 1) (subQ F G) -> Good w' -> _) := fun w' v h hg => fvolume_any w' vp vt v P T (2 * k + 1) (subQ F G) h 0 1 20000 (Sz.zero _ (by omega)) (by omega) (Nat.le_refl _) (by omega) hV hg
 have HNU : Hid (∀ w', Good w' -> _) := fun w' hg' => fnumber_ok (volTo P T (subQ F G) 0 T.length) hVE w' hg';have HCO : Hid (∀ w', Below w.heap.size w w' -> Good w' -> _) := fun w' hb hg' => combine_sub w' vf vg k F G hkp (by omega) (HF.out.below hb).f (HG.out.below hb).f (by omega) (by omega) h.fs h2.fs hg'
 have HPT : Hid (∀ w', Below w.heap.size w w' -> RdP w' vp (strP P) /\ RdT w' vt T) := fun w' hb => ⟨RdC.below h.p hb, RdC.below h.t hb⟩;rw [RS_zero] at HVO;obtain ⟨pp, cp, pt, ct, pf, cf, rfl, rfl, rfl⟩ := h.open;obtain ⟨_, _, _, _, pg, cg, -, -, rfl⟩ := h2.open;generalize volTo P T (subQ F G) 0 T.length = res at *;clear h h2 hVE hV hsz hss hsl hfl hgl;go_enter Tryz.func90, Tryz.ntmps90;go_wp2_with fail;obtain ⟨W, hW⟩ : ∃ W, W = (w.alloc (.cells #[.slice pp P.length cp, .slice pt T.length ct] 37)).alloc (.cells #[.slice pf F.length cf, .slice pg G.length cg] 39) := ⟨_, rfl⟩;have hB : Below w.heap.size w W := by rw [hW]; exact zal2 _ _ _
 have b0 : BoxN W w.heap.size 37 [.slice pp P.length cp, .slice pt T.length ct] := by rw [hW]; exact (BoxN.new _ _ _ _ rfl).alloc _
 have b2 : BoxN W (w.heap.size + 1) 39 [.slice pf F.length cf, .slice pg G.length cg] := by rw [hW]; exact BoxN.new _ _ _ _ (by simp)
 rw [<- hW];clear hW;refine (checks_two W _ _ _ _ P T k F G (HF.out.below hB) (HG.out.below hB) (w.heap.size + 1) (b2.cell 0 rfl) (b2.cell 1 rfl) (hg.below hB)).mono ?_;rintro e w1 ⟨_, rfl, rfl, hb1⟩;have hB1 := hB.trans (hb1.mono hB.size);have b1 := b0.below hb1 b0.lt;clear hb1 b2 hB b0;have x0 := b1.cell 0 rfl;have x1 := b1.cell 1 rfl;have lm := b1.lt;go_upto_region 4 with fail;go_cut [6, 7] (fun s6 s7 wx => s6 = .string (RS res) /\ s7 = .int .i64 0 /\ Below w1.heap.size w1 wx)
 case first =>
  have hgd : Good w1.drew := (hg.below hB1).drewN 1;have hBd : Below w.heap.size w w1.drew := hB1.trans ((below_drewN w1 1).mono hB1.size);go_region_held3 (fun w' => w'.cell? ⟨w.heap.size, 0, none⟩ = some (.slice pp P.length cp) /\ w'.cell? ⟨w.heap.size, 1, none⟩ = some (.slice pt T.length ct))
   (first | exact ⟨x0, x1⟩ | exact ⟨p_1_0, p_1_1⟩ | exact ⟨p_2_0, p_2_1⟩ | exact ⟨p_3_0, p_3_1⟩)
   (first
   | (go_at_call 81; refine (HNU.out _ pg2).mono ?_; rintro e pw3 ⟨_, rfl, rfl, pb3⟩
      have p_3_0 := zct pb3 p_2_0;have p_3_1 := zct pb3 p_2_1;have ps3 := pb3.size;have pg3 := pg2.below pb3)
   | (go_at_call 135; refine (HVO.out _ _ (HFI.out _ _ (HPT.out _ (hBd.trans (pb1.mono hBd.size))).1 (HPT.out _ (hBd.trans (pb1.mono hBd.size))).2 HV.out) pg1).mono ?_; rintro e pw2 ⟨_, rfl, rfl, pb2⟩
      have p_2_0 := zct pb2 p_1_0;have p_2_1 := zct pb2 p_1_1;have ps2 := pb2.size;have pg2 := pg1.below pb2)
   | (go_at_call 136; refine (HCO.out _ hBd hgd).mono ?_; rintro e pw1 ⟨v, rfl, ⟨hv, -⟩, pb1⟩
      have p_1_0 := zct pb1 x0;have p_1_1 := zct pb1 x1;have ps1 : w1.heap.size <= pw1.heap.size := pb1.size;have pg1 := hgd.below pb1;have HV := Lib.hid hv))
  have pB : Below w1.heap.size w1 pw3 := zbt (zbt (zbt (below_drewN w1 1) pb1) pb2) pb3;go_wp2_with fail;go_meet;exact ⟨rfl, rfl, pB⟩
 case rest =>
 obtain ⟨rfl, rfl, hbx⟩ := hcut;go_wp2_with fail;go_ret2;exact ⟨_, rfl, rfl, hB1.trans (hbx.mono hB1.size)⟩
theorem cancel_nat {x : Rat} {q : Nat} (hq : 0 < q) (h : x * (q : Rat) = 0) : x = 0 := by
 rcases Rat.mul_eq_zero.1 h with h | h
 ·exact h
 ·have : q = 0 := by exact_mod_cast h
  omega
structure TriI (A x y w : Rat) (a h0 h1 h2 p : Int) (q : Nat) : Prop where
 hq : 0 < q
 hA : A * 4 = (a : Rat)
 hx : x * (2 * (q : Rat)) = (h0 : Rat) * (q : Rat) - 2 * (p : Rat)
 hy : y * (2 * (q : Rat)) = (h1 : Rat) * (q : Rat) - 2 * (p : Rat)
 hw : w * (2 * (q : Rat)) = (h2 : Rat) * (q : Rat) - 2 * (p : Rat)
theorem TriI.turn {A x y w : Rat} {a h0 h1 h2 p : Int} {q : Nat} (h : TriI A x y w a h0 h1 h2 p q) : TriI A y w x a h1 h2 h0 p q := ⟨h.hq, h.hA, h.hy, h.hw, h.hx⟩
section
variable {A x y w V : Rat} {a h0 h1 h2 p : Int} {q : Nat}
theorem TriI.dif (h : TriI A x y w a h0 h1 h2 p q) : (x - y) * 2 = (h0 : Rat) - (h1 : Rat) /\ (x - w) * 2 = (h0 : Rat) - (h2 : Rat) := by
 have h1' := h.hx;have h2' := h.hy;have h3' := h.hw;constructor
 ·have := cancel_nat (x := (x - y) * 2 - ((h0 : Rat) - (h1 : Rat))) h.hq (by grind)
  grind
 ·have := cancel_nat (x := (x - w) * 2 - ((h0 : Rat) - (h2 : Rat))) h.hq (by grind)
  grind
theorem TriI.cap (h : TriI A x y w a h0 h1 h2 p q) {r s : Rat} (hr : r * (x - y) = x) (hs : s * (x - w) = x) (hV : 6 * V = A * (x * r * s)) :
 V * (48 * (q : Rat) * q * q * (((h0 - h1) * (h0 - h2) : Int) : Rat)) = ((a * ((h0 * q - 2 * p) * (h0 * q - 2 * p) * (h0 * q - 2 * p)) : Int) : Rat) := by
 obtain ⟨d1, d2⟩ := h.dif;have hx := h.hx;have hA := h.hA;have e1 : (((h0 - h1) * (h0 - h2) : Int) : Rat) = ((h0 : Rat) - (h1 : Rat)) * ((h0 : Rat) - (h2 : Rat)) := by rw [Rat.intCast_mul, Rat.intCast_sub, Rat.intCast_sub]
 have e2 : ((a * ((h0 * q - 2 * p) * (h0 * q - 2 * p) * (h0 * q - 2 * p)) : Int) : Rat) = (a : Rat) * (((h0 : Rat) * (q : Rat) - 2 * (p : Rat)) * ((h0 : Rat) * (q : Rat) - 2 * (p : Rat)) * ((h0 : Rat) * (q : Rat) - 2 * (p : Rat))) := by
  rw [Rat.intCast_mul, Rat.intCast_mul, Rat.intCast_mul, Rat.intCast_sub, Rat.intCast_mul, Rat.intCast_mul]; rfl
 rw [e1, e2, <- hx, <- hA, <- d1, <- d2];have r1 : r * ((x - y) * 2) = 2 * x := by grind
 have s1 : s * ((x - w) * 2) = 2 * x := by grind
 have g : V * (48 * (q : Rat) * q * q * ((x - y) * 2 * ((x - w) * 2))) = 8 * q * q * q * (6 * V) * ((x - y) * 2) * ((x - w) * 2) := by grind
 rw [g, hV];have g2 : 8 * (q : Rat) * q * q * (A * (x * r * s)) * ((x - y) * 2) * ((x - w) * 2) = 8 * q * q * q * A * x * (r * ((x - y) * 2)) * (s * ((x - w) * 2)) := by grind
 rw [g2, r1, s1];grind
theorem TriI.whole (h : TriI A x y w a h0 h1 h2 p q) (hV : 6 * V = A * (x + y + w)) :
 V * (48 * (q : Rat)) = ((a * ((h0 + h1 + h2) * q - 6 * p) : Int) : Rat) := by
 have hx := h.hx;have hy := h.hy;have hw := h.hw;have hA := h.hA;have e2 : ((a * ((h0 + h1 + h2) * q - 6 * p) : Int) : Rat) = (a : Rat) * (((h0 : Rat) + (h1 : Rat) + (h2 : Rat)) * (q : Rat) - 6 * (p : Rat)) := by
  rw [Rat.intCast_mul, Rat.intCast_sub, Rat.intCast_mul, Rat.intCast_mul, Rat.intCast_add, Rat.intCast_add]; rfl
 have g : V * (48 * (q : Rat)) = 8 * q * (6 * V) := by grind
 rw [e2, g, hV, <- hA];grind
theorem TriI.not (h : TriI A x y w a h0 h1 h2 p q) {r s : Rat} (hr : r * (x - y) = x) (hs : s * (x - w) = x) (hV : 6 * V = A * (x + y + w) - A * (x * r * s)) :
 V * (48 * (q : Rat) * q * q * (((h0 - h1) * (h0 - h2) : Int) : Rat)) = ((a * ((h0 + h1 + h2) * q - 6 * p) * (q * q * ((h0 - h1) * (h0 - h2))) - a * ((h0 * q - 2 * p) * (h0 * q - 2 * p) * (h0 * q - 2 * p)) : Int) : Rat) := by
 have c1 := h.cap (V := A * (x * r * s) / 6) hr hs (by grind);have c2 := h.whole (V := A * (x + y + w) / 6) (by grind);have e : V = A * (x + y + w) / 6 - A * (x * r * s) / 6 := by grind
 generalize a * ((h0 + h1 + h2) * q - 6 * p) = X at *;generalize (h0 - h1) * (h0 - h2) = D at *;rw [Rat.intCast_sub, <- c1, Rat.intCast_mul, <- c2, Rat.intCast_mul, Rat.intCast_mul, e];have e3 : (((q : Nat) : Int) : Rat) = (q : Rat) := rfl;rw [e3];generalize A * (x + y + w) / 6 = V1;generalize A * (x * r * s) / 6 = V2;grind
end
theorem natAbs3 (a b c : Int) {A B C : Nat} (h1 : a.natAbs <= A) (h2 : b.natAbs <= B) (h3 : c.natAbs <= C) : (a * b * c).natAbs <= A * B * C := by
 rw [Int.natAbs_mul, Int.natAbs_mul];exact Nat.mul_le_mul (Nat.mul_le_mul h1 h2) h3
end Go.Proofs.YtgdpoankaojklaaGreatDoor
namespace Go.Proofs.YtgdpoankaojklaaGreatDoor
open Go.RowKit Go.Lib
theorem int_pos_of_rat {n : Int} (h : (0 : Rat) < (n : Rat)) : 0 < n := by
 have : ((0 : Int) : Rat) < (n : Rat) := h;exact Rat.intCast_lt_intCast.1 this
theorem int_neg_of_rat {n : Int} (h : (n : Rat) < 0) : n < 0 := by
 have : (n : Rat) < ((0 : Int) : Rat) := h;exact Rat.intCast_lt_intCast.1 this
section
variable {A x y w V : Rat} {a h0 h1 h2 p : Int} {q : Nat}
theorem TriI.dpos (h : TriI A x y w a h0 h1 h2 p q) (hs : (y < x /\ w < x) \/ (x < y /\ x < w)) : 0 < (h0 - h1) * (h0 - h2) := by
 obtain ⟨d1, d2⟩ := h.dif;have e1 : ((h0 - h1 : Int) : Rat) = (x - y) * 2 := by rw [Rat.intCast_sub, d1]
 have e2 : ((h0 - h2 : Int) : Rat) = (x - w) * 2 := by rw [Rat.intCast_sub, d2]
 rcases hs with ⟨s1, s2⟩ | ⟨s1, s2⟩
 ·exact Int.mul_pos (int_pos_of_rat (by rw [e1]; grind)) (int_pos_of_rat (by rw [e2]; grind))
 ·exact Int.mul_pos_of_neg_of_neg (int_neg_of_rat (by rw [e1]; grind)) (int_neg_of_rat (by rw [e2]; grind))
def NumP (V : Rat) (q : Nat) : Prop := ∃ D N : Int, 0 < D /\ D.natAbs <= 23104 /\ N.natAbs <= 1000000000000 * (q * q * q) /\ V * (48 * (q : Rat) * q * q * (D : Rat)) = (N : Rat)
theorem num_bounds (ha : a.natAbs <= 5408) (b0 : h0.natAbs <= 76) (b1 : h1.natAbs <= 76) (b2 : h2.natAbs <= 76) (bp : p.natAbs <= 76 * q) :
 (a * ((h0 * q - 2 * p) * (h0 * q - 2 * p) * (h0 * q - 2 * p))).natAbs <= 100000000000 * (q * q * q) /\ (a * ((h0 + h1 + h2) * q - 6 * p) * (q * q * ((h0 - h1) * (h0 - h2)))).natAbs <= 100000000000 * (q * q * q) /\ (a * ((h0 + h1 + h2) * q - 6 * p) * (q * q)).natAbs <= 100000000000 * (q * q * q) /\ ((h0 - h1) * (h0 - h2)).natAbs <= 23104 := by
 have u0 : (h0 * q - 2 * p).natAbs <= 228 * q := by
  have := Int.natAbs_sub_le (h0 * q) (2 * p);rw [Int.natAbs_mul, Int.natAbs_mul] at this;have h3 : h0.natAbs * ((q : Int).natAbs) <= 76 * q := Nat.mul_le_mul b0 (by omega);have h4 : (2 : Int).natAbs = 2 := rfl;rw [h4] at this;omega
 have us : ((h0 + h1 + h2) * q - 6 * p).natAbs <= 684 * q := by
  have := Int.natAbs_sub_le ((h0 + h1 + h2) * q) (6 * p);rw [Int.natAbs_mul, Int.natAbs_mul] at this;have h3 : (h0 + h1 + h2).natAbs * ((q : Int).natAbs) <= 228 * q := Nat.mul_le_mul (by omega) (by omega);have h4 : (6 : Int).natAbs = 6 := rfl;rw [h4] at this;omega
 have d1 : (h0 - h1).natAbs <= 152 := by omega
 have d2 : (h0 - h2).natAbs <= 152 := by omega
 have dd : ((h0 - h1) * (h0 - h2)).natAbs <= 152 * 152 := by rw [Int.natAbs_mul]; exact Nat.mul_le_mul d1 d2
 have qq : ((q : Int) * q).natAbs = q * q := by rw [Int.natAbs_mul]; rfl
 refine ⟨?_, ?_, ?_, by omega⟩
 ·rw [Int.natAbs_mul]
  refine Nat.le_trans (Nat.mul_le_mul ha (natAbs3 _ _ _ u0 u0 u0)) ?_;have : 5408 * (228 * q * (228 * q) * (228 * q)) = (5408 * 228 * 228 * 228) * (q * q * q) := by grind
  rw [this];exact Nat.mul_le_mul_right _ (by decide)
 ·refine Nat.le_trans (natAbs3 _ _ _ ha us (C := q * q * (152 * 152)) ?_) ?_
  ·rw [Int.natAbs_mul, qq]; exact Nat.mul_le_mul_left _ dd
  ·have : 5408 * (684 * q) * (q * q * (152 * 152)) = (5408 * 684 * (152 * 152)) * (q * q * q) := by grind
   rw [this];exact Nat.mul_le_mul_right _ (by decide)
 ·refine Nat.le_trans (natAbs3 _ _ _ ha us (C := q * q) (by rw [qq]; exact Nat.le_refl _)) ?_
  have : 5408 * (684 * q) * (q * q) = (5408 * 684) * (q * q * q) := by grind
  rw [this];exact Nat.mul_le_mul_right _ (by decide)
theorem TriI.capnot (h : TriI A x y w a h0 h1 h2 p q) (hv : CapP A x y w V \/ NotP A x y w V) (ha : a.natAbs <= 5408) (b0 : h0.natAbs <= 76) (b1 : h1.natAbs <= 76) (b2 : h2.natAbs <= 76) (bp : p.natAbs <= 76 * q) : NumP V q := by
 obtain ⟨n1, n2, -, n4⟩ := num_bounds (q := q) ha b0 b1 b2 bp;rcases hv with ⟨-, g1, g2, g3, r, s, hr, hs, hV⟩ | ⟨-, g1, g2, g3, r, s, hr, hs, hV⟩
 ·exact ⟨_, _, h.dpos (.inl ⟨by grind, by grind⟩), n4, by omega, h.cap hr hs hV⟩
 ·refine ⟨_, _, h.dpos (.inr ⟨by grind, by grind⟩), n4, ?_, h.not hr hs hV⟩
  refine Nat.le_trans (Int.natAbs_sub_le _ _) ?_;omega
theorem TriI.num (h : TriI A x y w a h0 h1 h2 p q) (hv : VolP A x y w V) (ha : a.natAbs <= 5408) (b0 : h0.natAbs <= 76) (b1 : h1.natAbs <= 76) (b2 : h2.natAbs <= 76) (bp : p.natAbs <= 76 * q) : NumP V q := by
 rcases hv with ⟨-, -, -, rfl⟩ | ⟨-, -, -, hV⟩ | hv | hv | hv
 ·exact ⟨1, 0, by decide, by decide, by simp, by grind⟩
 ·obtain ⟨-, -, n3, -⟩ := num_bounds (q := q) ha b0 b1 b2 bp
  refine ⟨1, _, by decide, by decide, Nat.le_trans n3 (by omega), ?_⟩;have c := h.whole hV;rw [Rat.intCast_mul, <- c, Rat.intCast_mul];have e3 : (((q : Nat) : Int) : Rat) = (q : Rat) := rfl;have e4 : ((1 : Int) : Rat) = 1 := rfl;rw [e3, e4];grind
 ·exact h.capnot hv ha b0 b1 b2 bp
 ·exact h.turn.capnot hv ha b1 b2 b0 bp
 ·exact h.turn.turn.capnot hv ha b2 b0 b1 bp
end
end Go.Proofs.YtgdpoankaojklaaGreatDoor
namespace Go.Proofs.YtgdpoankaojklaaGreatDoor
open Go.RowKit Go.Lib
def Fr (d B : Nat) (q : Rat) : Prop := ∃ n : Int, q * (d : Rat) = (n : Rat) /\ n.natAbs <= B
theorem Fr.zero (d B : Nat) : Fr d B 0 := ⟨0, by grind, by simp⟩
theorem Fr.mono {d B C : Nat} {q : Rat} (h : Fr d B q) (hBC : B <= C) : Fr d C q := by
 obtain ⟨n, h1, h2⟩ := h;exact ⟨n, h1, Nat.le_trans h2 hBC⟩
theorem Fr.add {d A B : Nat} {p q : Rat} (hp : Fr d A p) (hq : Fr d B q) : Fr d (A + B) (p + q) := by
 obtain ⟨m, h1, h2⟩ := hp;obtain ⟨n, h3, h4⟩ := hq;exact ⟨m + n, by rw [Rat.intCast_add]; grind, by omega⟩
theorem Fr.sub {d A B : Nat} {p q : Rat} (hp : Fr d A p) (hq : Fr d B q) : Fr d (A + B) (p - q) := by
 obtain ⟨m, h1, h2⟩ := hp;obtain ⟨n, h3, h4⟩ := hq;exact ⟨m - n, by rw [Rat.intCast_sub]; grind, by omega⟩
theorem Fr.mul {d e A B : Nat} {p q : Rat} (hp : Fr d A p) (hq : Fr e B q) : Fr (d * e) (A * B) (p * q) := by
 obtain ⟨m, h1, h2⟩ := hp;obtain ⟨n, h3, h4⟩ := hq;refine ⟨m * n, ?_, ?_⟩
 ·rw [Rat.intCast_mul, Rat.natCast_mul, <- h1, <- h3]
  grind
 ·rw [Int.natAbs_mul]
  exact Nat.mul_le_mul h2 h4
theorem cmpQ_le {a b : Rat} (h : a <= b) : cmpQ a b <= 0 := by
 unfold cmpQ;split
 ·omega
 ·split
  ·rename_i h1; exact absurd h1 (Rat.not_lt.2 h)
  ·omega
theorem RdQ.cells {w : World} {v : Value} {l : List Rat} (h : RdQ w v l) (hn : 0 < l.length) : ∃ b o c : Nat, v = .slice (some ⟨b, o, none⟩) l.length c /\ b < w.heap.size /\ ∀ i : Nat, i < l.length -> w.cell? ⟨b, o + i, none⟩ = some (.string (RS (hI l i))) := by
 obtain ⟨p, c, rfl, -, -, hr⟩ := h.open;obtain ⟨b, o, rfl, hb, hc⟩ := hr (List.ne_nil_of_length_pos hn);exact ⟨b, o, c, rfl, hb, fun i hi => by rw [hI_nat l i hi]; exact hc i hi⟩
theorem RdP.cells {w : World} {v : Value} {P : List PtQ} (h : RdP w v (strP P)) (hn : 0 < P.length) : ∃ b o c : Nat, v = .slice (some ⟨b, o, none⟩) P.length c /\ b < w.heap.size /\ ∀ i : Nat, i < P.length -> w.cell? ⟨b, o + i * 2, none⟩ = some (.string (RS (ptI P i).1)) /\ w.cell? ⟨b, o + i * 2 + 1, none⟩ = some (.string (RS (ptI P i).2)) := by
 obtain ⟨p, c, rfl, -, -, hr⟩ := h.open;obtain ⟨b, o, rfl, hb, hc⟩ := hr (List.ne_nil_of_length_pos (by rw [strP_length]; exact hn));refine ⟨b, o, c, by rw [strP_length], hb, fun i hi => ?_⟩;have h1 := hc i (by rw [strP_length]; exact hi);rw [strP_get P i hi] at h1;rw [ptI_nat P i hi];exact h1
theorem RdT.cells {w : World} {v : Value} {T : List Tri} (h : RdT w v T) (hn : 0 < T.length) : ∃ b o c : Nat, v = .slice (some ⟨b, o, none⟩) T.length c /\ b < w.heap.size /\ ∀ t : Nat, t < T.length -> w.cell? ⟨b, o + t * 3, none⟩ = some (.int .i64 (triI T t).1) /\ w.cell? ⟨b, o + t * 3 + 1, none⟩ = some (.int .i64 (triI T t).2.1) /\ w.cell? ⟨b, o + t * 3 + 2, none⟩ = some (.int .i64 (triI T t).2.2) := by
 obtain ⟨p, c, rfl, -, -, hr⟩ := h.open;obtain ⟨b, o, rfl, hb, hc⟩ := hr (List.ne_nil_of_length_pos hn);refine ⟨b, o, c, rfl, hb, fun t ht => ?_⟩;rw [triI_nat T t ht];exact hc t ht
def RdF (w : World) (v : Value) (S : List (List Rat)) : Prop := ∃ us : List Value, RdC 1 w v S.length us /\ ∀ (i : Nat) (u : Value) (F : List Rat), us[i]? = some u -> S[i]? = some F -> RdQ w u F
theorem RdF.below {w w' : World} {v : Value} {S : List (List Rat)} (h : RdF w v S) (hb : Below w.heap.size w w') : RdF w' v S := by
 obtain ⟨us, h1, h2⟩ := h;exact ⟨us, RdC.below h1 hb, fun i u F a b => RdC.below (h2 i u F a b) hb⟩
theorem RdF.nil (w : World) : RdF w (.slice none 0 0) [] := ⟨[], RdC.nil0 _ _, fun i u F a _ => by simp at a⟩
theorem RdF.shape {w : World} {v : Value} {S : List (List Rat)} (h : RdF w v S) : ∃ p c, v = .slice p S.length c /\ S.length <= c /\ c <= maxLen := by
 obtain ⟨us, ⟨p, c, h1, h2, h3, -⟩, -⟩ := h;exact ⟨p, c, h1, h2, h3⟩
theorem RdF.cells {w : World} {v : Value} {S : List (List Rat)} (h : RdF w v S) (hn : 0 < S.length) : ∃ b o c, v = .slice (some ⟨b, o, none⟩) S.length c /\ b < w.heap.size /\
 ∀ (i : Nat) (hi : i < S.length), ∃ p c', w.cell? ⟨b, o + i, none⟩ = some (.slice p S[i].length c') /\ RdQ w (.slice p S[i].length c') S[i] := by
 obtain ⟨us, ⟨p, c, h1, h2, h3, h4, h5⟩, h6⟩ := h;rw [Nat.mul_one] at h4;obtain ⟨b, o, rfl, hc⟩ := h5 (List.ne_nil_of_length_pos (by omega));have h0 := hc 0 us[0] (List.getElem?_eq_getElem (by omega));refine ⟨b, o, c, h1, World.block_lt_of_cell? w _ h0, fun i hi => ?_⟩;have hi2 : i < us.length := by omega
 have hr := h6 i us[i] S[i] (List.getElem?_eq_getElem hi2) (List.getElem?_eq_getElem hi);obtain ⟨p', c', e, -, -, -⟩ := hr.open;have hcell := hc i us[i] (List.getElem?_eq_getElem hi2);rw [e] at hcell hr;exact ⟨p', c', hcell, hr⟩
def cellsFd (F : List Rat) : List Value := F.map fun q => Value.string (RS q)
def FldV (w : World) (B : Nat) (v : Value) (F : List Rat) : Prop := w.ownsRow B 57 1 v F.length (cellsFd F)
theorem FldV.below {w w' : World} {B : Nat} {v : Value} {F : List Rat} (h : FldV w B v F) (hb : Below w.heap.size w w') : FldV w' B v F := World.ownsRow.belowAll h hb
theorem FldV.base {w : World} {B B' : Nat} {v : Value} {F : List Rat} (h : FldV w B v F) (hb : B' <= B) : FldV w B' v F := ownsRow_base h hb
theorem FldV.shape {w : World} {B : Nat} {v : Value} {F : List Rat} (h : FldV w B v F) : ∃ p c, v = .slice p F.length c := ownsRow_shape h
theorem FldV.rd {w : World} {B : Nat} {v : Value} {F : List Rat} (h : FldV w B v F) : RdQ w v F := by
 have h1 : RdC 1 w v F.length (cellsFd F) := RdC.of_owns h;unfold RdQ;exact h1
def FlsV (E : Nat) (w : World) (B : Nat) (v : Value) (S : List (List Rat)) : Prop :=
 ∃ us : List Value, us.length = S.length /\ w.ownsRow B E 1 v S.length us /\ ∀ (i : Nat) (u : Value) (F : List Rat), us[i]? = some u -> S[i]? = some F -> FldV w B u F
theorem FlsV.nil (E : Nat) (w : World) (B : Nat) : FlsV E w B (.slice none 0 0) [] := ⟨[], rfl, World.ownsRow_nil _ _ _ _, fun i u F h => by simp at h⟩
theorem FlsV.below {E : Nat} {w w' : World} {B : Nat} {v : Value} {S : List (List Rat)} (h : FlsV E w B v S) (hb : Below w.heap.size w w') : FlsV E w' B v S := by
 obtain ⟨us, h0, h1, h2⟩ := h;exact ⟨us, h0, World.ownsRow.belowAll h1 hb, fun i u F a b => (h2 i u F a b).below hb⟩
theorem FlsV.base {E : Nat} {w : World} {B B' : Nat} {v : Value} {S : List (List Rat)} (h : FlsV E w B v S) (hb : B' <= B) : FlsV E w B' v S := by
 obtain ⟨us, h0, h1, h2⟩ := h;exact ⟨us, h0, ownsRow_base h1 hb, fun i u F a b => (h2 i u F a b).base hb⟩
theorem FlsV.shape {E : Nat} {w : World} {B : Nat} {v : Value} {S : List (List Rat)} (h : FlsV E w B v S) : ∃ p c, v = .slice p S.length c := by
 obtain ⟨us, -, h1, -⟩ := h;exact ownsRow_shape h1
theorem FlsV.rd {E : Nat} {w : World} {B : Nat} {v : Value} {S : List (List Rat)} (h : FlsV E w B v S) : RdF w v S := by
 obtain ⟨us, h0, h1, h2⟩ := h;exact ⟨us, RdC.of_owns h1, fun i u F a b => (h2 i u F a b).rd⟩
theorem FlsV.snoc {E : Nat} (hE : 57 ≠ E) {w w' : World} {B : Nat} {v v' u : Value} {S : List (List Rat)} {us : List Value} {F : List Rat} (h0 : us.length = S.length) (h1 : w.ownsRow B E 1 v S.length us)
 (h2 : ∀ (i : Nat) (u : Value) (F : List Rat), us[i]? = some u -> S[i]? = some F -> FldV w B u F) (hg : w.grownBy w' v.ownBlock) (hown : w'.ownsRow B E 1 v' (S.length + 1) (us ++ [u])) (hu : FldV w B u F) : FlsV E w' B v' (S ++ [F]) := by
 have key : ∀ {x F}, FldV w B x F -> FldV w' B x F := fun h => World.ownsRow.kept h hg (owns_apart h h1 hE);refine ⟨us ++ [u], by simp [h0], by rw [List.length_append]; exact hown, fun i x G a b => ?_⟩;rcases Nat.lt_or_ge i S.length with h | h
 ·rw [List.getElem?_append_left (by omega)] at a
  rw [List.getElem?_append_left h] at b;exact key (h2 i x G a b)
 ·have hj := (List.getElem?_eq_some_iff.1 b).1
  rw [List.length_append] at hj;obtain rfl : i = S.length := by simp at hj; omega
  rw [List.getElem?_append_right (Nat.le_refl _), Nat.sub_self] at b;rw [List.getElem?_append_right (by omega), h0, Nat.sub_self] at a;simp at a b;subst a; subst b;exact key hu
theorem FlsV.kept {E : Nat} {w w' : World} {B : Nat} {v : Value} {S : List (List Rat)} {row : Option Nat} (h : FlsV E w B v S) (hg : w.grownBy w' row) (hne : ∀ (x : Value) (e s n : Nat) (xs : List Value), (e = E \/ e = 57) -> w.ownsRow B e s x n xs -> x.ownBlock = none \/ x.ownBlock ≠ row) : FlsV E w' B v S := by
 obtain ⟨us, h0, h1, h2⟩ := h;exact ⟨us, h0, World.ownsRow.kept h1 hg (hne _ _ _ _ _ (.inl rfl) h1), fun i u F a b => World.ownsRow.kept (h2 i u F a b) hg (hne _ _ _ _ _ (.inr rfl) (h2 i u F a b))⟩
def letC (c : Int) : Bool := (decide (97 <= c) && decide (c <= 122)) || (decide (65 <= c) && decide (c <= 90))
def digC (c : Int) : Bool := (decide (48 <= c) && decide (c <= 57)) || decide (c = 95)
def okC (i : Nat) (c : Int) : Bool := letC c || (decide (i ≠ 0) && digC c)
def byI (s : ByteArray) (i : Nat) : Int := ((s.data.toList[i]?.getD 0).toNat : Int)
theorem byI_range (s : ByteArray) (i : Nat) : 0 <= byI s i /\ byI s i <= 255 := by
 unfold byI;have := (s.data.toList[i]?.getD 0).toNat_lt;omega
def nameTo (s : ByteArray) (k : Nat) : Bool := (List.range k).all fun i => okC i (byI s i)
def nameQ (s : ByteArray) : Bool := decide (0 < s.size) && (decide (s.size <= 32) && nameTo s s.size)
theorem nameTo_next (s : ByteArray) (k : Nat) : nameTo s (k + 1) = (nameTo s k && okC k (byI s k)) := by
 unfold nameTo; rw [List.range_succ, List.all_append]; simp
theorem nameTo_no {s : ByteArray} {k n : Nat} (hk : k < n) (h : okC k (byI s k) = false) : nameTo s n = false := by
 unfold nameTo;rw [List.all_eq_false];exact ⟨k, List.mem_range.2 hk, by rw [h]; decide⟩
theorem okC_cases {i : Nat} {c : Int} (_h : 0 <= c /\ c <= 255) : (c < 48 /\ okC i c = false) \/ (48 <= c /\ c <= 57 /\ okC i c = decide (i ≠ 0)) \/ (57 < c /\ c < 65 /\ okC i c = false) \/ (65 <= c /\ c <= 90 /\ okC i c = true) \/ (90 < c /\ c < 95 /\ okC i c = false) \/ (c = 95 /\ okC i c = decide (i ≠ 0)) \/ (c = 96 /\ okC i c = false) \/ (97 <= c /\ c <= 122 /\ okC i c = true) \/ (122 < c /\ okC i c = false) := by
 have key : okC i c = (((decide (97 <= c) && decide (c <= 122)) || (decide (65 <= c) && decide (c <= 90))) || (decide (i ≠ 0) && ((decide (48 <= c) && decide (c <= 57)) || decide (c = 95)))) := rfl;rcases (by omega : c < 48 \/ (48 <= c /\ c <= 57) \/ (57 < c /\ c < 65) \/ (65 <= c /\ c <= 90) \/ (90 < c /\ c < 95) \/ c = 95 \/ c = 96 \/ (97 <= c /\ c <= 122) \/ 122 < c) with h | ⟨h, g⟩ | ⟨h, g⟩ | ⟨h, g⟩ | ⟨h, g⟩ | h | h | ⟨h, g⟩ | h
 ·exact .inl ⟨h, by rw [key, decide_eq_false (show ¬ 97 <= c by omega), decide_eq_false (show ¬ 65 <= c by omega), decide_eq_false (show ¬ 48 <= c by omega), decide_eq_false (show ¬ c = 95 by omega)]; simp⟩
 ·exact .inr (.inl ⟨h, g, by rw [key, decide_eq_false (show ¬ 97 <= c by omega), decide_eq_false (show ¬ 65 <= c by omega), decide_eq_true h, decide_eq_true g]; simp⟩)
 ·exact .inr (.inr (.inl ⟨h, g, by rw [key, decide_eq_false (show ¬ 97 <= c by omega), decide_eq_false (show ¬ 65 <= c by omega), decide_eq_false (show ¬ c <= 57 by omega), decide_eq_false (show ¬ c = 95 by omega)]; simp⟩))
 ·exact .inr (.inr (.inr (.inl ⟨h, g, by rw [key, decide_eq_true h, decide_eq_true g]; simp⟩)))
 ·exact .inr (.inr (.inr (.inr (.inl ⟨h, g, by rw [key, decide_eq_false (show ¬ 97 <= c by omega), decide_eq_false (show ¬ c <= 90 by omega), decide_eq_false (show ¬ c <= 57 by omega), decide_eq_false (show ¬ c = 95 by omega)]; simp⟩))))
 ·exact .inr (.inr (.inr (.inr (.inr (.inl ⟨h, by rw [key, decide_eq_false (show ¬ 97 <= c by omega), decide_eq_false (show ¬ c <= 90 by omega), decide_eq_true h]; simp⟩)))))
 ·exact .inr (.inr (.inr (.inr (.inr (.inr (.inl ⟨h, by rw [key, decide_eq_false (show ¬ 97 <= c by omega), decide_eq_false (show ¬ c <= 90 by omega), decide_eq_false (show ¬ c <= 57 by omega), decide_eq_false (show ¬ c = 95 by omega)]; simp⟩))))))
 ·exact .inr (.inr (.inr (.inr (.inr (.inr (.inr (.inl ⟨h, g, by rw [key, decide_eq_true h, decide_eq_true g]; simp⟩)))))))
 ·exact .inr (.inr (.inr (.inr (.inr (.inr (.inr (.inr ⟨h, by rw [key, decide_eq_false (show ¬ c <= 122 by omega), decide_eq_false (show ¬ c <= 90 by omega), decide_eq_false (show ¬ c <= 57 by omega), decide_eq_false (show ¬ c = 95 by omega)]; simp⟩)))))))
theorem byteRow_cell (w : World) (s : ByteArray) (cap : Nat) (E : Nat) (fr : Nat × Nat) {i : Nat} (hi : i < s.size) : (w.alloc (.cells (bytesRow s cap) E fr)).cell? ⟨w.heap.size, i, none⟩ = some (.int .u8 (byI s i)) := by
 have hl : s.data.toList.length = s.size := by simp
 have h0 : (bytesRow s cap)[i]? = some (.int .u8 (byI s i)) := by
  unfold bytesRow byI;rw [Array.getElem?_append_left (by simp; exact hi)];rw [Array.getElem?_map];have e : s.data[i]? = some (s.data.toList[i]'(by omega)) := by
   rw [Array.getElem?_eq_getElem (by simpa using hi)]; simp
  rw [e, List.getElem?_eq_getElem (by omega)];rfl
 have h1 := cell_of_row (w.alloc (.cells (bytesRow s cap) E fr)) w.heap.size i (bytesRow s cap) E fr (World.alloc_heap_new w _);rw [h1];exact h0
theorem empty_of {s : ByteArray} (h : s.size = 0) : s.toList = [] := by
 rw [ba_toList];exact List.length_eq_zero_iff.1 (by simpa using h)
theorem notEmpty_of {s : ByteArray} (h : 0 < s.size) : s.toList.isEmpty = false /\ ¬ s.toList = [] := by
 have h1 : s.toList.length = s.size := by rw [ba_toList]; simp
 have h2 : ¬ s.toList = [] := fun e => by rw [e] at h1; simp at h1; omega
 exact ⟨by cases h3 : s.toList with | nil => exact absurd h3 h2 | cons a l => rfl, h2⟩
theorem isName_any (s : ByteArray) (w : World) :
 Calls Tryz.prog 57 #[.string s] w (Ret (fun r _ => r = .bool (nameQ s)) w) := by
 rcases Nat.eq_zero_or_pos s.size with h0 | h0
 ·have HN : Hid (nameQ s = false) := by unfold Hid nameQ; rw [decide_eq_false (by omega)]; rfl
  have he := empty_of h0;have he2 : s.toList.isEmpty = true := by rw [he]; rfl
  clear h0;go_enter Tryz.func57, Tryz.ntmps57;go_wp2_with fail;go_ret;exact ⟨_, rfl, congrArg Value.bool HN.out.symm, Below.refl _ _⟩
 ·obtain ⟨he, he2⟩ := notEmpty_of h0
  by_cases h32 : s.size <= 32
  ·have HQ : Hid (nameQ s = nameTo s s.size) := by unfold Hid nameQ; rw [decide_eq_true h0, decide_eq_true h32]; rfl
   have hconv := fun (w : World) => run_bytes_of_string (P := Tryz.prog) w 9 108 5 s Tryz.underlying9 Tryz.underlying108 Tryz.underlying5
   have hd32 : decide ((32 : Int) < (s.size : Int)) = false := decide_eq_false (by omega);go_enter Tryz.func57, Tryz.ntmps57;go_wp2_with fail;obtain ⟨U, hU⟩ : ∃ U, U = (w.alloc (.cells (bytesRow s (grownCap w s.size 0 5)) 5 ((bytesRow s (grownCap w s.size 0 5)).size, (bytesRow s (grownCap w s.size 0 5)).size + 1))).drew := ⟨_, rfl⟩;have hbU : Below w.heap.size w U := by rw [hU]; exact ((Below.refl _ _).alloc (Nat.le_refl _) _).trans ((below_drewN _ 1).mono (by simp))
   have HCU : Hid (∀ i, i < s.size -> U.cell? ⟨w.heap.size, i, none⟩ = some (.int .u8 (byI s i))) := fun i hi => by rw [hU]; exact byteRow_cell w s _ _ _ hi
   have hlU : w.heap.size < U.heap.size := by rw [hU]; show w.heap.size < (w.heap.push _).size; simp
   rw [<- hU];clear hU hconv;have hs32 : s.size <= 32 := h32;go_loopw [17] (fun t17 wr => ∃ i : Nat, t17 = .int .i64 i /\ i <= s.size /\ Hid (nameTo s i = true) /\ Below U.heap.size U wr) (fun t17 _ => s.size - (RowKit.intOf t17).toNat)
   case atStart => exact ⟨0, rfl, Nat.zero_le _, rfl, Below.refl _ _⟩
   case round =>
    obtain ⟨i, rfl, hin, HT, hbr⟩ := hrel;have hBr := hbU.trans (hbr.mono hbU.size);rcases Nat.lt_or_ge i s.size with hlt | hlt
    ·have hiz : (i : Int) < (s.size : Int) := by omega
     have hc := zcq hbr hlU (HCU.out i hlt);have HNX := Lib.hid (nameTo_next s i);have hrg := byI_range s i;have HNO : Hid (okC i (byI s i) = false -> nameQ s = false) := fun h => HQ.out.trans (nameTo_no hlt h)
     have HC := Lib.hid (okC_cases (i := i) hrg);obtain ⟨c, hce⟩ : ∃ c, c = byI s i := ⟨_, rfl⟩;rw [<- hce] at hc HNX hrg HNO HC;clear hce;obtain ⟨hc0, hc255⟩ := hrg;have hend : (okC i c = true -> Hid (nameTo s (i + 1) = true)) := fun h => by unfold Hid; rw [HNX.out, HT.out, h]; rfl
     have HEND := Lib.hid hend;clear hend HNX HT;rcases Nat.eq_zero_or_pos i with hi0 | hi0
     ·subst hi0
      rw [show ((0 : Nat) : Int) = 0 from rfl];rcases HC.out with ⟨h1, h2⟩ | ⟨h1, h3, h2⟩ | ⟨h1, h3, h2⟩ | ⟨h1, h3, h2⟩ | ⟨h1, h3, h2⟩ | ⟨h1, h2⟩ | ⟨h1, h2⟩ | ⟨h1, h3, h2⟩ | ⟨h1, h2⟩
      all_goals (first | (have p97 : 97 <= c := by omega) | (have p97 : ¬ 97 <= c := by omega)); all_goals (first | (have p122 : c <= 122 := by omega) | (have p122 : ¬ c <= 122 := by omega)); all_goals (first | (have p65 : 65 <= c := by omega) | (have p65 : ¬ 65 <= c := by omega)); all_goals (first | (have p90 : c <= 90 := by omega) | (have p90 : ¬ c <= 90 := by omega)); all_goals (first | (have p48 : 48 <= c := by omega) | (have p48 : ¬ 48 <= c := by omega)); all_goals (first | (have p57 : c <= 57 := by omega) | (have p57 : ¬ c <= 57 := by omega)); all_goals (first | (have e95 : (c == 95) = false := by rw [beq_eq_false_iff_ne]; omega) | (subst h1; have e95 : ((95 : Int) == 95) = true := rfl))
      all_goals first
       | (have HE := HEND.out h2
          clear h2 HC;go_wp2_with fail;go_roundw
          case rel => exact ⟨1, rfl, by omega, HE, hbr⟩
          case measure => simp [RowKit.intOf]; omega)
       | (have HF := Lib.hid (HNO.out h2)
          clear h2 HC;go_wp2_with fail;go_ret;exact ⟨_, rfl, congrArg Value.bool HF.out.symm, hBr⟩)
     ·have hi1 : ((i : Int) == 0) = false := by rw [beq_eq_false_iff_ne]; omega
      have hi2 : ¬ (i : Int) = 0 := by omega
      have hd : decide (i ≠ 0) = true := decide_eq_true (by omega);rw [hd] at HC;clear hd;rcases HC.out with ⟨h1, h2⟩ | ⟨h1, h3, h2⟩ | ⟨h1, h3, h2⟩ | ⟨h1, h3, h2⟩ | ⟨h1, h3, h2⟩ | ⟨h1, h2⟩ | ⟨h1, h2⟩ | ⟨h1, h3, h2⟩ | ⟨h1, h2⟩
      all_goals (first | (have p97 : 97 <= c := by omega) | (have p97 : ¬ 97 <= c := by omega)); all_goals (first | (have p122 : c <= 122 := by omega) | (have p122 : ¬ c <= 122 := by omega)); all_goals (first | (have p65 : 65 <= c := by omega) | (have p65 : ¬ 65 <= c := by omega)); all_goals (first | (have p90 : c <= 90 := by omega) | (have p90 : ¬ c <= 90 := by omega)); all_goals (first | (have p48 : 48 <= c := by omega) | (have p48 : ¬ 48 <= c := by omega)); all_goals (first | (have p57 : c <= 57 := by omega) | (have p57 : ¬ c <= 57 := by omega)); all_goals (first | (have e95 : (c == 95) = false := by rw [beq_eq_false_iff_ne]; omega) | (subst h1; have e95 : ((95 : Int) == 95) = true := rfl))
      all_goals first
       | (have HE := HEND.out h2
          clear h2 HC;go_wp2_with fail;go_roundw
          case rel => exact ⟨i + 1, by go_num, by omega, HE, hbr⟩
          case measure => simp [RowKit.intOf]; omega)
       | (have HF := Lib.hid (HNO.out h2)
          clear h2 HC;go_wp2_with fail;go_ret;exact ⟨_, rfl, congrArg Value.bool HF.out.symm, hBr⟩)
    ·have hge : ¬ (i : Int) < (s.size : Int) := by omega
     obtain rfl : i = s.size := by omega
     have HF : Hid (nameQ s = true) := HQ.out.trans HT.out;go_wp2_with fail;go_ret;exact ⟨_, rfl, congrArg Value.bool HF.out.symm, hBr⟩
  ·have HN : Hid (nameQ s = false) := by unfold Hid nameQ; rw [decide_eq_false h32]; simp
   have hd32 : decide ((32 : Int) < (s.size : Int)) = true := decide_eq_true (by omega);go_enter Tryz.func57, Tryz.ntmps57;go_wp2_with fail;go_ret;exact ⟨_, rfl, congrArg Value.bool HN.out.symm, Below.refl _ _⟩
end Go.Proofs.YtgdpoankaojklaaGreatDoor
