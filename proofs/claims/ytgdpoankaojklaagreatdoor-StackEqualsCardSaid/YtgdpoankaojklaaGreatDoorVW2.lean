import Derived.Test.YtgdpoankaojklaaGreatDoorVG5
import Derived.LoopN
import Derived.RegionTactic
import Derived.ChangeAlike
/- Field Thickness The walks over mesh.corners, mesh.inside. The walk over mesh.Locate. -/
set_option maxHeartbeats 4000000
set_option maxRecDepth 100000
namespace Go.Proofs.YtgdpoankaojklaaGreatDoor
open Go.RowKit Go.Lib
def errF (n : Nat) (l : List ByteArray) : Int := if l.length = n then errNum (allQ l) else 5
theorem errF_size {n : Nat} {l : List ByteArray} (h : l.length ≠ n) : errF n l = 5 := by unfold errF; rw [if_neg h]
theorem errF_num {n : Nat} {l : List ByteArray} (h : l.length = n) : errF n l = errNum (allQ l) := by unfold errF; rw [if_pos h]
theorem checks_any (w : World) (vp vt vf : Value) (P : List PtQ) (T : List Tri) (k : Nat) (l : List ByteArray) (hp : RdP w vp (strP P)) (ht : RdT w vt T) (hm : MeshOK P T k) (hf : RdS w vf l) (hl : ∀ s ∈ l, s.size < 1000000000) (hll : l.length <= 1000000) (b : Nat)
 (hb : w.cell? ⟨b, 0, none⟩ = some vf) (hg : Good w) :
 Calls Tryz.prog 68 #[.agg #[vp, vt], .slice (some ⟨b, 0, none⟩) 1 1] w (Ret (fun r _ => r = .int .i64 (errF P.length l)) w) := by
 have hp' := hp;have ht' := ht;have hf' := hf;obtain ⟨pp, cp, rfl, hpc, hpm, _⟩ := hp'.open;obtain ⟨pt, ct, rfl, htc, htm, _⟩ := ht'.open;obtain ⟨pf, cf, rfl, hfc, hfm, hfr⟩ := hf'.open;rw [strP_length] at hp hpc ⊢;have HP := hid hp;have HT := hid ht;have HM := hid hm;have HL := hid hl;have HR := hid hfr;have hpl := hm.plen;have hbl := World.block_lt_of_cell? w _ hb;dsimp only at hbl;clear hp ht hf hp' ht' hf' hm hl hfr;go_enter Tryz.func68, Tryz.ntmps68;go_wp2_with fail;obtain ⟨W0, hW0⟩ : ∃ W0, W0 = w.alloc (.cells #[.slice pp P.length cp, .slice pt T.length ct] 37) := ⟨_, rfl⟩;have hB0 : Below w.heap.size w W0 := by rw [hW0]; exact zal _ _
 have hz0 : w.heap.size + 1 <= W0.heap.size := by rw [hW0]; simp
 have y0 : W0.cell? ⟨w.heap.size, 0, none⟩ = some (.slice pp P.length cp) := by rw [hW0, World.cell?_alloc_at _ _ _ _ rfl]; rfl
 rw [<- hW0];clear hW0;refine (check_any W0 _ _ P T k (RdC.below HP.out hB0) (RdC.below HT.out hB0) HM.out (hg.below hB0)).mono ?_;rintro e w1 ⟨_, rfl, rfl, hb1⟩;have hB1 : Below w.heap.size w w1 := hB0.trans (hb1.mono hB0.size);have hg1 := hg.below hB1;have z0 := zcq hb1 (by show w.heap.size < W0.heap.size; omega) y0;have x0 := zcq hB1 hbl hb;clear y0 hb hb1 hB0;go_wp2_with fail;go_loopw [18] (fun t18 wr => ∃ j : Nat, j <= 1 /\ t18 = .int .i64 (j : Int) /\ Hid (j = 1 -> l.length = P.length /\ allQ l = true) /\ Below w1.heap.size w1 wr) (fun t18 _ => 1 - (RowKit.intOf t18).toNat)
 case atStart => exact ⟨0, by omega, rfl, fun h => (by omega), Below.refl _ _⟩
 case round =>
  obtain ⟨j, hj, rfl, HJ, hB⟩ := hrel;have hzr := hB.size;have hBw : Below w.heap.size w wr := hB1.trans (hB.mono hB1.size);have u0 := zcq hB (World.block_lt_of_cell? w1 _ z0) z0;have u1 := zcq hB (World.block_lt_of_cell? w1 _ x0) x0;rcases (by omega : j = 0 \/ j = 1) with rfl | rfl
  ·rcases (by omega : l.length = P.length \/ l.length ≠ P.length) with hle | hle
   ·have hlz : ((l.length : Int) != (P.length : Int)) = false := by rw [bne_eq_false_iff_eq]; omega
    have HLE := hid hle;have HF : Hid (errF P.length l = errNum (allQ l)) := errF_num hle;have HBW := hid hBw;clear hle z0 x0 HJ hBw;rw [show ((0 : Nat) : Int) = 0 from rfl];go_wp2_with fail;obtain ⟨wo, hwo⟩ : ∃ wo : World, wo = wr := ⟨_, rfl⟩;subst hwo;go_loopw [30] (fun t30 wr => ∃ (i : Nat), t30 = .int .i64 i /\ i <= l.length /\ Hid (allQ l = allQ (l.drop i)) /\ Below wo.heap.size wo wr) (fun t30 _ => l.length - (RowKit.intOf t30).toNat)
    case atStart => exact ⟨0, rfl, Nat.zero_le _, rfl, Below.refl _ _⟩
    case round =>
     obtain ⟨i, rfl, hi, HS, hbl2⟩ := hrel;rcases Nat.lt_or_ge i l.length with h | h
     ·obtain ⟨bf, off, rfl, hbs, hcell⟩ := HR.out (by intro e; rw [e] at h; simp at h)
      have hc0 := zcq HBW.out hbs (hcell i h);have hc : wr.cell? ⟨bf, off + i, none⟩ = some (.string l[i]) := (zcq hbl2 (World.block_lt_of_cell? wo _ hc0) hc0 :);have hzx := HL.out l[i] (List.getElem_mem h);have hst := HS.out.trans (allQ_step l i h);obtain ⟨x, hx⟩ : ∃ x, x = l[i] := ⟨_, rfl⟩;rw [<- hx] at hc hzx hst;have HST := hid hst;have hgr := (hg.below HBW.out).below hbl2;clear hx hst hcell HS hc0;go_wp2_with fail;refine (checkQ_any x hzx _ hgr).mono ?_;rintro e w2 ⟨_, rfl, rfl, hb2⟩;have hb3 := hbl2.trans (hb2.mono hbl2.size);clear hb2 hgr;rcases Bool.eq_false_or_eq_true (rightQ x.data.toList) with hq | hq
      ·have HN : Hid (allQ l = allQ (l.drop (i + 1))) := by unfold Hid; rw [HST.out, hq]; rfl
       rw [hq, show errNum true = 0 from rfl];clear hq HST;go_wp2_with fail;go_roundw
       case rel => exact ⟨i + 1, by go_num, h, HN, hb3⟩
       case measure => simp [RowKit.intOf]; omega
      ·have HN : Hid (2 = errF P.length l) := by unfold Hid; rw [HF.out, HST.out, hq]; rfl
       rw [hq, show errNum false = 2 from rfl];clear hq HST;go_wp2_with fail;go_ret;exact ⟨_, rfl, congrArg (Value.int .i64) HN.out, HBW.out.trans (hb3.mono HBW.out.size)⟩
     ·have hall : Hid (allQ l = true) := by unfold Hid; rw [HS.out, List.drop_of_length_le h]; rfl
      clear HS;go_wp2_with fail;go_roundw
      case rel => exact ⟨1, by omega, rfl, fun _ => ⟨HLE.out, hall.out⟩, hB.trans (hbl2.mono hzr)⟩
      case measure => simp [RowKit.intOf]
   ·have hlz : ((l.length : Int) != (P.length : Int)) = true := by rw [bne_iff_ne]; omega
    have HF : Hid (5 = errF P.length l) := (errF_size hle).symm;clear hle;go_wp2_with fail;go_ret;exact ⟨_, rfl, congrArg (Value.int .i64) HF.out, hBw⟩
  ·have HF : Hid (0 = errF P.length l) := by
    obtain ⟨h1, h2⟩ := HJ.out rfl;unfold Hid; rw [errF_num h1, h2]; rfl
   go_wp2_with fail;go_ret;exact ⟨_, rfl, congrArg (Value.int .i64) HF.out, hBw⟩
theorem cell_slot (w : World) (v : Value) (ty n : Nat) (hn : w.heap.size = n) : (w.alloc (.cells #[v] ty)).cell? ⟨n, 0, none⟩ = some v := by
 rw [World.cell?_alloc_at _ _ _ _ (by simp [hn])]; rfl
theorem fcheck_any (w : World) (vp vt vf : Value) (P : List PtQ) (T : List Tri) (k : Nat) (l : List ByteArray) (hp : RdP w vp (strP P)) (ht : RdT w vt T) (hm : MeshOK P T k) (hf : RdS w vf l) (hl : ∀ s ∈ l, s.size < 1000000000) (hll : l.length <= 1000000) (hg : Good w) :
 Calls Tryz.prog 21 #[.agg #[vp, vt], vf] w (Ret (fun r _ => r = .int .i64 (errF P.length l)) w) := by
 have hp' := hp;have ht' := ht;have hf' := hf;obtain ⟨pp, cp, rfl, _, _, _⟩ := hp'.open;obtain ⟨pt, ct, rfl, _, _, _⟩ := ht'.open;obtain ⟨pf, cf, rfl, _, _, _⟩ := hf'.open;clear hp' ht' hf';have HP := hid hp;have HT := hid ht;have HF := hid hf;clear hp ht hf;go_enter Tryz.func21, Tryz.ntmps21;go_wp2_with fail;have hb0 : Below w.heap.size w ((w.alloc (.cells #[.slice pp (strP P).length cp, .slice pt T.length ct] 37)).alloc (.cells #[.slice pf l.length cf] 39)) := ((Below.refl _ _).alloc (Nat.le_refl _) _).alloc (by simp) _;refine (checks_any _ _ _ _ P T k l (RdC.below HP.out hb0) (RdC.below HT.out hb0) hm (RdC.below HF.out hb0) hl hll (w.heap.size + 1) (cell_slot _ _ _ _ (by simp)) (hg.below hb0)).mono ?_;rintro e w1 ⟨_, rfl, rfl, hb1⟩;go_wp2_with fail;go_ret;exact ⟨_, rfl, rfl, hb0.trans (hb1.mono hb0.size)⟩
def ptI (P : List PtQ) (z : Int) : PtQ := P[z.toNat]?.getD (0, 0)
def hI (F : List Rat) (z : Int) : Rat := F[z.toNat]?.getD 0
theorem ptI_nat (P : List PtQ) (m : Nat) (h : m < P.length) : ptI P (m : Int) = P[m] := by
 unfold ptI; rw [Int.toNat_natCast, List.getElem?_eq_getElem h]; rfl
theorem hI_nat (F : List Rat) (m : Nat) (h : m < F.length) : hI F (m : Int) = F[m] := by
 unfold hI; rw [Int.toNat_natCast, List.getElem?_eq_getElem h]; rfl
def BoxN (w : World) (b t : Nat) (l : List Value) : Prop := w.heap[b]? = some (.cells l.toArray t (0, 0))
theorem BoxN.lt {w : World} {b t : Nat} {l : List Value} (h : BoxN w b t l) : b < w.heap.size := (Array.getElem?_eq_some_iff.1 h).1
theorem BoxN.cell {w : World} {b t : Nat} {l : List Value} (h : BoxN w b t l) (i : Nat) {v : Value} (hv : l[i]? = some v) : w.cell? ⟨b, i, none⟩ = some v := by
 unfold BoxN at h;simp [World.cell?, h, hv]
theorem BoxN.frozen {w : World} {b t : Nat} {l : List Value} (h : BoxN w b t l) (i : Nat) : w.frozen? ⟨b, i, none⟩ = false := by
 unfold BoxN at h;simp [World.frozen?, h]
theorem BoxN.new (w : World) (a : Array Value) (t n : Nat) (hn : w.heap.size = n) : BoxN (w.alloc (.cells a t)) n t a.toList := by
 subst hn; exact World.alloc_heap_new _ _
theorem BoxN.below {w w' : World} {m b t : Nat} {l : List Value} (h : BoxN w b t l) (hb : Below m w w') (hm : b < m) : BoxN w' b t l := (hb.block b hm).trans h
theorem BoxN.set {w : World} {b t : Nat} {l : List Value} (h : BoxN w b t l) (i : Nat) (v : Value) : BoxN (w.setCell ⟨b, i, none⟩ v) b t (l.set i v) := by
 obtain ⟨hlt, hk⟩ := Array.getElem?_eq_some_iff.1 (show w.heap[b]? = _ from h);show (w.heap.modify b _)[b]? = _;rw [Array.getElem?_eq_getElem (by rw [Array.size_modify]; exact hlt), Array.getElem_modify_self, hk];simp
theorem BoxN.drew {w : World} {b t : Nat} {l : List Value} (h : BoxN w b t l) : BoxN w.drew b t l := h
theorem corners_any (w : World) (vp vt vf : Value) (P : List PtQ) (T : List Tri) (k : Nat) (F : List Rat) (hp : RdP w vp (strP P)) (ht : RdT w vt T) (hm : MeshIn P T k) (hf : RdQ w vf F) (hfl : F.length = P.length) (t : Nat) (tz : Int) (htz : tz = (t : Int)) (htl : t < T.length)
 (tr : Tri) (htr : tr = T[t]) (_hg : Good w) :
 Calls Tryz.prog 165 #[.agg #[vp, vt], vf, .int .i64 tz] w (Ret (fun r _ => r = .agg #[.string (RS (ptI P tr.1).1), .string (RS (ptI P tr.1).2), .string (RS (hI F tr.1)), .string (RS (ptI P tr.2.1).1), .string (RS (ptI P tr.2.1).2), .string (RS (hI F tr.2.1)),
  .string (RS (ptI P tr.2.2).1), .string (RS (ptI P tr.2.2).2), .string (RS (hI F tr.2.2))]) w) := by
 obtain ⟨pp, cp, rfl, hpc, hpm, hpr⟩ := hp.open;obtain ⟨pt, ct, rfl, htc, htm, htr'⟩ := ht.open;obtain ⟨pf, cf, rfl, hfc, hfm, hfr⟩ := hf.open;rw [strP_length] at hpc ⊢;obtain ⟨b, off, rfl, hbt, hcell⟩ := htr' (List.ne_nil_of_length_pos (by omega));obtain ⟨e0, e1, e2⟩ := hcell t htl;have hidx := hm.idx T[t] (List.getElem_mem htl);obtain ⟨q0z, q1z, q2z⟩ := tr;rw [<- htr] at e0 e1 e2 hidx;dsimp only at e0 e1 e2 ⊢;obtain ⟨a00, a01⟩ := hidx q0z (by simp [idxOf]);obtain ⟨a10, a11⟩ := hidx q1z (by simp [idxOf]);obtain ⟨a20, a21⟩ := hidx q2z (by simp [idxOf]);obtain ⟨q0, rfl⟩ : ∃ q : Nat, q0z = (q : Int) := ⟨q0z.toNat, by omega⟩;obtain ⟨q1, rfl⟩ : ∃ q : Nat, q1z = (q : Int) := ⟨q1z.toNat, by omega⟩;obtain ⟨q2, rfl⟩ : ∃ q : Nat, q2z = (q : Int) := ⟨q2z.toNat, by omega⟩;have g0 : q0 < P.length := by omega
 have g1 : q1 < P.length := by omega
 have g2 : q2 < P.length := by omega
 obtain ⟨bp, op, rfl, hbp, hpc'⟩ := hpr (by intro e; have h := strP_length P; rw [e] at h; simp at h; omega);obtain ⟨bf, of, rfl, hbf, hfc'⟩ := hfr (by intro e; rw [e] at hfl; simp at hfl; omega);rw [ptI_nat P q0 g0, ptI_nat P q1 g1, ptI_nat P q2 g2, hI_nat F q0 (by omega), hI_nat F q1 (by omega), hI_nat F q2 (by omega)];obtain ⟨k00, k01⟩ := hpc' q0 (by rw [strP_length]; exact g0);obtain ⟨k10, k11⟩ := hpc' q1 (by rw [strP_length]; exact g1);obtain ⟨k20, k21⟩ := hpc' q2 (by rw [strP_length]; exact g2);rw [strP_get P q0 g0] at k00 k01;rw [strP_get P q1 g1] at k10 k11;rw [strP_get P q2 g2] at k20 k21;have m0 := hfc' q0 (by omega);have m1 := hfc' q1 (by omega);have m2 := hfc' q2 (by omega);dsimp only at k00 k01 k10 k11 k20 k21;have f0 : (q0 : Int) < (P.length : Int) := by omega
 have f1 : (q1 : Int) < (P.length : Int) := by omega
 have f2 : (q2 : Int) < (P.length : Int) := by omega
 have f3 : (q0 : Int) < (F.length : Int) := by omega
 have f4 : (q1 : Int) < (F.length : Int) := by omega
 have f5 : (q2 : Int) < (F.length : Int) := by omega
 have htlz : (t : Int) < (T.length : Int) := by omega
 generalize P[q0] = p0 at *;generalize P[q1] = p1 at *;generalize P[q2] = p2 at *;generalize F[q0]'_ = h0 at *;generalize F[q1]'_ = h1 at *;generalize F[q2]'_ = h2 at *;subst htz;clear htr hidx hcell htr' hpr hfr hpc' hfc' hp ht hf hm a00 a01 a10 a11 a20 a21 hfl;have i0 := idx_T0;have i1 := idx_T1;have i2 := idx_T2;go_enter Tryz.func165, Tryz.ntmps165;go_wp2_with fail;obtain ⟨W0, hW0⟩ : ∃ W0, W0 = (w.alloc (.cells #[.slice (some ⟨bp, op, none⟩) P.length cp, .slice (some ⟨b, off, none⟩) T.length ct] 37)).alloc (.cells #[.string ⟨#[]⟩, .string ⟨#[]⟩, .string ⟨#[]⟩, .string ⟨#[]⟩, .string ⟨#[]⟩, .string ⟨#[]⟩, .string ⟨#[]⟩, .string ⟨#[]⟩, .string ⟨#[]⟩] 235) := ⟨_, rfl⟩;have hB0 : Below w.heap.size w W0 := by rw [hW0]; exact zal2 _ _ _
 have W0B : BoxN W0 (w.heap.size + 1) 235 [.string ⟨#[]⟩, .string ⟨#[]⟩, .string ⟨#[]⟩, .string ⟨#[]⟩, .string ⟨#[]⟩, .string ⟨#[]⟩, .string ⟨#[]⟩, .string ⟨#[]⟩, .string ⟨#[]⟩] := by rw [hW0]; exact BoxN.new _ _ _ _ (by simp)
 have x0 : W0.cell? ⟨w.heap.size, 0, none⟩ = some (.slice (some ⟨bp, op, none⟩) P.length cp) := by rw [hW0]; exact cell_alloc_l _ (by rw [World.cell?_alloc_at _ _ _ _ rfl]; rfl)
 have W0b : Below (w.heap.size + 1) W0 W0 := Below.refl _ _;have l00 := zcq hB0 hbp k00;have l01 := zcq hB0 hbp k01;have l10 := zcq hB0 hbp k10;have l11 := zcq hB0 hbp k11;have l20 := zcq hB0 hbp k20;have l21 := zcq hB0 hbp k21;have n0 := zcq hB0 hbf m0;have n1 := zcq hB0 hbf m1;have n2 := zcq hB0 hbf m2;rw [<- hW0];clear hW0 e0 e1 e2 k00 k01 k10 k11 k20 k21 m0 m1 m2;refine wp_loop_rounds 4 ?_;have W1c0 := W0B.cell 0 rfl;have W1c1 := W0B.cell 1 rfl;have W1c2 := W0B.cell 2 rfl;have W1f0 := W0B.frozen 0;have W1f1 := W0B.frozen 1;have W1f2 := W0B.frozen 2;have W1x := zcq W0b (by show w.heap.size < w.heap.size + 1; omega) x0;have W1a := zcq W0b (by show bp < w.heap.size + 1; omega) l00;have W1d := zcq W0b (by show bp < w.heap.size + 1; omega) l01;have W1h := zcq W0b (by show bf < w.heap.size + 1; omega) n0;rw [rounds_succ];go_wp2_with fail
 go_still_tail 12, (by kernel_rfl)
 change wpList _ _ _ _ _ W0.drew;go_wp2_with fail;clear W1c0 W1c1 W1c2 W1f0 W1f1 W1f2 W1x W1a W1d W1h;obtain ⟨W1, hW1⟩ : ∃ X, X = (((W0.setCell ⟨w.heap.size + 1, 0, none⟩ (.string (RS p0.1))).setCell ⟨w.heap.size + 1, 1, none⟩ (.string (RS p0.2))).setCell ⟨w.heap.size + 1, 2, none⟩ (.string (RS h0))).drew := ⟨_, rfl⟩;have W1b : Below (w.heap.size + 1) W0 W1 := by rw [hW1]; exact (((W0b.setCell (p := ⟨w.heap.size + 1, 0, none⟩) (Nat.le_refl _) _).setCell (p := ⟨w.heap.size + 1, 1, none⟩) (Nat.le_refl _) _).setCell (p := ⟨w.heap.size + 1, 2, none⟩) (Nat.le_refl _) _).drew
 have W1B := ((((W0B.set 0 (.string (RS p0.1))).set 1 (.string (RS p0.2))).set 2 (.string (RS h0))).drew);rw [<- hW1] at W1B;rw [<- hW1];clear hW1;have W2c0 := W1B.cell 3 rfl;have W2c1 := W1B.cell 4 rfl;have W2c2 := W1B.cell 5 rfl;have W2f0 := W1B.frozen 3;have W2f1 := W1B.frozen 4;have W2f2 := W1B.frozen 5;have W2x := zcq W1b (by show w.heap.size < w.heap.size + 1; omega) x0;have W2a := zcq W1b (by show bp < w.heap.size + 1; omega) l10;have W2d := zcq W1b (by show bp < w.heap.size + 1; omega) l11;have W2h := zcq W1b (by show bf < w.heap.size + 1; omega) n1;rw [rounds_succ];go_wp2_with fail
 go_still_tail 12, (by kernel_rfl)
 change wpList _ _ _ _ _ W1.drew;go_wp2_with fail;clear W2c0 W2c1 W2c2 W2f0 W2f1 W2f2 W2x W2a W2d W2h;obtain ⟨W2, hW2⟩ : ∃ X, X = (((W1.setCell ⟨w.heap.size + 1, 3, none⟩ (.string (RS p1.1))).setCell ⟨w.heap.size + 1, 4, none⟩ (.string (RS p1.2))).setCell ⟨w.heap.size + 1, 5, none⟩ (.string (RS h1))).drew := ⟨_, rfl⟩;have W2b : Below (w.heap.size + 1) W0 W2 := by rw [hW2]; exact (((W1b.setCell (p := ⟨w.heap.size + 1, 3, none⟩) (Nat.le_refl _) _).setCell (p := ⟨w.heap.size + 1, 4, none⟩) (Nat.le_refl _) _).setCell (p := ⟨w.heap.size + 1, 5, none⟩) (Nat.le_refl _) _).drew
 have W2B := ((((W1B.set 3 (.string (RS p1.1))).set 4 (.string (RS p1.2))).set 5 (.string (RS h1))).drew);rw [<- hW2] at W2B;rw [<- hW2];clear hW2;have W3c0 := W2B.cell 6 rfl;have W3c1 := W2B.cell 7 rfl;have W3c2 := W2B.cell 8 rfl;have W3f0 := W2B.frozen 6;have W3f1 := W2B.frozen 7;have W3f2 := W2B.frozen 8;have W3x := zcq W2b (by show w.heap.size < w.heap.size + 1; omega) x0;have W3a := zcq W2b (by show bp < w.heap.size + 1; omega) l20;have W3d := zcq W2b (by show bp < w.heap.size + 1; omega) l21;have W3h := zcq W2b (by show bf < w.heap.size + 1; omega) n2;rw [rounds_succ];go_wp2_with fail
 go_still_tail 12, (by kernel_rfl)
 change wpList _ _ _ _ _ W2.drew;go_wp2_with fail;clear W3c0 W3c1 W3c2 W3f0 W3f1 W3f2 W3x W3a W3d W3h;obtain ⟨W3, hW3⟩ : ∃ X, X = (((W2.setCell ⟨w.heap.size + 1, 6, none⟩ (.string (RS p2.1))).setCell ⟨w.heap.size + 1, 7, none⟩ (.string (RS p2.2))).setCell ⟨w.heap.size + 1, 8, none⟩ (.string (RS h2))).drew := ⟨_, rfl⟩;have W3b : Below (w.heap.size + 1) W0 W3 := by rw [hW3]; exact (((W2b.setCell (p := ⟨w.heap.size + 1, 6, none⟩) (Nat.le_refl _) _).setCell (p := ⟨w.heap.size + 1, 7, none⟩) (Nat.le_refl _) _).setCell (p := ⟨w.heap.size + 1, 8, none⟩) (Nat.le_refl _) _).drew
 have W3B := ((((W2B.set 6 (.string (RS p2.1))).set 7 (.string (RS p2.2))).set 8 (.string (RS h2))).drew);rw [<- hW3] at W3B;rw [<- hW3];clear hW3;have z0 := W3B.cell 0 rfl;have z1 := W3B.cell 1 rfl;have z2 := W3B.cell 2 rfl;have z3 := W3B.cell 3 rfl;have z4 := W3B.cell 4 rfl;have z5 := W3B.cell 5 rfl;have z6 := W3B.cell 6 rfl;have z7 := W3B.cell 7 rfl;have z8 := W3B.cell 8 rfl;have zf0 := W3B.frozen 0;have zf1 := W3B.frozen 1;have zf2 := W3B.frozen 2;have zf3 := W3B.frozen 3;have zf4 := W3B.frozen 4;have zf5 := W3B.frozen 5;have zf6 := W3B.frozen 6;have zf7 := W3B.frozen 7;have zf8 := W3B.frozen 8;rw [rounds_succ];go_wp2_with fail;obtain ⟨WF, hWF⟩ : ∃ X, X = (((((((((W3.setCell ⟨w.heap.size + 1, 0, none⟩ (.string (RS p0.1))).setCell ⟨w.heap.size + 1, 1, none⟩ (.string (RS p0.2))).setCell ⟨w.heap.size + 1, 2, none⟩ (.string (RS h0))).setCell ⟨w.heap.size + 1, 3, none⟩ (.string (RS p1.1))).setCell ⟨w.heap.size + 1, 4, none⟩ (.string (RS p1.2))).setCell ⟨w.heap.size + 1, 5, none⟩ (.string (RS h1))).setCell ⟨w.heap.size + 1, 6, none⟩ (.string (RS p2.1))).setCell ⟨w.heap.size + 1, 7, none⟩ (.string (RS p2.2))).setCell ⟨w.heap.size + 1, 8, none⟩ (.string (RS h2))) := ⟨_, rfl⟩;have WFB : BoxN WF (w.heap.size + 1) 235 [.string (RS p0.1), .string (RS p0.2), .string (RS h0), .string (RS p1.1), .string (RS p1.2), .string (RS h1), .string (RS p2.1), .string (RS p2.2), .string (RS h2)] := by rw [hWF]; exact (((((((((W3B.set 0 (.string (RS p0.1))).set 1 (.string (RS p0.2))).set 2 (.string (RS h0))).set 3 (.string (RS p1.1))).set 4 (.string (RS p1.2))).set 5 (.string (RS h1))).set 6 (.string (RS p2.1))).set 7 (.string (RS p2.2))).set 8 (.string (RS h2)))
 have WFb : Below (w.heap.size + 1) W0 WF := by rw [hWF]; exact (((((((((W3b.setCell (p := ⟨w.heap.size + 1, 0, none⟩) (Nat.le_refl _) _).setCell (p := ⟨w.heap.size + 1, 1, none⟩) (Nat.le_refl _) _).setCell (p := ⟨w.heap.size + 1, 2, none⟩) (Nat.le_refl _) _).setCell (p := ⟨w.heap.size + 1, 3, none⟩) (Nat.le_refl _) _).setCell (p := ⟨w.heap.size + 1, 4, none⟩) (Nat.le_refl _) _).setCell (p := ⟨w.heap.size + 1, 5, none⟩) (Nat.le_refl _) _).setCell (p := ⟨w.heap.size + 1, 6, none⟩) (Nat.le_refl _) _).setCell (p := ⟨w.heap.size + 1, 7, none⟩) (Nat.le_refl _) _).setCell (p := ⟨w.heap.size + 1, 8, none⟩) (Nat.le_refl _) _)
 rw [<- hWF];have gg0 := WFB.cell 0 rfl;have gg1 := WFB.cell 1 rfl;have gg2 := WFB.cell 2 rfl;have gg3 := WFB.cell 3 rfl;have gg4 := WFB.cell 4 rfl;have gg5 := WFB.cell 5 rfl;have gg6 := WFB.cell 6 rfl;have gg7 := WFB.cell 7 rfl;have gg8 := WFB.cell 8 rfl;exact bodyPost_ret (v := .agg #[.string (RS p0.1), .string (RS p0.2), .string (RS h0), .string (RS p1.1), .string (RS p1.2), .string (RS h1), .string (RS p2.1), .string (RS p2.2), .string (RS h2)]) (by simp [results, Tryz.results165, go_sem, gg0, gg1, gg2, gg3, gg4, gg5, gg6, gg7, gg8]) rfl ⟨_, rfl, rfl, hB0.trans (WFb.mono (by omega))⟩
def minorQ (a b c d : Rat) : Rat := a * d - b * c
def slopeQ (A B C : PtQ) (za zb zc : Rat) : PtQ :=
 (1 / minorQ (B.1 - A.1) (B.2 - A.2) (C.1 - A.1) (C.2 - A.2) * minorQ (zb - za) (B.2 - A.2) (zc - za) (C.2 - A.2),
  1 / minorQ (B.1 - A.1) (B.2 - A.2) (C.1 - A.1) (C.2 - A.2) * minorQ (B.1 - A.1) (zb - za) (C.1 - A.1) (zc - za))
theorem Sz.one : Sz 1 1 := ⟨by decide, by decide⟩
theorem minor_any (a b c d : Rat) (k : Nat) (hk : 0 < k) (hk2 : k <= 4000) (ha : Sz k a) (hb : Sz k b) (hc : Sz k c) (hd : Sz k d) (w : World) (hg : Good w) :
 Calls Tryz.prog 166 #[.string (RS a), .string (RS b), .string (RS c), .string (RS d)] w (Ret (fun r _ => r = .string (RS (minorQ a b c d))) w) := by
 unfold minorQ;have HA := hid ha;have HB := hid hb;have HC := hid hc;have HD := hid hd;have H1 : Hid (Sz (2 * k) (a * d)) := (ha.mul hd).mono (by omega);have H2 : Hid (Sz (2 * k) (b * c)) := (hb.mul hc).mono (by omega);clear ha hb hc hd;go_enter Tryz.func166, Tryz.ntmps166;go_wp2_with fail;refine (ratMul_any a d k hk (by omega) HA.out HD.out _ hg).mono ?_;rintro e w1 ⟨_, rfl, rfl, hb1⟩;have hg1 := hg.below hb1;go_wp2_with fail;refine (ratMul_any b c k hk (by omega) HB.out HC.out _ hg1).mono ?_;rintro e w2 ⟨_, rfl, rfl, hb2⟩;have hb3 := hb1.trans (hb2.mono hb1.size);have hg2 := hg.below hb3;clear hb1 hb2 hg1;go_wp2_with fail;refine (ratSub_any (a * d) (b * c) (2 * k) (by omega) (by omega) H1.out H2.out _ hg2).mono ?_;rintro e w3 ⟨_, rfl, rfl, hb4⟩;go_wp2_with fail;go_ret;exact ⟨_, rfl, rfl, hb3.trans (hb4.mono hb3.size)⟩
theorem minor_sz {a b c d : Rat} {k : Nat} (ha : Sz k a) (hb : Sz k b) (hc : Sz k c) (hd : Sz k d) : Sz (4 * k + 1) (minorQ a b c d) :=
 ((ha.mul hd).sub (hb.mul hc)).mono (by omega)
theorem slope_any (w : World) (vp vt vf : Value) (P : List PtQ) (T : List Tri) (k : Nat) (F : List Rat) (hp : RdP w vp (strP P)) (ht : RdT w vt T) (hm : MeshIn P T k) (hk2 : k <= 200) (hf : RdQ w vf F) (hfs : ∀ q ∈ F, Sz k q) (hfl : F.length = P.length) (t : Nat) (tz : Int) (htz : tz = (t : Int)) (htl : t < T.length)
 (tr : Tri) (htr : tr = T[t]) (hturn : 0 < turnZ (ptI P tr.1) (ptI P tr.2.1) (ptI P tr.2.2)) (hg : Good w) :
 Calls Tryz.prog 129 #[.agg #[vp, vt], vf, .int .i64 tz] w
  (Ret (fun r _ => r = .agg #[.string (RS (slopeQ (ptI P tr.1) (ptI P tr.2.1) (ptI P tr.2.2) (hI F tr.1) (hI F tr.2.1) (hI F tr.2.2)).1), .string (RS (slopeQ (ptI P tr.1) (ptI P tr.2.1) (ptI P tr.2.2) (hI F tr.1) (hI F tr.2.1) (hI F tr.2.2)).2)]) w) := by
 have hkp := hm.kpos;have szP : ∀ z, SzP k (ptI P z) := fun z => by
  unfold ptI;cases h : P[z.toNat]? with
  | none => exact ⟨Sz.zero k hkp, Sz.zero k hkp⟩
  | some p => exact hm.sz _ (List.mem_of_getElem? h)
 have szF : ∀ z, Sz k (hI F z) := fun z => by
  unfold hI;cases h : F[z.toNat]? with
  | none => exact Sz.zero k hkp
  | some p => exact hfs _ (List.mem_of_getElem? h)
 have sA := szP tr.1;have sB := szP tr.2.1;have sC := szP tr.2.2;have s1 := szF tr.1;have s2 := szF tr.2.1;have s3 := szF tr.2.2;have HC := hid (fun (w : World) (hp : RdP w vp (strP P)) (ht : RdT w vt T) (hf : RdQ w vf F) (hg : Good w) => corners_any w vp vt vf P T k F hp ht hm hf hfl t tz htz htl tr htr hg);have hp' := hp;have ht' := ht;have hf' := hf;obtain ⟨pp, cp, rfl, _, _, _⟩ := hp'.open;obtain ⟨pt, ct, rfl, _, _, _⟩ := ht'.open;obtain ⟨pf, cf, rfl, _, _, _⟩ := hf'.open;clear hp' ht' hf';have HP := hid hp;have HT := hid ht;have HF := hid hf;clear htr szP szF hp ht hf hm hfs;rw [strP_length] at *;generalize ptI P tr.1 = A at *;generalize ptI P tr.2.1 = B at *;generalize ptI P tr.2.2 = C at *;generalize hI F tr.1 = za at *;generalize hI F tr.2.1 = zb at *;generalize hI F tr.2.2 = zc at *;obtain ⟨ax, ay⟩ := A;obtain ⟨bx, bY⟩ := B;obtain ⟨cx, cy⟩ := C;obtain ⟨sax, say⟩ := sA;obtain ⟨sbx, sby⟩ := sB;obtain ⟨scx, scy⟩ := sC;have hD0 : minorQ (bx - ax) (bY - ay) (cx - ax) (cy - ay) ≠ 0 := fun e => by
  unfold turnZ areaQ at hturn;unfold minorQ at e;dsimp only at hturn;rw [e] at hturn;simp at hturn
 unfold slopeQ;dsimp only at *;have HD0 := hid hD0;have K1 : Hid (Sz k ax /\ Sz k ay /\ Sz k bx /\ Sz k bY /\ Sz k cx /\ Sz k cy /\ Sz k za /\ Sz k zb /\ Sz k zc) := ⟨sax, say, sbx, sby, scx, scy, s1, s2, s3⟩;have sx := (sbx.sub sax).mono (show k + k + 1 <= 2 * k + 1 by omega);have sy := (sby.sub say).mono (show k + k + 1 <= 2 * k + 1 by omega);have su := (scx.sub sax).mono (show k + k + 1 <= 2 * k + 1 by omega);have sv := (scy.sub say).mono (show k + k + 1 <= 2 * k + 1 by omega);have sa := (s2.sub s1).mono (show k + k + 1 <= 2 * k + 1 by omega);have sb := (s3.sub s1).mono (show k + k + 1 <= 2 * k + 1 by omega);have K2 : Hid (Sz (2 * k + 1) (bx - ax) /\ Sz (2 * k + 1) (bY - ay) /\ Sz (2 * k + 1) (cx - ax) /\ Sz (2 * k + 1) (cy - ay) /\ Sz (2 * k + 1) (zb - za) /\ Sz (2 * k + 1) (zc - za)) := ⟨sx, sy, su, sv, sa, sb⟩;have m1 := (minor_sz sx sy su sv).mono (show 4 * (2 * k + 1) + 1 <= 3000 by omega);have m2 := (minor_sz sa sy sb sv).mono (show 4 * (2 * k + 1) + 1 <= 3000 by omega);have m3 := (minor_sz sx sa su sb).mono (show 4 * (2 * k + 1) + 1 <= 3000 by omega);have m4 := (Sz.one.div m1 (by omega)).mono (show 1 + 3000 <= 6000 by omega);have K3 : Hid (Sz 3000 (minorQ (bx - ax) (bY - ay) (cx - ax) (cy - ay)) /\ Sz 3000 (minorQ (zb - za) (bY - ay) (zc - za) (cy - ay)) /\ Sz 3000 (minorQ (bx - ax) (zb - za) (cx - ax) (zc - za)) /\ Sz 6000 (1 / minorQ (bx - ax) (bY - ay) (cx - ax) (cy - ay))) := ⟨m1, m2, m3, m4⟩;clear sax say sbx sby scx scy s1 s2 s3 sx sy su sv sa sb m1 m2 m3 m4 hturn hD0;clear htz hfl htl;have HWIDE : Hid (∀ (m n : Nat) (q : Rat), Sz m q -> m <= n -> Sz n q) := fun m n q h hmn => h.mono hmn;go_enter Tryz.func129, Tryz.ntmps129;go_wp2_with fail;have hb0 : Below w.heap.size w ((w.alloc (.cells #[.slice pp P.length cp, .slice pt T.length ct] 37)).alloc (.cells #[.string ⟨#[]⟩, .string ⟨#[]⟩] 63)) := ((Below.refl _ _).alloc (Nat.le_refl _) _).alloc (by simp) _;have B6 : BoxN ((w.alloc (.cells #[.slice pp P.length cp, .slice pt T.length ct] 37)).alloc (.cells #[.string ⟨#[]⟩, .string ⟨#[]⟩] 63)) (w.heap.size + 1) 63 [.string ⟨#[]⟩, .string ⟨#[]⟩] := BoxN.new _ _ _ _ (by simp);refine (HC.out _ (RdC.below HP.out hb0) (RdC.below HT.out hb0) (RdC.below HF.out hb0) (hg.below hb0)).mono ?_;rintro e wc ⟨_, rfl, rfl, hbc⟩;have hBc : Below w.heap.size w wc := hb0.trans (hbc.mono hb0.size);have B6c := B6.below hbc B6.lt;have hz : w.heap.size + 2 <= wc.heap.size := by have := hbc.size; simp at this; omega
 clear B6 hbc hb0;go_wp2_with fail;obtain ⟨W, hW⟩ : ∃ W, W = wc.alloc (.cells #[.string (RS ax), .string (RS ay), .string (RS za), .string (RS bx), .string (RS bY), .string (RS zb), .string (RS cx), .string (RS cy), .string (RS zc)] 235) := ⟨_, rfl⟩;have BW : BoxN W wc.heap.size 235 [.string (RS ax), .string (RS ay), .string (RS za), .string (RS bx), .string (RS bY), .string (RS zb), .string (RS cx), .string (RS cy), .string (RS zc)] := by rw [hW]; exact BoxN.new _ _ _ _ rfl
 have hBW : Below wc.heap.size wc W := by rw [hW]; exact zal _ _
 have hzW : wc.heap.size < W.heap.size := BW.lt;rw [<- hW];clear hW;have hgW : Good W := (hg.below hBc).below hBW;have hgd : Good W.drew := hgW.drewN 1;have c0 := BW.cell 0 rfl;have c1 := BW.cell 1 rfl;have c3 := BW.cell 3 rfl;have c4 := BW.cell 4 rfl;go_region_held3 (fun w' => w'.cell? ⟨wc.heap.size, 0, none⟩ = some (.string (RS ax)) /\ w'.cell? ⟨wc.heap.size, 1, none⟩ = some (.string (RS ay)) /\ w'.cell? ⟨wc.heap.size, 3, none⟩ = some (.string (RS bx)) /\ w'.cell? ⟨wc.heap.size, 4, none⟩ = some (.string (RS bY)))
  (first | exact ⟨c0, c1, c3, c4⟩ | exact ⟨p_1_0, p_1_1, p_1_2, p_1_3⟩ | exact ⟨p_2_0, p_2_1, p_2_2, p_2_3⟩)
  (first
  | (go_at_call 32; refine (ratSub_any bY ay k hkp (by omega) K1.out.2.2.2.1 K1.out.2.1 _ pg1).mono ?_; rintro e pw2 ⟨_, rfl, rfl, pb2⟩
     have p_2_0 := zct pb2 p_1_0;have p_2_1 := zct pb2 p_1_1;have p_2_2 := zct pb2 p_1_2;have p_2_3 := zct pb2 p_1_3;have ps2 := pb2.size;have pg2 := pg1.below pb2)
  | (go_at_call 32; refine (ratSub_any bx ax k hkp (by omega) K1.out.2.2.1 K1.out.1 _ hgd).mono ?_; rintro e pw1 ⟨_, rfl, rfl, pb1⟩
     have p_1_0 := zct pb1 c0;have p_1_1 := zct pb1 c1;have p_1_2 := zct pb1 c3;have p_1_3 := zct pb1 c4;have ps1 : W.heap.size <= pw1.heap.size := pb1.size;have pg1 := hgd.below pb1))
 have pB : Below W.heap.size W pw2 := zbt (zbt (below_drewN W 1) pb1) pb2;have BW1 := BW.below pB hzW;have hg1d : Good pw2.drew := pg2.drewN 1;have hz1 : wc.heap.size < pw2.heap.size := by omega
 have hB1 := hBW.trans (pB.mono (by omega));have d0 := BW1.cell 0 rfl;have d1 := BW1.cell 1 rfl;have d6 := BW1.cell 6 rfl;have d7 := BW1.cell 7 rfl;clear c0 c1 c3 c4 pB pb1 pb2 p_1_0 p_1_1 p_1_2 p_1_3 p_2_0 p_2_1 p_2_2 p_2_3 BW hBW hgW hgd pg1;go_wp2_with fail;go_region_held3 (fun w' => w'.cell? ⟨wc.heap.size, 0, none⟩ = some (.string (RS ax)) /\ w'.cell? ⟨wc.heap.size, 1, none⟩ = some (.string (RS ay)) /\ w'.cell? ⟨wc.heap.size, 6, none⟩ = some (.string (RS cx)) /\ w'.cell? ⟨wc.heap.size, 7, none⟩ = some (.string (RS cy)))
  (first | exact ⟨d0, d1, d6, d7⟩ | exact ⟨q_1_0, q_1_1, q_1_2, q_1_3⟩ | exact ⟨q_2_0, q_2_1, q_2_2, q_2_3⟩)
  (first
  | (go_at_call 32; refine (ratSub_any cy ay k hkp (by omega) K1.out.2.2.2.2.2.1 K1.out.2.1 _ qg1).mono ?_; rintro e qw2 ⟨_, rfl, rfl, qb2⟩
     have q_2_0 := zct qb2 q_1_0;have q_2_1 := zct qb2 q_1_1;have q_2_2 := zct qb2 q_1_2;have q_2_3 := zct qb2 q_1_3;have qs2 := qb2.size;have qg2 := qg1.below qb2)
  | (go_at_call 32; refine (ratSub_any cx ax k hkp (by omega) K1.out.2.2.2.2.1 K1.out.1 _ hg1d).mono ?_; rintro e qw1 ⟨_, rfl, rfl, qb1⟩
     have q_1_0 := zct qb1 d0;have q_1_1 := zct qb1 d1;have q_1_2 := zct qb1 d6;have q_1_3 := zct qb1 d7;have qs1 : pw2.heap.size <= qw1.heap.size := qb1.size;have qg1 := hg1d.below qb1))
 have qB : Below pw2.heap.size pw2 qw2 := zbt (zbt (below_drewN pw2 1) qb1) qb2;have BW2 := BW1.below qB hz1;have hg2d : Good qw2.drew := qg2.drewN 1;have hz2 : wc.heap.size < qw2.heap.size := by omega
 have hB2 := hB1.trans (qB.mono (by omega));have f2 := BW2.cell 2 rfl;have f5 := BW2.cell 5 rfl;have f8 := BW2.cell 8 rfl;clear d0 d1 d6 d7 qB qb1 qb2 q_1_0 q_1_1 q_1_2 q_1_3 q_2_0 q_2_1 q_2_2 q_2_3 BW1 hB1 hg1d qg1 pg2;go_wp2_with fail;go_region_held3 (fun w' => w'.cell? ⟨wc.heap.size, 2, none⟩ = some (.string (RS za)) /\ w'.cell? ⟨wc.heap.size, 5, none⟩ = some (.string (RS zb)) /\ w'.cell? ⟨wc.heap.size, 8, none⟩ = some (.string (RS zc)))
  (first | exact ⟨f2, f5, f8⟩ | exact ⟨r_1_0, r_1_1, r_1_2⟩ | exact ⟨r_2_0, r_2_1, r_2_2⟩)
  (first
  | (go_at_call 32; refine (ratSub_any zc za k hkp (by omega) K1.out.2.2.2.2.2.2.2.2 K1.out.2.2.2.2.2.2.1 _ rg1).mono ?_; rintro e rw2 ⟨_, rfl, rfl, rb2⟩
     have r_2_0 := zct rb2 r_1_0;have r_2_1 := zct rb2 r_1_1;have r_2_2 := zct rb2 r_1_2;have rs2 := rb2.size;have rg2 := rg1.below rb2)
  | (go_at_call 32; refine (ratSub_any zb za k hkp (by omega) K1.out.2.2.2.2.2.2.2.1 K1.out.2.2.2.2.2.2.1 _ hg2d).mono ?_; rintro e rw1 ⟨_, rfl, rfl, rb1⟩
     have r_1_0 := zct rb1 f2;have r_1_1 := zct rb1 f5;have r_1_2 := zct rb1 f8;have rs1 : qw2.heap.size <= rw1.heap.size := rb1.size;have rg1 := hg2d.below rb1))
 have rB : Below qw2.heap.size qw2 rw2 := zbt (zbt (below_drewN qw2 1) rb1) rb2;have hB3 := hB2.trans (rB.mono (by omega));have B63 := B6c.below hB3 (by omega);have hBw : Below w.heap.size w rw2 := hBc.trans (hB3.mono (by omega));have hz3 : w.heap.size + 2 <= rw2.heap.size := by omega
 clear f2 f5 f8 rB rb1 rb2 r_1_0 r_1_1 r_1_2 r_2_0 r_2_1 r_2_2 BW2 hB2 hB3 hg2d rg1 qg2 B6c hBc;generalize hX : bx - ax = x at *;generalize hY : bY - ay = y at *;generalize hU : cx - ax = u at *;generalize hV : cy - ay = v at *;generalize hA : zb - za = a at *;generalize hBB : zc - za = b at *;have HX := hid hX;have HY := hid hY;have HU := hid hU;have HV := hid hV;have HA := hid hA;have HBB := hid hBB;clear hX hY hU hV hA hBB;go_wp2_with fail;refine (minor_any x y u v (2 * k + 1) (by omega) (by omega) K2.out.1 K2.out.2.1 K2.out.2.2.1 K2.out.2.2.2.1 _ rg2).mono ?_;rintro e w4 ⟨_, rfl, rfl, hb4⟩;have hg4 := rg2.below hb4;generalize hDD : minorQ x y u v = D at *;have HDD := hid hDD;clear hDD;have HDIV := ratDiv_any 1 D 6000 (by omega) (by omega) (Sz.one.mono (by omega)) (K3.out.1.mono (by omega)) HD0.out w4 hg4;rw [RS_one] at HDIV;have HDV := hid HDIV;clear HDIV;go_wp2_with fail;refine HDV.out.mono ?_;rintro e w5 ⟨_, rfl, rfl, hb5⟩;have hb6 := hb4.trans (hb5.mono hb4.size);have hg5 := hg4.below hb5;generalize hKK : 1 / D = K at *;have HKK := hid hKK;clear hKK hb4 hb5 hg4 HDV;go_wp2_with fail;refine (minor_any a y b v (2 * k + 1) (by omega) (by omega) K2.out.2.2.2.2.1 K2.out.2.1 K2.out.2.2.2.2.2 K2.out.2.2.2.1 _ hg5).mono ?_;rintro e w6 ⟨_, rfl, rfl, hb7⟩;have hb8 := hb6.trans (hb7.mono hb6.size);have hg6 := hg5.below hb7;clear hb6 hb7 hg5;generalize hM1 : minorQ a y b v = M1 at *;have HM1 := hid hM1;clear hM1;go_wp2_with fail;refine (ratMul_any K M1 6000 (by omega) (by omega) K3.out.2.2.2 (K3.out.2.1.mono (by omega)) _ hg6).mono ?_;rintro e w7 ⟨_, rfl, rfl, hb9⟩;have hb10 := hb8.trans (hb9.mono hb8.size);have hg7 := hg6.below hb9;clear hb8 hb9 hg6;go_wp2_with fail;refine (minor_any x a u b (2 * k + 1) (by omega) (by omega) K2.out.1 K2.out.2.2.2.2.1 K2.out.2.2.1 K2.out.2.2.2.2.2 _ hg7).mono ?_;rintro e w8 ⟨_, rfl, rfl, hb11⟩;have hb12 := hb10.trans (hb11.mono hb10.size);have hg8 := hg7.below hb11;clear hb10 hb11 hg7;generalize hM2 : minorQ x a u b = M2 at *;have HM2 := hid hM2;clear hM2;go_wp2_with fail;refine (ratMul_any K M2 6000 (by omega) (by omega) K3.out.2.2.2 (K3.out.2.2.1.mono (by omega)) _ hg8).mono ?_;rintro e w9 ⟨_, rfl, rfl, hb13⟩;have hb14 := hb12.trans (hb13.mono hb12.size);have B69 := B63.below hb14 (by omega);have hBw9 : Below w.heap.size w w9 := hBw.trans (hb14.mono (by omega));have x0 := B69.cell 0 rfl;have x1 := B69.cell 1 rfl;have y0 := B69.frozen 0;have y1 := B69.frozen 1;clear hb12 hb13 hg8 B63 hb14;go_wp2_with fail;have hBF := (hBw9.setCell (p := ⟨w.heap.size + 1, 0, none⟩) (by show w.heap.size <= w.heap.size + 1; omega) (.string (RS (K * M1)))).setCell (p := ⟨w.heap.size + 1, 1, none⟩) (by show w.heap.size <= w.heap.size + 1; omega) (.string (RS (K * M2)));have BF := (B69.set 0 (.string (RS (K * M1)))).set 1 (.string (RS (K * M2)));have g0 := BF.cell 0 rfl;have g1 := BF.cell 1 rfl;exact bodyPost_ret (v := .agg #[.string (RS (K * M1)), .string (RS (K * M2))]) (by simp [results, Tryz.results129, go_sem, g0, g1]) rfl ⟨_, rfl, by rw [HX.out, HY.out, HU.out, HV.out, HA.out, HBB.out, HDD.out, HKK.out, HM1.out, HM2.out], hBF⟩
theorem RdQ.toS {w : World} {v : Value} {F : List Rat} (h : RdQ w v F) : RdS w v (F.map RS) := by
 unfold RdQ at h;unfold RdS;rw [List.length_map, List.map_map];exact h
theorem errF_ok {n : Nat} {F : List Rat} (hl : F.length = n) (hs : ∀ q ∈ F, Sz 200 q) : errF n (F.map RS) = 0 := by
 rw [errF_num (by rw [List.length_map]; exact hl)];have : allQ (F.map RS) = true := by
  unfold allQ;rw [List.all_map];refine List.all_eq_true.2 fun q hq => ?_;simp only [Function.comp_apply];rw [RS_list];exact rightQ_RL (hs q hq)
 rw [this]; rfl
theorem size_ok {k : Nat} {F : List Rat} (hk : 0 < k) (hk2 : k <= 200) (hs : ∀ q ∈ F, Sz k q) : ∀ s ∈ F.map RS, s.size < 1000000000 := fun s hs' => by
 obtain ⟨q, hq, rfl⟩ := List.mem_map.1 hs';have := (hs q hq).size hk;omega
structure FieldIn (w : World) (vp vt vf : Value) (P : List PtQ) (T : List Tri) (k : Nat) (F : List Rat) : Prop where
 p : RdP w vp (strP P)
 t : RdT w vt T
 m : MeshOK P T k
 f : RdQ w vf F
 fs : ∀ q ∈ F, Sz k q
 fl : F.length = P.length
theorem FieldIn.below {w w' : World} {vp vt vf : Value} {P : List PtQ} {T : List Tri} {k : Nat} {F : List Rat} (h : FieldIn w vp vt vf P T k F) (hb : Below w.heap.size w w') : FieldIn w' vp vt vf P T k F :=
 ⟨RdC.below h.p hb, RdC.below h.t hb, h.m, RdC.below h.f hb, h.fs, h.fl⟩
theorem FieldIn.err {w : World} {vp vt vf : Value} {P : List PtQ} {T : List Tri} {k : Nat} {F : List Rat} (h : FieldIn w vp vt vf P T k F) : errF P.length (F.map RS) = 0 :=
 errF_ok h.fl fun q hq => (h.fs q hq).mono h.m.klim2
theorem FieldIn.open {w : World} {vp vt vf : Value} {P : List PtQ} {T : List Tri} {k : Nat} {F : List Rat} (h : FieldIn w vp vt vf P T k F) : ∃ pp cp pt ct pf cf, vp = .slice pp P.length cp /\ vt = .slice pt T.length ct /\ vf = .slice pf F.length cf := by
 obtain ⟨pp, cp, e1, _⟩ := h.p.open;obtain ⟨pt, ct, e2, _⟩ := h.t.open;obtain ⟨pf, cf, e3, _⟩ := h.f.open;rw [strP_length] at e1;exact ⟨pp, cp, pt, ct, pf, cf, e1, e2, e3⟩
theorem checks_ok {w : World} {vp vt vf : Value} {P : List PtQ} {T : List Tri} {k : Nat} {F : List Rat} (h : FieldIn w vp vt vf P T k F) (b : Nat) (hb : w.cell? ⟨b, 0, none⟩ = some vf) (hg : Good w) :
 Calls Tryz.prog 68 #[.agg #[vp, vt], .slice (some ⟨b, 0, none⟩) 1 1] w (Ret (fun r _ => r = .int .i64 0) w) := by
 have := checks_any w vp vt vf P T k (F.map RS) h.p h.t h.m h.f.toS (size_ok h.m.kpos h.m.klim2 h.fs) (by rw [List.length_map, h.fl]; have := h.m.plen; omega) b hb hg;rw [h.err] at this;exact this
def slopeT (P : List PtQ) (F : List Rat) (tr : Tri) : PtQ := slopeQ (ptI P tr.1) (ptI P tr.2.1) (ptI P tr.2.2) (hI F tr.1) (hI F tr.2.1) (hI F tr.2.2)
structure PairIn (w : World) (vp vt vl vu : Value) (P : List PtQ) (T : List Tri) (k : Nat) (L U : List Rat) : Prop where
 l : FieldIn w vp vt vl P T k L
 u : FieldIn w vp vt vu P T k U
theorem PairIn.below {w w' : World} {vp vt vl vu : Value} {P : List PtQ} {T : List Tri} {k : Nat} {L U : List Rat} (h : PairIn w vp vt vl vu P T k L U) (hb : Below w.heap.size w w') : PairIn w' vp vt vl vu P T k L U :=
 ⟨h.l.below hb, h.u.below hb⟩
theorem PairIn.open {w : World} {vp vt vl vu : Value} {P : List PtQ} {T : List Tri} {k : Nat} {L U : List Rat} (h : PairIn w vp vt vl vu P T k L U) : ∃ pp cp pt ct pl cl pu cu, vp = .slice pp P.length cp /\ vt = .slice pt T.length ct /\ vl = .slice pl L.length cl /\ vu = .slice pu U.length cu := by
 obtain ⟨pp, cp, pt, ct, pf, cf, e1, e2, e3⟩ := h.l.open;obtain ⟨_, _, _, _, pg, cg, _, _, e6⟩ := h.u.open;exact ⟨pp, cp, pt, ct, pf, cf, pg, cg, e1, e2, e3, e6⟩
theorem FieldIn.tri {w : World} {vp vt vf : Value} {P : List PtQ} {T : List Tri} {k : Nat} {F : List Rat} (h : FieldIn w vp vt vf P T k F) (t : Nat) (htl : t < T.length) : ∃ b off ct, vt = .slice (some ⟨b, off, none⟩) T.length ct /\ b < w.heap.size /\
 w.cell? ⟨b, off + t * 3, none⟩ = some (.int .i64 T[t].1) /\ w.cell? ⟨b, off + t * 3 + 1, none⟩ = some (.int .i64 T[t].2.1) /\ w.cell? ⟨b, off + t * 3 + 2, none⟩ = some (.int .i64 T[t].2.2) := by
 obtain ⟨pt, ct, rfl, _, _, hr⟩ := h.t.open;obtain ⟨b, off, rfl, hb, hc⟩ := hr (List.ne_nil_of_length_pos (by omega));obtain ⟨e0, e1, e2⟩ := hc t htl;exact ⟨b, off, ct, rfl, hb, e0, e1, e2⟩
theorem FieldIn.hgt {w : World} {vp vt vf : Value} {P : List PtQ} {T : List Tri} {k : Nat} {F : List Rat} (h : FieldIn w vp vt vf P T k F) (m : Nat) (hm : m < F.length) : ∃ b off cf, vf = .slice (some ⟨b, off, none⟩) F.length cf /\ b < w.heap.size /\
 w.cell? ⟨b, off + m, none⟩ = some (.string (RS (hI F (m : Int)))) := by
 obtain ⟨pf, cf, rfl, _, _, hr⟩ := h.f.open;obtain ⟨b, off, rfl, hb, hc⟩ := hr (by intro e; rw [e] at hm; simp at hm);exact ⟨b, off, cf, rfl, hb, by rw [hI_nat F m hm]; exact hc m hm⟩
theorem cell_one_str (w : World) (x : ByteArray) (E : Nat) : ∀ (j : Nat) (u : Value), [Value.string x][j]? = some u -> (w.alloc (.cells #[.string x] E)).cell? ((⟨w.heap.size, 0, none⟩ : Addr).add j) = some u := cell_one_new _ _ _
theorem one_cell_str (x : ByteArray) : ∀ u ∈ [Value.string x], u.oneCell' = true := by intro u hu; simp at hu; subst hu; rfl
theorem info_str : ((Tryz.prog).info? 57).map (fun i => (i.zero, i.size, i.bytes)) = some (some (.string ⟨#[]⟩), 1, 16) := by kernel_rfl
theorem take_snoc {α : Type} (l : List α) (i : Nat) (x : α) (h : l[i]? = some x) : l.take (i + 1) = l.take i ++ [x] := by
 obtain ⟨hlt, hx⟩ := List.getElem?_eq_some_iff.1 h;rw [List.take_succ_eq_append_getElem hlt, hx]
def cellsN (ps : List (Int × Int)) : List Value := ps.flatMap fun p => [.int .i64 p.1, .int .i64 p.2]
def RdN (w : World) (v : Value) (ps : List (Int × Int)) : Prop := RdC 2 w v ps.length (cellsN ps)
theorem RdN.open {w : World} {v : Value} {ps : List (Int × Int)} (h : RdN w v ps) : ∃ p c, v = .slice p ps.length c /\ ps.length <= c /\ c <= maxLen /\
 (ps ≠ [] -> ∃ b off, p = some ⟨b, off, none⟩ /\ b < w.heap.size /\ ∀ (i : Nat) (hi : i < ps.length), w.cell? ⟨b, off + i * 2, none⟩ = some (.int .i64 ps[i].1) /\ w.cell? ⟨b, off + i * 2 + 1, none⟩ = some (.int .i64 ps[i].2)) := by
 obtain ⟨p, c, hv, h1, h2, h3, h4⟩ := h;refine ⟨p, c, hv, h1, h2, fun hne => ?_⟩;obtain ⟨b, off, hp, hc⟩ := h4 (by
  cases ps with
  | nil => exact absurd rfl hne
  | cons a l => simp [cellsN])
 have hcell : ∀ (i : Nat) (hi : i < ps.length), w.cell? ⟨b, off + i * 2, none⟩ = some (.int .i64 ps[i].1) /\ w.cell? ⟨b, off + i * 2 + 1, none⟩ = some (.int .i64 ps[i].2) := fun i hi => by
  have e := getElem?_flatMap_const (fun p : Int × Int => [Value.int .i64 p.1, .int .i64 p.2]) 2 (fun _ => rfl) ps i;refine ⟨?_, ?_⟩
  ·have := hc (i * 2) (.int .i64 ps[i].1) (by have := e 0 (by omega); rw [Nat.add_zero] at this; unfold cellsN; rw [this, List.getElem?_eq_getElem hi]; rfl)
   exact this
  ·have := hc (i * 2 + 1) (.int .i64 ps[i].2) (by have := e 1 (by omega); unfold cellsN; rw [this, List.getElem?_eq_getElem hi]; rfl)
   rw [<- Nat.add_assoc] at this;exact this
 exact ⟨b, off, hp, World.block_lt_of_cell? w _ (hcell 0 (List.length_pos_iff.2 hne)).1, hcell⟩
theorem RdC.fresh (sz : Nat) (w : World) (cs : Array Value) (ty n : Nat) (hl : cs.size = n * sz) (hn : n <= 1000) (l : List Value) (hcs : cs.toList = l) (g : Nat) (hgs : g = w.heap.size) :
 RdC sz (w.alloc (.cells cs ty)) (.slice (some ⟨g, 0, none⟩) n n) n l := by
 subst hgs;subst hcs;refine ⟨some ⟨w.heap.size, 0, none⟩, n, rfl, Nat.le_refl _, Nat.le_trans hn (by decide), by rw [Array.length_toList]; exact hl, fun _ => ⟨w.heap.size, 0, rfl, fun i x hx => ?_⟩⟩;rw [World.cell?_alloc_at _ _ _ _ rfl];simpa using hx
def shapeP : Nat -> List (Int × Int)
 | 0 => [(0, 0), (4, 0), (4, 4), (0, 4)]
 | 1 => [(0, 0), (4, 0), (4, 4), (0, 4)]
 | 2 => [(0, 0), (4, 0), (4, 4), (0, 4), (2, 1)]
 | 3 => [(0, 0), (6, 0), (0, 4)]
 | 4 => [(0, 0), (2, 0), (4, 0), (0, 2), (2, 2), (4, 2)]
 | 5 => [(1, 4), (5, 3), (4, 0), (0, 0)]
 | 6 => [(0, 0), (4, 0), (4, 4), (0, 4), (2, 0)]
 | _ => [(0, 0), (6, 0), (0, 6), (2, 2)]
def shapeT : Nat -> List Tri
 | 0 => [(0, 1, 2), (0, 2, 3)]
 | 1 => [(0, 1, 3), (1, 2, 3)]
 | 2 => [(0, 1, 4), (1, 2, 4), (2, 3, 4), (3, 0, 4)]
 | 3 => [(2, 0, 1)]
 | 4 => [(0, 1, 4), (0, 4, 3), (1, 2, 5), (1, 5, 4)]
 | 5 => [(3, 2, 1), (3, 1, 0)]
 | 6 => [(0, 4, 3), (4, 2, 3), (4, 1, 2)]
 | _ => [(0, 1, 3), (1, 2, 3), (2, 0, 3)]
theorem info_pair : ((Tryz.prog).info? 164).map (fun i => (i.zero, i.size, i.bytes)) = some (some (.agg #[.int .i64 0, .int .i64 0]), 2, 16) := by kernel_rfl
theorem cell_two (w : World) (x y : Value) (E : Nat) : ∀ (j : Nat) (u : Value), [x, y][j]? = some u -> (w.alloc (.cells #[x, y] E)).cell? ((⟨w.heap.size, 0, none⟩ : Addr).add j) = some u := World.news_of_block (cs := #[x, y]) (t := E) (fr := (0, 0)) (World.alloc_heap_new w _)
theorem shape_any (w : World) (kz : Int) (k : Nat) (hk : kz.tmod 8 = (k : Int)) (hk0 : 0 <= kz) (hk1 : kz <= 255) (_hg : Good w) :
 Calls Tryz.prog 98 #[.int .u8 kz] w (Ret (fun r w' => ∃ vp vt, r = .tuple #[vp, vt] /\ RdN w' vp (shapeP k) /\ RdT w' vt (shapeT k)) w) := by
 have hk7 : k <= 7 := by
  have h1 : kz.tmod 8 = kz % 8 := Int.tmod_eq_emod_of_nonneg hk0;omega
 have hmod : kz % 8 = (k : Int) := by rw [<- hk]; exact (Int.tmod_eq_emod_of_nonneg hk0).symm
 obtain ⟨i0, hi, hz0, hz1, hz2⟩ := info_parts info_pair;have hw : IntKind.u8.wrap (kz.tmod 8) = (k : Int) := by rw [hk]; rcases (by omega : k = 0 \/ k = 1 \/ k = 2 \/ k = 3 \/ k = 4 \/ k = 5 \/ k = 6 \/ k = 7) with rfl | rfl | rfl | rfl | rfl | rfl | rfl | rfl <;> rfl
 have HK1 := hid hk0;have HK2 := hid hk1;rcases (by omega : k = 0 \/ k = 1 \/ k = 2 \/ k = 3 \/ k = 4 \/ k = 5 \/ k = 6 \/ k = 7) with rfl | rfl | rfl | rfl | rfl | rfl | rfl | rfl
 ·go_enter Tryz.func98, Tryz.ntmps98
  go_wp2_with fail;go_ret2;exact ⟨_, rfl, ⟨_, _, rfl, (RdC.fresh 2 w _ _ 4 rfl (by omega) _ rfl _ rfl).alloc _, RdC.fresh 3 _ _ _ 2 rfl (by omega) _ rfl _ (by simp)⟩, ((Below.refl _ _).alloc (Nat.le_refl _) _).alloc (by simp) _⟩
 ·go_enter Tryz.func98, Tryz.ntmps98
  go_wp2_with fail;go_ret2;exact ⟨_, rfl, ⟨_, _, rfl, (RdC.fresh 2 w _ _ 4 rfl (by omega) _ rfl _ rfl).alloc _, RdC.fresh 3 _ _ _ 2 rfl (by omega) _ rfl _ (by simp)⟩, ((Below.refl _ _).alloc (Nat.le_refl _) _).alloc (by simp) _⟩
 ·go_enter Tryz.func98, Tryz.ntmps98
  have hown : ((w.alloc (.cells #[.int .i64 0, .int .i64 0, .int .i64 4, .int .i64 0, .int .i64 4, .int .i64 4, .int .i64 0, .int .i64 4] 164)).alloc (.cells #[.int .i64 2, .int .i64 1] 164)).ownsRow w.heap.size 164 2 (.slice (some ⟨w.heap.size, 0, none⟩) 4 4) 4 [.int .i64 0, .int .i64 0, .int .i64 4, .int .i64 0, .int .i64 4, .int .i64 4, .int .i64 0, .int .i64 4] := (World.ownsRow_lit w _ 4 (Nat.le_refl _) (by decide) rfl).alloc _
  go_wp2_with (at_builtin; refine wpList_append_own _ rfl _ _ 161 rfl w.heap.size 164 i0 (.agg #[.int .i64 0, .int .i64 0]) 2 16 Tryz.underlying161 hi hz0 hz1 hz2 rfl (by decide) _ _ _ rfl hown ⟨w.heap.size + 1, 0, none⟩ 1 1 [.int .i64 2, .int .i64 1] rfl rfl (by have := cell_two (w.alloc (.cells #[.int .i64 0, .int .i64 0, .int .i64 4, .int .i64 0, .int .i64 4, .int .i64 4, .int .i64 0, .int .i64 4] 164)) (.int .i64 2) (.int .i64 1) 164; simpa using this) (by intro u hu; simp at hu; rcases hu with rfl | rfl <;> rfl) (by decide) (by omega) (by simp; omega) ?_
               intro v2 w2 hown2 hgrow2 _;obtain ⟨p2, c2, rfl⟩ := ownsRow_shape hown2;have hB2 : Below w.heap.size w w2 := (((Below.refl _ _).alloc (Nat.le_refl _) _).alloc (by simp) _).grown hgrow2 (by simp; omega) (fun j hj => by have := (hown.lt j hj).1; omega);clear hgrow2)
  go_ret2;have hsz := hB2.size;exact ⟨_, rfl, ⟨_, _, rfl, (RdC.of_owns hown2).alloc _, RdC.fresh 3 _ _ _ 4 rfl (by omega) _ rfl _ (by simp)⟩, hB2.alloc hsz _⟩
 ·go_enter Tryz.func98, Tryz.ntmps98
  go_wp2_with fail;go_ret2;exact ⟨_, rfl, ⟨_, _, rfl, (RdC.fresh 2 _ _ _ 3 rfl (by omega) _ rfl _ (by simp)).alloc _, RdC.fresh 3 _ _ _ 1 rfl (by omega) _ rfl _ (by simp)⟩, (((Below.refl _ _).alloc (Nat.le_refl _) _).alloc (by simp) _).alloc (by simp; omega) _⟩
 ·go_enter Tryz.func98, Tryz.ntmps98
  go_wp2_with fail;go_ret2;exact ⟨_, rfl, ⟨_, _, rfl, (RdC.fresh 2 _ _ _ 6 rfl (by omega) _ rfl _ (by simp)).alloc _, RdC.fresh 3 _ _ _ 4 rfl (by omega) _ rfl _ (by simp)⟩, (((Below.refl _ _).alloc (Nat.le_refl _) _).alloc (by simp) _).alloc (by simp; omega) _⟩
 ·go_enter Tryz.func98, Tryz.ntmps98
  go_wp2_with fail;go_ret2;exact ⟨_, rfl, ⟨_, _, rfl, (RdC.fresh 2 _ _ _ 4 rfl (by omega) _ rfl _ (by simp)).alloc _, RdC.fresh 3 _ _ _ 2 rfl (by omega) _ rfl _ (by simp)⟩, (((Below.refl _ _).alloc (Nat.le_refl _) _).alloc (by simp) _).alloc (by simp; omega) _⟩
 ·go_enter Tryz.func98, Tryz.ntmps98
  have hown : ((w.alloc (.cells #[.int .i64 0, .int .i64 0, .int .i64 4, .int .i64 0, .int .i64 4, .int .i64 4, .int .i64 0, .int .i64 4] 164)).alloc (.cells #[.int .i64 2, .int .i64 0] 164)).ownsRow w.heap.size 164 2 (.slice (some ⟨w.heap.size, 0, none⟩) 4 4) 4 [.int .i64 0, .int .i64 0, .int .i64 4, .int .i64 0, .int .i64 4, .int .i64 4, .int .i64 0, .int .i64 4] := (World.ownsRow_lit w _ 4 (Nat.le_refl _) (by decide) rfl).alloc _
  go_wp2_with (at_builtin; refine wpList_append_own _ rfl _ _ 161 rfl w.heap.size 164 i0 (.agg #[.int .i64 0, .int .i64 0]) 2 16 Tryz.underlying161 hi hz0 hz1 hz2 rfl (by decide) _ _ _ rfl hown ⟨w.heap.size + 1, 0, none⟩ 1 1 [.int .i64 2, .int .i64 0] rfl rfl (by have := cell_two (w.alloc (.cells #[.int .i64 0, .int .i64 0, .int .i64 4, .int .i64 0, .int .i64 4, .int .i64 4, .int .i64 0, .int .i64 4] 164)) (.int .i64 2) (.int .i64 0) 164; simpa using this) (by intro u hu; simp at hu; rcases hu with rfl | rfl <;> rfl) (by decide) (by omega) (by simp; omega) ?_
               intro v2 w2 hown2 hgrow2 _;obtain ⟨p2, c2, rfl⟩ := ownsRow_shape hown2;have hB2 : Below w.heap.size w w2 := (((Below.refl _ _).alloc (Nat.le_refl _) _).alloc (by simp) _).grown hgrow2 (by simp; omega) (fun j hj => by have := (hown.lt j hj).1; omega);clear hgrow2)
  go_ret2;have hsz := hB2.size;exact ⟨_, rfl, ⟨_, _, rfl, (RdC.of_owns hown2).alloc _, RdC.fresh 3 _ _ _ 3 rfl (by omega) _ rfl _ (by simp)⟩, hB2.alloc hsz _⟩
 ·go_enter Tryz.func98, Tryz.ntmps98
  go_wp2_with fail;go_ret2;exact ⟨_, rfl, ⟨_, _, rfl, (RdC.fresh 2 _ _ _ 4 rfl (by omega) _ rfl _ (by simp)).alloc _, RdC.fresh 3 _ _ _ 3 rfl (by omega) _ rfl _ (by simp)⟩, (((Below.refl _ _).alloc (Nat.le_refl _) _).alloc (by simp) _).alloc (by simp; omega) _⟩
theorem RdQ.fresh (w : World) (xs : List Rat) (ty : Nat) (cs : Array Value) (hcs : cs.toList = xs.map fun x => Value.string (RS x)) (hl : xs.length <= 1000) (n : Nat) (hn : n = xs.length) (g : Nat) (hgs : g = w.heap.size) :
 RdQ (w.alloc (Obj.cells cs ty)) (.slice (some ⟨g, 0, none⟩) n n) xs := by
 subst hn;exact RdC.fresh 1 w cs ty _ (by rw [<- Array.length_toList, hcs, List.length_map]; omega) hl _ hcs g hgs
theorem drew_cell (X : World) (p : Addr) : X.drew.cell? p = X.cell? p := rfl
theorem cell_far6 (X : World) (b : Nat) (v0 v1 v2 v3 v4 v5 : Value) (p : Addr) (h : b ≠ p.block) :
 ((((((X.setCell ⟨b, 0, none⟩ v0).setCell ⟨b, 1, none⟩ v1).setCell ⟨b, 2, none⟩ v2).setCell ⟨b, 3, none⟩ v3).setCell ⟨b, 4, none⟩ v4).setCell ⟨b, 5, none⟩ v5).drew.cell? p = X.cell? p := by
 rw [drew_cell, World.cell?_setCell_far _ _ _ _ h, World.cell?_setCell_far _ _ _ _ h, World.cell?_setCell_far _ _ _ _ h, World.cell?_setCell_far _ _ _ _ h, World.cell?_setCell_far _ _ _ _ h, World.cell?_setCell_far _ _ _ _ h]
theorem mcorners_any (w : World) (vp vt : Value) (P : List PtQ) (T : List Tri) (k : Nat) (hp : RdP w vp (strP P)) (ht : RdT w vt T) (hm : MeshIn P T k) (t : Nat) (tz : Int) (htz : tz = (t : Int)) (htl : t < T.length) (tr : Tri) (htr : tr = T[t]) :
 Calls Tryz.prog 125 #[.agg #[vp, vt], .int .i64 tz] w (Ret (fun r _ => r = .agg #[.string (RS (ptI P tr.1).1), .string (RS (ptI P tr.1).2), .string (RS (ptI P tr.2.1).1), .string (RS (ptI P tr.2.1).2), .string (RS (ptI P tr.2.2).1), .string (RS (ptI P tr.2.2).2)]) w) := by
 obtain ⟨pp, cp, rfl, hpc, hpm, hpr⟩ := hp.open;obtain ⟨pt, ct, rfl, htc, htm, htr'⟩ := ht.open;rw [strP_length] at hpc ⊢;obtain ⟨bt, ot, rfl, hbt, htcell⟩ := htr' (List.ne_nil_of_length_pos (by omega));obtain ⟨e0, e1, e2⟩ := htcell t htl;have hidx := hm.idx tr (by rw [htr]; exact List.getElem_mem htl);rw [<- htr] at e0 e1 e2;obtain ⟨q0z, q1z, q2z⟩ := tr;dsimp only at hidx e0 e1 e2 ⊢;obtain ⟨a00, a01⟩ := hidx q0z (by simp [idxOf]);obtain ⟨a10, a11⟩ := hidx q1z (by simp [idxOf]);obtain ⟨a20, a21⟩ := hidx q2z (by simp [idxOf]);obtain ⟨q0, rfl⟩ : ∃ q : Nat, q0z = (q : Int) := ⟨q0z.toNat, by omega⟩;obtain ⟨q1, rfl⟩ : ∃ q : Nat, q1z = (q : Int) := ⟨q1z.toNat, by omega⟩;obtain ⟨q2, rfl⟩ : ∃ q : Nat, q2z = (q : Int) := ⟨q2z.toNat, by omega⟩;have g0 : q0 < P.length := by omega
 have g1 : q1 < P.length := by omega
 have g2 : q2 < P.length := by omega
 obtain ⟨bp, op, rfl, hbp, hpc'⟩ := hpr (by intro e; have h := strP_length P; rw [e] at h; simp at h; omega);rw [ptI_nat P q0 g0, ptI_nat P q1 g1, ptI_nat P q2 g2];obtain ⟨k00, k01⟩ := hpc' q0 (by rw [strP_length]; exact g0);obtain ⟨k10, k11⟩ := hpc' q1 (by rw [strP_length]; exact g1);obtain ⟨k20, k21⟩ := hpc' q2 (by rw [strP_length]; exact g2);rw [strP_get P q0 g0] at k00 k01;rw [strP_get P q1 g1] at k10 k11;rw [strP_get P q2 g2] at k20 k21;dsimp only at k00 k01 k10 k11 k20 k21;have f0 : (q0 : Int) < (P.length : Int) := by omega
 have f1 : (q1 : Int) < (P.length : Int) := by omega
 have f2 : (q2 : Int) < (P.length : Int) := by omega
 have ft : (t : Int) < (T.length : Int) := by omega
 generalize RS P[q0].1 = x0s at *;generalize RS P[q0].2 = y0s at *;generalize RS P[q1].1 = x1s at *;generalize RS P[q1].2 = y1s at *;generalize RS P[q2].1 = x2s at *;generalize RS P[q2].2 = y2s at *;subst htz;clear htr hidx hpr htr' htcell hpc' hp ht hm a00 a01 a10 a11 a20 a21 g0 g1 g2;have i0 := idx_T0;have i1 := idx_T1;have i2 := idx_T2;go_enter Tryz.func125, Tryz.ntmps125;go_wp2_with fail;obtain ⟨W, hW⟩ : ∃ W, W = ((w.alloc (.cells #[.slice (some ⟨bp, op, none⟩) P.length cp, .slice (some ⟨bt, ot, none⟩) T.length ct] 37)).alloc (.cells #[.string ⟨#[]⟩, .string ⟨#[]⟩, .string ⟨#[]⟩, .string ⟨#[]⟩, .string ⟨#[]⟩, .string ⟨#[]⟩] 189)).alloc (.cells #[.int .i64 q0, .int .i64 q1, .int .i64 q2] 95) := ⟨_, rfl⟩;have hB : Below w.heap.size w W := by rw [hW]; exact (((Below.refl _ _).alloc (Nat.le_refl _) _).alloc (by simp) _).alloc (by simp; omega) _
 have b5 : BoxN W (w.heap.size + 1 + 1) 95 [.int .i64 q0, .int .i64 q1, .int .i64 q2] := by rw [hW]; exact BoxN.new _ _ _ _ (by simp)
 have b4 : BoxN W (w.heap.size + 1) 189 [.string ⟨#[]⟩, .string ⟨#[]⟩, .string ⟨#[]⟩, .string ⟨#[]⟩, .string ⟨#[]⟩, .string ⟨#[]⟩] := by
  rw [hW];have h1 := (BoxN.new (w.alloc (.cells #[.slice (some ⟨bp, op, none⟩) P.length cp, .slice (some ⟨bt, ot, none⟩) T.length ct] 37)) #[.string ⟨#[]⟩, .string ⟨#[]⟩, .string ⟨#[]⟩, .string ⟨#[]⟩, .string ⟨#[]⟩, .string ⟨#[]⟩] 189 (w.heap.size + 1) (by simp));exact h1.below (zal _ _) h1.lt
 have b2 : BoxN W w.heap.size 37 [.slice (some ⟨bp, op, none⟩) P.length cp, .slice (some ⟨bt, ot, none⟩) T.length ct] := by
  rw [hW];have h1 := (BoxN.new w #[.slice (some ⟨bp, op, none⟩) P.length cp, .slice (some ⟨bt, ot, none⟩) T.length ct] 37 _ rfl);exact h1.below (((Below.refl _ _).alloc (Nat.le_refl _) _).alloc (by simp) _) h1.lt
 rw [<- hW];clear hW;have x0 := b2.cell 0 rfl;have t0 := b5.cell 0 rfl;have t1 := b5.cell 1 rfl;have t2 := b5.cell 2 rfl;have c00 := zcq hB hbp k00;have c01 := zcq hB hbp k01;have c10 := zcq hB hbp k10;have c11 := zcq hB hbp k11;have c20 := zcq hB hbp k20;have c21 := zcq hB hbp k21;have r0 := b4.cell 0 rfl;have r1 := b4.cell 1 rfl;have r2 := b4.cell 2 rfl;have r3 := b4.cell 3 rfl;have r4 := b4.cell 4 rfl;have r5 := b4.cell 5 rfl;have r0f := b4.frozen 0;have r1f := b4.frozen 1;have r2f := b4.frozen 2;have r3f := b4.frozen 3;have r4f := b4.frozen 4;have r5f := b4.frozen 5;have hz := b5.lt;have n2 : w.heap.size + 1 ≠ w.heap.size := by omega
 have n5 : w.heap.size + 1 ≠ w.heap.size + 1 + 1 := by omega
 have np : w.heap.size + 1 ≠ bp := by omega
 have HS : Hid (W.drew.cell? ⟨w.heap.size, 0, none⟩ = some (.slice (some ⟨bp, op, none⟩) P.length cp) /\ W.drew.cell? ⟨w.heap.size + 1 + 1, 0, none⟩ = some (.int .i64 q0) /\ W.drew.cell? ⟨w.heap.size + 1 + 1, 1, none⟩ = some (.int .i64 q1) /\ W.drew.cell? ⟨w.heap.size + 1 + 1, 2, none⟩ = some (.int .i64 q2) /\ W.drew.cell? ⟨bp, op + q0 * 2, none⟩ = some (.string x0s) /\ W.drew.cell? ⟨bp, op + q0 * 2 + 1, none⟩ = some (.string y0s) /\ W.drew.cell? ⟨bp, op + q1 * 2, none⟩ = some (.string x1s) /\ W.drew.cell? ⟨bp, op + q1 * 2 + 1, none⟩ = some (.string y1s) /\ W.drew.cell? ⟨bp, op + q2 * 2, none⟩ = some (.string x2s) /\ W.drew.cell? ⟨bp, op + q2 * 2 + 1, none⟩ = some (.string y2s)) := ⟨x0, t0, t1, t2, c00, c01, c10, c11, c20, c21⟩;have HT : Hid (W.cell? ⟨w.heap.size, 0, none⟩ = some (.slice (some ⟨bp, op, none⟩) P.length cp) /\ W.cell? ⟨w.heap.size + 1 + 1, 0, none⟩ = some (.int .i64 q0) /\ W.cell? ⟨w.heap.size + 1 + 1, 1, none⟩ = some (.int .i64 q1) /\ W.cell? ⟨w.heap.size + 1 + 1, 2, none⟩ = some (.int .i64 q2) /\ W.cell? ⟨bp, op + q0 * 2, none⟩ = some (.string x0s) /\ W.cell? ⟨bp, op + q0 * 2 + 1, none⟩ = some (.string y0s) /\ W.cell? ⟨bp, op + q1 * 2, none⟩ = some (.string x1s) /\ W.cell? ⟨bp, op + q1 * 2 + 1, none⟩ = some (.string y1s) /\ W.cell? ⟨bp, op + q2 * 2, none⟩ = some (.string x2s) /\ W.cell? ⟨bp, op + q2 * 2 + 1, none⟩ = some (.string y2s)) := ⟨x0, t0, t1, t2, c00, c01, c10, c11, c20, c21⟩;clear k00 k01 k10 k11 k20 k21 e0 e1 e2;have hBW := hid hB;clear x0 t0 t1 t2 c00 c01 c10 c11 c20 c21 b2 b5 hB;go_region_held3 (fun w' => w'.cell? ⟨w.heap.size, 0, none⟩ = some (.slice (some ⟨bp, op, none⟩) P.length cp) /\ w'.cell? ⟨w.heap.size + 1 + 1, 0, none⟩ = some (.int .i64 q0) /\ w'.cell? ⟨w.heap.size + 1 + 1, 1, none⟩ = some (.int .i64 q1) /\ w'.cell? ⟨w.heap.size + 1 + 1, 2, none⟩ = some (.int .i64 q2) /\ w'.cell? ⟨bp, op + q0 * 2, none⟩ = some (.string x0s) /\ w'.cell? ⟨bp, op + q0 * 2 + 1, none⟩ = some (.string y0s) /\ w'.cell? ⟨bp, op + q1 * 2, none⟩ = some (.string x1s) /\ w'.cell? ⟨bp, op + q1 * 2 + 1, none⟩ = some (.string y1s) /\ w'.cell? ⟨bp, op + q2 * 2, none⟩ = some (.string x2s) /\ w'.cell? ⟨bp, op + q2 * 2 + 1, none⟩ = some (.string y2s))
  (first | with_reducible exact HS.out | (obtain ⟨h1, h2, h3, h4, h5, h6, h7, h8, h9, h10⟩ := HT.out; with_reducible exact ⟨(cell_far6 _ _ _ _ _ _ _ _ _ n2).trans h1, (cell_far6 _ _ _ _ _ _ _ _ _ n5).trans h2, (cell_far6 _ _ _ _ _ _ _ _ _ n5).trans h3, (cell_far6 _ _ _ _ _ _ _ _ _ n5).trans h4, (cell_far6 _ _ _ _ _ _ _ _ _ np).trans h5, (cell_far6 _ _ _ _ _ _ _ _ _ np).trans h6, (cell_far6 _ _ _ _ _ _ _ _ _ np).trans h7, (cell_far6 _ _ _ _ _ _ _ _ _ np).trans h8, (cell_far6 _ _ _ _ _ _ _ _ _ np).trans h9, (cell_far6 _ _ _ _ _ _ _ _ _ np).trans h10⟩))
  (fail)
 all_goals
  go_wp2_with fail;have BF := (((((b4.set 0 (.string x0s)).set 1 (.string y0s)).set 2 (.string x1s)).set 3 (.string y1s)).set 4 (.string x2s)).set 5 (.string y2s);have g0 := BF.cell 0 rfl;have g1 := BF.cell 1 rfl;have g2 := BF.cell 2 rfl;have g3 := BF.cell 3 rfl;have g4 := BF.cell 4 rfl;have g5 := BF.cell 5 rfl;have hBF : Below w.heap.size w (((((((W.setCell ⟨w.heap.size + 1, 0, none⟩ (.string x0s)).setCell ⟨w.heap.size + 1, 1, none⟩ (.string y0s)).setCell ⟨w.heap.size + 1, 2, none⟩ (.string x1s)).setCell ⟨w.heap.size + 1, 3, none⟩ (.string y1s)).setCell ⟨w.heap.size + 1, 4, none⟩ (.string x2s)).setCell ⟨w.heap.size + 1, 5, none⟩ (.string y2s)).drew) := by
   have h1 : w.heap.size <= w.heap.size + 1 := by omega
   have := (((((hBW.out.setCell (p := ⟨w.heap.size + 1, 0, none⟩) h1 (.string x0s)).setCell (p := ⟨w.heap.size + 1, 1, none⟩) h1 (.string y0s)).setCell (p := ⟨w.heap.size + 1, 2, none⟩) h1 (.string x1s)).setCell (p := ⟨w.heap.size + 1, 3, none⟩) h1 (.string y1s)).setCell (p := ⟨w.heap.size + 1, 4, none⟩) h1 (.string x2s)).setCell (p := ⟨w.heap.size + 1, 5, none⟩) h1 (.string y2s);exact this.trans ((below_drewN _ 1).mono this.size)
  exact bodyPost_ret (v := .agg #[.string x0s, .string y0s, .string x1s, .string y1s, .string x2s, .string y2s]) (by simp [results, Tryz.results125, go_sem, g0, g1, g2, g3, g4, g5]) rfl ⟨_, rfl, rfl, hBF⟩
def insideB (a b c p : PtQ) : Bool := decide (0 <= turnZ a b p) && decide (0 <= turnZ b c p) && decide (0 <= turnZ c a p)
theorem inside_any (a b c p : PtQ) (k : Nat) (hk : 0 < k) (hk2 : k <= 2000) (ha : SzP k a) (hb : SzP k b) (hc : SzP k c) (hp : SzP k p) (w : World) (hg : Good w) :
 Calls Tryz.prog 124 #[.agg #[.string (RS a.1), .string (RS a.2), .string (RS b.1), .string (RS b.2), .string (RS c.1), .string (RS c.2)], .agg #[.string (RS p.1), .string (RS p.2)]] w (Ret (fun r _ => r = .bool (insideB a b c p)) w) := by
 have H1 := hid fun w hg => turn_any a b p k hk hk2 ha hb hp w hg;have H2 := hid fun w hg => turn_any b c p k hk hk2 hb hc hp w hg;have H3 := hid fun w hg => turn_any c a p k hk hk2 hc ha hp w hg;unfold insideB;unfold VP at H1 H2 H3;generalize turnZ a b p = z1 at *;generalize turnZ b c p = z2 at *;generalize turnZ c a p = z3 at *;generalize RS a.1 = ax at *;generalize RS a.2 = ay at *;generalize RS b.1 = bx at *;generalize RS b.2 = by' at *;generalize RS c.1 = cx at *;generalize RS c.2 = cy at *;generalize RS p.1 = px at *;generalize RS p.2 = py at *;clear ha hb hc hp;go_enter Tryz.func124, Tryz.ntmps124;go_wp2_with fail;obtain ⟨W, hW⟩ : ∃ W, W = (w.alloc (.cells #[.string ax, .string ay, .string bx, .string by', .string cx, .string cy] 189)).alloc (.cells #[.string px, .string py] 63) := ⟨_, rfl⟩;have hB : Below w.heap.size w W := by rw [hW]; exact zal2 _ _ _
 have e3 : BoxN W (w.heap.size + 1) 63 [.string px, .string py] := by rw [hW]; exact BoxN.new _ _ _ _ (by simp)
 have e2 : BoxN W w.heap.size 189 [.string ax, .string ay, .string bx, .string by', .string cx, .string cy] := by
  rw [hW];have h1 := (BoxN.new w #[.string ax, .string ay, .string bx, .string by', .string cx, .string cy] 189 _ rfl);exact h1.below (zal _ _) h1.lt
 rw [<- hW];clear hW;refine (H1.out W (hg.below hB)).mono ?_;rintro e w1 ⟨_, rfl, rfl, hb1⟩;have hB1 := hB.trans (hb1.mono hB.size);have e21 := e2.below hb1 e2.lt;have e31 := e3.below hb1 e3.lt;clear hb1 hB e2 e3;rcases Int.lt_or_le z1 0 with h1 | h1
 ·have d1 : decide (0 <= z1) = false := decide_eq_false (by omega)
  go_wp2_with fail;go_ret;exact ⟨_, rfl, by rw [d1]; rfl, hB1⟩
 have x0 := e21.cell 0 rfl;have x1 := e21.cell 1 rfl;have x2 := e21.cell 2 rfl;have x3 := e21.cell 3 rfl;have x4 := e21.cell 4 rfl;have x5 := e21.cell 5 rfl;have y0 := e31.cell 0 rfl;have y1 := e31.cell 1 rfl;go_wp2_with fail;refine (H2.out w1 (hg.below hB1)).mono ?_;rintro e w2 ⟨_, rfl, rfl, hb2⟩;have hB2 := hB1.trans (hb2.mono hB1.size);have e22 := e21.below hb2 e21.lt;have e32 := e31.below hb2 e31.lt;have d1 : decide (0 <= z1) = true := decide_eq_true h1;clear hb2 hB1 e21 e31 x0 x1 x2 x3 x4 x5 y0 y1;rcases Int.lt_or_le z2 0 with h2 | h2
 ·have d2 : decide (0 <= z2) = false := decide_eq_false (by omega)
  go_wp2_with fail;go_ret;exact ⟨_, rfl, by rw [d1, d2]; rfl, hB2⟩
 have x0 := e22.cell 0 rfl;have x1 := e22.cell 1 rfl;have x4 := e22.cell 4 rfl;have x5 := e22.cell 5 rfl;have y0 := e32.cell 0 rfl;have y1 := e32.cell 1 rfl;go_wp2_with fail;refine (H3.out w2 (hg.below hB2)).mono ?_;rintro e w3 ⟨_, rfl, rfl, hb3⟩;have hB3 := hB2.trans (hb3.mono hB2.size);have d2 : decide (0 <= z2) = true := decide_eq_true h2;clear hb3 hB2 e22 e32 x0 x1 x4 x5 y0 y1;rcases Int.lt_or_le z3 0 with h3 | h3
 ·have d3 : decide (0 <= z3) = false := decide_eq_false (by omega)
  go_wp2_with fail;go_ret;exact ⟨_, rfl, by rw [d1, d2, d3]; rfl, hB3⟩
 ·have d3 : decide (0 <= z3) = true := decide_eq_true h3
  go_wp2_with fail;go_ret;exact ⟨_, rfl, by rw [d1, d2, d3]; rfl, hB3⟩
def insideT (P : List PtQ) (T : List Tri) (p : PtQ) (i : Nat) : Bool :=
 match T[i]? with
 | some tr => insideB (ptI P tr.1) (ptI P tr.2.1) (ptI P tr.2.2) p
 | none => false
def locN (P : List PtQ) (T : List Tri) (p : PtQ) (n : Nat) : List Int := ((List.range n).filter (insideT P T p)).map fun i : Nat => (i : Int)
theorem locN_step (P : List PtQ) (T : List Tri) (p : PtQ) (n : Nat) : locN P T p (n + 1) = locN P T p n ++ (if insideT P T p n then [(n : Int)] else []) := by
 unfold locN;rw [List.range_succ, List.filter_append, List.map_append];congr 1;cases h : insideT P T p n <;> simp [h]
theorem locate_ok (w : World) (vp vt : Value) (P : List PtQ) (T : List Tri) (k : Nat) (hp : RdP w vp (strP P)) (ht : RdT w vt T) (hm : MeshOK P T k) (p : PtQ) (hpz : SzP 200 p) (hg : Good w) :
 Calls Tryz.prog 75 #[.agg #[vp, vt], .agg #[.string (RS p.1), .string (RS p.2)]] w (Ret (fun r w' => ∃ v, r = .tuple #[v, .int .i64 0] /\ RdI .i64 w' v (locN P T p T.length)) w) := by
 have HER := hid (hpz.right (Nat.le_refl _));have hz1 := hpz.1.size (by omega);have hz2 := hpz.2.size (by omega);have HCK : Hid (∀ w', Below w.heap.size w w' -> Good w' -> Calls Tryz.prog 93 #[.agg #[vp, vt]] w' (Ret (fun r _ => r = .int .i64 0) w')) := fun w' hb hg' => check_any w' vp vt P T k (RdC.below hp hb) (RdC.below ht hb) hm hg';have HCO : Hid (∀ (i : Nat) (h : i < T.length) (w' : World), Below w.heap.size w w' -> Calls Tryz.prog 125 #[.agg #[vp, vt], .int .i64 (i : Int)] w' (Ret (fun r _ => r = .agg #[.string (RS (ptI P T[i].1).1), .string (RS (ptI P T[i].1).2), .string (RS (ptI P T[i].2.1).1), .string (RS (ptI P T[i].2.1).2), .string (RS (ptI P T[i].2.2).1), .string (RS (ptI P T[i].2.2).2)]) w')) :=
  fun i h w' hb => mcorners_any w' vp vt P T k (RdC.below hp hb) (RdC.below ht hb) hm.toMeshIn i i rfl h T[i] rfl
 have HSZ : Hid (∀ (i : Nat) (h : i < T.length), SzP 200 (ptI P T[i].1) /\ SzP 200 (ptI P T[i].2.1) /\ SzP 200 (ptI P T[i].2.2)) := fun i h => by
  have hidx := hm.idx T[i] (List.getElem_mem h);have key : ∀ z ∈ idxOf T[i], SzP 200 (ptI P z) := fun z hz => by
   obtain ⟨h0, h1⟩ := hidx z hz;obtain ⟨q, rfl⟩ : ∃ q : Nat, z = (q : Int) := ⟨z.toNat, by omega⟩;rw [ptI_nat P q (by omega)];have := hm.sz _ (List.getElem_mem (show q < P.length by omega));exact ⟨this.1.mono hm.klim2, this.2.mono hm.klim2⟩
  exact ⟨key _ (by simp [idxOf]), key _ (by simp [idxOf]), key _ (by simp [idxOf])⟩
 have hpp := hp;have htt := ht;obtain ⟨pp, cp, rfl, -, -, -⟩ := hpp.open;obtain ⟨pt, ct, rfl, -, -, -⟩ := htt.open;have hn8 : T.length <= 800 := hm.tlen;have HPZ := hid hpz;obtain ⟨i0, hi, hzz0, hzz1, hzz2⟩ := info_parts info_i64;generalize hpx : RS p.1 = px at *;generalize hpy : RS p.2 = py at *;have HPX := hid hpx;have HPY := hid hpy;rw [strP_length] at *;clear hp ht hm hpp htt hpz hpx hpy;go_enter Tryz.func75, Tryz.ntmps75;go_wp2_with fail;obtain ⟨W, hW⟩ : ∃ W, W = (w.alloc (.cells #[.slice pp P.length cp, .slice pt T.length ct] 37)).alloc (.cells #[.string px, .string py] 63) := ⟨_, rfl⟩;have hB : Below w.heap.size w W := by rw [hW]; exact zal2 _ _ _
 have e3 : BoxN W (w.heap.size + 1) 63 [.string px, .string py] := by rw [hW]; exact BoxN.new _ _ _ _ (by simp)
 have e2 : BoxN W w.heap.size 37 [.slice pp P.length cp, .slice pt T.length ct] := by
  rw [hW];have h1 := (BoxN.new w #[.slice pp P.length cp, .slice pt T.length ct] 37 _ rfl);exact h1.below (zal _ _) h1.lt
 rw [<- hW];clear hW;refine (HCK.out W hB (hg.below hB)).mono ?_;rintro e w1 ⟨_, rfl, rfl, hb1⟩;have hB1 := hB.trans (hb1.mono hB.size);have e21 := e2.below hb1 e2.lt;have e31 := e3.below hb1 e3.lt;have y0 := e31.cell 0 rfl;have y1 := e31.cell 1 rfl;clear hb1 hB e2 e3;go_wp2_with fail;refine (checkPoint_any px py (by omega) (by omega) w1 (hg.below hB1)).mono ?_;rw [HER.out];rintro e w2 ⟨_, rfl, rfl, hb2⟩;have hB2 := hB1.trans (hb2.mono hB1.size);have e22 := e21.below hb2 e21.lt;have e32 := e31.below hb2 e31.lt;have hz3 := e32.lt;have x1 := e22.cell 1 rfl;clear hb2 hB1 e21 e31 y0 y1;go_wp2_with fail;go_loopw [7, 20] (fun t7 t20 wr => ∃ (i m : Nat), t20 = .int .i64 i /\ i <= T.length /\ m <= i /\ Hid ((locN P T p i).length = m) /\ wr.ownsRow w2.heap.size 3 1 t7 m ((locN P T p i).map fun x => Value.int .i64 x) /\ Below w2.heap.size w2 wr) (fun _ t20 _ => T.length - (RowKit.intOf t20).toNat)
 case atStart => exact ⟨0, 0, rfl, Nat.zero_le _, Nat.le_refl _, rfl, World.ownsRow_nil _ _ _ _, Below.refl _ _⟩
 case round =>
  obtain ⟨i, m, rfl, hin, hmi, HL, hown, hbr⟩ := hrel;obtain ⟨p7, c7, rfl⟩ := ownsRow_shape hown;have hzr := hbr.size;rcases Nat.lt_or_ge i T.length with h | h
  ·have HST := hid (locN_step P T p i)
   have HIT : Hid (insideT P T p i = insideB (ptI P T[i].1) (ptI P T[i].2.1) (ptI P T[i].2.2) p) := by unfold Hid insideT; rw [List.getElem?_eq_getElem h]
   obtain ⟨s1, s2, s3⟩ := HSZ.out i h;have hbW : Below w.heap.size w wr := hB2.trans (hbr.mono hB2.size);have hbd : Below w.heap.size w wr.drew := hbW.trans ((below_drewN wr 1).mono hbW.size);have HC : Hid (∀ w', Below w.heap.size w w' -> _) := fun w' hb => HCO.out i h w' hb;have HI : Hid (∀ w', Good w' -> _) := fun w' hg' => inside_any (ptI P T[i].1) (ptI P T[i].2.1) (ptI P T[i].2.2) p 200 (by omega) (by omega) s1 s2 s3 HPZ.out w' hg'
   rw [HPX.out, HPY.out] at HI;generalize insideB (ptI P T[i].1) (ptI P T[i].2.1) (ptI P T[i].2.2) p = bi at *;generalize RS (ptI P T[i].1).1 = q1 at *;generalize RS (ptI P T[i].1).2 = q2 at *;generalize RS (ptI P T[i].2.1).1 = q3 at *;generalize RS (ptI P T[i].2.1).2 = q4 at *;generalize RS (ptI P T[i].2.2).1 = q5 at *;generalize RS (ptI P T[i].2.2).2 = q6 at *;have a0 := (hbr.cell (p := ⟨w.heap.size, 0, none⟩) e22.lt).trans (e22.cell 0 rfl);have a1 := (hbr.cell (p := ⟨w.heap.size, 1, none⟩) e22.lt).trans (e22.cell 1 rfl);have b0 := (hbr.cell (p := ⟨w.heap.size + 1, 0, none⟩) e32.lt).trans (e32.cell 0 rfl);have b1 := (hbr.cell (p := ⟨w.heap.size + 1, 1, none⟩) e32.lt).trans (e32.cell 1 rfl);have hz2' := e22.lt;have hiT : (i : Int) < (T.length : Int) := by omega
   have hgd : Good wr.drew := (hg.below hbW).drewN 1;clear s1 s2 s3 x1;go_upto_region 10 with fail;go_region_held3 (fun w' => w'.cell? ⟨w.heap.size, 0, none⟩ = some (.slice pp P.length cp) /\ w'.cell? ⟨w.heap.size, 1, none⟩ = some (.slice pt T.length ct) /\ w'.cell? ⟨w.heap.size + 1, 0, none⟩ = some (.string px) /\ w'.cell? ⟨w.heap.size + 1, 1, none⟩ = some (.string py))
    (first | exact ⟨a0, a1, b0, b1⟩ | exact ⟨p_1_0, p_1_1, p_1_2, p_1_3⟩ | exact ⟨p_2_0, p_2_1, p_2_2, p_2_3⟩)
    (first
    | (go_at_call 124; refine (HI.out _ pg1).mono ?_; rintro e pw2 ⟨_, rfl, rfl, pb2⟩
       have p_2_0 := zct pb2 p_1_0;have p_2_1 := zct pb2 p_1_1;have p_2_2 := zct pb2 p_1_2;have p_2_3 := zct pb2 p_1_3;have ps2 := pb2.size;have pg2 := pg1.below pb2)
    | (go_at_call 125; refine (HC.out _ hbd).mono ?_; rintro e pw1 ⟨_, rfl, rfl, pb1⟩
       have p_1_0 := zct pb1 a0;have p_1_1 := zct pb1 a1;have p_1_2 := zct pb1 b0;have p_1_3 := zct pb1 b1;have ps1 : wr.heap.size <= pw1.heap.size := pb1.size;have pg1 := hgd.below pb1))
   have pB : Below wr.heap.size wr pw2 := zbt (zbt (below_drewN wr 1) pb1) pb2;have hown2 := World.ownsRow.belowAll hown pB;have hbr2 : Below w2.heap.size w2 pw2 := hbr.trans (pB.mono hzr);have hz4 := hbr2.size;have hwo := pB.size;clear pB pb1 pb2 ps1 ps2 pg1 pg2 p_1_0 p_1_1 p_1_2 p_1_3 p_2_0 p_2_1 p_2_2 p_2_3 a0 a1 b0 b1 hown hbr hgd hbd hbW;cases bi
   ·have HLN : Hid ((locN P T p (i + 1)).length = m) := by unfold Hid; rw [HST.out, HIT.out]; simpa using HL.out
    have HLE : Hid (locN P T p (i + 1) = locN P T p i) := by unfold Hid; rw [HST.out, HIT.out]; simp
    go_wp2_with fail;go_roundw
    case rel => exact ⟨i + 1, m, by go_num, h, by omega, HLN, by rw [HLE.out]; exact hown2, hbr2⟩
    case measure => simp [RowKit.intOf]; omega
   ·have HLN : Hid ((locN P T p (i + 1)).length = m + 1) := by unfold Hid; rw [HST.out, HIT.out]; simpa using HL.out
    have HLE : Hid (locN P T p (i + 1) = locN P T p i ++ [(i : Int)]) := by unfold Hid; rw [HST.out, HIT.out]; simp
    go_wp2_with (at_builtin; refine wpList_append_own _ rfl _ _ 91 rfl w2.heap.size 3 i0 (.int .i64 0) 1 8 Tryz.underlying91 hi hzz0 hzz1 hzz2 rfl (by decide) _ _ _ rfl (hown2.alloc _) ⟨pw2.heap.size, 0, none⟩ 1 1 [.int .i64 i] rfl rfl (cell_one_i64 _ _ _) (one_cell_i64 _) (by unfold maxLen; omega) (by omega) (by simp; omega) ?_
                 intro v3 w3 hown3 hgrow3 _;have hzw3 := hgrow3.size;have hbr3 : Below w2.heap.size w2 w3 := (hbr2.alloc hz4 _).grown hgrow3 (by simp; omega) (fun j hj => by have := (hown2.lt j hj).1; omega);clear hgrow3)
    go_roundw
    case rel => exact ⟨i + 1, m + 1, by go_num, h, by omega, HLN, by rw [HLE.out, List.map_append]; exact hown3, hbr3⟩
    case measure => simp [RowKit.intOf]; omega
  ·obtain rfl : i = T.length := by omega
   have hbW : Below w.heap.size w wr := hB2.trans (hbr.mono hB2.size);have hrd : RdI .i64 wr (.slice p7 m c7) (locN P T p T.length) := by
    have h1 : RdC 1 wr (.slice p7 m c7) m ((locN P T p T.length).map fun x => Value.int .i64 x) := RdC.of_owns hown;unfold RdI;rw [HL.out];exact h1
   go_wp2_with fail;go_ret2;exact ⟨_, rfl, ⟨_, rfl, hrd⟩, hbW⟩
end Go.Proofs.YtgdpoankaojklaaGreatDoor
