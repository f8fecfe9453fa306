import Derived.Maps.OwnOps
import Derived.Maps.OwnSet
import Derived.Maps.OwnIn
import Derived.Maps.RangeWalk
import Derived.Maps.Ext
import Derived.WideKeyElems3
import Derived.Test.YtgdpoankaojklaaGreatDoorVQC
import Derived.Deep.CutRange
import Derived.DeepKeys5
/- Meshes in memory Mesh -/
set_option maxHeartbeats 4000000
set_option maxRecDepth 100000
namespace Go.Proofs.YtgdpoankaojklaaGreatDoor
open Go.RowKit
def cellsP (ps : List (ByteArray × ByteArray)) : List Value := ps.flatMap fun p => [.string p.1, .string p.2]
def RdP (w : World) (v : Value) (ps : List (ByteArray × ByteArray)) : Prop := RdC 2 w v ps.length (cellsP ps)
def cellsT (ts : List Tri) : List Value := ts.flatMap fun t => [.int .i64 t.1, .int .i64 t.2.1, .int .i64 t.2.2]
def RdT (w : World) (v : Value) (ts : List Tri) : Prop := RdC 3 w v ts.length (cellsT ts)
theorem getElem?_flatMap_const {α β : Type} (f : α -> List β) (m : Nat) (hf : ∀ a, (f a).length = m) : ∀ (l : List α) (i j : Nat), j < m -> (l.flatMap f)[i * m + j]? = (l[i]?).bind fun a => (f a)[j]?
 | [], i, j, _ => by simp
 | a :: l, 0, j, h => by simp [List.getElem?_append_left, hf, h]
 | a :: l, i + 1, j, h => by
   rw [List.flatMap_cons, List.getElem?_append_right (by rw [hf, Nat.add_mul]; omega), hf];rw [show (i + 1) * m + j - m = i * m + j by rw [Nat.add_mul]; omega];rw [getElem?_flatMap_const f m hf l i j h];simp
theorem RdP.open {w : World} {v : Value} {ps : List (ByteArray × ByteArray)} (h : RdP w v ps) : ∃ p c, v = .slice p ps.length c /\ ps.length <= c /\ c <= maxLen /\
 (ps ≠ [] -> ∃ b off, p = some ⟨b, off, none⟩ /\ b < w.heap.size /\ ∀ (i : Nat) (hi : i < ps.length), w.cell? ⟨b, off + i * 2, none⟩ = some (.string ps[i].1) /\ w.cell? ⟨b, off + i * 2 + 1, none⟩ = some (.string ps[i].2)) := by
 obtain ⟨p, c, hv, h1, h2, h3, h4⟩ := h;refine ⟨p, c, hv, h1, h2, fun hne => ?_⟩;obtain ⟨b, off, hp, hc⟩ := h4 (by
  cases ps with
  | nil => exact absurd rfl hne
  | cons a l => simp [cellsP])
 have hcell : ∀ (i : Nat) (hi : i < ps.length), w.cell? ⟨b, off + i * 2, none⟩ = some (.string ps[i].1) /\ w.cell? ⟨b, off + i * 2 + 1, none⟩ = some (.string ps[i].2) := fun i hi => by
  have e := getElem?_flatMap_const (fun p : ByteArray × ByteArray => [Value.string p.1, .string p.2]) 2 (fun _ => rfl) ps i;refine ⟨?_, ?_⟩
  ·have := hc (i * 2) (.string ps[i].1) (by have := e 0 (by omega); rw [Nat.add_zero] at this; unfold cellsP; rw [this, List.getElem?_eq_getElem hi]; rfl)
   exact this
  ·have := hc (i * 2 + 1) (.string ps[i].2) (by have := e 1 (by omega); unfold cellsP; rw [this, List.getElem?_eq_getElem hi]; rfl)
   rw [<- Nat.add_assoc] at this;exact this
 exact ⟨b, off, hp, World.block_lt_of_cell? w _ (hcell 0 (List.length_pos_iff.2 hne)).1, hcell⟩
theorem RdT.open {w : World} {v : Value} {ts : List Tri} (h : RdT w v ts) : ∃ p c, v = .slice p ts.length c /\ ts.length <= c /\ c <= maxLen /\
 (ts ≠ [] -> ∃ b off, p = some ⟨b, off, none⟩ /\ b < w.heap.size /\ ∀ (i : Nat) (hi : i < ts.length), w.cell? ⟨b, off + i * 3, none⟩ = some (.int .i64 ts[i].1) /\ w.cell? ⟨b, off + i * 3 + 1, none⟩ = some (.int .i64 ts[i].2.1) /\ w.cell? ⟨b, off + i * 3 + 2, none⟩ = some (.int .i64 ts[i].2.2)) := by
 obtain ⟨p, c, hv, h1, h2, h3, h4⟩ := h;refine ⟨p, c, hv, h1, h2, fun hne => ?_⟩;obtain ⟨b, off, hp, hc⟩ := h4 (by
  cases ts with
  | nil => exact absurd rfl hne
  | cons a l => simp [cellsT])
 have hcell : ∀ (i : Nat) (hi : i < ts.length), w.cell? ⟨b, off + i * 3, none⟩ = some (.int .i64 ts[i].1) /\ w.cell? ⟨b, off + i * 3 + 1, none⟩ = some (.int .i64 ts[i].2.1) /\ w.cell? ⟨b, off + i * 3 + 2, none⟩ = some (.int .i64 ts[i].2.2) := fun i hi => by
  have e := getElem?_flatMap_const (fun t : Tri => [Value.int .i64 t.1, .int .i64 t.2.1, .int .i64 t.2.2]) 3 (fun _ => rfl) ts i;refine ⟨?_, ?_, ?_⟩
  ·have := hc (i * 3) (.int .i64 ts[i].1) (by have := e 0 (by omega); rw [Nat.add_zero] at this; unfold cellsT; rw [this, List.getElem?_eq_getElem hi]; rfl)
   exact this
  ·have := hc (i * 3 + 1) (.int .i64 ts[i].2.1) (by have := e 1 (by omega); unfold cellsT; rw [this, List.getElem?_eq_getElem hi]; rfl)
   rw [<- Nat.add_assoc] at this;exact this
  ·have := hc (i * 3 + 2) (.int .i64 ts[i].2.2) (by have := e 2 (by omega); unfold cellsT; rw [this, List.getElem?_eq_getElem hi]; rfl)
   rw [<- Nat.add_assoc] at this;exact this
 exact ⟨b, off, hp, World.block_lt_of_cell? w _ (hcell 0 (List.length_pos_iff.2 hne)).1, hcell⟩
open Go.Lib
def BoxP (w : World) (b : Nat) (p : PtQ) : Prop := w.cell? ⟨b, 0, none⟩ = some (.string (RS p.1)) /\ w.cell? ⟨b, 1, none⟩ = some (.string (RS p.2))
def SzP (k : Nat) (p : PtQ) : Prop := Sz k p.1 /\ Sz k p.2
def VP (p : PtQ) : Value := .agg #[.string (RS p.1), .string (RS p.2)]
theorem BoxP.below {w w' : World} {n b : Nat} {p : PtQ} (h : BoxP w b p) (hb : Below n w w') (hn : b < n) : BoxP w' b p :=
 ⟨(zcq hb hn h.1 :), (zcq hb hn h.2 :)⟩
theorem BoxP.alloc {w : World} {b : Nat} {p : PtQ} (h : BoxP w b p) (o : Obj) : BoxP (w.alloc o) b p :=
 h.below ((Below.refl _ _).alloc (Nat.le_refl _) o) (World.block_lt_of_cell? w _ h.1)
theorem boxP_new (w : World) (p : PtQ) (ty n : Nat) (hn : w.heap.size = n) : BoxP (w.alloc (.cells #[.string (RS p.1), .string (RS p.2)] ty)) n p := by
 subst hn;exact ⟨by rw [World.cell?_alloc_at _ _ _ _ rfl]; rfl, by rw [World.cell?_alloc_at _ _ _ _ rfl]; rfl⟩
theorem three_boxes (w : World) (a b c : PtQ) (ty : Nat) : ∃ W : World, W = ((w.alloc (.cells #[.string (RS a.1), .string (RS a.2)] ty)).alloc (.cells #[.string (RS b.1), .string (RS b.2)] ty)).alloc (.cells #[.string (RS c.1), .string (RS c.2)] ty) /\
 BoxP W w.heap.size a /\ BoxP W (w.heap.size + 1) b /\ BoxP W (w.heap.size + 2) c /\ Below w.heap.size w W /\ w.heap.size + 2 < W.heap.size := by
 refine ⟨_, rfl, ((boxP_new w a ty _ rfl).alloc _).alloc _, (boxP_new _ b ty _ (by simp)).alloc _, boxP_new _ c ty _ (by simp), (((Below.refl _ _).alloc (Nat.le_refl _) _).alloc (by simp) _).alloc (by simp; omega) _, by simp⟩
theorem area_any (a b c : PtQ) (k : Nat) (hk : 0 < k) (hk2 : k <= 2000) (ha : SzP k a) (hb : SzP k b) (hc : SzP k c) (w : World) (hg : Good w) :
 Calls Tryz.prog 178 #[VP a, VP b, VP c] w (Ret (fun r _ => r = .string (RS (areaQ a b c))) w) := by
 obtain ⟨W, hW, ⟨a0, a1⟩, ⟨b0, b1⟩, ⟨c0, c1⟩, hbW, hsz⟩ := three_boxes w a b c 63;have hgW := hg.below hbW;obtain ⟨ax, ay⟩ := a;obtain ⟨bx, bY⟩ := b;obtain ⟨cx, cy⟩ := c;unfold VP areaQ;dsimp only [SzP] at *;have HA := Lib.hid ha;have HB := Lib.hid hb;have HC := Lib.hid hc;have HW := Lib.hid hW;clear hW ha hb hc;go_enter Tryz.func178, Tryz.ntmps178;have hgd : Good W.drew := hgW.drewN 1;have HS1 : Hid (Sz (2 * k + 1) (bx - ax)) := (HB.out.1.sub HA.out.1).mono (by omega);have HS2 : Hid (Sz (2 * k + 1) (cy - ay)) := (HC.out.2.sub HA.out.2).mono (by omega);have HS3 : Hid (Sz (2 * k + 1) (bY - ay)) := (HB.out.2.sub HA.out.2).mono (by omega);have HS4 : Hid (Sz (2 * k + 1) (cx - ax)) := (HC.out.1.sub HA.out.1).mono (by omega);have HM1 : Hid (Sz (4 * k + 2) ((bx - ax) * (cy - ay))) := (HS1.out.mul HS2.out).mono (by omega);have HM2 : Hid (Sz (4 * k + 2) ((bY - ay) * (cx - ax))) := (HS3.out.mul HS4.out).mono (by omega);go_upto_region 1 with fail;rw [<- HW.out];go_region_held3 (fun w' => w'.cell? ⟨w.heap.size, 0, none⟩ = some (.string (RS ax)) /\ w'.cell? ⟨w.heap.size, 1, none⟩ = some (.string (RS ay)) /\ w'.cell? ⟨w.heap.size + 1, 0, none⟩ = some (.string (RS bx)) /\ w'.cell? ⟨w.heap.size + 2, 1, none⟩ = some (.string (RS cy)))
  (first | exact ⟨a0, a1, b0, c1⟩ | exact ⟨p_1_0, p_1_1, p_1_2, p_1_3⟩ | exact ⟨p_2_0, p_2_1, p_2_2, p_2_3⟩ | exact ⟨p_3_0, p_3_1, p_3_2, p_3_3⟩)
  (first
  | (go_at_call 42; refine (ratMul_any (bx - ax) (cy - ay) (2 * k + 1) (by omega) (by omega) HS1.out HS2.out _ pg2).mono ?_; rintro e pw3 ⟨_, rfl, rfl, pb3⟩
     have p_3_0 := zct pb3 p_2_0;have p_3_1 := zct pb3 p_2_1;have p_3_2 := zct pb3 p_2_2;have p_3_3 := zct pb3 p_2_3;have ps3 := pb3.size;have pg3 := pg2.below pb3)
  | (go_at_call 32; refine (ratSub_any cy ay k hk (by omega) HC.out.2 HA.out.2 _ pg1).mono ?_; rintro e pw2 ⟨_, rfl, rfl, pb2⟩
     have p_2_0 := zct pb2 p_1_0;have p_2_1 := zct pb2 p_1_1;have p_2_2 := zct pb2 p_1_2;have p_2_3 := zct pb2 p_1_3;have ps2 := pb2.size;have pg2 := pg1.below pb2)
  | (go_at_call 32; refine (ratSub_any bx ax k hk (by omega) HB.out.1 HA.out.1 _ hgd).mono ?_; rintro e pw1 ⟨_, rfl, rfl, pb1⟩
     have p_1_0 := zct pb1 a0;have p_1_1 := zct pb1 a1;have p_1_2 := zct pb1 b0;have p_1_3 := zct pb1 c1;have ps1 : W.heap.size <= pw1.heap.size := pb1.size;have pg1 := hgd.below pb1))
 have pB : Below W.heap.size W pw3 := zbt (zbt (zbt (below_drewN W 1) pb1) pb2) pb3;have hbW3 := hbW.trans (pB.mono hbW.size);have d0 := zcq pB (by show w.heap.size < W.heap.size; omega) a0;have d1 := zcq pB (by show w.heap.size < W.heap.size; omega) a1;have d2 := zcq pB (by show w.heap.size + 1 < W.heap.size; omega) b1;have d3 := zcq pB (by show w.heap.size + 2 < W.heap.size; omega) c0;have hsz3 : w.heap.size + 2 < pw3.heap.size := by omega
 have hgd3 : Good pw3.drew := pg3.drewN 1;clear a0 a1 b0 b1 c0 c1 pB pb1 pb2 pb3 hbW p_1_0 p_1_1 p_1_2 p_1_3 p_2_0 p_2_1 p_2_2 p_2_3 p_3_0 p_3_1 p_3_2 p_3_3;go_wp2_with fail;go_region_held3 (fun w' => w'.cell? ⟨w.heap.size, 0, none⟩ = some (.string (RS ax)) /\ w'.cell? ⟨w.heap.size, 1, none⟩ = some (.string (RS ay)) /\ w'.cell? ⟨w.heap.size + 1, 1, none⟩ = some (.string (RS bY)) /\ w'.cell? ⟨w.heap.size + 2, 0, none⟩ = some (.string (RS cx)))
  (first | exact ⟨d0, d1, d2, d3⟩ | exact ⟨q_1_0, q_1_1, q_1_2, q_1_3⟩ | exact ⟨q_2_0, q_2_1, q_2_2, q_2_3⟩ | exact ⟨q_3_0, q_3_1, q_3_2, q_3_3⟩ | exact ⟨q_4_0, q_4_1, q_4_2, q_4_3⟩)
  (first
  | (go_at_call 32; refine (ratSub_any ((bx - ax) * (cy - ay)) ((bY - ay) * (cx - ax)) (4 * k + 2) (by omega) (by omega) HM1.out HM2.out _ qg3).mono ?_; rintro e qw4 ⟨_, rfl, rfl, qb4⟩
     have q_4_0 := zct qb4 q_3_0;have q_4_1 := zct qb4 q_3_1;have q_4_2 := zct qb4 q_3_2;have q_4_3 := zct qb4 q_3_3;have qs4 := qb4.size;have qg4 := qg3.below qb4)
  | (go_at_call 42; refine (ratMul_any (bY - ay) (cx - ax) (2 * k + 1) (by omega) (by omega) HS3.out HS4.out _ qg2).mono ?_; rintro e qw3 ⟨_, rfl, rfl, qb3⟩
     have q_3_0 := zct qb3 q_2_0;have q_3_1 := zct qb3 q_2_1;have q_3_2 := zct qb3 q_2_2;have q_3_3 := zct qb3 q_2_3;have qs3 := qb3.size;have qg3 := qg2.below qb3)
  | (go_at_call 32; refine (ratSub_any cx ax k hk (by omega) HC.out.1 HA.out.1 _ qg1).mono ?_; rintro e qw2 ⟨_, rfl, rfl, qb2⟩
     have q_2_0 := zct qb2 q_1_0;have q_2_1 := zct qb2 q_1_1;have q_2_2 := zct qb2 q_1_2;have q_2_3 := zct qb2 q_1_3;have qs2 := qb2.size;have qg2 := qg1.below qb2)
  | (go_at_call 32; refine (ratSub_any bY ay k hk (by omega) HB.out.2 HA.out.2 _ hgd3).mono ?_; rintro e qw1 ⟨_, rfl, rfl, qb1⟩
     have q_1_0 := zct qb1 d0;have q_1_1 := zct qb1 d1;have q_1_2 := zct qb1 d2;have q_1_3 := zct qb1 d3;have qs1 : pw3.heap.size <= qw1.heap.size := qb1.size;have qg1 := hgd3.below qb1))
 have qB : Below pw3.heap.size pw3 qw4 := zbt (zbt (zbt (zbt (below_drewN pw3 1) qb1) qb2) qb3) qb4;go_wp2_with fail;go_ret;exact ⟨_, rfl, rfl, hbW3.trans (qB.mono hbW3.size)⟩
theorem turn_any (a b c : PtQ) (k : Nat) (hk : 0 < k) (hk2 : k <= 2000) (ha : SzP k a) (hb : SzP k b) (hc : SzP k c) (w : World) (hg : Good w) :
 Calls Tryz.prog 138 #[VP a, VP b, VP c] w (Ret (fun r _ => r = .int .i64 (turnZ a b c)) w) := by
 obtain ⟨W, hW, ⟨a0, a1⟩, ⟨b0, b1⟩, ⟨c0, c1⟩, hbW, hsz⟩ := three_boxes w a b c 63;have hgW := hg.below hbW;have HA := Lib.hid ha;have HB := Lib.hid hb;have HC := Lib.hid hc;have HW := Lib.hid hW;have HT : Hid ((areaQ a b c).num.sign = turnZ a b c) := rfl;clear hW ha hb hc;have HAR : Hid (Calls Tryz.prog 178 #[.agg #[.string (RS a.1), .string (RS a.2)], .agg #[.string (RS b.1), .string (RS b.2)], .agg #[.string (RS c.1), .string (RS c.2)]] W (Ret (fun r _ => r = .string (RS (areaQ a b c))) W)) := area_any a b c k hk hk2 HA.out HB.out HC.out W hgW;unfold VP;obtain ⟨ax, ay⟩ := a;obtain ⟨bx, bY⟩ := b;obtain ⟨cx, cy⟩ := c;dsimp only at *;go_enter Tryz.func138, Tryz.ntmps138;go_upto_region 1 with fail;rw [<- HW.out];go_wp2_with fail;refine HAR.out.mono ?_;rintro e w1 ⟨_, rfl, rfl, hb1⟩;go_wp2_with fail;refine ((ratSign_any _ _).mono fun _ _ h => h.ret).mono ?_;rintro e w2 ⟨_, rfl, rfl, hb2⟩;rw [HT.out];go_wp2_with fail;go_ret;exact ⟨_, rfl, rfl, (hbW.trans (hb1.mono hbW.size)).trans (hb2.mono (by have := hbW.size; have := hb1.size; omega))⟩
end Go.Proofs.YtgdpoankaojklaaGreatDoor
namespace Go.Proofs.YtgdpoankaojklaaGreatDoor
open Go.RowKit Go.Maps
def VE (s : Edge) : Value := .agg #[.int .i64 s.1, .int .i64 s.2]
abbrev PtS := ByteArray × ByteArray
def VS (p : PtS) : Value := .agg #[.string p.1, .string p.2]
theorem laid_all : laidOutB Tryz.prog = true := by kernel_rfl
theorem lawE : Keyed Tryz.prog 164 := Keyed.of_law (deep_law_laid (m := 3) laid_all (by decide) (Nat.le_of_ble_eq_true (by kernel_rfl)) (by kernel_rfl) (by kernel_rfl))
theorem lawP : Keyed Tryz.prog 63 := Keyed.of_law (deep_law_laid (m := 3) laid_all (by decide) (Nat.le_of_ble_eq_true (by kernel_rfl)) (by kernel_rfl) (by kernel_rfl))
theorem lawI : Keyed Tryz.prog 3 := int_keyed (q := .i64) (by kernel_rfl)
noncomputable def kE (s : Edge) : Lit := (keyOf Tryz.prog 164 (VE s)).getD (.bool false)
noncomputable def kP (p : PtS) : Lit := (keyOf Tryz.prog 63 (VS p)).getD (.bool false)
def kI (n : Int) : Lit := .int .i64 n
def InI (n : Int) : Prop := -9223372036854775808 <= n /\ n <= 9223372036854775807
theorem wfI {n : Int} (h : InI n) : (Lit.int .i64 n).wf = true := WalkArith.wf_i64 h
theorem keyI {n : Int} (h : InI n) : keyOf Tryz.prog 3 (.int .i64 n) = some (kI n) := keyOf_int_mk (by kernel_rfl) (wfI h)
theorem keyOf_pair {P : Program} {k e m : Nat} (hm : P.types.size = m + 2) (u1 : P.underlying k = some (.array 2 e)) (u2 : P.underlying e = some (.int .i64)) (c1 : P.cellsOf k = 2) (c2 : P.cellsOf e = 1) (k1 : P.keyType k = true)
 {a b : Int} (w1 : (Lit.int .i64 a).wf = true) (w2 : (Lit.int .i64 b).wf = true) : (keyOf P k (.agg #[.int .i64 a, .int .i64 b])).isSome := by
 unfold keyOf;simp [u1, k1, Value.formed, c1, hm, Program.keyLits, Value.cells, List.range_succ, c2, u2, w1, w2]
theorem keyOf_strs {P : Program} {k e m : Nat} {f0 f1 : Field} (hm : P.types.size = m + 2) (u1 : P.underlying k = some (.struct #[f0, f1])) (u2 : P.underlying e = some .string) (c1 : P.cellsOf k = 2) (c2 : P.cellsOf e = 1) (k1 : P.keyType k = true)
 (t0 : f0.type = e) (t1 : f1.type = e) (o0 : f0.offset = 0) (o1 : f1.offset = 1) (n0 : (f0.name != "_") = true) (n1 : (f1.name != "_") = true)
 {a b : ByteArray} (w1 : a.size <= maxLen) (w2 : b.size <= maxLen) : (keyOf P k (.agg #[.string a, .string b])).isSome := by
 unfold keyOf;have n0' : ¬ f0.name = "_" := by simpa using n0
 have n1' : ¬ f1.name = "_" := by simpa using n1
 simp [u1, k1, Value.formed, c1, hm, Program.keyLits, Value.cells, c2, u2, w1, w2, t0, t1, o0, o1, n0', n1']
theorem big_types : ∃ m, (Tryz.prog).types.size = m + 2 := ⟨(Tryz.prog).types.size - 2, by
 have : 2 <= (Tryz.prog).types.size := Nat.le_of_ble_eq_true (by kernel_rfl);omega⟩
theorem keyE {s : Edge} (h1 : InI s.1) (h2 : InI s.2) : keyOf Tryz.prog 164 (VE s) = some (kE s) := by
 obtain ⟨m, hm⟩ := big_types;have : (keyOf Tryz.prog 164 (VE s)).isSome := keyOf_pair hm (by kernel_rfl) (e := 3) (by kernel_rfl) (by kernel_rfl) (by kernel_rfl) (by kernel_rfl) (wfI h1) (wfI h2);unfold kE;cases h : keyOf Tryz.prog 164 (VE s) with
 | none => rw [h] at this; cases this
 | some l => rfl
theorem keyP {p : PtS} (h1 : p.1.size <= maxLen) (h2 : p.2.size <= maxLen) : keyOf Tryz.prog 63 (VS p) = some (kP p) := by
 obtain ⟨m, hm⟩ := big_types;have : (keyOf Tryz.prog 63 (VS p)).isSome := keyOf_strs hm (e := 57) (f0 := ⟨ "X", 57, 0, false, "", "", 0⟩) (f1 := ⟨ "Y", 57, 1, false, "", "", 16⟩) (by kernel_rfl) (by kernel_rfl) (by kernel_rfl) (by kernel_rfl) (by kernel_rfl) rfl rfl rfl rfl (by decide) (by decide) h1 h2;unfold kP;cases h : keyOf Tryz.prog 63 (VS p) with
 | none => rw [h] at this; cases this
 | some l => rfl
theorem kE_inj {s t : Edge} (h1 : InI s.1) (h2 : InI s.2) (h3 : InI t.1) (h4 : InI t.2) (h : kE s = kE t) : s = t := by
 have a := keyE h1 h2;have b := keyE h3 h4;rw [h] at a;have := lawE.inj a b;unfold VE at this;simp at this;exact Prod.ext this.1 this.2
theorem kI_inj {a b : Int} (h : kI a = kI b) : a = b := by unfold kI at h; cases h; rfl
theorem distL_snoc {α : Type} [DecidableEq α] (l : List α) (x : α) : distL (l ++ [x]) = addNew (distL l) x := by simp [distL]
theorem mem_foldl_addNew {α : Type} [DecidableEq α] (x : α) : ∀ (l acc : List α), x ∈ l.foldl addNew acc ↔ x ∈ acc \/ x ∈ l
 | [], acc => by simp
 | y :: l, acc => by
   rw [List.foldl_cons, mem_foldl_addNew x l];unfold addNew;split
   ·rename_i h
    constructor
    ·rintro (h1 | h1)
     ·exact .inl h1
     ·exact .inr (List.mem_cons_of_mem _ h1)
    ·rintro (h1 | h1)
     ·exact .inl h1
     ·rcases List.mem_cons.1 h1 with rfl | h1
      ·exact .inl h
      ·exact .inr h1
   ·rw [List.mem_append, List.mem_singleton, List.mem_cons, or_assoc]
theorem mem_distL {α : Type} [DecidableEq α] {x : α} {l : List α} : x ∈ distL l ↔ x ∈ l := by
 unfold distL; rw [mem_foldl_addNew]; simp
structure KeyView (α : Type) (K : Nat) where
 val : α -> Value
 lit : α -> Lit
 In : α -> Prop
 law : Keyed Tryz.prog K
 key : ∀ {s}, In s -> keyOf Tryz.prog K (val s) = some (lit s)
 inj : ∀ {s t}, In s -> In t -> lit s = lit t -> s = t
def MapL {α β : Type} {K : Nat} (V : KeyView α K) (E : Nat) (ev : β -> Lit) (w : World) (b n : Nat) (D : DataW Unit) (L : List (α × β)) : Prop :=
 w.ownsMap Tryz.prog K (plainElem Tryz.prog E) b n D /\ (∀ s, V.In s -> (has D (V.lit s) = true ↔ s ∈ L.map (·.1))) /\
 (∀ s i, (s, i) ∈ L -> V.In s /\ ∀ z, D.atKey (V.lit s) z = .lit (ev i)) /\ (∀ k, has D k = true -> ∃ s, V.In s /\ k = V.lit s)
section
variable {α β : Type} {K E : Nat} {V : KeyView α K} {ev : β -> Lit} {w w' : World} {b n : Nat} {D : DataW Unit} {L : List (α × β)}
theorem MapL.made (w : World) (V : KeyView α K) (E : Nat) (ev : β -> Lit) : MapL V E ev (w.alloc (.map #[] 0)) w.heap.size 0 (.map []) ([] : List (α × β)) :=
 ⟨World.ownsMap_made _ _ _ _, fun s _ => (by simp [Maps.has]), fun s i h => (by cases h), fun k h => (by simp [Maps.has] at h)⟩
theorem MapL.owns (h : MapL V E ev w b n D L) : w.ownsMap Tryz.prog K (plainElem Tryz.prog E) b n D := h.1
theorem MapL.to (h : MapL V E ev w b n D L) {n' : Nat} (hw : w'.ownsMap Tryz.prog K (plainElem Tryz.prog E) b n' D) : MapL V E ev w' b n' D L := ⟨hw, h.2⟩
theorem MapL.kept {row : Option Nat} (h : MapL V E ev w b n D L) (hg : w.grownBy w' row) (hne : some b ≠ row) : MapL V E ev w' b n D L := h.to (h.1.kept hg hne)
theorem MapL.below {m : Nat} (h : MapL V E ev w b n D L) (hb : Below m w w') (hm : b < m) : MapL V E ev w' b n D L := by
 obtain ⟨⟨es, clock, hh, F, hs, hD⟩, hr⟩ := h;exact ⟨⟨es, clock, (hb.block b hm).trans hh, F, hs, hD⟩, hr⟩
theorem MapL.mono (h : MapL V E ev w b n D L) {n' : Nat} (hn : n <= n') : MapL V E ev w b n' D L := h.to (h.1.mono hn)
theorem MapL.has_iff (h : MapL V E ev w b n D L) {s : α} (hs : V.In s) : has D (V.lit s) = true ↔ s ∈ L.map (·.1) := h.2.1 s hs
theorem MapL.at (h : MapL V E ev w b n D L) {s : α} {i : β} (hs : (s, i) ∈ L) (z : DataW Unit) : D.atKey (V.lit s) z = .lit (ev i) := (h.2.2.1 s i hs).2 z
theorem MapL.not_at (h : MapL V E ev w b n D L) {s : α} (hs : V.In s) (hn : s ∉ L.map (·.1)) (z : DataW Unit) : D.atKey (V.lit s) z = z :=
 atKey_of_not_has (by cases hh : has D (V.lit s); rfl; exact absurd ((h.has_iff hs).1 hh) hn) z
theorem MapL.put (h : MapL V E ev w b n D L) {s : α} {i : β} (hs : V.In s) (hnew : ∀ j, (s, j) ∈ L -> ev j = ev i) {n' : Nat} (hw : w'.ownsMap Tryz.prog K (plainElem Tryz.prog E) b n' (D.put (V.lit s) (.lit (ev i)))) :
 MapL V E ev w' b n' (D.put (V.lit s) (.lit (ev i))) (L ++ [(s, i)]) := by
 have hD : IsMap D := (h.1.tidy V.law).isMap;have hk : WideAt.IsKeyLit (V.lit s) := V.law.key (V.key hs);refine ⟨hw, fun t ht => ?_, fun t j htj => ?_, fun k hk' => ?_⟩
 ·by_cases e : t = s
  ·subst e; simp [has_put_same hD hk]
  ·rw [has_put_other (fun e' => e (V.inj ht hs e')), h.has_iff ht]
   simp [e]
 ·rcases List.mem_append.1 htj with h1 | h1
  ·obtain ⟨hIn, hat⟩ := h.2.2.1 t j h1
   refine ⟨hIn, fun z => ?_⟩;by_cases e : t = s
   ·subst e
    rw [atKey_put_same hD hk, hnew j h1]
   ·rw [atKey_put_other (fun e' => e (V.inj hIn hs e')), hat]
  ·rw [List.mem_singleton] at h1
   cases h1;exact ⟨hs, fun z => atKey_put_same hD hk _ _⟩
 ·by_cases e : k = V.lit s
  ·exact ⟨s, hs, e⟩
  ·rw [has_put_other e] at hk'
   exact h.2.2.2 k hk'
theorem MapL.size_put (h : MapL V E ev w b n D L) [DecidableEq α] {s : α} (hs : V.In s) (d : DataW Unit) (hz : size D = (distL (L.map (·.1))).length) :
 size (D.put (V.lit s) d) = (distL (L.map (·.1) ++ [s])).length := by
 rw [Maps.size_put (h.1.tidy V.law), distL_snoc, hz];unfold addNew;cases hh : has D (V.lit s)
 ·have : s ∉ distL (L.map (·.1)) := fun hm => by
   have := (h.has_iff hs).2 (mem_distL.1 hm);rw [hh] at this; cases this
  simp [this]
 ·have : s ∈ distL (L.map (·.1)) := mem_distL.2 ((h.has_iff hs).1 hh)
  simp [this]
end
theorem plainElem_bool_inv {H : Type} {P : Program} {e : TypeId} (he : P.underlying e = some .bool) {v : Value} {z : DataW H × List MemPlace} (h : plainElem P e v = some z) : ∃ a, v = .bool a /\ z = (.lit (.bool a), []) := by
 unfold plainElem at h;rw [he] at h;cases v <;> simp at h;exact ⟨_, rfl, h.symm⟩
theorem wpList_lookup_own_bool {H : Type} {P : Program} (w : World) {ops : Array Oper} {rest : List Oper} {o : Oper} {a : Act} {Q : Exit -> Act -> World -> Prop}
 (hg : o.guard = none) (m x : Operand) (t : TypeId) (hop : o.op = Op.lookup t m x false)
 (k e : TypeId) (K : Keyed P k) (ht : P.underlying t = some (.map k e)) (he : P.underlying e = some .bool) (hz : (zeroValue e).run P w = .ok (.bool false) w) (b n : Nat) (D : DataW H)
 (hm : a.eval m = .map (some b)) (hown : w.ownsMap P k (plainElem P e) b n D) (key : Value) (kl : Lit) (hx : a.eval x = key) (hkey : keyOf P k key = some kl)
 (hK : ∀ c : Bool, D.atKey kl (.lit (.bool false)) = .lit (.bool c) -> wpList P ops Q rest (a.put o.dst (.bool c)) w) :
 wpList P ops Q (o :: rest) a w := by
 refine wpList_plain hg fun K' hK' => ?_;obtain ⟨v, ps, hrun, hv⟩ := hown.lookup K ht hz (plainElem_bool he false) hkey;obtain ⟨c, rfl, hc⟩ := plainElem_bool_inv he hv;simp only [Prod.mk.injEq] at hc;unfold Oper.wp;simp [execOp, hop, hm, hx, hrun, Result.andThen];exact hK' _ _ (hK c hc.1)
def InE (s : Edge) : Prop := InI s.1 /\ InI s.2
def InS (p : PtS) : Prop := p.1.size <= maxLen /\ p.2.size <= maxLen
noncomputable def viewE : KeyView Edge 164 := ⟨VE, kE, InE, lawE, fun h => keyE h.1 h.2, fun h1 h2 => kE_inj h1.1 h1.2 h2.1 h2.2⟩
theorem kP_inj {s t : PtS} (h1 : InS s) (h2 : InS t) (h : kP s = kP t) : s = t := by
 have a := keyP h1.1 h1.2;have b := keyP h2.1 h2.2;rw [h] at a;have := lawP.inj a b;unfold VS at this;simp at this;exact Prod.ext this.1 this.2
noncomputable def viewP : KeyView PtS 63 := ⟨VS, kP, InS, lawP, fun h => keyP h.1 h.2, kP_inj⟩
noncomputable def viewI : KeyView Int 3 := ⟨.int .i64, kI, InI, lawI, fun h => keyI h, fun _ _ h => kI_inj h⟩
theorem zeroI (w : World) : (zeroValue 3).run Tryz.prog w = .ok (.int .i64 0) w := by kernel_rfl
theorem zeroB (w : World) : (zeroValue 4).run Tryz.prog w = .ok (.bool false) w := by kernel_rfl
theorem und_EI : (Tryz.prog).underlying 242 = some (.map 164 3) := by kernel_rfl
theorem und_II : (Tryz.prog).underlying 270 = some (.map 3 3) := by kernel_rfl
theorem und_IB : (Tryz.prog).underlying 245 = some (.map 3 4) := by kernel_rfl
theorem und_PB : (Tryz.prog).underlying 202 = some (.map 63 4) := by kernel_rfl
theorem und_I : (Tryz.prog).underlying 3 = some (.int .i64) := by kernel_rfl
theorem und_B : (Tryz.prog).underlying 4 = some .bool := by kernel_rfl
end Go.Proofs.YtgdpoankaojklaaGreatDoor
namespace Go.Proofs.YtgdpoankaojklaaGreatDoor
open Go.RowKit Go.Shelf Go.Lib
section
variable {F : Fence} {n : Nat} {P : Program} {ops : Array Oper} {Q : Exit -> Act -> World -> Prop} {md : Region.Mode}
theorem wpAnyIn_drawnA {vals : Nat -> Value -> Prop} {a0 : Act} (C : Array Bool -> Act -> World -> Prop) (ht : tidyB ops a0.tmps.size = true)
 (hstep : ∀ listed a w i o, ops[i]? = some o -> listed.getD i true = false -> (∀ e ∈ o.after, Region.binds md e = true -> listed.getD e.on false = true) -> DrawnAt md ops vals a0 listed a -> C listed a w ->
   Region.wanted o (yielded ops a.tmps) = true /\ o.wpIn F n P a w (fun a' w' => ∃ v, vals i v /\ a' = a.put o.dst v /\ C (listed.setIfInBounds i true) (a.put o.dst v) w') Q)
 (hend : ∀ listed a w, (∀ i, i < ops.size -> listed.getD i false = true) -> DrawnAt md ops vals a0 listed a -> C listed a w -> Q .normal a w) :
 ∀ fuel listed a w, (List.range ops.size).countP (fun i => !(listed.getD i false)) <= fuel -> DrawnAt md ops vals a0 listed a -> C listed a w -> wpAnyIn F n P md ops Q fuel listed a w := by
 have hall : ∀ listed a, DrawnAt md ops vals a0 listed a -> Region.ready md ops listed = [] -> ∀ i, i < ops.size -> listed.getD i false = true := by
  intro listed a hD hr i hi
  induction i using Nat.strongRecOn with
  | _ i ih =>
    cases hc : listed.getD i false with
    | true => rfl
    | false =>
      have hmem : i ∈ Region.ready md ops listed := by
       refine mem_ready.2 ⟨?_, ops[i], by simp [hi], ?_⟩
       ·rw [Array.getD_eq_getD_getElem?] at *
        have : i < listed.size := by rw [hD.size]; exact hi
        rw [Array.getElem?_eq_getElem this] at *;exact hc
       ·intro e he _
        have hlt := tidy_edge ht (i := i) (o := ops[i]) (by simp [hi]) e he;exact ih e.on hlt (by omega)
      rw [hr] at hmem;cases hmem
 intro fuel
 induction fuel with
 | zero =>
   intro listed a w hc hD hC;have hcl : ∀ i, i < ops.size -> listed.getD i false = true := by
    intro i hi;have h0 : (List.range ops.size).countP (fun i => !(listed.getD i false)) = 0 := by omega
    have := List.countP_eq_zero.1 h0 i (List.mem_range.2 hi);simpa using this
   refine ⟨?_, hend _ _ _ hcl hD hC⟩;apply List.eq_nil_iff_forall_not_mem.2;intro i hi;obtain ⟨h1, o, ho, _⟩ := mem_ready.1 hi;have h2 := hcl i (Array.getElem?_eq_some_iff.1 ho).1;have hs : i < listed.size := by rw [hD.size]; exact (Array.getElem?_eq_some_iff.1 ho).1
   rw [Array.getD_eq_getD_getElem?, Array.getElem?_eq_getElem hs] at h1 h2;simp only [Option.getD_some] at h1 h2;rw [h1] at h2; cases h2
 | succ fuel ih =>
   intro listed a w hc hD hC;refine ⟨fun hr => hend _ _ _ (hall _ _ hD hr) hD hC, fun i hi => ?_⟩;obtain ⟨h1, o, ho, hdep⟩ := mem_ready.1 hi;obtain ⟨hw, hs⟩ := hstep listed a w i o ho h1 hdep hD hC;unfold wpOpIn;simp only [ho, hw, if_true];refine Oper.wpIn_mono ?_ hs;rintro a' w' ⟨v, hv, rfl, hC'⟩;refine ih _ _ _ ?_ (hD.step ht ho hdep hv) hC';have hlt : i < ops.size := (Array.getElem?_eq_some_iff.1 ho).1;have hls : i < listed.size := by rw [hD.size]; exact hlt
   have := countP_dec (fun j => !(listed.getD j false)) (fun j => !((listed.setIfInBounds i true).getD j false)) (fun x hx => by
    simp only [Bool.not_eq_true'] at *;cases hb : listed.getD x false with
    | false => rfl
    | true => rw [getD_set_mono hb] at hx; cases hx) i (by
      rw [Array.getD_eq_getD_getElem?, Array.getElem?_eq_getElem hls] at *;simp only [Option.getD_some] at *;simp [h1]) (by simp [Array.getD_eq_getD_getElem?, hls]) (List.range ops.size) (List.mem_range.2 hlt)
   omega
theorem wpIn_region_drawnA {id : Nat} {l : List Oper} {a : Act} {w : World} (vals : Nat -> Value -> Prop) (C : Array Bool -> Act -> World -> Prop) (hm : P.follows .mixedOrders = true) (ht : tidyB l.toArray a.tmps.size = true)
 (h0 : C (Array.replicate l.toArray.size false) a w.drew)
 (hstep : ∀ listed a' w' i o, l.toArray[i]? = some o -> listed.getD i true = false -> (∀ e ∈ o.after, Region.binds .any e = true -> listed.getD e.on false = true) -> DrawnAt .any l.toArray vals a listed a' -> C listed a' w' ->
   Region.wanted o (yielded l.toArray a'.tmps) = true /\ o.wpIn F n P a' w' (fun a'' w'' => ∃ v, vals i v /\ a'' = a'.put o.dst v /\ C (listed.setIfInBounds i true) (a'.put o.dst v) w'') Q)
 (hend : ∀ listed a' w', (∀ i, i < l.toArray.size -> listed.getD i false = true) -> DrawnAt .any l.toArray vals a listed a' -> C listed a' w' -> Q .normal a' w') :
 (Code.region id l.toArray true).wpIn F n P Q a w := by
 refine wpIn_region_any hm (wpAnyIn_drawnA (vals := vals) (a0 := a) C ht hstep hend _ _ _ _ ?_ ⟨by simp, ?_, ?_, fun _ _ => rfl, rfl, rfl⟩ h0)
 ·exact Nat.le_trans (List.countP_le_length) (by simp)
 ·intro j oj _ hl; simp [Array.getD_eq_getD_getElem?] at hl
  rcases Nat.lt_or_ge j l.length with h | h <;> simp_all
 ·intro j oj d _ _ hl; simp [Array.getD_eq_getD_getElem?] at hl
  rcases Nat.lt_or_ge j l.length with h | h <;> simp_all
end
end Go.Proofs.YtgdpoankaojklaaGreatDoor
namespace Go.Proofs.YtgdpoankaojklaaGreatDoor
open Go.RowKit Go.Shelf Go.Lib
attribute [local go_sem] Oper.semAt_some
def sideK (t : Tri) (k : Fin 3) : Edge := match k with | 0 => (t.1, t.2.1) | 1 => (t.2.1, t.2.2) | 2 => (t.2.2, t.1)
def encSide (t : Tri) (k : Fin 3) : Array Value := #[.int .i64 (k.val : Int), .agg #[.int .i64 (sideK t k).1, .int .i64 (sideK t k).2]]
def all3 : List (Fin 3) := [0, 1, 2]
def VT (t : Tri) : Value := .agg #[.int .i64 t.1, .int .i64 t.2.1, .int .i64 t.2.2]
theorem sides_any (t : Tri) (w : World) :
 Calls Tryz.prog 214 #[VT t] w fun e w' => e = .returned (.func (.func 243) #[] #[.pointer (some ⟨w.heap.size, 0, none⟩)]) /\ w.alloc (.cells #[.int .i64 t.1, .int .i64 t.2.1, .int .i64 t.2.2] 95) = w' := by
 obtain ⟨x, y, z⟩ := t;unfold VT;go_enter Tryz.func214, Tryz.ntmps214;go_wp2;go_ret;exact ⟨rfl, rfl⟩
theorem list_len {α : Type} {l : List α} {n : Nat} (h : l.length = n + 1) : ∃ a r, l = a :: r /\ r.length = n := by
 cases l with
 | nil => simp at h
 | cons a r => exact ⟨a, r, rfl, by simpa using h⟩
theorem arr21 {tm : Array Value} (h : tm.size = 21) : ∃ x0 x1 x2 x3 x4 x5 x6 x7 x8 x9 x10 x11 x12 x13 x14 x15 x16 x17 x18 x19 x20, tm = #[x0, x1, x2, x3, x4, x5, x6, x7, x8, x9, x10, x11, x12, x13, x14, x15, x16, x17, x18, x19, x20] := by
 obtain ⟨l0⟩ := tm;simp only [List.size_toArray] at h;have g0 : l0.length = 21 := h;clear h;obtain ⟨x0, l1, rfl, g1⟩ := list_len g0;clear g0;obtain ⟨x1, l2, rfl, g2⟩ := list_len g1;clear g1;obtain ⟨x2, l3, rfl, g3⟩ := list_len g2;clear g2;obtain ⟨x3, l4, rfl, g4⟩ := list_len g3;clear g3;obtain ⟨x4, l5, rfl, g5⟩ := list_len g4;clear g4;obtain ⟨x5, l6, rfl, g6⟩ := list_len g5;clear g5;obtain ⟨x6, l7, rfl, g7⟩ := list_len g6;clear g6;obtain ⟨x7, l8, rfl, g8⟩ := list_len g7;clear g7;obtain ⟨x8, l9, rfl, g9⟩ := list_len g8;clear g8;obtain ⟨x9, l10, rfl, g10⟩ := list_len g9;clear g9;obtain ⟨x10, l11, rfl, g11⟩ := list_len g10;clear g10;obtain ⟨x11, l12, rfl, g12⟩ := list_len g11;clear g11;obtain ⟨x12, l13, rfl, g13⟩ := list_len g12;clear g12;obtain ⟨x13, l14, rfl, g14⟩ := list_len g13;clear g13;obtain ⟨x14, l15, rfl, g15⟩ := list_len g14;clear g14;obtain ⟨x15, l16, rfl, g16⟩ := list_len g15;clear g15;obtain ⟨x16, l17, rfl, g17⟩ := list_len g16;clear g16;obtain ⟨x17, l18, rfl, g18⟩ := list_len g17;clear g17;obtain ⟨x18, l19, rfl, g19⟩ := list_len g18;clear g18;obtain ⟨x19, l20, rfl, g20⟩ := list_len g19;clear g19;obtain ⟨x20, l21, rfl, g21⟩ := list_len g20;clear g20;obtain rfl := List.length_eq_zero_iff.1 g21;exact ⟨_, _, _, _, _, _, _, _, _, _, _, _, _, _, _, _, _, _, _, _, _, rfl⟩
theorem wpIn_round {F : Fence} {n : Nat} {P : Program} {Q : Exit -> Act -> World -> Prop} {o : Oper} {a : Act} {w w' : World} {K : Act -> World -> Prop} {l : Nat} {fn : FuncId} {tmps : Array Value} {assign body : Code} (hd : ∀ c, o.op ≠ .defer c)
 (hf : ∀ f, o.about P w a.eval = some f -> F.fn f) (hr : (execOp a.eval o).run P w = .ok (.round l fn tmps assign body) w')
 (hK : (F.depth.isSome = true -> 1 <= n) /\ RoundIn F (n - 1) P l fn tmps assign body w' fun e w'' => ∃ v, e = .returned v /\ K (a.put o.dst v) w'') : o.wpIn F n P a w K Q := by
 refine ⟨hf, ?_⟩;rw [Oper.semAt_eq _ _ _ hd, hr, Oper.uponIn_round];refine ⟨hK.1, hK.2.mono ?_⟩;rintro e w'' ⟨v, rfl, h⟩;exact h
theorem sides1_in (F : Fence) (n : Nat) (h7 : F.fn 243) (hro : F.round = none) (hn : 1 <= n) (l Bs n₀ : Nat) (t : Tri) (J Jx : List (Fin 3) -> World -> Prop)
 (hJd : ∀ pre W, J pre W -> J pre W.drew)
 (hY : ∀ pre x W, J pre W -> pre.length < 3 -> YieldAt F (n - 1) Tryz.prog l (encSide t x) W fun e W' =>
   (e = .returned (.bool true) /\ J (pre ++ [x]) W' /\ KeepAt n₀ Bs W W') \/ (e = .returned (.bool false) /\ Jx (pre ++ [x]) W'))
 (W : World) (hB0 : W.cell? ⟨Bs, 0, none⟩ = some (.int .i64 t.1)) (hB1 : W.cell? ⟨Bs, 1, none⟩ = some (.int .i64 t.2.1)) (hB2 : W.cell? ⟨Bs, 2, none⟩ = some (.int .i64 t.2.2)) (h0 : J [] W) :
 CallsIn F n Tryz.prog 243 #[.func (.yield l) #[] #[], .pointer (some ⟨Bs, 0, none⟩)] W fun e W' => (∃ v, e = .returned v) /\
  ((∃ ys : List (Fin 3), ys = all3 /\ J ys W') \/ (∃ pre, pre <+: all3 /\ Jx pre W')) := by
 refine callsIn_of_wp Tryz.func243 rfl h7 ?_ hro;simp only [Tryz.ntmps243, List.size_toArray, List.length_cons, List.length_nil, Nat.reduceAdd, Nat.reduceSub, Array.replicate_succ, Array.replicate_zero, List.push_toArray, List.append_toArray, List.nil_append, List.cons_append]
 gi_wp2
 gi_loopw [4] (fun i wr => ∃ k : Nat, k <= 3 /\ i = .int .i64 (k : Int) /\ J (all3.take k) wr /\ (wr.cell? ⟨Bs, 0, none⟩ = some (.int .i64 t.1) /\ wr.cell? ⟨Bs, 1, none⟩ = some (.int .i64 t.2.1) /\ wr.cell? ⟨Bs, 2, none⟩ = some (.int .i64 t.2.2)))
  (fun i _ => (3 - RowKit.intOf i).toNat)
 case atStart => exact ⟨0, by omega, rfl, h0, hB0, hB1, hB2⟩
 case round =>
  obtain ⟨k, hk, rfl, hJs, c0, c1, c2⟩ := hrel;by_cases hlt : k < 3
  ·obtain ⟨x, hx⟩ : ∃ x : Fin 3, x = ⟨k, hlt⟩ := ⟨_, rfl⟩
   have hxk : x.val = k := by rw [hx]
   obtain ⟨j, hj, hj3⟩ : ∃ j : Nat, ((k : Int) + 1).tmod 3 = (j : Int) /\ j < 3 := by
    rcases (by omega : k = 0 \/ k = 1 \/ k = 2) with rfl | rfl | rfl
    ·exact ⟨1, by decide, by omega⟩
    ·exact ⟨2, by decide, by omega⟩
    ·exact ⟨0, by decide, by omega⟩
   have cx : wr.cell? ⟨Bs, k, none⟩ = some (.int .i64 (sideK t x).1) := by
    subst hx;rcases (by omega : k = 0 \/ k = 1 \/ k = 2) with rfl | rfl | rfl
    ·exact c0
    ·exact c1
    ·exact c2
   have cy : wr.cell? ⟨Bs, j, none⟩ = some (.int .i64 (sideK t x).2) := by
    subst hx;rcases (by omega : k = 0 \/ k = 1 \/ k = 2) with rfl | rfl | rfl
    ·obtain rfl : j = 1 := by have : ((0 : Nat) : Int) + 1 = 1 := rfl; rw [this] at hj; have h2 : (1 : Int).tmod 3 = 1 := rfl; omega
     exact c1
    ·obtain rfl : j = 2 := by have : ((1 : Nat) : Int) + 1 = 2 := rfl; rw [this] at hj; have h2 : (2 : Int).tmod 3 = 2 := rfl; omega
     exact c2
    ·obtain rfl : j = 0 := by have : ((2 : Nat) : Int) + 1 = 3 := rfl; rw [this] at hj; have h2 : (3 : Int).tmod 3 = 0 := rfl; omega
     exact c0
   have htk : all3.take k ++ [x] = all3.take (k + 1) := by
    subst hx;rcases (by omega : k = 0 \/ k = 1 \/ k = 2) with rfl | rfl | rfl <;> rfl
   have hpl : (all3.take k).length < 3 := by rw [List.length_take]; have : all3.length = 3 := rfl; omega
   obtain ⟨fn, tmps, assign, body, hy, hR⟩ := hY (all3.take k) x wr.drew (hJd _ _ hJs) hpl;dsimp only [encSide] at hy;rw [hxk] at hy;generalize (sideK t x).1 = ev at *;generalize (sideK t x).2 = ew at *;clear hY;have HJ := Lib.hid hj;have HTK := Lib.hid htk;have f1 : (k : Int) < 3 := by omega
   have f2 : (j : Int) < 3 := by omega
   have w1 : IntKind.i64.wrap ((k : Int) + 1) = (k : Int) + 1 := IntWalk.i64_in _ (by omega);have w2 : IntKind.i64.wrap (j : Int) = (j : Int) := IntWalk.i64_in _ (by omega)
   gi_wp2
   refine wpIn_region_drawnA (fun i v => match i with
    | 0 => v = .func (.yield l) #[] #[] | 1 => v = .int .i64 k | 2 => v = .int .i64 k | 3 => v = .pointer (some ⟨Bs, k, none⟩) | 4 => v = .int .i64 ev
    | 5 => v = .int .i64 k | 6 => v = .int .i64 ((k : Int) + 1) | 7 => v = .int .i64 j | 8 => v = .pointer (some ⟨Bs, j, none⟩) | 9 => v = .int .i64 ew
    | 10 => v = .agg #[.int .i64 ev, .int .i64 ew] | 11 => ∃ b, v = .bool b | 12 => ∃ b, v = .bool (!b) | _ => v = undef)
    (fun listed a X => if listed.getD 11 false then ((a.eval (.tmp 18) = .bool true /\ (listed.getD 12 false = true -> a.eval (.tmp 19) = .bool false) /\ J (all3.take k ++ [x]) X /\ KeepAt n₀ Bs wr.drew X) \/ (a.eval (.tmp 18) = .bool false /\ (listed.getD 12 false = true -> a.eval (.tmp 19) = .bool true) /\ Jx (all3.take k ++ [x]) X)) else X = wr.drew)
    (by kernel_rfl) (by kernel_rfl) (by simp) ?_ ?_
   ·intro listed a' X i o ho hk1 hdep hD hC
    have hne := getD_ne listed;have h11 : i < 11 -> listed.getD 11 false = false := fun hi => by
     refine Bool.eq_false_iff.2 fun h => ?_;have hcl := fun j oj (hj : _ = some oj) h e he hb => hD.closed j oj hj h e he hb;have l0 := hcl 11 _ rfl h ⟨0, .data⟩ (by simp) rfl;have l1 := hcl 11 _ rfl h ⟨1, .data⟩ (by simp) rfl;have l10 := hcl 11 _ rfl h ⟨10, .data⟩ (by simp) rfl;have l4 := hcl 10 _ rfl l10 ⟨4, .data⟩ (by simp) rfl;have l9 := hcl 10 _ rfl l10 ⟨9, .data⟩ (by simp) rfl;have l3 := hcl 4 _ rfl l4 ⟨3, .data⟩ (by simp) rfl;have l2 := hcl 3 _ rfl l3 ⟨2, .data⟩ (by simp) rfl;have l8 := hcl 9 _ rfl l9 ⟨8, .data⟩ (by simp) rfl;have l7 := hcl 8 _ rfl l8 ⟨7, .data⟩ (by simp) rfl;have l6 := hcl 7 _ rfl l7 ⟨6, .data⟩ (by simp) rfl;have l5 := hcl 6 _ rfl l6 ⟨5, .data⟩ (by simp) rfl;have hkf := getD_false hk1;rcases i with _|_|_|_|_|_|_|_|_|_|_|i
     all_goals first | omega | (simp_all; done)
    have o0 := hD.old 0 (by intro j oj hj; rcases j with _|_|_|_|_|_|_|_|_|_|_|_|_|j <;> first | (injection hj with hj; subst hj; simp) | exact absurd hj (by simp));have o1 := hD.old 1 (by intro j oj hj; rcases j with _|_|_|_|_|_|_|_|_|_|_|_|_|j <;> first | (injection hj with hj; subst hj; simp) | exact absurd hj (by simp));have o3 := hD.old 3 (by intro j oj hj; rcases j with _|_|_|_|_|_|_|_|_|_|_|_|_|j <;> first | (injection hj with hj; subst hj; simp) | exact absurd hj (by simp));replace o0 : a'.eval (.tmp 0) = .func (.yield l) #[] #[] := o0;replace o1 : a'.eval (.tmp 1) = .pointer (some ⟨Bs, 0, none⟩) := o1;replace o3 : a'.eval (.tmp 3) = .int .i64 k := o3;rcases i with _|_|_|_|_|_|_|_|_|_|_|_|_|i
    ·injection ho with ho; subst ho
     have hl11 := h11 (by decide);rw [if_neg (by rw [hl11]; simp)] at hC;refine ⟨rfl, wpIn_value (w' := X) (by intro c hc; cases hc) (by intro c hc; cases hc) ?_ ⟨_, rfl, rfl, by rw [hne 0 11 (by omega), if_neg (by rw [hl11]; simp)]; exact hC⟩⟩;subst hC;clear hdep hD hne h11;have ec1 : a'.eval (.const (.int .i64 1)) = .int .i64 1 := rfl;have ec3 : a'.eval (.const (.int .i64 3)) = .int .i64 3 := rfl;generalize a'.eval = ρ at *;simp [execOp, go_sem, *]
    ·injection ho with ho; subst ho
     have hl11 := h11 (by decide);rw [if_neg (by rw [hl11]; simp)] at hC;refine ⟨rfl, wpIn_value (w' := X) (by intro c hc; cases hc) (by intro c hc; cases hc) ?_ ⟨_, rfl, rfl, by rw [hne 1 11 (by omega), if_neg (by rw [hl11]; simp)]; exact hC⟩⟩;subst hC;clear hdep hD hne h11;have ec1 : a'.eval (.const (.int .i64 1)) = .int .i64 1 := rfl;have ec3 : a'.eval (.const (.int .i64 3)) = .int .i64 3 := rfl;generalize a'.eval = ρ at *;simp [execOp, go_sem, *]
    ·injection ho with ho; subst ho
     have hl11 := h11 (by decide);rw [if_neg (by rw [hl11]; simp)] at hC;refine ⟨rfl, wpIn_value (w' := X) (by intro c hc; cases hc) (by intro c hc; cases hc) ?_ ⟨_, rfl, rfl, by rw [hne 2 11 (by omega), if_neg (by rw [hl11]; simp)]; exact hC⟩⟩;subst hC;clear hdep hD hne h11;have ec1 : a'.eval (.const (.int .i64 1)) = .int .i64 1 := rfl;have ec3 : a'.eval (.const (.int .i64 3)) = .int .i64 3 := rfl;generalize a'.eval = ρ at *;simp [execOp, go_sem, *]
    ·injection ho with ho; subst ho
     have e9 : a'.eval (.tmp 9) = .int .i64 k := hD.has 2 _ 9 rfl rfl (hdep ⟨2, .data⟩ (by simp) rfl);have hl11 := h11 (by decide);rw [if_neg (by rw [hl11]; simp)] at hC;refine ⟨rfl, wpIn_value (w' := X) (by intro c hc; cases hc) (by intro c hc; cases hc) ?_ ⟨_, rfl, rfl, by rw [hne 3 11 (by omega), if_neg (by rw [hl11]; simp)]; exact hC⟩⟩;subst hC;clear hdep hD hne h11;have ec1 : a'.eval (.const (.int .i64 1)) = .int .i64 1 := rfl;have ec3 : a'.eval (.const (.int .i64 3)) = .int .i64 3 := rfl;generalize a'.eval = ρ at *;simp [execOp, go_sem, *]
    ·injection ho with ho; subst ho
     have e10 : a'.eval (.tmp 10) = .pointer (some ⟨Bs, k, none⟩) := hD.has 3 _ 10 rfl rfl (hdep ⟨3, .data⟩ (by simp) rfl);have hl11 := h11 (by decide);rw [if_neg (by rw [hl11]; simp)] at hC;refine ⟨rfl, wpIn_value (w' := X) (by intro c hc; cases hc) (by intro c hc; cases hc) ?_ ⟨_, rfl, rfl, by rw [hne 4 11 (by omega), if_neg (by rw [hl11]; simp)]; exact hC⟩⟩;subst hC;clear hdep hD hne h11;have ec1 : a'.eval (.const (.int .i64 1)) = .int .i64 1 := rfl;have ec3 : a'.eval (.const (.int .i64 3)) = .int .i64 3 := rfl;generalize a'.eval = ρ at *;simp [execOp, go_sem, *]
    ·injection ho with ho; subst ho
     have hl11 := h11 (by decide);rw [if_neg (by rw [hl11]; simp)] at hC;refine ⟨rfl, wpIn_value (w' := X) (by intro c hc; cases hc) (by intro c hc; cases hc) ?_ ⟨_, rfl, rfl, by rw [hne 5 11 (by omega), if_neg (by rw [hl11]; simp)]; exact hC⟩⟩;subst hC;clear hdep hD hne h11;have ec1 : a'.eval (.const (.int .i64 1)) = .int .i64 1 := rfl;have ec3 : a'.eval (.const (.int .i64 3)) = .int .i64 3 := rfl;generalize a'.eval = ρ at *;simp [execOp, go_sem, *]
    ·injection ho with ho; subst ho
     have e12 : a'.eval (.tmp 12) = .int .i64 k := hD.has 5 _ 12 rfl rfl (hdep ⟨5, .data⟩ (by simp) rfl);have hl11 := h11 (by decide);rw [if_neg (by rw [hl11]; simp)] at hC;refine ⟨rfl, wpIn_value (w' := X) (by intro c hc; cases hc) (by intro c hc; cases hc) ?_ ⟨_, rfl, rfl, by rw [hne 6 11 (by omega), if_neg (by rw [hl11]; simp)]; exact hC⟩⟩;subst hC;clear hdep hD hne h11;have ec1 : a'.eval (.const (.int .i64 1)) = .int .i64 1 := rfl;have ec3 : a'.eval (.const (.int .i64 3)) = .int .i64 3 := rfl;generalize a'.eval = ρ at *;simp [execOp, go_sem, *]
    ·injection ho with ho; subst ho
     have e13 : a'.eval (.tmp 13) = .int .i64 ((k : Int) + 1) := hD.has 6 _ 13 rfl rfl (hdep ⟨6, .data⟩ (by simp) rfl);have hl11 := h11 (by decide);rw [if_neg (by rw [hl11]; simp)] at hC;refine ⟨rfl, wpIn_value (w' := X) (by intro c hc; cases hc) (by intro c hc; cases hc) ?_ ⟨_, rfl, rfl, by rw [hne 7 11 (by omega), if_neg (by rw [hl11]; simp)]; exact hC⟩⟩;subst hC;clear hdep hD hne h11;have ec1 : a'.eval (.const (.int .i64 1)) = .int .i64 1 := rfl;have ec3 : a'.eval (.const (.int .i64 3)) = .int .i64 3 := rfl;generalize a'.eval = ρ at *;simp [execOp, go_sem, *]
    ·injection ho with ho; subst ho
     have e14 : a'.eval (.tmp 14) = .int .i64 j := hD.has 7 _ 14 rfl rfl (hdep ⟨7, .data⟩ (by simp) rfl);have hl11 := h11 (by decide);rw [if_neg (by rw [hl11]; simp)] at hC;refine ⟨rfl, wpIn_value (w' := X) (by intro c hc; cases hc) (by intro c hc; cases hc) ?_ ⟨_, rfl, rfl, by rw [hne 8 11 (by omega), if_neg (by rw [hl11]; simp)]; exact hC⟩⟩;subst hC;clear hdep hD hne h11;have ec1 : a'.eval (.const (.int .i64 1)) = .int .i64 1 := rfl;have ec3 : a'.eval (.const (.int .i64 3)) = .int .i64 3 := rfl;generalize a'.eval = ρ at *;simp [execOp, go_sem, *]
    ·injection ho with ho; subst ho
     have e15 : a'.eval (.tmp 15) = .pointer (some ⟨Bs, j, none⟩) := hD.has 8 _ 15 rfl rfl (hdep ⟨8, .data⟩ (by simp) rfl);have hl11 := h11 (by decide);rw [if_neg (by rw [hl11]; simp)] at hC;refine ⟨rfl, wpIn_value (w' := X) (by intro c hc; cases hc) (by intro c hc; cases hc) ?_ ⟨_, rfl, rfl, by rw [hne 9 11 (by omega), if_neg (by rw [hl11]; simp)]; exact hC⟩⟩;subst hC;clear hdep hD hne h11;have ec1 : a'.eval (.const (.int .i64 1)) = .int .i64 1 := rfl;have ec3 : a'.eval (.const (.int .i64 3)) = .int .i64 3 := rfl;generalize a'.eval = ρ at *;simp [execOp, go_sem, *]
    ·injection ho with ho; subst ho
     have e11 : a'.eval (.tmp 11) = .int .i64 ev := hD.has 4 _ 11 rfl rfl (hdep ⟨4, .data⟩ (by simp) rfl);have e16 : a'.eval (.tmp 16) = .int .i64 ew := hD.has 9 _ 16 rfl rfl (hdep ⟨9, .data⟩ (by simp) rfl);have hl11 := h11 (by decide);rw [if_neg (by rw [hl11]; simp)] at hC;refine ⟨rfl, wpIn_value (w' := X) (by intro c hc; cases hc) (by intro c hc; cases hc) ?_ ⟨_, rfl, rfl, by rw [hne 10 11 (by omega), if_neg (by rw [hl11]; simp)]; exact hC⟩⟩;subst hC;clear hdep hD hne h11;have ec1 : a'.eval (.const (.int .i64 1)) = .int .i64 1 := rfl;have ec3 : a'.eval (.const (.int .i64 3)) = .int .i64 3 := rfl;generalize a'.eval = ρ at *;simp [execOp, go_sem, *]
    ·injection ho with ho; subst ho
     have e7 : a'.eval (.tmp 7) = .func (.yield l) #[] #[] := hD.has 0 _ 7 rfl rfl (hdep ⟨0, .data⟩ (by simp) rfl);have e8 : a'.eval (.tmp 8) = .int .i64 k := hD.has 1 _ 8 rfl rfl (hdep ⟨1, .data⟩ (by simp) rfl);have e17 : a'.eval (.tmp 17) = .agg #[.int .i64 ev, .int .i64 ew] := hD.has 10 _ 17 rfl rfl (hdep ⟨10, .data⟩ (by simp) rfl);have hl11 := getD_false hk1;rw [if_neg (by rw [hl11]; simp)] at hC;subst hC;have hn12 : (listed.setIfInBounds 11 true).getD 12 false = false := by
      rw [hne 11 12 (by omega)];refine Bool.eq_false_iff.2 fun h => ?_;have := hD.closed 12 _ rfl h ⟨11, .data⟩ (by simp) rfl;rw [hl11] at this; cases this
     refine ⟨rfl, ?_⟩;refine wpIn_round (fn := fn) (tmps := tmps) (assign := assign) (body := body) (l := l) (w' := wr.drew) (by intro c hc; cases hc) ?_ ?_ ?_
     ·intro f hf
      clear hdep hD h11 hne;generalize a'.eval = ρ at *;simp [Oper.about, resolve, go_sem, e7, Target.leads] at hf
     ·clear hdep hD
      generalize a'.eval = ρ at *;simp [execOp, go_sem, *]
     ·refine ⟨fun _ => hn, hR.mono ?_⟩
      rintro e W3 (⟨rfl, hJ3, hk3⟩ | ⟨rfl, hJx3⟩)
      ·exact ⟨_, rfl, _, ⟨true, rfl⟩, rfl, by rw [if_pos (getD_now hk1)]; exact .inl ⟨eval_put_self (by rw [hD.tsize]; simp), fun h => (by rw [hn12] at h; cases h), hJ3, hk3⟩⟩
      ·exact ⟨_, rfl, _, ⟨false, rfl⟩, rfl, by rw [if_pos (getD_now hk1)]; exact .inr ⟨eval_put_self (by rw [hD.tsize]; simp), fun h => (by rw [hn12] at h; cases h), hJx3⟩⟩
    ·injection ho with ho; subst ho
     have e18 : ∃ b, a'.eval (.tmp 18) = .bool b := hD.has 11 _ 18 rfl rfl (hdep ⟨11, .data⟩ (by simp) rfl);have hl11 := hdep ⟨11, .data⟩ (by simp) rfl;rw [if_pos hl11] at hC;rcases hC with ⟨e18, _, hC⟩ | ⟨e18, _, hC⟩
     ·have ep : (a'.put (some 19) (.bool false)).eval (.tmp 18) = .bool true := (eval_put_other (by decide)).trans e18
      have eq : (a'.put (some 19) (.bool false)).eval (.tmp 19) = .bool false := eval_put_self (by rw [hD.tsize]; simp);refine ⟨rfl, wpIn_value (w' := X) (v := .bool false) (by intro c hc; cases hc) (by intro c hc; cases hc) ?_ ⟨_, ⟨true, rfl⟩, rfl, by rw [hne 12 11 (by omega), if_pos hl11]; exact .inl ⟨ep, fun _ => eq, hC⟩⟩⟩;clear hdep hD hC hne ep eq h11;generalize a'.eval = ρ at *;simp [execOp, go_sem, *]
     ·have ep : (a'.put (some 19) (.bool true)).eval (.tmp 18) = .bool false := (eval_put_other (by decide)).trans e18
      have eq : (a'.put (some 19) (.bool true)).eval (.tmp 19) = .bool true := eval_put_self (by rw [hD.tsize]; simp);refine ⟨rfl, wpIn_value (w' := X) (v := .bool true) (by intro c hc; cases hc) (by intro c hc; cases hc) ?_ ⟨_, ⟨false, rfl⟩, rfl, by rw [hne 12 11 (by omega), if_pos hl11]; exact .inr ⟨ep, fun _ => eq, hC⟩⟩⟩;clear hdep hD hC hne ep eq h11;generalize a'.eval = ρ at *;simp [execOp, go_sem, *]
    ·exact absurd ho (by simp)
   ·intro listed a' X hall hD hC
    rw [if_pos (hall 11 (by simp))] at hC;have hdf := hD.defers;have hts := hD.tsize;have o0 := hD.old 0 (by intro j oj hj; rcases j with _|_|_|_|_|_|_|_|_|_|_|_|_|j <;> first | (injection hj with hj; subst hj; simp) | exact absurd hj (by simp));have o1 := hD.old 1 (by intro j oj hj; rcases j with _|_|_|_|_|_|_|_|_|_|_|_|_|j <;> first | (injection hj with hj; subst hj; simp) | exact absurd hj (by simp));have o2 := hD.old 2 (by intro j oj hj; rcases j with _|_|_|_|_|_|_|_|_|_|_|_|_|j <;> first | (injection hj with hj; subst hj; simp) | exact absurd hj (by simp));have o4 := hD.old 4 (by intro j oj hj; rcases j with _|_|_|_|_|_|_|_|_|_|_|_|_|j <;> first | (injection hj with hj; subst hj; simp) | exact absurd hj (by simp));have h12 := hall 12 (by simp);clear hD hall;obtain ⟨tm, df⟩ := a';simp only at hdf hts;subst hdf;obtain ⟨x0, x1, x2, x3, x4, x5, x6, x7, x8, x9, x10, x11, x12, x13, x14, x15, x16, x17, x18, x19, x20, rfl⟩ := arr21 hts;rw [Array.getD_eq_getD_getElem?] at h12;simp [Act.eval] at o0 o1 o2 o4 hC;subst o0; subst o1; subst o2; subst o4;rcases hC with ⟨rfl, h19, hJ3, hk3⟩ | ⟨rfl, h19, hJx3⟩
    ·obtain rfl := h19 h12
     rw [HTK.out] at hJ3;have d0 := (World.cell?_of_block (a := ⟨Bs, 0, none⟩) hk3.2).trans c0;have d1 := (World.cell?_of_block (a := ⟨Bs, 1, none⟩) hk3.2).trans c1;have d2 := (World.cell?_of_block (a := ⟨Bs, 2, none⟩) hk3.2).trans c2;clear h19 h12 hk3 hts
     gi_wp2
     go_roundw
     case rel => exact ⟨k + 1, by omega, by go_num, hJ3, d0, d1, d2⟩
     case measure => simp [RowKit.intOf]; omega
    ·obtain rfl := h19 h12
     clear h19 h12 hts
     gi_wp2
     refine bodyPost_ret (results_none rfl _ _ _) rfl ?_;exact ⟨⟨_, rfl⟩, .inr ⟨_, by rw [HTK.out]; exact List.take_prefix _ _, hJx3⟩⟩
  ·obtain rfl : k = 3 := by omega
   gi_wp2
   go_end0;exact ⟨⟨_, rfl⟩, .inl ⟨_, rfl, hJs⟩⟩
end Go.Proofs.YtgdpoankaojklaaGreatDoor
namespace Go.Proofs.YtgdpoankaojklaaGreatDoor
open Go.RowKit Go.Maps
theorem mem_bordOf {E : List Edge} {s : Edge} : s ∈ bordOf E ↔ s ∈ E /\ revE s ∉ E := by
 unfold bordOf; rw [List.mem_filter]; simp
def OutInv (E : List Edge) (left : Edge -> Bool) (f : Int) (L : List Edge) : Prop :=
 (∀ s, s ∈ L ↔ s ∈ bordOf E /\ left s = false) /\ (L.map (·.1)).Nodup /\ ((L = [] /\ f = -1) \/ (∃ b, (f, b) ∈ L) /\ ∀ s ∈ L, f <= s.1)
theorem OutInv.start (E : List Edge) (left : Edge -> Bool) (h : ∀ s ∈ E, left s = true) : OutInv E left (-1) [] :=
 ⟨fun s => ⟨fun hs => absurd hs (by simp), fun ⟨h1, h2⟩ => by rw [h s (mem_bordOf.1 h1).1] at h2; cases h2⟩, by simp, .inl ⟨rfl, rfl⟩⟩
theorem OutInv.inner {E : List Edge} {left left' : Edge -> Bool} {f : Int} {L : List Edge} {s : Edge} (h : OutInv E left f L) (hs : revE s ∈ E) (hl : ∀ t ∈ E, t ≠ s -> left' t = left t) : OutInv E left' f L := by
 refine ⟨fun t => ?_, h.2⟩;rw [h.1 t];constructor
 ·rintro ⟨h1, h2⟩
  refine ⟨h1, ?_⟩;rw [hl t (mem_bordOf.1 h1).1 (fun e => (mem_bordOf.1 h1).2 (e ▸ hs))]; exact h2
 ·rintro ⟨h1, h2⟩
  refine ⟨h1, ?_⟩;rw [<- hl t (mem_bordOf.1 h1).1 (fun e => (mem_bordOf.1 h1).2 (e ▸ hs))]; exact h2
theorem OutInv.outer {E : List Edge} {left left' : Edge -> Bool} {f f' : Int} {L : List Edge} {s : Edge} (h : OutInv E left f L) (hE : s ∈ E) (hs : revE s ∉ E) (hnew : s.1 ∉ L.map (·.1)) (h0 : 0 <= s.1) (hpos : ∀ t ∈ L, 0 <= t.1)
 (hl : ∀ t ∈ E, t ≠ s -> left' t = left t) (hls : left' s = false) (hf : f' = if f < 0 \/ s.1 < f then s.1 else f) : OutInv E left' f' (L ++ [s]) := by
 obtain ⟨h1, h2, h3⟩ := h;refine ⟨fun t => ?_, ?_, .inr ?_⟩
 ·rw [List.mem_append, List.mem_singleton, h1 t]
  by_cases e : t = s
  ·subst e
   simp [mem_bordOf, hE, hs, hls]
  ·constructor
   ·rintro (⟨g1, g2⟩ | g)
    ·exact ⟨g1, by rw [hl t (mem_bordOf.1 g1).1 e]; exact g2⟩
    ·exact absurd g e
   ·rintro ⟨g1, g2⟩
    exact .inl ⟨g1, by rw [<- hl t (mem_bordOf.1 g1).1 e]; exact g2⟩
 ·rw [List.map_append]
  exact List.nodup_append.2 ⟨h2, by simp, fun y hy z hz e => by simp at hz; subst hz; subst e; exact hnew hy⟩
 ·rcases h3 with ⟨rfl, rfl⟩ | ⟨⟨b, hb⟩, hmin⟩
  ·rw [if_pos (.inl (by omega))] at hf
   subst hf;exact ⟨⟨s.2, by simp⟩, fun t ht => by simp at ht; subst ht; exact Int.le_refl _⟩
  ·have hf0 := hpos _ hb
   simp only at hf0;by_cases hlt : s.1 < f
   ·rw [if_pos (.inr hlt)] at hf
    subst hf;refine ⟨⟨s.2, by simp⟩, fun t ht => ?_⟩;rcases List.mem_append.1 ht with ht | ht
    ·have := hmin t ht; omega
    ·simp at ht; subst ht; exact Int.le_refl _
   ·rw [if_neg (by omega)] at hf
    subst hf;refine ⟨⟨b, by simp [hb]⟩, fun t ht => ?_⟩;rcases List.mem_append.1 ht with ht | ht
    ·exact hmin t ht
    ·simp at ht; subst ht; omega
theorem outer_twice {E : List Edge} {left : Edge -> Bool} {f : Int} {L : List Edge} {s : Edge} (h : OutInv E left f L) (hE : s ∈ E) (hs : revE s ∉ E) (hl : left s = true) (hold : s.1 ∈ L.map (·.1)) : ¬ ((bordOf E).map (·.1)).Nodup := by
 obtain ⟨t, ht, he⟩ := List.mem_map.1 hold;obtain ⟨h1, h2⟩ := (h.1 t).1 ht;have h3 : s ∈ bordOf E := mem_bordOf.2 ⟨hE, hs⟩;intro hnd;have : ∀ (l : List Edge), (l.map (·.1)).Nodup -> t ∈ l -> s ∈ l -> t = s := by
  intro l
  induction l with
  | nil => intro _ h; cases h
  | cons x l ih =>
    intro hn ht hs;rw [List.map_cons, List.nodup_cons] at hn;rcases List.mem_cons.1 ht with h1 | h1
    ·rcases List.mem_cons.1 hs with h2 | h2
     ·rw [h1, h2]
     ·exact absurd (List.mem_map.2 ⟨s, h2, by rw [<- he, h1]⟩) hn.1
    ·rcases List.mem_cons.1 hs with h2 | h2
     ·exact absurd (List.mem_map.2 ⟨t, h1, by rw [he, h2]⟩) hn.1
     ·exact ih hn.2 h1 h2
 have := this _ hnd h1 h3;subst this;rw [hl] at h2; cases h2
theorem nxtOf_mem {B : List Edge} (hn : (B.map (·.1)).Nodup) {a b : Int} : nxtOf B a = some b ↔ (a, b) ∈ B := by
 unfold nxtOf
 induction B with
 | nil => simp
 | cons x B ih =>
   rw [List.map_cons, List.nodup_cons] at hn;rw [List.find?_cons];by_cases e : x.1 = a
   ·subst e
    simp only [beq_self_eq_true, Option.map_some, Option.some.injEq, List.mem_cons];constructor
    ·rintro rfl; exact .inl rfl
    ·rintro (h | h)
     ·rw [<- h]
     ·exact absurd (List.mem_map.2 ⟨_, h, rfl⟩) hn.1
   ·rw [show (x.1 == a) = false by simpa using e]
    simp only [ih hn.2, List.mem_cons];constructor
    ·exact .inr
    ·rintro (h | h)
     ·subst h; exact absurd rfl e
     ·exact h
theorem nxtOf_none {B : List Edge} {a : Int} : nxtOf B a = none ↔ a ∉ B.map (·.1) := by
 unfold nxtOf;simp only [Option.map_eq_none_iff, List.find?_eq_none, beq_iff_eq, List.mem_map, not_exists, not_and]
theorem leastS_spec {B : List Edge} (hpos : ∀ s ∈ B, 0 <= s.1) : (B = [] /\ leastS B = -1) \/ (∃ b, (leastS B, b) ∈ B) /\ ∀ s ∈ B, leastS B <= s.1 := by
 unfold leastS;have key : ∀ (B : List Edge) (m : Int) (A : List Edge), (∀ s ∈ A ++ B, 0 <= s.1) -> ((A = [] /\ m = -1) \/ (∃ b, (m, b) ∈ A) /\ ∀ s ∈ A, m <= s.1) ->
  ((A ++ B = [] /\ B.foldl (fun m s => if m < 0 \/ s.1 < m then s.1 else m) m = -1) \/ (∃ b, (B.foldl (fun m s => if m < 0 \/ s.1 < m then s.1 else m) m, b) ∈ A ++ B) /\ ∀ s ∈ A ++ B, B.foldl (fun m s => if m < 0 \/ s.1 < m then s.1 else m) m <= s.1) := by
  intro B
  induction B with
  | nil => intro m A _ h; simpa using h
  | cons x B ih =>
    intro m A hp h;have := ih (if m < 0 \/ x.1 < m then x.1 else m) (A ++ [x]) (by simpa using hp) (.inr ?_)
    ·simpa using this
    ·rcases h with ⟨rfl, rfl⟩ | ⟨⟨b, hb⟩, hmin⟩
     ·rw [if_pos (.inl (by omega))]
      exact ⟨⟨x.2, by simp⟩, fun s hs => by simp at hs; subst hs; exact Int.le_refl _⟩
     ·have h0 := hp (m, b) (by simp [hb])
      simp only at h0;by_cases hlt : x.1 < m
      ·rw [if_pos (.inr hlt)]
       refine ⟨⟨x.2, by simp⟩, fun s hs => ?_⟩;rcases List.mem_append.1 hs with hs | hs
       ·have := hmin s hs; omega
       ·simp at hs; subst hs; exact Int.le_refl _
      ·rw [if_neg (by omega)]
       refine ⟨⟨b, by simp [hb]⟩, fun s hs => ?_⟩;rcases List.mem_append.1 hs with hs | hs
       ·exact hmin s hs
       ·simp at hs; subst hs; omega
 exact key B (-1) [] (by simpa using hpos) (.inl ⟨rfl, rfl⟩)
theorem nodup_of_map {α β : Type} {f : α -> β} : ∀ {l : List α}, (l.map f).Nodup -> l.Nodup
 | [], _ => List.nodup_nil
 | x :: l, h => by
   rw [List.map_cons, List.nodup_cons] at h;exact List.nodup_cons.2 ⟨fun hx => h.1 (List.mem_map.2 ⟨x, hx, rfl⟩), nodup_of_map h.2⟩
theorem outerL_of {E : List Edge} (hE : E.Nodup) (hpos : ∀ s ∈ E, 0 <= s.1) {left : Edge -> Bool} {f : Int} {L : List Edge} (h : OutInv E left f L) (hleft : ∀ s ∈ E, left s = false) :
 outerL E = (chase L f L.length f []).getD [] := by
 obtain ⟨h1, h2, h3⟩ := h;have hmem : ∀ s, s ∈ L ↔ s ∈ bordOf E := fun s => by
  rw [h1 s];exact ⟨fun h => h.1, fun h => ⟨h, hleft s (mem_bordOf.1 h).1⟩⟩
 have hBn : (bordOf E).Nodup := hE.filter _;have hLn : L.Nodup := nodup_of_map h2;have hperm : L.Perm (bordOf E) := (List.perm_ext_iff_of_nodup hLn hBn).2 hmem;have hBs : ((bordOf E).map (·.1)).Nodup := (hperm.map _).nodup_iff.1 h2;have hlen : L.length = (bordOf E).length := hperm.length_eq;have hposB : ∀ s ∈ bordOf E, 0 <= s.1 := fun s hs => hpos s (mem_bordOf.1 hs).1;have hfst : leastS (bordOf E) = f := by
  rcases leastS_spec hposB with ⟨e1, e2⟩ | ⟨⟨b, hb⟩, hmin⟩
  ·rcases h3 with ⟨g1, g2⟩ | ⟨⟨c, hc⟩, _⟩
   ·rw [e2, g2]
   ·rw [hmem] at hc; rw [e1] at hc; cases hc
  ·rcases h3 with ⟨g1, g2⟩ | ⟨⟨c, hc⟩, hmin'⟩
   ·rw [<- hmem, g1] at hb; cases hb
   ·have a1 := hmin' _ ((hmem _).2 hb)
    have a2 := hmin _ ((hmem _).1 hc);simp only at a1 a2;omega
 have hnx : ∀ a, nxtOf (bordOf E) a = nxtOf L a := fun a => by
  cases h : nxtOf L a with
  | none =>
    rw [nxtOf_none] at h ⊢;exact fun hm => h ((hperm.map _).mem_iff.2 hm)
  | some b =>
    rw [nxtOf_mem h2] at h;rw [nxtOf_mem hBs];exact (hmem _).1 h
 have hch : ∀ (n : Nat) (a : Int) (out : List Int), chase (bordOf E) f n a out = chase L f n a out := by
  intro n
  induction n with
  | zero => intro a out; rfl
  | succ n ih =>
    intro a out;unfold chase;rw [hnx a];cases nxtOf L a with
    | none => rfl
    | some b => simp only [ih]
 unfold outerL;rw [if_pos hBs, hfst, hch, <- hlen]
theorem OutInv.length {E : List Edge} (hE : E.Nodup) {left : Edge -> Bool} {f : Int} {L : List Edge} (h : OutInv E left f L) : L.length <= E.length := by
 have hb : (bordOf E).Nodup := hE.filter _;have hp : L.Perm ((bordOf E).filter fun s => !left s) := (List.perm_ext_iff_of_nodup (nodup_of_map h.2.1) (hb.filter _)).2 fun s => by
  rw [h.1 s, List.mem_filter]; simp
 rw [hp.length_eq];exact Nat.le_trans (List.length_filter_le _ _) (List.length_filter_le _ _)
theorem outerL_twice {E : List Edge} (h : ¬ ((bordOf E).map (·.1)).Nodup) : outerL E = [] := by unfold outerL; rw [if_neg h]
open Go.Lib
theorem wpList_next_edges {P : Program} (w : World) {ops : Array Oper} {rest : List Oper} {o : Oper} {a : Act} {Q : Exit -> Act -> World -> Prop} (hg : o.guard = none) (it : Operand) (hop : o.op = Op.next it false)
 (k e : Nat) (K : Keyed P k) (he : P.underlying e = some (.int .i64)) (lit : Edge -> Lit) (In : Edge -> Prop) (hkey : ∀ s, In s -> keyOf P k (.agg #[.int .i64 s.1, .int .i64 s.2]) = some (lit s))
 (b r n : Nat) (D : DataW Unit) (left : Lit -> Bool) (cnt : Nat) (hit : a.eval it = .pointer (some ⟨r, 0, none⟩)) (h : w.ranges P k (plainElem P e) b r n D left cnt) (hleft : ∀ kl, left kl = true -> ∃ s, In s /\ kl = lit s)
 (hDone : cnt = 0 -> (∀ kl, left kl = false) -> wpList P ops Q rest (a.put o.dst (.tuple #[.bool false])) w)
 (hMore : ∀ (x y c : Int) (w' : World) (cnt' : Nat), In (x, y) -> left (lit (x, y)) = true -> w'.ranges P k (plainElem P e) b r n D (fun z => left z && !z.sameKey (lit (x, y))) cnt' -> cnt' < cnt ->
   w.grownBy w' (some r) -> w'.heap.size = w.heap.size -> (Instr.entry (.pointer (some ⟨r, 0, none⟩))).run P w' = .ok (.tuple #[.agg #[.int .i64 x, .int .i64 y], .int .i64 c]) w' -> wpList P ops Q rest (a.put o.dst (.tuple #[.bool true, .agg #[.int .i64 x, .int .i64 y], .int .i64 c])) w') :
 wpList P ops Q (o :: rest) a w := by
 refine wpList_plain hg fun K' hK' => ?_;unfold Oper.wp;rcases h.next K o.type with ⟨h0, hl, hrun⟩ | ⟨key, v, kl, y, w', cnt', hkl, hlk, hv, hat, hrun, hrg, hlt, hgr, hsz, hen⟩
 ·simp [execOp, hop, hit, hrun, Result.andThen]
  exact hK' _ _ (hDone h0 hl)
 ·obtain ⟨s, hs, rfl⟩ := hleft kl hlk
  have := K.inj hkl (hkey s hs);subst this;obtain ⟨c, rfl, rfl, hwc⟩ := plainElem_int_inv he hv;simp [execOp, hop, hit, hrun, Result.andThen];exact hK' _ _ (hMore s.1 s.2 c w' cnt' hs hlk hrg hlt hgr hsz hen)
theorem decide_pos_isEmpty {α : Type} (l : List α) : decide (0 < l.length) = !l.isEmpty := by cases l <;> simp
def sliceLen : Value -> Nat
 | .slice _ n _ => n
 | _ => 0
theorem ownsRow_shape {w : World} {base e sz n : Nat} {v : Value} {xs : List Value} (h : w.ownsRow base e sz v n xs) : ∃ p c, v = .slice p n c := by
 obtain ⟨h1, h2⟩ := h;rcases h2 with ⟨rfl, h0⟩ | ⟨g, cap, cur, rfl, _⟩
 ·subst h0; exact ⟨_, _, rfl⟩
 ·exact ⟨_, _, rfl⟩
theorem info_i64 : ((Tryz.prog).info? 3).map (fun i => (i.zero, i.size, i.bytes)) = some (some (.int .i64 0), 1, 8) := by kernel_rfl
def OuterP (E : List Edge) (n : Nat) (v : Value) (w' : World) : Prop := ∃ s, v = .tuple #[s, .bool (!(outerL E).isEmpty)] /\ RdI .i64 w' s (outerL E) /\ FreshV n s
theorem outer_any (w : World) (vp vt : Value) (bm n : Nat) (D : DataW Unit) (L : List (Edge × Int)) (hm : MapL viewE 3 (Lit.int .i64) w bm n D L) (hn : (L.map (·.1)).Nodup) (_hn2 : n <= 1000000) (hlen : L.length <= 1000000)
 (hE : ∀ s ∈ L.map (·.1), (0 <= s.1 /\ s.1 < 1000000) /\ (0 <= s.2 /\ s.2 < 1000000)) :
 Calls Tryz.prog 180 #[.agg #[vp, vt], .map (some bm)] w (Ret (OuterP (L.map (·.1)) w.heap.size) w) := by
 obtain ⟨E, hEE⟩ : ∃ E, E = L.map (·.1) := ⟨_, rfl⟩;rw [<- hEE] at hE hn ⊢;have HE := Lib.hid hE;have HEE := Lib.hid hEE;have HN := Lib.hid hn;have HM := Lib.hid hm;clear hE hEE hn hm;have hmm := @run_makeMap Tryz.prog;have hbm : bm < w.heap.size := HM.out.owns.lt;go_enter Tryz.func180, Tryz.ntmps180;go_wp2_with (at_range; refine wpList_range_own _ rfl _ 242 rfl 164 3 lawE und_EI _ bm n D rfl (((HM.out.owns.alloc _).alloc _)) ?_; intro w0 hrg0 hg0 hs0);have hr : ((w.alloc (.cells #[vp, vt] 37)).alloc (.map #[] 0)).heap.size = w.heap.size + 2 := by simp
 rw [hr] at hrg0 hs0 ⊢;clear hr
 go_frame
 have hB0 : Below w.heap.size w w0 := (((Below.refl _ _).alloc (Nat.le_refl _) _).alloc (by simp) _).grown hg0 (by simp; omega) (fun j e => by cases e);have hz0 : w.heap.size + 3 <= w0.heap.size := by omega
 have hm2 : MapL (β := Int) viewI 3 (Lit.int .i64) w0 (w.heap.size + 1) 0 (.map []) [] := by
  have := (MapL.made (β := Int) (w.alloc (.cells #[vp, vt] 37)) viewI 3 (Lit.int .i64)).kept hg0 (by simp);simpa using this
 have HL0 : Hid (∀ kl, Maps.has D kl = true -> ∃ s, (InE s /\ s ∈ E) /\ kl = kE s) := fun kl hk => by
  obtain ⟨s, hs, rfl⟩ := HM.out.2.2.2 kl hk;exact ⟨s, ⟨hs, by rw [HEE.out]; exact (HM.out.has_iff hs).1 hk⟩, rfl⟩
 have HI0 : Hid (OutInv E (fun s => Maps.has D (kE s)) (-1) []) := OutInv.start _ _ fun s hs => (HM.out.has_iff (V := viewE) (by have := HE.out s hs; exact ⟨⟨by omega, by omega⟩, ⟨by omega, by omega⟩⟩)).2 (by rw [<- HEE.out]; exact hs)
 clear hg0 hs0;have HLEN : Hid (∀ (left : Edge -> Bool) (f : Int) (L2 : List Edge), OutInv E left f L2 -> L2.length <= 1000000) := fun left f L2 h => by
  have h3 := h.length HN.out;have h4 : E.length = L.length := by rw [HEE.out]; simp
  omega
 go_loopw [7] (fun t7 wr => ∃ (left : Lit -> Bool) (cnt : Nat) (f : Int) (D2 : DataW Unit) (L2 : List Edge), t7 = .int .i64 f /\ Hid (OutInv E (fun s => left (kE s)) f L2) /\ Hid (∀ kl, left kl = true -> ∃ s, (InE s /\ s ∈ E) /\ kl = kE s) /\
  Hid (wr.ranges Tryz.prog 164 (plainElem Tryz.prog 3) bm (w.heap.size + 2) n D left cnt) /\ Hid (MapL viewI 3 (Lit.int .i64) wr (w.heap.size + 1) L2.length D2 L2) /\ Hid (Maps.size D2 = L2.length) /\ (-1 <= f /\ f < 1000000) /\ Below w.heap.size w wr /\ w.heap.size + 3 <= wr.heap.size) (fun _ wr => wr.rangeLeft bm (w.heap.size + 2))
 case atStart => exact ⟨_, _, -1, _, [], rfl, HI0, HL0, Lib.hid hrg0, Lib.hid hm2, rfl, ⟨by omega, by omega⟩, hB0, hz0⟩
 case round =>
  obtain ⟨left, cnt, f, D2, L2, rfl, HI, HL, HR, HM2, HSZ2, ⟨hf1, hf2⟩, hB, hz⟩ := hrel;clear hrg0 hm2 HL0 HI0 hB0 hz0;go_wp2_with (at_next; refine wpList_next_edges _ rfl _ rfl 164 3 lawE und_I kE (fun s => InE s /\ s ∈ E) (fun s hs => keyE hs.1.1 hs.1.2) bm (w.heap.size + 2) n D left cnt rfl HR.out HL.out ?_ ?_)
  ·intro _ hl0
   have HF : Hid (outerL E = (chase L2 f L2.length f []).getD []) := outerL_of HN.out (fun s hs => (HE.out s hs).1.1) HI.out (fun s _ => hl0 _);have HND : Hid ((L2.map (·.1)).Nodup) := HI.out.2.1;have HLB : Hid (∀ s ∈ L2, (0 <= s.1 /\ s.1 < 1000000) /\ (0 <= s.2 /\ s.2 < 1000000)) := fun s hs => HE.out s (mem_bordOf.1 ((HI.out.1 s).1 hs).1).1;have hl2 := HLEN.out _ _ _ HI.out;clear hl0 HR HL HI HLEN;go_wp2_with fail;obtain ⟨i0, hi, hzz0, hzz1, hzz2⟩ := info_parts info_i64;obtain ⟨wo, hwo⟩ : ∃ wo : World, wo = wr := ⟨_, rfl⟩;subst hwo;obtain ⟨N, hN⟩ : ∃ N, N = L2.length := ⟨_, rfl⟩;have HNN := Lib.hid hN;have HSZ : Hid (Maps.size D2 = N) := by
    unfold Hid;rw [hN];exact HSZ2.out
   rw [<- hN] at hl2 HM2;clear hN;go_loopw [13, 14] (fun t13 t14 wr => ∃ (out : List Int) (a : Int), t14 = .int .i64 a /\ wr.ownsRow (w.heap.size + 3) 3 1 t13 out.length (out.map (Value.int .i64)) /\ out.length <= N /\ Hid (chase L2 f (N - out.length) a out = chase L2 f N f []) /\ (-1 <= a /\ a < 1000000) /\
    Hid (MapL viewI 3 (Lit.int .i64) wr (w.heap.size + 1) N D2 L2) /\ Below w.heap.size w wr /\ w.heap.size + 3 <= wr.heap.size) (fun t13 _ _ => N - sliceLen t13)
   case atStart => exact ⟨[], f, rfl, World.ownsRow_nil _ _ _ _, Nat.zero_le _, rfl, ⟨hf1, hf2⟩, HM2, hB, hz⟩
   case round =>
    obtain ⟨out, a, rfl, hown, hol, HC, ⟨ha1, ha2⟩, HM3, hB3, hz3⟩ := hrel;clear HM2 hB hz;obtain ⟨p13, c13, rfl⟩ := ownsRow_shape hown;have hlen2 := (HM3.out.owns.len und_II 3);rw [HSZ.out] at hlen2;rcases Nat.lt_or_ge out.length N with hlt | hge
    ·have haI : InI a := ⟨by omega, by omega⟩
     have HKA : Hid (keyOf Tryz.prog 3 (.int .i64 a) = some (kI a)) := keyI haI;have HMM := Lib.hid (HM3.out.has_iff (V := viewI) (s := a) haI);obtain ⟨m, hm⟩ : ∃ m, N - out.length = m + 1 := ⟨N - out.length - 1, by omega⟩;have HMS := Lib.hid hm;clear hm;cases hin : Maps.has D2 (viewI.lit a)
     ·have HX : Hid (outerL E = []) := by
       unfold Hid;rw [HF.out, <- HNN.out, <- HC.out, HMS.out];unfold chase;rw [nxtOf_none.2 (fun h => by have := HMM.out.2 h; rw [hin] at this; cases this)];rfl
      have HIN := Lib.hid hin;clear hin;go_wp2_with (at_lookup; refine wpList_lookup_own_ok_int _ rfl _ _ 270 rfl 3 3 .i64 lawI und_II und_I (zeroI _) (w.heap.size + 1) N D2 rfl HM3.out.owns _ _ rfl HKA.out ?_; rw [show Maps.has D2 (kI a) = false from HIN.out]; intro cz2 hat hwc; clear hat hwc);go_ret2;exact ⟨_, rfl, ⟨_, by rw [HX.out]; rfl, by rw [HX.out]; exact RdC.nil0 _ _, fun a l c e => by cases e⟩, hB3⟩
     ·obtain ⟨⟨a', b⟩, hab, rfl⟩ := List.mem_map.1 (HMM.out.1 hin)
      have HAB := Lib.hid hab;have HIN := Lib.hid hin;dsimp only at *;have hbb := (HLB.out _ hab).2;dsimp only at hbb;obtain ⟨hb1, hb2⟩ := hbb;have HCH : Hid (chase L2 f (N - out.length) a' out = if a' = f /\ out ≠ [] then none else chase L2 f m b (out ++ [a'])) := by
       unfold Hid;rw [HMS.out]
       conv => lhs; unfold chase
       rw [(nxtOf_mem HND.out).2 hab]
      clear hab hin;have htests : ((a' == f) = true /\ 0 < out.length) \/ ((a' == f) = true /\ ¬ 0 < out.length) \/ ((a' == f) = false) := by
       by_cases e : a' = f
       ·rcases Nat.eq_zero_or_pos out.length with h0 | h0
        ·exact .inr (.inl ⟨by simpa using e, by omega⟩)
        ·exact .inl ⟨by simpa using e, h0⟩
       ·exact .inr (.inr (by simpa using e))
      rcases htests with ⟨t1, t2⟩ | htests
      ·have HX : Hid (outerL E = []) := by
        unfold Hid;rw [HF.out, <- HNN.out, <- HC.out, HCH.out, if_pos ⟨by simpa using t1, List.ne_nil_of_length_pos t2⟩];rfl
       go_wp2_with (at_lookup; refine wpList_lookup_own_ok_int _ rfl _ _ 270 rfl 3 3 .i64 lawI und_II und_I (zeroI _) (w.heap.size + 1) N D2 rfl HM3.out.owns _ _ rfl HKA.out ?_; rw [show Maps.has D2 (kI a') = true from HIN.out]; intro cz2 hat hwc; clear hat hwc);go_ret2;exact ⟨_, rfl, ⟨_, by rw [HX.out]; rfl, by rw [HX.out]; exact RdC.nil0 _ _, fun a l c e => by cases e⟩, hB3⟩
      ·have HNX : Hid (chase L2 f (N - (out ++ [a']).length) b (out ++ [a']) = chase L2 f N f []) := by
        unfold Hid;rw [<- HC.out, HCH.out, if_neg, List.length_append]
        ·congr 1
         have := HMS.out;simp only [List.length_singleton];omega
        ·rintro ⟨e1, e2⟩
         rcases htests with ⟨_, t⟩ | t
         ·exact t (List.length_pos_iff.2 e2)
         ·rw [e1] at t; simp at t
       rcases htests with ⟨t1, t2⟩ | t1
       all_goals
        have tok1 : True := trivial;go_wp2_with (first
         | (at_lookup; have _t := tok1; refine wpList_lookup_own_ok_int _ rfl _ _ 270 rfl 3 3 .i64 lawI und_II und_I (zeroI _) (w.heap.size + 1) N D2 rfl HM3.out.owns _ _ rfl HKA.out ?_; rw [show Maps.has D2 (kI a') = true from HIN.out]; intro cz2 hat hwc; clear hat hwc tok1)
         | (at_builtin; refine wpList_append_own _ rfl _ _ 91 rfl (w.heap.size + 3) 3 i0 (.int .i64 0) 1 8 Tryz.underlying91 hi hzz0 hzz1 hzz2 rfl (by decide) _ _ _ rfl (hown.alloc _) ⟨wr.heap.size, 0, none⟩ 1 1 [.int .i64 a'] rfl rfl (cell_one_i64 _ _ _) (one_cell_i64 _) (by unfold maxLen; omega) (by omega) (by simp; omega) ?_
            intro v2 w2 hown2 hgrow2 _;have hzw2 := hgrow2.size;have HM4 : Hid (MapL viewI 3 (Lit.int .i64) w2 (w.heap.size + 1) N D2 L2) := (HM3.out.kept (World.grownBy_alloc _ _ none) (by simp)).kept hgrow2 (fun e => by have := (hown.lt _ e.symm).1; omega);have hB4 : Below w.heap.size w w2 := (hB3.alloc (by omega) _).grown hgrow2 (by simp; omega) (fun k hk => by have := (hown.lt k hk).1; omega);clear hgrow2)
         | (at_lookup; refine wpList_lookup_own_int _ rfl _ _ 270 rfl 3 3 .i64 lawI und_II und_I (zeroI _) (w.heap.size + 1) N D2 rfl HM4.out.owns _ _ rfl HKA.out ?_; intro cz3 hat3 hwc3
            obtain rfl : cz3 = b := by
             have h1 := hat3.symm.trans (HM4.out.at HAB.out _);simp at h1;exact h1
            clear hat3 hwc3))
        go_roundw
        case rel => exact ⟨out ++ [a'], cz3, rfl, by rw [List.map_append, List.length_append]; exact hown2, by rw [List.length_append, List.length_singleton]; omega, HNX, ⟨by omega, hb2⟩, HM4, hB4, by simp at hzw2; omega⟩
        case measure =>
         obtain ⟨p2, c2, rfl⟩ := ownsRow_shape hown2;simp [sliceLen];omega
    ·have HX : Hid (outerL E = out) := by
      unfold Hid;rw [HF.out, <- HNN.out, <- HC.out, show N - out.length = 0 by omega];rfl
     have hfr : FreshV (w.heap.size + 3) (.slice p13 out.length c13) := FreshV.of_owns hown;have hrd : RdI .i64 wr (.slice p13 out.length c13) out := RdC.of_owns hown;go_wp2_with fail;go_ret2;exact ⟨_, rfl, ⟨.slice p13 out.length c13, by rw [HX.out]; exact congrArg (fun b => Value.tuple #[.slice p13 out.length c13, .bool b]) (decide_pos_isEmpty out), by rw [HX.out]; exact hrd, fun a l c e => by have := hfr a l c e; omega⟩, hB3⟩
  ·intro x y c w1 cnt1 hinE hin hl hrg1 hlt1 hg1 hs1 hen
   have hv := HE.out (x, y) hin;obtain ⟨⟨hx0, hx1⟩, hy0, hy1⟩ := hv;have hxz : InI x := ⟨by omega, by omega⟩;have hrevIn : InE (y, x) := ⟨⟨by omega, by omega⟩, hxz⟩;have HB1 : Hid (Below w.heap.size w w1) := hB.grown hg1 (by omega) (fun j e => by cases e; omega);have hz1 : w.heap.size + 3 <= w1.heap.size := by omega
   have HM21 : Hid (MapL viewI 3 (Lit.int .i64) w1 (w.heap.size + 1) L2.length D2 L2) := HM2.out.kept hg1 (by simp);have HR1 := Lib.hid hrg1;have hl2 := HLEN.out _ _ _ HI.out;have HMU : Hid (cnt1 < wr.rangeLeft bm (w.heap.size + 2)) := by unfold Hid; rw [HR.out.left_eq]; exact hlt1
   have HLL : Hid (∀ kl, (left kl && !kl.sameKey (kE (x, y))) = true -> ∃ s, (InE s /\ s ∈ E) /\ kl = kE s) := fun kl h => HL.out kl (by simp at h; exact h.1)
   have HNE : Hid (∀ t ∈ E, t ≠ (x, y) -> (left (kE t) && !(kE t).sameKey (kE (x, y))) = left (kE t)) := fun t ht hne => by
    have htE : InE t := by have := HE.out t ht; exact ⟨⟨by omega, by omega⟩, ⟨by omega, by omega⟩⟩
    rw [sameKey_ne (fun e => hne (kE_inj htE.1 htE.2 hinE.1 hinE.2 e))]; simp
   have HSE : Hid ((left (kE (x, y)) && !(kE (x, y)).sameKey (kE (x, y))) = false) := by unfold Hid; rw [WideAt.sameKey_self (lawE.key (keyE hinE.1 hinE.2))]; simp
   have hr1 := (HM.out.has_iff (V := viewE) hrevIn);rw [<- HEE.out] at hr1;have HRV := Lib.hid hr1;have HK1 : Hid (keyOf Tryz.prog 164 (.agg #[.int .i64 y, .int .i64 x]) = some (kE (y, x))) := keyE hrevIn.1 hrevIn.2;have HK2 : Hid (keyOf Tryz.prog 3 (.int .i64 x) = some (kI x)) := keyI hxz;clear hg1 hs1 hrg1 hlt1 hr1 hB HR HM2;cases hin2 : Maps.has D (viewE.lit (y, x))
   ·have hnb : (y, x) ∉ E := fun h => by have := HRV.out.2 h; rw [hin2] at this; cases this
    have HNB := Lib.hid hnb;have HIN2 := Lib.hid hin2;clear hnb hin2;cases hin3 : Maps.has D2 (viewI.lit x)
    ·have hnew : x ∉ L2.map (·.1) := fun h => by have := (HM21.out.has_iff (V := viewI) hxz).2 h; rw [hin3] at this; cases this
     have HNW := Lib.hid hnew;have HIN3 := Lib.hid hin3;clear hnew hin3;have HFF : Hid (∀ f', f' = (if f < 0 \/ x < f then x else f) -> OutInv E (fun s => left (kE s) && !(kE s).sameKey (kE (x, y))) f' (L2 ++ [(x, y)])) := fun f' hf' =>
      HI.out.outer hin HNB.out HNW.out hx0 (fun t ht => (HE.out t (mem_bordOf.1 ((HI.out.1 t).1 ht).1).1).1.1) HNE.out HSE.out hf'
     have tok1 : True := trivial;rcases (by omega : f < 0 \/ (¬ f < 0 /\ x < f) \/ (¬ f < 0 /\ ¬ x < f)) with h7 | ⟨h7, h8⟩ | ⟨h7, h8⟩
     all_goals
      go_wp2_with (first
       | (at_lookup; have _t := tok1; refine wpList_lookup_own_ok_int _ rfl _ _ 242 rfl 164 3 .i64 lawE und_EI und_I (zeroI _) bm n D rfl (HR1.out.owns.alloc _) _ _ rfl HK1.out ?_; rw [show Maps.has D (kE (y, x)) = false from HIN2.out]; intro cz hat hwc; clear hat hwc tok1)
       | (at_lookup; refine wpList_lookup_own_ok_int _ rfl _ _ 270 rfl 3 3 .i64 lawI und_II und_I (zeroI _) (w.heap.size + 1) L2.length D2 rfl (HM21.out.owns.alloc _) _ _ rfl HK2.out ?_; rw [show Maps.has D2 (kI x) = false from HIN3.out]; intro cz2 hat hwc; clear hat hwc)
       | (at_mapUpdate; refine wpList_mapUpdate_own _ rfl _ _ _ 270 rfl 3 3 lawI und_II _ (w.heap.size + 1) L2.length D2 rfl (HM21.out.owns.alloc _) (by unfold maxLen; omega) _ _ _ rfl rfl HK2.out _ [] (plainElem_int und_I (WalkArith.wf_i64 (by omega))) ?_; intro w2 hown2 hgrow2
          have hbk : w2.heap[w1.heap.size]? = some (.cells #[.int .i64 x, .int .i64 y] 164) := (hgrow2.block _ (by simp) (by simp; omega)).trans (World.alloc_heap_new _ _);have k0 : w2.cell? ⟨w1.heap.size, 0, none⟩ = some (.int .i64 x) := by simp [World.cell?, hbk]
          clear hbk))
      go_roundw
      case rel =>
       refine ⟨fun z => left z && !z.sameKey (kE (x, y)), cnt1, _, D2.put (kI x) (.lit (.int .i64 y)), L2 ++ [(x, y)], rfl, Lib.hid (HFF.out _ ?_), HLL, Lib.hid ((HR1.out.alloc _).kept hgrow2 (by simp; omega) (by simp)), ?_, ?_, ?_, (HB1.out.alloc (by omega) _).grown hgrow2 (by simp; omega) (fun j e => by cases e; omega), by have := hgrow2.size; simp at this; omega⟩
       ·first | rw [if_pos (show f < 0 \/ x < f by omega)] | rw [if_neg (show ¬ (f < 0 \/ x < f) by omega)]
       ·have := (HM21.out.kept (World.grownBy_alloc _ (.cells #[.int .i64 x, .int .i64 y] 164) none) (by simp)).put (i := y) (s := x) hxz (fun j hj => absurd (List.mem_map.2 ⟨_, hj, rfl⟩) HNW.out) hown2
        unfold Hid;rw [List.length_append];exact this
       ·unfold Hid
        rw [Maps.size_put (HM21.out.owns.tidy lawI), show Maps.has D2 (kI x) = false from HIN3.out, List.length_append, HSZ2.out];rfl
       ·omega
      case measure =>
       rw [((HR1.out.alloc (.cells #[.int .i64 x, .int .i64 y] 164)).kept hgrow2 (by simp; omega) (by simp)).left_eq];exact HMU.out
    ·have hold : x ∈ L2.map (·.1) := (HM21.out.has_iff (V := viewI) hxz).1 hin3
     have HTW : Hid (outerL E = []) := outerL_twice (outer_twice HI.out hin HNB.out hl hold);have HIN3 := Lib.hid hin3;clear hold hin3;have tok1 : True := trivial;go_wp2_with (first
      | (at_lookup; have _t := tok1; refine wpList_lookup_own_ok_int _ rfl _ _ 242 rfl 164 3 .i64 lawE und_EI und_I (zeroI _) bm n D rfl (HR1.out.owns.alloc _) _ _ rfl HK1.out ?_; rw [show Maps.has D (kE (y, x)) = false from HIN2.out]; intro cz hat hwc; clear hat hwc tok1)
      | (at_lookup; refine wpList_lookup_own_ok_int _ rfl _ _ 270 rfl 3 3 .i64 lawI und_II und_I (zeroI _) (w.heap.size + 1) L2.length D2 rfl (HM21.out.owns.alloc _) _ _ rfl HK2.out ?_; rw [show Maps.has D2 (kI x) = true from HIN3.out]; intro cz2 hat hwc; clear hat hwc))
     go_ret2;exact ⟨_, rfl, ⟨_, by rw [HTW.out]; rfl, by rw [HTW.out]; exact RdC.nil0 _ _, fun a l c e => by cases e⟩, HB1.out.alloc (by omega) _⟩
   ·have hnb : (y, x) ∈ E := HRV.out.1 hin2
    have HIN2 := Lib.hid hin2;have HFF : Hid (OutInv E (fun s => left (kE s) && !(kE s).sameKey (kE (x, y))) f L2) := HI.out.inner (s := (x, y)) hnb HNE.out;clear hnb hin2;go_wp2_with (at_lookup; refine wpList_lookup_own_ok_int _ rfl _ _ 242 rfl 164 3 .i64 lawE und_EI und_I (zeroI _) bm n D rfl (HR1.out.owns.alloc _) _ _ rfl HK1.out ?_; rw [show Maps.has D (kE (y, x)) = true from HIN2.out]; intro cz hat hwc; clear hat hwc);go_roundw
    case rel => exact ⟨fun z => left z && !z.sameKey (kE (x, y)), cnt1, f, D2, L2, rfl, HFF, HLL, Lib.hid (HR1.out.alloc _), HM21.out.kept (World.grownBy_alloc _ _ none) (by simp), HSZ2, ⟨hf1, hf2⟩, HB1.out.alloc (by omega) _, by simp; omega⟩
    case measure =>
     rw [(HR1.out.alloc (.cells #[.int .i64 x, .int .i64 y] 164)).left_eq];exact HMU.out
end Go.Proofs.YtgdpoankaojklaaGreatDoor
