import Derived.Maps.OwnOps
import Derived.Maps.OwnSet
import Derived.Maps.OwnIn
import Derived.Maps.RangeWalk
import Derived.Maps.Ext
import Derived.WideKeyElems3
import Derived.Test.YtmcbeajdloaliaaGreatDoorUQC
import Derived.Deep.CutRange
import Derived.DeepKeys5
/- Meshes in memory Mesh -/
set_option maxHeartbeats 4000000
set_option maxRecDepth 100000
namespace Go.Proofs.YtmcbeajdloaliaaGreatDoor
open Go.RowKit
def cPP (ps : List (ByteArray × ByteArray)) : List Value := ps.flatMap fun p => [.string p.1, .string p.2]
def RdP (w : World) (v : Value) (ps : List (ByteArray × ByteArray)) : Prop := RdC 2 w v ps.length (cPP ps)
def cTT (ts : List Tri) : List Value := ts.flatMap fun t => [.int .i64 t.1, .int .i64 t.2.1, .int .i64 t.2.2]
def RdT (w : World) (v : Value) (ts : List Tri) : Prop := RdC 3 w v ts.length (cTT ts)
theorem gEf {α β : Type} (f : α -> List β) (m : Nat) (Z : ∀ a, (f a).length = m) : ∀ (l : List α) (i j : Nat), j < m -> (l.flatMap f)[i * m + j]? = (l[i]?).bind fun a => (f a)[j]?
 | [], i, j, _ => by simp
 | a :: l, 0, j, h => by simp [List.getElem?_append_left, Z, h]
 | a :: l, i + 1, j, h => by
   rw [List.flatMap_cons, List.getElem?_append_right (by rw [Z, Nat.add_mul]; omega), Z];rw [show (i + 1) * m + j - m = i * m + j by rw [Nat.add_mul]; omega];rw [gEf f m Z l i j h];simp
theorem RdP.open {w : World} {v : Value} {ps : List (ByteArray × ByteArray)} (h : RdP w v ps) : ∃ p c, v = .slice p ps.length c /\ ps.length <= c /\ c <= maxLen /\
 (ps ≠ [] -> ∃ b off, p = some ⟨b, off, none⟩ /\ b < w.heap.size /\ ∀ (i : Nat) (Y : i < ps.length), w.cell? ⟨b, off + i * 2, none⟩ = some (.string ps[i].1) /\ w.cell? ⟨b, off + i * 2 + 1, none⟩ = some (.string ps[i].2)) := by
 obtain ⟨p, c, Q, V, U, O, S⟩ := h;refine ⟨p, c, Q, V, U, fun hne => ?_⟩;obtain ⟨b, off, R, X⟩ := S (by
  cases ps with
  | nil => exact absurd rfl hne
  | cons a l => simp [cPP])
 have Z : ∀ (i : Nat) (Y : i < ps.length), w.cell? ⟨b, off + i * 2, none⟩ = some (.string ps[i].1) /\ w.cell? ⟨b, off + i * 2 + 1, none⟩ = some (.string ps[i].2) := fun i Y => by
  have e := gEf (fun p : ByteArray × ByteArray => [Value.string p.1, .string p.2]) 2 (fun _ => rfl) ps i;refine ⟨?_, ?_⟩
  ·have := X (i * 2) (.string ps[i].1) (by have := e 0 (by omega); rw [Nat.add_zero] at this; unfold cPP; rw [this, List.getElem?_eq_getElem Y]; rfl)
   exact this
  ·have := X (i * 2 + 1) (.string ps[i].2) (by have := e 1 (by omega); unfold cPP; rw [this, List.getElem?_eq_getElem Y]; rfl)
   rw [<- Nat.add_assoc] at this;exact this
 exact ⟨b, off, R, World.block_lt_of_cell? w _ (Z 0 (List.length_pos_iff.2 hne)).1, Z⟩
theorem RdT.open {w : World} {v : Value} {ts : List Tri} (h : RdT w v ts) : ∃ p c, v = .slice p ts.length c /\ ts.length <= c /\ c <= maxLen /\
 (ts ≠ [] -> ∃ b off, p = some ⟨b, off, none⟩ /\ b < w.heap.size /\ ∀ (i : Nat) (Y : i < ts.length), w.cell? ⟨b, off + i * 3, none⟩ = some (.int .i64 ts[i].1) /\ w.cell? ⟨b, off + i * 3 + 1, none⟩ = some (.int .i64 ts[i].2.1) /\ w.cell? ⟨b, off + i * 3 + 2, none⟩ = some (.int .i64 ts[i].2.2)) := by
 obtain ⟨p, c, Q, V, U, O, S⟩ := h;refine ⟨p, c, Q, V, U, fun hne => ?_⟩;obtain ⟨b, off, R, X⟩ := S (by
  cases ts with
  | nil => exact absurd rfl hne
  | cons a l => simp [cTT])
 have Z : ∀ (i : Nat) (Y : i < ts.length), w.cell? ⟨b, off + i * 3, none⟩ = some (.int .i64 ts[i].1) /\ w.cell? ⟨b, off + i * 3 + 1, none⟩ = some (.int .i64 ts[i].2.1) /\ w.cell? ⟨b, off + i * 3 + 2, none⟩ = some (.int .i64 ts[i].2.2) := fun i Y => by
  have e := gEf (fun t : Tri => [Value.int .i64 t.1, .int .i64 t.2.1, .int .i64 t.2.2]) 3 (fun _ => rfl) ts i;refine ⟨?_, ?_, ?_⟩
  ·have := X (i * 3) (.int .i64 ts[i].1) (by have := e 0 (by omega); rw [Nat.add_zero] at this; unfold cTT; rw [this, List.getElem?_eq_getElem Y]; rfl)
   exact this
  ·have := X (i * 3 + 1) (.int .i64 ts[i].2.1) (by have := e 1 (by omega); unfold cTT; rw [this, List.getElem?_eq_getElem Y]; rfl)
   rw [<- Nat.add_assoc] at this;exact this
  ·have := X (i * 3 + 2) (.int .i64 ts[i].2.2) (by have := e 2 (by omega); unfold cTT; rw [this, List.getElem?_eq_getElem Y]; rfl)
   rw [<- Nat.add_assoc] at this;exact this
 exact ⟨b, off, R, World.block_lt_of_cell? w _ (Z 0 (List.length_pos_iff.2 hne)).1, Z⟩
open Go.Lib
def BoxP (w : World) (b : Nat) (p : PtQ) : Prop := w.cell? ⟨b, 0, none⟩ = some (.string (RS p.1)) /\ w.cell? ⟨b, 1, none⟩ = some (.string (RS p.2))
def SzP (k : Nat) (p : PtQ) : Prop := Sz k p.1 /\ Sz k p.2
def VP (p : PtQ) : Value := .agg #[.string (RS p.1), .string (RS p.2)]
theorem BoxP.below {w w' : World} {n b : Nat} {p : PtQ} (h : BoxP w b p) (Z : Below n w w') (Y : b < n) : BoxP w' b p :=
 ⟨(zcq Z Y h.1 :), (zcq Z Y h.2 :)⟩
theorem BoxP.alloc {w : World} {b : Nat} {p : PtQ} (h : BoxP w b p) (o : Obj) : BoxP (w.alloc o) b p :=
 h.below ((Below.refl _ _).alloc (Nat.le_refl _) o) (World.block_lt_of_cell? w _ h.1)
theorem bPn (w : World) (p : PtQ) (Y n : Nat) (Z : w.heap.size = n) : BoxP (w.alloc (.cells #[.string (RS p.1), .string (RS p.2)] Y)) n p := by
 subst Z;exact ⟨by rw [World.cell?_alloc_at _ _ _ _ rfl]; rfl, by rw [World.cell?_alloc_at _ _ _ _ rfl]; rfl⟩
theorem tbs (w : World) (a b c : PtQ) (Z : Nat) : ∃ W : World, W = ((w.alloc (.cells #[.string (RS a.1), .string (RS a.2)] Z)).alloc (.cells #[.string (RS b.1), .string (RS b.2)] Z)).alloc (.cells #[.string (RS c.1), .string (RS c.2)] Z) /\
 BoxP W w.heap.size a /\ BoxP W (w.heap.size + 1) b /\ BoxP W (w.heap.size + 2) c /\ Below w.heap.size w W /\ w.heap.size + 2 < W.heap.size := by
 refine ⟨_, rfl, ((bPn w a Z _ rfl).alloc _).alloc _, (bPn _ b Z _ (by simp)).alloc _, bPn _ c Z _ (by simp), (((Below.refl _ _).alloc (Nat.le_refl _) _).alloc (by simp) _).alloc (by simp; omega) _, by simp⟩
theorem aa0 (a b c : PtQ) (k : Nat) (m : 0 < k) (h2 : k <= 2000) (ha : SzP k a) (hb : SzP k b) (hc : SzP k c) (w : World) (hg : Good w) :
 Calls Tryz.prog 147 #[VP a, VP b, VP c] w (Ret (fun r _ => r = .string (RS (areaQ a b c))) w) := by
 obtain ⟨W, hW, ⟨a0, n⟩, ⟨i, b1⟩, ⟨c0, c1⟩, K, h3⟩ := tbs w a b c 73;have h := hg.below K;obtain ⟨O, N⟩ := a;obtain ⟨I, J⟩ := b;obtain ⟨H, G⟩ := c;unfold VP areaQ;dsimp only [SzP] at *;have M := Lib.hid ha;have p := Lib.hid hb;have o := Lib.hid hc;have HW := Lib.hid hW;clear hW ha hb hc;go_enter Tryz.func147, Tryz.ntmps147;have y : Good W.drew := h.drewN 1;have D : Hid (Sz (2 * k + 1) (I - O)) := (p.out.1.sub M.out.1).mono (by omega);have C : Hid (Sz (2 * k + 1) (G - N)) := (o.out.2.sub M.out.2).mono (by omega);have B : Hid (Sz (2 * k + 1) (J - N)) := (p.out.2.sub M.out.2).mono (by omega);have A : Hid (Sz (2 * k + 1) (H - O)) := (o.out.1.sub M.out.1).mono (by omega);have l : Hid (Sz (4 * k + 2) ((I - O) * (G - N))) := (D.out.mul C.out).mono (by omega);have j : Hid (Sz (4 * k + 2) ((J - N) * (H - O))) := (B.out.mul A.out).mono (by omega);go_upto_region 1 with fail;rw [<- HW.out];go_region_held3 (fun w' => w'.cell? ⟨w.heap.size, 0, none⟩ = some (.string (RS O)) /\ w'.cell? ⟨w.heap.size, 1, none⟩ = some (.string (RS N)) /\ w'.cell? ⟨w.heap.size + 1, 0, none⟩ = some (.string (RS I)) /\ w'.cell? ⟨w.heap.size + 2, 1, none⟩ = some (.string (RS G)))
  (first | exact ⟨a0, n, i, c1⟩ | exact ⟨p_1_0, p_1_1, p_1_2, p_1_3⟩ | exact ⟨p_2_0, p_2_1, p_2_2, p_2_3⟩ | exact ⟨p_3_0, p_3_1, p_3_2, p_3_3⟩)
  (first
  | (go_at_call 25; refine (rMa (I - O) (G - N) (2 * k + 1) (by omega) (by omega) D.out C.out _ v).mono ?_; rintro e V ⟨_, rfl, rfl, X⟩
     have p_3_0 := zct X p_2_0;have p_3_1 := zct X p_2_1;have p_3_2 := zct X p_2_2;have p_3_3 := zct X p_2_3;have h6 := X.size;have g := v.below X)
  | (go_at_call 23; refine (rSa G N k m (by omega) o.out.2 M.out.2 _ x).mono ?_; rintro e h7 ⟨_, rfl, rfl, Y⟩
     have p_2_0 := zct Y p_1_0;have p_2_1 := zct Y p_1_1;have p_2_2 := zct Y p_1_2;have p_2_3 := zct Y p_1_3;have h5 := Y.size;have v := x.below Y)
  | (go_at_call 23; refine (rSa I O k m (by omega) p.out.1 M.out.1 _ y).mono ?_; rintro e f ⟨_, rfl, rfl, Z⟩
     have p_1_0 := zct Z a0;have p_1_1 := zct Z n;have p_1_2 := zct Z i;have p_1_3 := zct Z c1;have h4 : W.heap.size <= f.heap.size := Z.size;have x := y.below Z))
 have E : Below W.heap.size W V := zbt (zbt (zbt (bdN W 1) Z) Y) X;have z := zbt K E;have d0 := zcq E (by show w.heap.size < W.heap.size; omega) a0;have d1 := zcq E (by show w.heap.size < W.heap.size; omega) n;have d2 := zcq E (by show w.heap.size + 1 < W.heap.size; omega) b1;have d3 := zcq E (by show w.heap.size + 2 < W.heap.size; omega) c0;have h1 : w.heap.size + 2 < V.heap.size := by omega
 have L : Good V.drew := g.drewN 1;clear a0 n i b1 c0 c1 E Z Y X K p_1_0 p_1_1 p_1_2 p_1_3 p_2_0 p_2_1 p_2_2 p_2_3 p_3_0 p_3_1 p_3_2 p_3_3;go_wp2_with fail;go_region_held3 (fun w' => w'.cell? ⟨w.heap.size, 0, none⟩ = some (.string (RS O)) /\ w'.cell? ⟨w.heap.size, 1, none⟩ = some (.string (RS N)) /\ w'.cell? ⟨w.heap.size + 1, 1, none⟩ = some (.string (RS J)) /\ w'.cell? ⟨w.heap.size + 2, 0, none⟩ = some (.string (RS H)))
  (first | exact ⟨d0, d1, d2, d3⟩ | exact ⟨q_1_0, q_1_1, q_1_2, q_1_3⟩ | exact ⟨q_2_0, q_2_1, q_2_2, q_2_3⟩ | exact ⟨q_3_0, q_3_1, q_3_2, q_3_3⟩ | exact ⟨q_4_0, q_4_1, q_4_2, q_4_3⟩)
  (first
  | (go_at_call 23; refine (rSa ((I - O) * (G - N)) ((J - N) * (H - O)) (4 * k + 2) (by omega) (by omega) l.out j.out _ q).mono ?_; rintro e h0 ⟨_, rfl, rfl, Q⟩
     have q_4_0 := zct Q q_3_0;have q_4_1 := zct Q q_3_1;have q_4_2 := zct Q q_3_2;have q_4_3 := zct Q q_3_3;have hf := Q.size;have h8 := q.below Q)
  | (go_at_call 25; refine (rMa (J - N) (H - O) (2 * k + 1) (by omega) (by omega) B.out A.out _ s).mono ?_; rintro e hi ⟨_, rfl, rfl, R⟩
     have q_3_0 := zct R q_2_0;have q_3_1 := zct R q_2_1;have q_3_2 := zct R q_2_2;have q_3_3 := zct R q_2_3;have he := R.size;have q := s.below R)
  | (go_at_call 23; refine (rSa H O k m (by omega) o.out.1 M.out.1 _ t).mono ?_; rintro e hh ⟨_, rfl, rfl, S⟩
     have q_2_0 := zct S q_1_0;have q_2_1 := zct S q_1_1;have q_2_2 := zct S q_1_2;have q_2_3 := zct S q_1_3;have hd := S.size;have s := t.below S)
  | (go_at_call 23; refine (rSa J N k m (by omega) p.out.2 M.out.2 _ L).mono ?_; rintro e d ⟨_, rfl, rfl, U⟩
     have q_1_0 := zct U d0;have q_1_1 := zct U d1;have q_1_2 := zct U d2;have q_1_3 := zct U d3;have h9 : V.heap.size <= d.heap.size := U.size;have t := L.below U))
 have qB : Below V.heap.size V h0 := zbt (zbt (zbt (zbt (bdN V 1) U) S) R) Q;go_wp2_with fail;go_ret;exact ⟨_, rfl, rfl, (zbt z qB)⟩
theorem tb0 (a b c : PtQ) (k : Nat) (H : 0 < k) (U : k <= 2000) (R : SzP k a) (Q : SzP k b) (O : SzP k c) (w : World) (I : Good w) :
 Calls Tryz.prog 108 #[VP a, VP b, VP c] w (Ret (fun r _ => r = .int .i64 (turnZ a b c)) w) := by
 obtain ⟨W, S, ⟨a0, E⟩, ⟨B, b1⟩, ⟨c0, c1⟩, Z, G⟩ := tbs w a b c 73;have V := I.below Z;have N := Lib.hid R;have M := Lib.hid Q;have L := Lib.hid O;have J := Lib.hid S;have K : Hid ((areaQ a b c).num.sign = turnZ a b c) := rfl;clear S R Q O;have X : Hid (Calls Tryz.prog 147 #[.agg #[.string (RS a.1), .string (RS a.2)], .agg #[.string (RS b.1), .string (RS b.2)], .agg #[.string (RS c.1), .string (RS c.2)]] W (Ret (fun r _ => r = .string (RS (areaQ a b c))) W)) := aa0 a b c k H U N.out M.out L.out W V;unfold VP;obtain ⟨D, C⟩ := a;obtain ⟨z, A⟩ := b;obtain ⟨y, x⟩ := c;dsimp only at *;go_enter Tryz.func108, Tryz.ntmps108;go_upto_region 1 with fail;rw [<- J.out];go_wp2_with fail;refine X.out.mono ?_;rintro e v ⟨_, rfl, rfl, Y⟩;go_wp2_with fail;refine zR ((ra0 _ _).mono fun _ _ h => h.ret) fun w2 hb2 => ?_;rw [K.out];go_wp2_with fail;go_ret;exact ⟨_, rfl, rfl, ((zbt Z Y)).trans (hb2.mono (by have := Z.size; have := Y.size; omega))⟩
end Go.Proofs.YtmcbeajdloaliaaGreatDoor
namespace Go.Proofs.YtmcbeajdloaliaaGreatDoor
open Go.RowKit Go.Maps
def VE (s : Edge) : Value := .agg #[.int .i64 s.1, .int .i64 s.2]
abbrev PtS := ByteArray × ByteArray
def VS (p : PtS) : Value := .agg #[.string p.1, .string p.2]
theorem le0 : laidOutB Tryz.prog = true := by kernel_rfl
theorem lawE : Keyed Tryz.prog 142 := Keyed.of_law (deep_law_laid (m := 3) le0 (by decide) (Nat.le_of_ble_eq_true (by kernel_rfl)) (by kernel_rfl) (by kernel_rfl))
theorem lawP : Keyed Tryz.prog 73 := Keyed.of_law (deep_law_laid (m := 3) le0 (by decide) (Nat.le_of_ble_eq_true (by kernel_rfl)) (by kernel_rfl) (by kernel_rfl))
theorem lawI : Keyed Tryz.prog 3 := int_keyed (q := .i64) (by kernel_rfl)
noncomputable def kE (s : Edge) : Lit := (keyOf Tryz.prog 142 (VE s)).getD (.bool false)
noncomputable def kP (p : PtS) : Lit := (keyOf Tryz.prog 73 (VS p)).getD (.bool false)
def kI (n : Int) : Lit := .int .i64 n
def InI (n : Int) : Prop := -9223372036854775808 <= n /\ n <= 9223372036854775807
theorem wfI {n : Int} (h : InI n) : (Lit.int .i64 n).wf = true := WalkArith.wf_i64 h
theorem keyI {n : Int} (h : InI n) : keyOf Tryz.prog 3 (.int .i64 n) = some (kI n) := keyOf_int_mk (by kernel_rfl) (wfI h)
theorem kOp {P : Program} {k e m : Nat} (Z : P.types.size = m + 2) (u1 : P.underlying k = some (.array 2 e)) (u2 : P.underlying e = some (.int .i64)) (c1 : P.cellsOf k = 2) (c2 : P.cellsOf e = 1) (Y : P.keyType k = true)
 {a b : Int} (X : (Lit.int .i64 a).wf = true) (V : (Lit.int .i64 b).wf = true) : (keyOf P k (.agg #[.int .i64 a, .int .i64 b])).isSome := by
 unfold keyOf;simp [u1, Y, Value.formed, c1, Z, Program.keyLits, Value.cells, List.range_succ, c2, u2, X, V]
theorem kOs {P : Program} {k e m : Nat} {f0 f1 : Field} (X : P.types.size = m + 2) (u1 : P.underlying k = some (.struct #[f0, f1])) (u2 : P.underlying e = some .string) (c1 : P.cellsOf k = 2) (c2 : P.cellsOf e = 1) (V : P.keyType k = true)
 (O : f0.type = e) (N : f1.type = e) (R : f0.offset = 0) (Q : f1.offset = 1) (U : (f0.name != "_") = true) (S : (f1.name != "_") = true)
 {a b : ByteArray} (M : a.size <= maxLen) (L : b.size <= maxLen) : (keyOf P k (.agg #[.string a, .string b])).isSome := by
 unfold keyOf;have Z : ¬ f0.name = "_" := by simpa using U
 have Y : ¬ f1.name = "_" := by simpa using S
 simp [u1, V, Value.formed, c1, X, Program.keyLits, Value.cells, c2, u2, M, L, O, N, R, Q, Z, Y]
theorem bts : ∃ m, (Tryz.prog).types.size = m + 2 := ⟨(Tryz.prog).types.size - 2, by
 have : 2 <= (Tryz.prog).types.size := Nat.le_of_ble_eq_true (by kernel_rfl);omega⟩
theorem keyE {s : Edge} (Z : InI s.1) (Y : InI s.2) : keyOf Tryz.prog 142 (VE s) = some (kE s) := by
 obtain ⟨m, X⟩ := bts;have : (keyOf Tryz.prog 142 (VE s)).isSome := kOp X (by kernel_rfl) (e := 3) (by kernel_rfl) (by kernel_rfl) (by kernel_rfl) (by kernel_rfl) (wfI Z) (wfI Y);unfold kE;cases h : keyOf Tryz.prog 142 (VE s) with
 | none => rw [h] at this; cases this
 | some l => rfl
theorem keyP {p : PtS} (Z : p.1.size <= maxLen) (V : p.2.size <= maxLen) : keyOf Tryz.prog 73 (VS p) = some (kP p) := by
 obtain ⟨m, U⟩ := bts;have : (keyOf Tryz.prog 73 (VS p)).isSome := kOs U (e := 55) (f0 := ⟨ "X", 55, 0, false, "", "", 0⟩) (f1 := ⟨ "Y", 55, 1, false, "", "", 16⟩) (by kernel_rfl) (by kernel_rfl) (by kernel_rfl) (by kernel_rfl) (by kernel_rfl) rfl rfl rfl rfl (by decide) (by decide) Z V;unfold kP;cases h : keyOf Tryz.prog 73 (VS p) with
 | none => rw [h] at this; cases this
 | some l => rfl
theorem kEi {s t : Edge} (Z : InI s.1) (Y : InI s.2) (X : InI t.1) (V : InI t.2) (h : kE s = kE t) : s = t := by
 have a := keyE Z Y;have b := keyE X V;rw [h] at a;have := lawE.inj a b;unfold VE at this;simp at this;exact Prod.ext this.1 this.2
theorem kIi {a b : Int} (h : kI a = kI b) : a = b := by unfold kI at h; cases h; rfl
theorem dLs {α : Type} [DecidableEq α] (l : List α) (x : α) : distL (l ++ [x]) = aNw (distL l) x := by simp [distL]
theorem mfa {α : Type} [DecidableEq α] (x : α) : ∀ (l Z : List α), x ∈ l.foldl aNw Z ↔ x ∈ Z \/ x ∈ l
 | [], Z => by simp
 | y :: l, Z => by
   rw [List.foldl_cons, mfa x l];unfold aNw;split
   ·rename_i h
    constructor
    ·rintro (Y | Y)
     ·exact .inl Y
     ·exact .inr (List.mem_cons_of_mem _ Y)
    ·rintro (Y | Y)
     ·exact .inl Y
     ·rcases List.mem_cons.1 Y with rfl | Y
      ·exact .inl h
      ·exact .inr Y
   ·rw [List.mem_append, List.mem_singleton, List.mem_cons, or_assoc]
theorem mem_distL {α : Type} [DecidableEq α] {x : α} {l : List α} : x ∈ distL l ↔ x ∈ l := by
 unfold distL; rw [mfa]; simp
structure KVw (α : Type) (K : Nat) where
 val : α -> Value
 lit : α -> Lit
 In : α -> Prop
 law : Keyed Tryz.prog K
 key : ∀ {s}, In s -> keyOf Tryz.prog K (val s) = some (lit s)
 inj : ∀ {s t}, In s -> In t -> lit s = lit t -> s = t
def MapL {α β : Type} {K : Nat} (V : KVw α K) (E : Nat) (ev : β -> Lit) (w : World) (b n : Nat) (D : DataW Unit) (L : List (α × β)) : Prop :=
 w.ownsMap Tryz.prog K (plainElem Tryz.prog E) b n D /\ (∀ s, V.In s -> (has D (V.lit s) = true ↔ s ∈ L.map (·.1))) /\
 (∀ s i, (s, i) ∈ L -> V.In s /\ ∀ z, D.atKey (V.lit s) z = .lit (ev i)) /\ (∀ k, has D k = true -> ∃ s, V.In s /\ k = V.lit s)
section
variable {α β : Type} {K E : Nat} {V : KVw α K} {ev : β -> Lit} {w w' : World} {b n : Nat} {D : DataW Unit} {L : List (α × β)}
theorem MapL.made (w : World) (V : KVw α K) (E : Nat) (ev : β -> Lit) : MapL V E ev (w.alloc (.map #[] 0)) w.heap.size 0 (.map []) ([] : List (α × β)) :=
 ⟨World.ownsMap_made _ _ _ _, fun s _ => (by simp [Maps.has]), fun s i h => (by cases h), fun k h => (by simp [Maps.has] at h)⟩
theorem MapL.owns (h : MapL V E ev w b n D L) : w.ownsMap Tryz.prog K (plainElem Tryz.prog E) b n D := h.1
theorem MapL.to (h : MapL V E ev w b n D L) {n' : Nat} (hw : w'.ownsMap Tryz.prog K (plainElem Tryz.prog E) b n' D) : MapL V E ev w' b n' D L := ⟨hw, h.2⟩
theorem MapL.kept {row : Option Nat} (h : MapL V E ev w b n D L) (Y : w.grownBy w' row) (Z : some b ≠ row) : MapL V E ev w' b n D L := h.to (h.1.kept Y Z)
theorem MapL.below {m : Nat} (h : MapL V E ev w b n D L) (U : Below m w w') (R : b < m) : MapL V E ev w' b n D L := by
 obtain ⟨⟨Y, Z, S, F, O, X⟩, Q⟩ := h;exact ⟨⟨Y, Z, (U.block b R).trans S, F, O, X⟩, Q⟩
theorem MapL.mono (h : MapL V E ev w b n D L) {n' : Nat} (Z : n <= n') : MapL V E ev w b n' D L := h.to (h.1.mono Z)
theorem MapL.has_iff (h : MapL V E ev w b n D L) {s : α} (Z : V.In s) : has D (V.lit s) = true ↔ s ∈ L.map (·.1) := h.2.1 s Z
theorem MapL.at (h : MapL V E ev w b n D L) {s : α} {i : β} (Z : (s, i) ∈ L) (z : DataW Unit) : D.atKey (V.lit s) z = .lit (ev i) := (h.2.2.1 s i Z).2 z
theorem MapL.not_at (h : MapL V E ev w b n D L) {s : α} (X : V.In s) (Y : s ∉ L.map (·.1)) (z : DataW Unit) : D.atKey (V.lit s) z = z :=
 atKey_of_not_has (by cases Z : has D (V.lit s); rfl; exact absurd ((h.has_iff X).1 Z) Y) z
theorem MapL.put (h : MapL V E ev w b n D L) {s : α} {i : β} (U : V.In s) (X : ∀ j, (s, j) ∈ L -> ev j = ev i) {n' : Nat} (hw : w'.ownsMap Tryz.prog K (plainElem Tryz.prog E) b n' (D.put (V.lit s) (.lit (ev i)))) :
 MapL V E ev w' b n' (D.put (V.lit s) (.lit (ev i))) (L ++ [(s, i)]) := by
 have S : IsMap D := (h.1.tidy V.law).isMap;have Q : WideAt.IsKeyLit (V.lit s) := V.law.key (V.key U);refine ⟨hw, fun t ht => ?_, fun t j htj => ?_, fun k hk' => ?_⟩
 ·by_cases e : t = s
  ·subst e; simp [has_put_same S Q]
  ·rw [has_put_other (fun e' => e (V.inj ht U e')), h.has_iff ht]
   simp [e]
 ·rcases List.mem_append.1 htj with Z | Z
  ·obtain ⟨Y, R⟩ := h.2.2.1 t j Z
   refine ⟨Y, fun z => ?_⟩;by_cases e : t = s
   ·subst e
    rw [atKey_put_same S Q, X j Z]
   ·rw [atKey_put_other (fun e' => e (V.inj Y U e')), R]
  ·rw [List.mem_singleton] at Z
   cases Z;exact ⟨U, fun z => atKey_put_same S Q _ _⟩
 ·by_cases e : k = V.lit s
  ·exact ⟨s, U, e⟩
  ·rw [has_put_other e] at hk'
   exact h.2.2.2 k hk'
theorem MapL.size_put (h : MapL V E ev w b n D L) [DecidableEq α] {s : α} (Z : V.In s) (d : DataW Unit) (Y : size D = (distL (L.map (·.1))).length) :
 size (D.put (V.lit s) d) = (distL (L.map (·.1) ++ [s])).length := by
 rw [Maps.size_put (h.1.tidy V.law), dLs, Y];unfold aNw;cases hh : has D (V.lit s)
 ·have : s ∉ distL (L.map (·.1)) := fun hm => by
   have := (h.has_iff Z).2 (mem_distL.1 hm);rw [hh] at this; cases this
  simp [this]
 ·have : s ∈ distL (L.map (·.1)) := mem_distL.2 ((h.has_iff Z).1 hh)
  simp [this]
end
theorem pEb {H : Type} {P : Program} {e : TypeId} (Z : P.underlying e = some .bool) {v : Value} {z : DataW H × List MemPlace} (h : plainElem P e v = some z) : ∃ a, v = .bool a /\ z = (.lit (.bool a), []) := by
 unfold plainElem at h;rw [Z] at h;cases v <;> simp at h;exact ⟨_, rfl, h.symm⟩
theorem wLl {H : Type} {P : Program} (w : World) {ops : Array Oper} {rest : List Oper} {o : Oper} {a : Act} {Q : Exit -> Act -> World -> Prop}
 (N : o.guard = none) (m x : Operand) (t : TypeId) (V : o.op = Op.lookup t m x false)
 (k e : TypeId) (K : Keyed P k) (L : P.underlying t = some (.map k e)) (S : P.underlying e = some .bool) (I : (zeroValue e).run P w = .ok (.bool false) w) (b n : Nat) (D : DataW H)
 (M : a.eval m = .map (some b)) (Y : w.ownsMap P k (plainElem P e) b n D) (key : Value) (R : Lit) (hx : a.eval x = key) (Z : keyOf P k key = some R)
 (O : ∀ c : Bool, D.atKey R (.lit (.bool false)) = .lit (.bool c) -> wpList P ops Q rest (a.put o.dst (.bool c)) w) :
 wpList P ops Q (o :: rest) a w := by
 refine wpList_plain N fun K' hK' => ?_;obtain ⟨v, G, X, J⟩ := Y.lookup K L I (plainElem_bool S false) Z;obtain ⟨c, rfl, U⟩ := pEb S J;simp only [Prod.mk.injEq] at U;unfold Oper.wp;simp [execOp, V, M, hx, X, Result.andThen];exact hK' _ _ (O c U.1)
def InE (s : Edge) : Prop := InI s.1 /\ InI s.2
def InS (p : PtS) : Prop := p.1.size <= maxLen /\ p.2.size <= maxLen
noncomputable def viewE : KVw Edge 142 := ⟨VE, kE, InE, lawE, fun h => keyE h.1 h.2, fun h1 h2 => kEi h1.1 h1.2 h2.1 h2.2⟩
theorem kPi {s t : PtS} (Z : InS s) (Y : InS t) (h : kP s = kP t) : s = t := by
 have a := keyP Z.1 Z.2;have b := keyP Y.1 Y.2;rw [h] at a;have := lawP.inj a b;unfold VS at this;simp at this;exact Prod.ext this.1 this.2
noncomputable def viewP : KVw PtS 73 := ⟨VS, kP, InS, lawP, fun h => keyP h.1 h.2, kPi⟩
noncomputable def viewI : KVw Int 3 := ⟨.int .i64, kI, InI, lawI, fun h => keyI h, fun _ _ h => kIi h⟩
theorem zeroI (w : World) : (zeroValue 3).run Tryz.prog w = .ok (.int .i64 0) w := by kernel_rfl
theorem zeroB (w : World) : (zeroValue 4).run Tryz.prog w = .ok (.bool false) w := by kernel_rfl
theorem uEI : (Tryz.prog).underlying 218 = some (.map 142 3) := by kernel_rfl
theorem uII : (Tryz.prog).underlying 252 = some (.map 3 3) := by kernel_rfl
theorem uIB : (Tryz.prog).underlying 221 = some (.map 3 4) := by kernel_rfl
theorem uPB : (Tryz.prog).underlying 172 = some (.map 73 4) := by kernel_rfl
theorem und_I : (Tryz.prog).underlying 3 = some (.int .i64) := by kernel_rfl
theorem und_B : (Tryz.prog).underlying 4 = some .bool := by kernel_rfl
end Go.Proofs.YtmcbeajdloaliaaGreatDoor
namespace Go.Proofs.YtmcbeajdloaliaaGreatDoor
open Go.RowKit Go.Shelf Go.Lib
section
variable {F : Fence} {n : Nat} {P : Program} {ops : Array Oper} {Q : Exit -> Act -> World -> Prop} {md : Region.Mode}
theorem wAI {vals : Nat -> Value -> Prop} {a0 : Act} (C : Array Bool -> Act -> World -> Prop) (z : tidyB ops a0.tmps.size = true)
 (N : ∀ Z a w i o, ops[i]? = some o -> Z.getD i true = false -> (∀ e ∈ o.after, Region.binds md e = true -> Z.getD e.on false = true) -> DrawnAt md ops vals a0 Z a -> C Z a w ->
   Region.wanted o (yielded ops a.tmps) = true /\ o.wpIn F n P a w (fun A w' => ∃ v, vals i v /\ A = a.put o.dst v /\ C (Z.setIfInBounds i true) (a.put o.dst v) w') Q)
 (S : ∀ Z a w, (∀ i, i < ops.size -> Z.getD i false = true) -> DrawnAt md ops vals a0 Z a -> C Z a w -> Q .normal a w) :
 ∀ fuel Z a w, (List.range ops.size).countP (fun i => !(Z.getD i false)) <= fuel -> DrawnAt md ops vals a0 Z a -> C Z a w -> wpAnyIn F n P md ops Q fuel Z a w := by
 have L : ∀ Z a, DrawnAt md ops vals a0 Z a -> Region.ready md ops Z = [] -> ∀ i, i < ops.size -> Z.getD i false = true := by
  intro Z a Y D i X
  induction i using Nat.strongRecOn with
  | _ i ih =>
    cases E : Z.getD i false with
    | true => rfl
    | false =>
      have R : i ∈ Region.ready md ops Z := by
       refine mem_ready.2 ⟨?_, ops[i], by simp [X], ?_⟩
       ·rw [Array.getD_eq_getD_getElem?] at *
        have : i < Z.size := by rw [Y.size]; exact X
        rw [Array.getElem?_eq_getElem this] at *;exact E
       ·intro e t _
        have V := tee z (i := i) (o := ops[i]) (by simp [X]) e t;exact ih e.on V (by omega)
      rw [D] at R;cases R
 intro fuel
 induction fuel with
 | zero =>
   intro Z a w E Y H;have K : ∀ i, i < ops.size -> Z.getD i false = true := by
    intro i X;have y : (List.range ops.size).countP (fun i => !(Z.getD i false)) = 0 := by omega
    have := List.countP_eq_zero.1 y i (List.mem_range.2 X);simpa using this
   refine ⟨?_, S _ _ _ K Y H⟩;apply List.eq_nil_iff_forall_not_mem.2;intro i X;obtain ⟨M, o, O, _⟩ := mem_ready.1 X;have I := K i (Array.getElem?_eq_some_iff.1 O).1;have B : i < Z.size := by rw [Y.size]; exact (Array.getElem?_eq_some_iff.1 O).1
   rw [Array.getD_eq_getD_getElem?, Array.getElem?_eq_getElem B] at M I;simp only [Option.getD_some] at M I;rw [M] at I; cases I
 | succ fuel ih =>
   intro Z a w E Y H;refine ⟨fun D => S _ _ _ (L _ _ Y D) Y H, fun i X => ?_⟩;obtain ⟨M, o, O, U⟩ := mem_ready.1 X;obtain ⟨hw, B⟩ := N Z a w i o O M U Y H;unfold wpOpIn;simp only [O, hw, if_true];refine Oper.wpIn_mono ?_ B;rintro A w' ⟨v, s, rfl, G⟩;refine ih _ _ _ ?_ (Y.step z O U s) G;have V : i < ops.size := (Array.getElem?_eq_some_iff.1 O).1;have J : i < Z.size := by rw [Y.size]; exact V
   have := cPd (fun j => !(Z.getD j false)) (fun j => !((Z.setIfInBounds i true).getD j false)) (fun x hx => by
    simp only [Bool.not_eq_true'] at *;cases hb : Z.getD x false with
    | false => rfl
    | true => rw [gDs hb] at hx; cases hx) i (by
      rw [Array.getD_eq_getD_getElem?, Array.getElem?_eq_getElem J] at *;simp only [Option.getD_some] at *;simp [M]) (by simp [Array.getD_eq_getD_getElem?, J]) (List.range ops.size) (List.mem_range.2 V)
   omega
theorem wIr {id : Nat} {l : List Oper} {a : Act} {w : World} (vals : Nat -> Value -> Prop) (C : Array Bool -> Act -> World -> Prop) (U : P.follows .mixedOrders = true) (S : tidyB l.toArray a.tmps.size = true)
 (V : C (Array.replicate l.toArray.size false) a w.drew)
 (Z : ∀ listed a' w' i o, l.toArray[i]? = some o -> listed.getD i true = false -> (∀ e ∈ o.after, Region.binds .any e = true -> listed.getD e.on false = true) -> DrawnAt .any l.toArray vals a listed a' -> C listed a' w' ->
   Region.wanted o (yielded l.toArray a'.tmps) = true /\ o.wpIn F n P a' w' (fun a'' w'' => ∃ v, vals i v /\ a'' = a'.put o.dst v /\ C (listed.setIfInBounds i true) (a'.put o.dst v) w'') Q)
 (Y : ∀ listed a' w', (∀ i, i < l.toArray.size -> listed.getD i false = true) -> DrawnAt .any l.toArray vals a listed a' -> C listed a' w' -> Q .normal a' w') :
 (Code.region id l.toArray true).wpIn F n P Q a w := by
 refine wpIn_region_any U (wAI (vals := vals) (a0 := a) C S Z Y _ _ _ _ ?_ ⟨by simp, ?_, ?_, fun _ _ => rfl, rfl, rfl⟩ V)
 ·exact Nat.le_trans (List.countP_le_length) (by simp)
 ·intro j R _ X; simp [Array.getD_eq_getD_getElem?] at X
  rcases Nat.lt_or_ge j l.length with h | h <;> simp_all
 ·intro j R d _ _ X; simp [Array.getD_eq_getD_getElem?] at X
  rcases Nat.lt_or_ge j l.length with h | h <;> simp_all
end
end Go.Proofs.YtmcbeajdloaliaaGreatDoor
namespace Go.Proofs.YtmcbeajdloaliaaGreatDoor
open Go.RowKit Go.Shelf Go.Lib
attribute [local go_sem] Oper.semAt_some
def sideK (t : Tri) (k : Fin 3) : Edge := match k with | 0 => (t.1, t.2.1) | 1 => (t.2.1, t.2.2) | 2 => (t.2.2, t.1)
def eSe (t : Tri) (k : Fin 3) : Array Value := #[.int .i64 (k.val : Int), .agg #[.int .i64 (sideK t k).1, .int .i64 (sideK t k).2]]
def all3 : List (Fin 3) := [0, 1, 2]
def VT (t : Tri) : Value := .agg #[.int .i64 t.1, .int .i64 t.2.1, .int .i64 t.2.2]
theorem sz0 (t : Tri) (w : World) :
 Calls Tryz.prog 181 #[VT t] w fun e w' => e = .returned (.func (.func 210) #[] #[.pointer (some ⟨w.heap.size, 0, none⟩)]) /\ w.alloc (.cells #[.int .i64 t.1, .int .i64 t.2.1, .int .i64 t.2.2] 70) = w' := by
 obtain ⟨x, y, z⟩ := t;unfold VT;go_enter Tryz.func181, Tryz.ntmps181;go_wp2;go_ret;exact ⟨rfl, rfl⟩
theorem lln {α : Type} {l : List α} {n : Nat} (h : l.length = n + 1) : ∃ a r, l = a :: r /\ r.length = n := by
 cases l with
 | nil => simp at h
 | cons a r => exact ⟨a, r, rfl, by simpa using h⟩
theorem arr21 {tm : Array Value} (h : tm.size = 21) : ∃ x0 x1 x2 m l k j i g f L K J I H G E D C B A, tm = #[x0, x1, x2, m, l, k, j, i, g, f, L, K, J, I, H, G, E, D, C, B, A] := by
 obtain ⟨e⟩ := tm;simp only [List.size_toArray] at h;have y : e.length = 21 := h;clear h;obtain ⟨x0, l1, rfl, x⟩ := lln y;clear y;obtain ⟨x1, l2, rfl, v⟩ := lln x;clear x;obtain ⟨x2, l3, rfl, t⟩ := lln v;clear v;obtain ⟨m, l4, rfl, s⟩ := lln t;clear t;obtain ⟨l, l5, rfl, r⟩ := lln s;clear s;obtain ⟨k, l6, rfl, q⟩ := lln r;clear r;obtain ⟨j, l7, rfl, p⟩ := lln q;clear q;obtain ⟨i, l8, rfl, o⟩ := lln p;clear p;obtain ⟨g, l9, rfl, n⟩ := lln o;clear o;obtain ⟨f, d, rfl, Z⟩ := lln n;clear n;obtain ⟨L, c, rfl, Y⟩ := lln Z;clear Z;obtain ⟨K, b, rfl, X⟩ := lln Y;clear Y;obtain ⟨J, a, rfl, V⟩ := lln X;clear X;obtain ⟨I, h0, rfl, U⟩ := lln V;clear V;obtain ⟨H, h1, rfl, S⟩ := lln U;clear U;obtain ⟨G, h2, rfl, R⟩ := lln S;clear S;obtain ⟨E, h3, rfl, Q⟩ := lln R;clear R;obtain ⟨D, h4, rfl, O⟩ := lln Q;clear Q;obtain ⟨C, h5, rfl, N⟩ := lln O;clear O;obtain ⟨B, h6, rfl, M⟩ := lln N;clear N;obtain ⟨A, h7, rfl, z⟩ := lln M;clear M;obtain rfl := List.length_eq_zero_iff.1 z;exact ⟨_, _, _, _, _, _, _, _, _, _, _, _, _, _, _, _, _, _, _, _, _, rfl⟩
theorem wc0 {F : Fence} {n : Nat} {P : Program} {Q : Exit -> Act -> World -> Prop} {o : Oper} {a : Act} {w w' : World} {K : Act -> World -> Prop} {l : Nat} {fn : FuncId} {tmps : Array Value} {assign body : Code} (X : ∀ c, o.op ≠ .defer c)
 (V : ∀ f, o.about P w a.eval = some f -> F.fn f) (U : (execOp a.eval o).run P w = .ok (.round l fn tmps assign body) w')
 (Y : (F.depth.isSome = true -> 1 <= n) /\ RoundIn F (n - 1) P l fn tmps assign body w' fun e Z => ∃ v, e = .returned v /\ K (a.put o.dst v) Z) : o.wpIn F n P a w K Q := by
 refine ⟨V, ?_⟩;rw [Oper.semAt_eq _ _ _ X, U, Oper.uponIn_round];refine ⟨Y.1, Y.2.mono ?_⟩;rintro e Z ⟨v, rfl, h⟩;exact h
theorem s1i (F : Fence) (n : Nat) (h7 : F.fn 210) (hd : F.round = none) (hn : 1 <= n) (l G n₀ : Nat) (t : Tri) (J Jx : List (Fin 3) -> World -> Prop)
 (h9 : ∀ pre W, J pre W -> J pre W.drew)
 (hY : ∀ pre x W, J pre W -> pre.length < 3 -> YieldAt F (n - 1) Tryz.prog l (eSe t x) W fun e W' =>
   (e = .returned (.bool true) /\ J (pre ++ [x]) W' /\ KeepAt n₀ G W W') \/ (e = .returned (.bool false) /\ Jx (pre ++ [x]) W'))
 (W : World) (h5 : W.cell? ⟨G, 0, none⟩ = some (.int .i64 t.1)) (h6 : W.cell? ⟨G, 1, none⟩ = some (.int .i64 t.2.1)) (h8 : W.cell? ⟨G, 2, none⟩ = some (.int .i64 t.2.2)) (h0 : J [] W) :
 CallsIn F n Tryz.prog 210 #[.func (.yield l) #[] #[], .pointer (some ⟨G, 0, none⟩)] W fun e W' => (∃ v, e = .returned v) /\
  ((∃ ys : List (Fin 3), ys = all3 /\ J ys W') \/ (∃ pre, pre <+: all3 /\ Jx pre W')) := by
 refine callsIn_of_wp Tryz.func210 rfl h7 ?_ hd;simp only [Tryz.ntmps210, List.size_toArray, List.length_cons, List.length_nil, Nat.reduceAdd, Nat.reduceSub, Array.replicate_succ, Array.replicate_zero, List.push_toArray, List.append_toArray, List.nil_append, List.cons_append]
 gi_wp2
 gi_loopw [4] (fun i wr => ∃ k : Nat, k <= 3 /\ i = .int .i64 (k : Int) /\ J (all3.take k) wr /\ (wr.cell? ⟨G, 0, none⟩ = some (.int .i64 t.1) /\ wr.cell? ⟨G, 1, none⟩ = some (.int .i64 t.2.1) /\ wr.cell? ⟨G, 2, none⟩ = some (.int .i64 t.2.2)))
  (fun i _ => (3 - RowKit.intOf i).toNat)
 case atStart => exact ⟨0, by omega, rfl, h0, h5, h6, h8⟩
 case round =>
  obtain ⟨k, hk, rfl, h1, c0, c1, c2⟩ := hrel;by_cases hlt : k < 3
  ·obtain ⟨x, hx⟩ := zex (⟨k, hlt⟩ : Fin 3)
   have hh : x.val = k := by rw [hx]
   obtain ⟨j, M, hv⟩ : ∃ j : Nat, ((k : Int) + 1).tmod 3 = (j : Int) /\ j < 3 := by
    rcases (by omega : k = 0 \/ k = 1 \/ k = 2) with rfl | rfl | rfl
    ·exact ⟨1, by decide, by omega⟩
    ·exact ⟨2, by decide, by omega⟩
    ·exact ⟨0, by decide, by omega⟩
   have cx : wr.cell? ⟨G, k, none⟩ = some (.int .i64 (sideK t x).1) := by
    subst hx;rcases (by omega : k = 0 \/ k = 1 \/ k = 2) with rfl | rfl | rfl
    ·exact c0
    ·exact c1
    ·exact c2
   have cy : wr.cell? ⟨G, j, none⟩ = some (.int .i64 (sideK t x).2) := by
    subst hx;rcases (by omega : k = 0 \/ k = 1 \/ k = 2) with rfl | rfl | rfl
    ·obtain rfl : j = 1 := by have : ((0 : Nat) : Int) + 1 = 1 := rfl; rw [this] at M; have h2 : (1 : Int).tmod 3 = 1 := rfl; omega
     exact c1
    ·obtain rfl : j = 2 := by have : ((1 : Nat) : Int) + 1 = 2 := rfl; rw [this] at M; have h2 : (2 : Int).tmod 3 = 2 := rfl; omega
     exact c2
    ·obtain rfl : j = 0 := by have : ((2 : Nat) : Int) + 1 = 3 := rfl; rw [this] at M; have h2 : (3 : Int).tmod 3 = 0 := rfl; omega
     exact c0
   have hg : all3.take k ++ [x] = all3.take (k + 1) := by
    subst hx;rcases (by omega : k = 0 \/ k = 1 \/ k = 2) with rfl | rfl | rfl <;> rfl
   have ha : (all3.take k).length < 3 := by rw [List.length_take]; have : all3.length = 3 := rfl; omega
   obtain ⟨fn, tmps, assign, body, hy, hR⟩ := hY (all3.take k) x wr.drew (h9 _ _ h1) ha;dsimp only [eSe] at hy;rw [hh] at hy;generalize (sideK t x).1 = ev at *;generalize (sideK t x).2 = ew at *;clear hY;have HJ := Lib.hid M;have m := Lib.hid hg;have f1 : (k : Int) < 3 := by omega
   have f2 : (j : Int) < 3 := by omega
   have w1 : IntKind.i64.wrap ((k : Int) + 1) = (k : Int) + 1 := IntWalk.i64_in _ (by omega);have w2 : IntKind.i64.wrap (j : Int) = (j : Int) := IntWalk.i64_in _ (by omega)
   gi_wp2
   refine wIr (fun i v => match i with
    | 0 => v = .func (.yield l) #[] #[] | 1 => v = .int .i64 k | 2 => v = .int .i64 k | 3 => v = .pointer (some ⟨G, k, none⟩) | 4 => v = .int .i64 ev
    | 5 => v = .int .i64 k | 6 => v = .int .i64 ((k : Int) + 1) | 7 => v = .int .i64 j | 8 => v = .pointer (some ⟨G, j, none⟩) | 9 => v = .int .i64 ew
    | 10 => v = .agg #[.int .i64 ev, .int .i64 ew] | 11 => ∃ b, v = .bool b | 12 => ∃ b, v = .bool (!b) | _ => v = undef)
    (fun N a X => if N.getD 11 false then ((a.eval (.tmp 18) = .bool true /\ (N.getD 12 false = true -> a.eval (.tmp 19) = .bool false) /\ J (all3.take k ++ [x]) X /\ KeepAt n₀ G wr.drew X) \/ (a.eval (.tmp 18) = .bool false /\ (N.getD 12 false = true -> a.eval (.tmp 19) = .bool true) /\ Jx (all3.take k ++ [x]) X)) else X = wr.drew)
    (by kernel_rfl) (by kernel_rfl) (by simp) ?_ ?_
   ·intro N V X i o L s Y O Q
    have U := ga0 N;have R : i < 11 -> N.getD 11 false = false := fun hi => by
     refine Bool.eq_false_iff.2 fun h => ?_;have K := fun j q (M : _ = some q) h e he hb => O.closed j q M h e he hb;have l0 := K 11 _ rfl h ⟨0, .data⟩ (by simp) rfl;have l1 := K 11 _ rfl h ⟨1, .data⟩ (by simp) rfl;have h4 := K 11 _ rfl h ⟨10, .data⟩ (by simp) rfl;have l4 := K 10 _ rfl h4 ⟨4, .data⟩ (by simp) rfl;have l9 := K 10 _ rfl h4 ⟨9, .data⟩ (by simp) rfl;have l3 := K 4 _ rfl l4 ⟨3, .data⟩ (by simp) rfl;have l2 := K 3 _ rfl l3 ⟨2, .data⟩ (by simp) rfl;have l8 := K 9 _ rfl l9 ⟨8, .data⟩ (by simp) rfl;have l7 := K 8 _ rfl l8 ⟨7, .data⟩ (by simp) rfl;have l6 := K 7 _ rfl l7 ⟨6, .data⟩ (by simp) rfl;have l5 := K 6 _ rfl l6 ⟨5, .data⟩ (by simp) rfl;have hw := gDf s;rcases i with _|_|_|_|_|_|_|_|_|_|_|i
     all_goals first | omega | (simp_all; done)
    have o0 := O.old 0 (by intro j q M; rcases j with _|_|_|_|_|_|_|_|_|_|_|_|_|j <;> first | (injection M with M; subst M; simp) | exact absurd M (by simp));have o1 := O.old 1 (by intro j q M; rcases j with _|_|_|_|_|_|_|_|_|_|_|_|_|j <;> first | (injection M with M; subst M; simp) | exact absurd M (by simp));have o3 := O.old 3 (by intro j q M; rcases j with _|_|_|_|_|_|_|_|_|_|_|_|_|j <;> first | (injection M with M; subst M; simp) | exact absurd M (by simp));replace o0 : V.eval (.tmp 0) = .func (.yield l) #[] #[] := o0;replace o1 : V.eval (.tmp 1) = .pointer (some ⟨G, 0, none⟩) := o1;replace o3 : V.eval (.tmp 3) = .int .i64 k := o3;rcases i with _|_|_|_|_|_|_|_|_|_|_|_|_|i
    ·injection L with L; subst L
     have Z := R (by decide);rw [if_neg (by rw [Z]; simp)] at Q;refine ⟨rfl, wIv (w' := X) (by intro c S; cases S) (by intro c S; cases S) ?_ ⟨_, rfl, rfl, by rw [U 0 11 (by omega), if_neg (by rw [Z]; simp)]; exact Q⟩⟩;subst Q;clear Y O U R;have I : V.eval (.const (.int .i64 1)) = .int .i64 1 := rfl;have H : V.eval (.const (.int .i64 3)) = .int .i64 3 := rfl;generalize V.eval = ρ at *;simp [execOp, go_sem, *]
    ·injection L with L; subst L
     have Z := R (by decide);rw [if_neg (by rw [Z]; simp)] at Q;refine ⟨rfl, wIv (w' := X) (by intro c S; cases S) (by intro c S; cases S) ?_ ⟨_, rfl, rfl, by rw [U 1 11 (by omega), if_neg (by rw [Z]; simp)]; exact Q⟩⟩;subst Q;clear Y O U R;have I : V.eval (.const (.int .i64 1)) = .int .i64 1 := rfl;have H : V.eval (.const (.int .i64 3)) = .int .i64 3 := rfl;generalize V.eval = ρ at *;simp [execOp, go_sem, *]
    ·injection L with L; subst L
     have Z := R (by decide);rw [if_neg (by rw [Z]; simp)] at Q;refine ⟨rfl, wIv (w' := X) (by intro c S; cases S) (by intro c S; cases S) ?_ ⟨_, rfl, rfl, by rw [U 2 11 (by omega), if_neg (by rw [Z]; simp)]; exact Q⟩⟩;subst Q;clear Y O U R;have I : V.eval (.const (.int .i64 1)) = .int .i64 1 := rfl;have H : V.eval (.const (.int .i64 3)) = .int .i64 3 := rfl;generalize V.eval = ρ at *;simp [execOp, go_sem, *]
    ·injection L with L; subst L
     have e9 : V.eval (.tmp 9) = .int .i64 k := O.has 2 _ 9 rfl rfl (Y ⟨2, .data⟩ (by simp) rfl);have Z := R (by decide);rw [if_neg (by rw [Z]; simp)] at Q;refine ⟨rfl, wIv (w' := X) (by intro c S; cases S) (by intro c S; cases S) ?_ ⟨_, rfl, rfl, by rw [U 3 11 (by omega), if_neg (by rw [Z]; simp)]; exact Q⟩⟩;subst Q;clear Y O U R;have I : V.eval (.const (.int .i64 1)) = .int .i64 1 := rfl;have H : V.eval (.const (.int .i64 3)) = .int .i64 3 := rfl;generalize V.eval = ρ at *;simp [execOp, go_sem, *]
    ·injection L with L; subst L
     have hl : V.eval (.tmp 10) = .pointer (some ⟨G, k, none⟩) := O.has 3 _ 10 rfl rfl (Y ⟨3, .data⟩ (by simp) rfl);have Z := R (by decide);rw [if_neg (by rw [Z]; simp)] at Q;refine ⟨rfl, wIv (w' := X) (by intro c S; cases S) (by intro c S; cases S) ?_ ⟨_, rfl, rfl, by rw [U 4 11 (by omega), if_neg (by rw [Z]; simp)]; exact Q⟩⟩;subst Q;clear Y O U R;have I : V.eval (.const (.int .i64 1)) = .int .i64 1 := rfl;have H : V.eval (.const (.int .i64 3)) = .int .i64 3 := rfl;generalize V.eval = ρ at *;simp [execOp, go_sem, *]
    ·injection L with L; subst L
     have Z := R (by decide);rw [if_neg (by rw [Z]; simp)] at Q;refine ⟨rfl, wIv (w' := X) (by intro c S; cases S) (by intro c S; cases S) ?_ ⟨_, rfl, rfl, by rw [U 5 11 (by omega), if_neg (by rw [Z]; simp)]; exact Q⟩⟩;subst Q;clear Y O U R;have I : V.eval (.const (.int .i64 1)) = .int .i64 1 := rfl;have H : V.eval (.const (.int .i64 3)) = .int .i64 3 := rfl;generalize V.eval = ρ at *;simp [execOp, go_sem, *]
    ·injection L with L; subst L
     have hp : V.eval (.tmp 12) = .int .i64 k := O.has 5 _ 12 rfl rfl (Y ⟨5, .data⟩ (by simp) rfl);have Z := R (by decide);rw [if_neg (by rw [Z]; simp)] at Q;refine ⟨rfl, wIv (w' := X) (by intro c S; cases S) (by intro c S; cases S) ?_ ⟨_, rfl, rfl, by rw [U 6 11 (by omega), if_neg (by rw [Z]; simp)]; exact Q⟩⟩;subst Q;clear Y O U R;have I : V.eval (.const (.int .i64 1)) = .int .i64 1 := rfl;have H : V.eval (.const (.int .i64 3)) = .int .i64 3 := rfl;generalize V.eval = ρ at *;simp [execOp, go_sem, *]
    ·injection L with L; subst L
     have hq : V.eval (.tmp 13) = .int .i64 ((k : Int) + 1) := O.has 6 _ 13 rfl rfl (Y ⟨6, .data⟩ (by simp) rfl);have Z := R (by decide);rw [if_neg (by rw [Z]; simp)] at Q;refine ⟨rfl, wIv (w' := X) (by intro c S; cases S) (by intro c S; cases S) ?_ ⟨_, rfl, rfl, by rw [U 7 11 (by omega), if_neg (by rw [Z]; simp)]; exact Q⟩⟩;subst Q;clear Y O U R;have I : V.eval (.const (.int .i64 1)) = .int .i64 1 := rfl;have H : V.eval (.const (.int .i64 3)) = .int .i64 3 := rfl;generalize V.eval = ρ at *;simp [execOp, go_sem, *]
    ·injection L with L; subst L
     have hr : V.eval (.tmp 14) = .int .i64 j := O.has 7 _ 14 rfl rfl (Y ⟨7, .data⟩ (by simp) rfl);have Z := R (by decide);rw [if_neg (by rw [Z]; simp)] at Q;refine ⟨rfl, wIv (w' := X) (by intro c S; cases S) (by intro c S; cases S) ?_ ⟨_, rfl, rfl, by rw [U 8 11 (by omega), if_neg (by rw [Z]; simp)]; exact Q⟩⟩;subst Q;clear Y O U R;have I : V.eval (.const (.int .i64 1)) = .int .i64 1 := rfl;have H : V.eval (.const (.int .i64 3)) = .int .i64 3 := rfl;generalize V.eval = ρ at *;simp [execOp, go_sem, *]
    ·injection L with L; subst L
     have hs : V.eval (.tmp 15) = .pointer (some ⟨G, j, none⟩) := O.has 8 _ 15 rfl rfl (Y ⟨8, .data⟩ (by simp) rfl);have Z := R (by decide);rw [if_neg (by rw [Z]; simp)] at Q;refine ⟨rfl, wIv (w' := X) (by intro c S; cases S) (by intro c S; cases S) ?_ ⟨_, rfl, rfl, by rw [U 9 11 (by omega), if_neg (by rw [Z]; simp)]; exact Q⟩⟩;subst Q;clear Y O U R;have I : V.eval (.const (.int .i64 1)) = .int .i64 1 := rfl;have H : V.eval (.const (.int .i64 3)) = .int .i64 3 := rfl;generalize V.eval = ρ at *;simp [execOp, go_sem, *]
    ·injection L with L; subst L
     have hm : V.eval (.tmp 11) = .int .i64 ev := O.has 4 _ 11 rfl rfl (Y ⟨4, .data⟩ (by simp) rfl);have ht : V.eval (.tmp 16) = .int .i64 ew := O.has 9 _ 16 rfl rfl (Y ⟨9, .data⟩ (by simp) rfl);have Z := R (by decide);rw [if_neg (by rw [Z]; simp)] at Q;refine ⟨rfl, wIv (w' := X) (by intro c S; cases S) (by intro c S; cases S) ?_ ⟨_, rfl, rfl, by rw [U 10 11 (by omega), if_neg (by rw [Z]; simp)]; exact Q⟩⟩;subst Q;clear Y O U R;have I : V.eval (.const (.int .i64 1)) = .int .i64 1 := rfl;have H : V.eval (.const (.int .i64 3)) = .int .i64 3 := rfl;generalize V.eval = ρ at *;simp [execOp, go_sem, *]
    ·injection L with L; subst L
     have e7 : V.eval (.tmp 7) = .func (.yield l) #[] #[] := O.has 0 _ 7 rfl rfl (Y ⟨0, .data⟩ (by simp) rfl);have e8 : V.eval (.tmp 8) = .int .i64 k := O.has 1 _ 8 rfl rfl (Y ⟨1, .data⟩ (by simp) rfl);have hu : V.eval (.tmp 17) = .agg #[.int .i64 ev, .int .i64 ew] := O.has 10 _ 17 rfl rfl (Y ⟨10, .data⟩ (by simp) rfl);have Z := gDf s;rw [if_neg (by rw [Z]; simp)] at Q;subst Q;have p : (N.setIfInBounds 11 true).getD 12 false = false := by
      rw [U 11 12 (by omega)];refine Bool.eq_false_iff.2 fun h => ?_;have := O.closed 12 _ rfl h ⟨11, .data⟩ (by simp) rfl;rw [Z] at this; cases this
     refine ⟨rfl, ?_⟩;refine wc0 (fn := fn) (tmps := tmps) (assign := assign) (body := body) (l := l) (w' := wr.drew) (by intro c S; cases S) ?_ ?_ ?_
     ·intro f hf
      clear Y O R U;generalize V.eval = ρ at *;simp [Oper.about, resolve, go_sem, e7, Target.leads] at hf
     ·clear Y O
      generalize V.eval = ρ at *;simp [execOp, go_sem, *]
     ·refine ⟨fun _ => hn, hR.mono ?_⟩
      rintro e W3 (⟨rfl, y, E⟩ | ⟨rfl, B⟩)
      ·exact ⟨_, rfl, _, ⟨true, rfl⟩, rfl, by rw [if_pos (gDn s)]; exact .inl ⟨eps (by rw [O.tsize]; simp), fun h => (by rw [p] at h; cases h), y, E⟩⟩
      ·exact ⟨_, rfl, _, ⟨false, rfl⟩, rfl, by rw [if_pos (gDn s)]; exact .inr ⟨eps (by rw [O.tsize]; simp), fun h => (by rw [p] at h; cases h), B⟩⟩
    ·injection L with L; subst L
     have z : ∃ b, V.eval (.tmp 18) = .bool b := O.has 11 _ 18 rfl rfl (Y ⟨11, .data⟩ (by simp) rfl);have Z := Y ⟨11, .data⟩ (by simp) rfl;rw [if_pos Z] at Q;rcases Q with ⟨z, _, Q⟩ | ⟨z, _, Q⟩
     ·have g : (V.put (some 19) (.bool false)).eval (.tmp 18) = .bool true := (epo (by decide)).trans z
      have d : (V.put (some 19) (.bool false)).eval (.tmp 19) = .bool false := eps (by rw [O.tsize]; simp);refine ⟨rfl, wIv (w' := X) (v := .bool false) (by intro c S; cases S) (by intro c S; cases S) ?_ ⟨_, ⟨true, rfl⟩, rfl, by rw [U 12 11 (by omega), if_pos Z]; exact .inl ⟨g, fun _ => d, Q⟩⟩⟩;clear Y O Q U g d R;generalize V.eval = ρ at *;simp [execOp, go_sem, *]
     ·have g : (V.put (some 19) (.bool true)).eval (.tmp 18) = .bool false := (epo (by decide)).trans z
      have d : (V.put (some 19) (.bool true)).eval (.tmp 19) = .bool true := eps (by rw [O.tsize]; simp);refine ⟨rfl, wIv (w' := X) (v := .bool true) (by intro c S; cases S) (by intro c S; cases S) ?_ ⟨_, ⟨false, rfl⟩, rfl, by rw [U 12 11 (by omega), if_pos Z]; exact .inr ⟨g, fun _ => d, Q⟩⟩⟩;clear Y O Q U g d R;generalize V.eval = ρ at *;simp [execOp, go_sem, *]
    ·exact absurd L (by simp)
   ·intro N V X A O Q
    rw [if_pos (A 11 (by simp))] at Q;have h3 := O.defers;have r := O.tsize;have o0 := O.old 0 (by intro j q M; rcases j with _|_|_|_|_|_|_|_|_|_|_|_|_|j <;> first | (injection M with M; subst M; simp) | exact absurd M (by simp));have o1 := O.old 1 (by intro j q M; rcases j with _|_|_|_|_|_|_|_|_|_|_|_|_|j <;> first | (injection M with M; subst M; simp) | exact absurd M (by simp));have o2 := O.old 2 (by intro j q M; rcases j with _|_|_|_|_|_|_|_|_|_|_|_|_|j <;> first | (injection M with M; subst M; simp) | exact absurd M (by simp));have o4 := O.old 4 (by intro j q M; rcases j with _|_|_|_|_|_|_|_|_|_|_|_|_|j <;> first | (injection M with M; subst M; simp) | exact absurd M (by simp));have D := A 12 (by simp);clear O A;obtain ⟨tm, df⟩ := V;simp only at h3 r;subst h3;obtain ⟨x0, x1, x2, x3, x4, x5, x6, x7, x8, x9, hz, hA, hB, hE, hF, hG, hH, hJ, hK, hL, hM, rfl⟩ := arr21 r;rw [Array.getD_eq_getD_getElem?] at D;simp [Act.eval] at o0 o1 o2 o4 Q;subst o0; subst o1; subst o2; subst o4;rcases Q with ⟨rfl, C, y, E⟩ | ⟨rfl, C, B⟩
    ·obtain rfl := C D
     rw [m.out] at y;have d0 := (World.cell?_of_block (a := ⟨G, 0, none⟩) E.2).trans c0;have d1 := (World.cell?_of_block (a := ⟨G, 1, none⟩) E.2).trans c1;have d2 := (World.cell?_of_block (a := ⟨G, 2, none⟩) E.2).trans c2;clear C D E r
     gi_wp2
     go_roundw
     case rel => exact ⟨k + 1, by omega, by go_num, y, d0, d1, d2⟩
     case measure => simp [RowKit.intOf]; omega
    ·obtain rfl := C D
     clear C D r
     gi_wp2
     refine bodyPost_ret (results_none rfl _ _ _) rfl ?_;exact ⟨⟨_, rfl⟩, .inr ⟨_, by rw [m.out]; exact List.take_prefix _ _, B⟩⟩
  ·obtain rfl : k = 3 := by omega
   gi_wp2
   go_end0;exact ⟨⟨_, rfl⟩, .inl ⟨_, rfl, h1⟩⟩
end Go.Proofs.YtmcbeajdloaliaaGreatDoor
namespace Go.Proofs.YtmcbeajdloaliaaGreatDoor
open Go.RowKit Go.Maps
theorem mem_bordOf {E : List Edge} {s : Edge} : s ∈ bOf E ↔ s ∈ E /\ revE s ∉ E := by
 unfold bOf; rw [List.mem_filter]; simp
def OutInv (E : List Edge) (left : Edge -> Bool) (f : Int) (L : List Edge) : Prop :=
 (∀ s, s ∈ L ↔ s ∈ bOf E /\ left s = false) /\ (L.map (·.1)).Nodup /\ ((L = [] /\ f = -1) \/ (∃ b, (f, b) ∈ L) /\ ∀ s ∈ L, f <= s.1)
theorem OutInv.start (E : List Edge) (left : Edge -> Bool) (h : ∀ s ∈ E, left s = true) : OutInv E left (-1) [] :=
 ⟨fun s => ⟨fun hs => absurd hs (by simp), fun ⟨h1, h2⟩ => by rw [h s (mem_bordOf.1 h1).1] at h2; cases h2⟩, by simp, .inl ⟨rfl, rfl⟩⟩
theorem OutInv.inner {E : List Edge} {left left' : Edge -> Bool} {f : Int} {L : List Edge} {s : Edge} (h : OutInv E left f L) (V : revE s ∈ E) (X : ∀ t ∈ E, t ≠ s -> left' t = left t) : OutInv E left' f L := by
 refine ⟨fun t => ?_, h.2⟩;rw [h.1 t];constructor
 ·rintro ⟨Z, Y⟩
  refine ⟨Z, ?_⟩;rw [X t (mem_bordOf.1 Z).1 (fun e => (mem_bordOf.1 Z).2 (e ▸ V))]; exact Y
 ·rintro ⟨Z, Y⟩
  refine ⟨Z, ?_⟩;rw [<- X t (mem_bordOf.1 Z).1 (fun e => (mem_bordOf.1 Z).2 (e ▸ V))]; exact Y
theorem OutInv.outer {E : List Edge} {left left' : Edge -> Bool} {f f' : Int} {L : List Edge} {s : Edge} (h : OutInv E left f L) (H : s ∈ E) (G : revE s ∉ E) (U : s.1 ∉ L.map (·.1)) (D : 0 <= s.1) (S : ∀ t ∈ L, 0 <= t.1)
 (M : ∀ t ∈ E, t ≠ s -> left' t = left t) (O : left' s = false) (X : f' = if f < 0 \/ s.1 < f then s.1 else f) : OutInv E left' f' (L ++ [s]) := by
 obtain ⟨K, J, I⟩ := h;refine ⟨fun t => ?_, ?_, .inr ?_⟩
 ·rw [List.mem_append, List.mem_singleton, K t]
  by_cases e : t = s
  ·subst e
   simp [mem_bordOf, H, G, O]
  ·constructor
   ·rintro (⟨V, R⟩ | g)
    ·exact ⟨V, by rw [M t (mem_bordOf.1 V).1 e]; exact R⟩
    ·exact absurd g e
   ·rintro ⟨V, R⟩
    exact .inl ⟨V, by rw [<- M t (mem_bordOf.1 V).1 e]; exact R⟩
 ·rw [List.map_append]
  exact List.nodup_append.2 ⟨J, by simp, fun y hy z hz e => by simp at hz; subst hz; subst e; exact U hy⟩
 ·rcases I with ⟨rfl, rfl⟩ | ⟨⟨b, N⟩, Y⟩
  ·rw [if_pos (.inl (by omega))] at X
   subst X;exact ⟨⟨s.2, by simp⟩, fun t Z => by simp at Z; subst Z; exact Int.le_refl _⟩
  ·have Q := S _ N
   simp only at Q;by_cases hlt : s.1 < f
   ·rw [if_pos (.inr hlt)] at X
    subst X;refine ⟨⟨s.2, by simp⟩, fun t Z => ?_⟩;rcases List.mem_append.1 Z with Z | Z
    ·have := Y t Z; omega
    ·simp at Z; subst Z; exact Int.le_refl _
   ·rw [if_neg (by omega)] at X
    subst X;refine ⟨⟨b, by simp [N]⟩, fun t Z => ?_⟩;rcases List.mem_append.1 Z with Z | Z
    ·exact Y t Z
    ·simp at Z; subst Z; omega
theorem ote {E : List Edge} {left : Edge -> Bool} {f : Int} {L : List Edge} {s : Edge} (h : OutInv E left f L) (N : s ∈ E) (U : revE s ∉ E) (M : left s = true) (X : s.1 ∈ L.map (·.1)) : ¬ ((bOf E).map (·.1)).Nodup := by
 obtain ⟨t, R, Q⟩ := List.mem_map.1 X;obtain ⟨Y, Z⟩ := (h.1 t).1 R;have O : s ∈ bOf E := mem_bordOf.2 ⟨N, U⟩;intro S;have : ∀ (l : List Edge), (l.map (·.1)).Nodup -> t ∈ l -> s ∈ l -> t = s := by
  intro l
  induction l with
  | nil => intro _ h; cases h
  | cons x l ih =>
    intro V R U;rw [List.map_cons, List.nodup_cons] at V;rcases List.mem_cons.1 R with Y | Y
    ·rcases List.mem_cons.1 U with Z | Z
     ·rw [Y, Z]
     ·exact absurd (List.mem_map.2 ⟨s, Z, by rw [<- Q, Y]⟩) V.1
    ·rcases List.mem_cons.1 U with Z | Z
     ·exact absurd (List.mem_map.2 ⟨t, Y, by rw [Q, Z]⟩) V.1
     ·exact ih V.2 Y Z
 have := this _ S Y O;subst this;rw [M] at Z; cases Z
theorem nOm {B : List Edge} (Z : (B.map (·.1)).Nodup) {a b : Int} : nxtOf B a = some b ↔ (a, b) ∈ B := by
 unfold nxtOf
 induction B with
 | nil => simp
 | cons x B ih =>
   rw [List.map_cons, List.nodup_cons] at Z;rw [List.find?_cons];by_cases e : x.1 = a
   ·subst e
    simp only [beq_self_eq_true, Option.map_some, Option.some.injEq, List.mem_cons];constructor
    ·rintro rfl; exact .inl rfl
    ·rintro (h | h)
     ·rw [<- h]
     ·exact absurd (List.mem_map.2 ⟨_, h, rfl⟩) Z.1
   ·rw [show (x.1 == a) = false by simpa using e]
    simp only [ih Z.2, List.mem_cons];constructor
    ·exact .inr
    ·rintro (h | h)
     ·subst h; exact absurd rfl e
     ·exact h
theorem nxtOf_none {B : List Edge} {a : Int} : nxtOf B a = none ↔ a ∉ B.map (·.1) := by
 unfold nxtOf;simp only [Option.map_eq_none_iff, List.find?_eq_none, beq_iff_eq, List.mem_map, not_exists, not_and]
theorem lSs {B : List Edge} (X : ∀ s ∈ B, 0 <= s.1) : (B = [] /\ lSS B = -1) \/ (∃ b, (lSS B, b) ∈ B) /\ ∀ s ∈ B, lSS B <= s.1 := by
 unfold lSS;have key : ∀ (B : List Edge) (m : Int) (A : List Edge), (∀ s ∈ A ++ B, 0 <= s.1) -> ((A = [] /\ m = -1) \/ (∃ b, (m, b) ∈ A) /\ ∀ s ∈ A, m <= s.1) ->
  ((A ++ B = [] /\ B.foldl (fun m s => if m < 0 \/ s.1 < m then s.1 else m) m = -1) \/ (∃ b, (B.foldl (fun m s => if m < 0 \/ s.1 < m then s.1 else m) m, b) ∈ A ++ B) /\ ∀ s ∈ A ++ B, B.foldl (fun m s => if m < 0 \/ s.1 < m then s.1 else m) m <= s.1) := by
  intro B
  induction B with
  | nil => intro m A _ h; simpa using h
  | cons x B ih =>
    intro m A U h;have := ih (if m < 0 \/ x.1 < m then x.1 else m) (A ++ [x]) (by simpa using U) (.inr ?_)
    ·simpa using this
    ·rcases h with ⟨rfl, rfl⟩ | ⟨⟨b, V⟩, Y⟩
     ·rw [if_pos (.inl (by omega))]
      exact ⟨⟨x.2, by simp⟩, fun s Z => by simp at Z; subst Z; exact Int.le_refl _⟩
     ·have S := U (m, b) (by simp [V])
      simp only at S;by_cases hlt : x.1 < m
      ·rw [if_pos (.inr hlt)]
       refine ⟨⟨x.2, by simp⟩, fun s Z => ?_⟩;rcases List.mem_append.1 Z with Z | Z
       ·have := Y s Z; omega
       ·simp at Z; subst Z; exact Int.le_refl _
      ·rw [if_neg (by omega)]
       refine ⟨⟨b, by simp [V]⟩, fun s Z => ?_⟩;rcases List.mem_append.1 Z with Z | Z
       ·exact Y s Z
       ·simp at Z; subst Z; omega
 exact key B (-1) [] (by simpa using X) (.inl ⟨rfl, rfl⟩)
theorem nom {α β : Type} {f : α -> β} : ∀ {l : List α}, (l.map f).Nodup -> l.Nodup
 | [], _ => List.nodup_nil
 | x :: l, h => by
   rw [List.map_cons, List.nodup_cons] at h;exact List.nodup_cons.2 ⟨fun hx => h.1 (List.mem_map.2 ⟨x, hx, rfl⟩), nom h.2⟩
theorem oLo {E : List Edge} (r : E.Nodup) (M : ∀ s ∈ E, 0 <= s.1) {left : Edge -> Bool} {f : Int} {L : List Edge} (h : OutInv E left f L) (X : ∀ s ∈ E, left s = false) :
 oLL E = (chase L f L.length f []).getD [] := by
 obtain ⟨t, K, A⟩ := h;have Z : ∀ s, s ∈ L ↔ s ∈ bOf E := fun s => by
  rw [t s];exact ⟨fun h => h.1, fun h => ⟨h, X s (mem_bordOf.1 h).1⟩⟩
 have J : (bOf E).Nodup := r.filter _;have I : L.Nodup := nom K;have Y : L.Perm (bOf E) := (List.perm_ext_iff_of_nodup I J).2 Z;have S : ((bOf E).map (·.1)).Nodup := (Y.map _).nodup_iff.1 K;have O : L.length = (bOf E).length := Y.length_eq;have U : ∀ s ∈ bOf E, 0 <= s.1 := fun s hs => M s (mem_bordOf.1 hs).1;have Q : lSS (bOf E) = f := by
  rcases lSs U with ⟨x, v⟩ | ⟨⟨b, H⟩, N⟩
  ·rcases A with ⟨C, B⟩ | ⟨⟨c, R⟩, _⟩
   ·rw [v, B]
   ·rw [Z] at R; rw [x] at R; cases R
  ·rcases A with ⟨C, B⟩ | ⟨⟨c, R⟩, V⟩
   ·rw [<- Z, C] at H; cases H
   ·have z := V _ ((Z _).2 H)
    have y := N _ ((Z _).1 R);simp only at z y;omega
 have D : ∀ a, nxtOf (bOf E) a = nxtOf L a := fun a => by
  cases h : nxtOf L a with
  | none =>
    rw [nxtOf_none] at h ⊢;exact fun hm => h ((Y.map _).mem_iff.2 hm)
  | some b =>
    rw [nOm K] at h;rw [nOm S];exact (Z _).1 h
 have G : ∀ (n : Nat) (a : Int) (out : List Int), chase (bOf E) f n a out = chase L f n a out := by
  intro n
  induction n with
  | zero => intro a out; rfl
  | succ n ih =>
    intro a out;unfold chase;rw [D a];cases nxtOf L a with
    | none => rfl
    | some b => simp only [ih]
 unfold oLL;rw [if_pos S, Q, G, <- O]
theorem OutInv.length {E : List Edge} (Z : E.Nodup) {left : Edge -> Bool} {f : Int} {L : List Edge} (h : OutInv E left f L) : L.length <= E.length := by
 have Y : (bOf E).Nodup := Z.filter _;have X : L.Perm ((bOf E).filter fun s => !left s) := (List.perm_ext_iff_of_nodup (nom h.2.1) (Y.filter _)).2 fun s => by
  rw [h.1 s, List.mem_filter]; simp
 rw [X.length_eq];exact Nat.le_trans (List.length_filter_le _ _) (List.length_filter_le _ _)
theorem oLt {E : List Edge} (h : ¬ ((bOf E).map (·.1)).Nodup) : oLL E = [] := by unfold oLL; rw [if_neg h]
open Go.Lib
theorem wLn {P : Program} (w : World) {ops : Array Oper} {rest : List Oper} {o : Oper} {a : Act} {Q : Exit -> Act -> World -> Prop} (m : o.guard = none) (A : Operand) (L : o.op = Op.next A false)
 (k e : Nat) (K : Keyed P k) (p : P.underlying e = some (.int .i64)) (lit : Edge -> Lit) (In : Edge -> Prop) (N : ∀ s, In s -> keyOf P k (.agg #[.int .i64 s.1, .int .i64 s.2]) = some (lit s))
 (b r n : Nat) (D : DataW Unit) (left : Lit -> Bool) (X : Nat) (O : a.eval A = .pointer (some ⟨r, 0, none⟩)) (h : w.ranges P k (plainElem P e) b r n D left X) (S : ∀ R, left R = true -> ∃ s, In s /\ R = lit s)
 (V : X = 0 -> (∀ R, left R = false) -> wpList P ops Q rest (a.put o.dst (.tuple #[.bool false])) w)
 (U : ∀ (x y c : Int) (w' : World) (Z : Nat), In (x, y) -> left (lit (x, y)) = true -> w'.ranges P k (plainElem P e) b r n D (fun z => left z && !z.sameKey (lit (x, y))) Z -> Z < X ->
   w.grownBy w' (some r) -> w'.heap.size = w.heap.size -> (Instr.entry (.pointer (some ⟨r, 0, none⟩))).run P w' = .ok (.tuple #[.agg #[.int .i64 x, .int .i64 y], .int .i64 c]) w' -> wpList P ops Q rest (a.put o.dst (.tuple #[.bool true, .agg #[.int .i64 x, .int .i64 y], .int .i64 c])) w') :
 wpList P ops Q (o :: rest) a w := by
 refine wpList_plain m fun K' hK' => ?_;unfold Oper.wp;rcases h.next K o.type with ⟨t, l, Y⟩ | ⟨key, v, R, y, w', Z, H, M, j, q, Y, E, G, I, C, J⟩
 ·simp [execOp, L, O, Y, Result.andThen]
  exact hK' _ _ (V t l)
 ·obtain ⟨s, B, rfl⟩ := S R M
  have := K.inj H (N s B);subst this;obtain ⟨c, rfl, rfl, i⟩ := plainElem_int_inv p j;simp [execOp, L, O, Y, Result.andThen];exact hK' _ _ (U s.1 s.2 c w' Z B M E G I C J)
theorem dpi {α : Type} (l : List α) : decide (0 < l.length) = !l.isEmpty := by cases l <;> simp
def sLn : Value -> Nat
 | .slice _ n _ => n
 | _ => 0
theorem oRs {w : World} {base e sz n : Nat} {v : Value} {xs : List Value} (h : w.ownsRow base e sz v n xs) : ∃ p c, v = .slice p n c := by
 obtain ⟨V, X⟩ := h;rcases X with ⟨rfl, Y⟩ | ⟨g, cap, Z, rfl, _⟩
 ·subst Y; exact ⟨_, _, rfl⟩
 ·exact ⟨_, _, rfl⟩
theorem info_i64 : ((Tryz.prog).info? 3).map (fun i => (i.zero, i.size, i.bytes)) = some (some (.int .i64 0), 1, 8) := by kernel_rfl
def Oa0 (E : List Edge) (n : Nat) (v : Value) (w' : World) : Prop := ∃ s, v = .tuple #[s, .bool (!(oLL E).isEmpty)] /\ RdI .i64 w' s (oLL E) /\ FreshV n s
theorem oe0 (w : World) (vp vt : Value) (g n : Nat) (D : DataW Unit) (L : List (Edge × Int)) (hm : MapL viewE 3 (Lit.int .i64) w g n D L) (hn : (L.map (·.1)).Nodup) (_hn2 : n <= 1000000) (zu : L.length <= 1000000)
 (hE : ∀ s ∈ L.map (·.1), (0 <= s.1 /\ s.1 < 1000000) /\ (0 <= s.2 /\ s.2 < 1000000)) :
 Calls Tryz.prog 149 #[.agg #[vp, vt], .map (some g)] w (Ret (Oa0 (L.map (·.1)) w.heap.size) w) := by
 obtain ⟨E, hH⟩ := zex (L.map (·.1));rw [<- hH] at hE hn ⊢;have HE := Lib.hid hE;have h9 := Lib.hid hH;have HN := Lib.hid hn;have HM := Lib.hid hm;clear hE hH hn hm;have zC := @run_makeMap Tryz.prog;have zy : g < w.heap.size := HM.out.owns.lt;go_enter Tryz.func149, Tryz.ntmps149;go_wp2_with (at_range; refine wpList_range_own _ rfl _ 218 rfl 142 3 lawE uEI _ g n D rfl (((HM.out.owns.alloc _).alloc _)) ?_; intro w0 h5 hJ z9);have hr : ((w.alloc (.cells #[vp, vt] 41)).alloc (.map #[] 0)).heap.size = w.heap.size + 2 := by simp
 rw [hr] at h5 z9 ⊢;clear hr
 go_frame
 have z0 : Below w.heap.size w w0 := (((Below.refl _ _).alloc (Nat.le_refl _) _).alloc (by simp) _).grown hJ (by simp; omega) (fun j e => by cases e);have zc : w.heap.size + 3 <= w0.heap.size := by omega
 have z8 : MapL (β := Int) viewI 3 (Lit.int .i64) w0 (w.heap.size + 1) 0 (.map []) [] := by
  have := (MapL.made (β := Int) (w.alloc (.cells #[vp, vt] 41)) viewI 3 (Lit.int .i64)).kept hJ (by simp);simpa using this
 have hQ : Hid (∀ kl, Maps.has D kl = true -> ∃ s, (InE s /\ s ∈ E) /\ kl = kE s) := fun kl hk => by
  obtain ⟨s, r, rfl⟩ := HM.out.2.2.2 kl hk;exact ⟨s, ⟨r, by rw [h9.out]; exact (HM.out.has_iff r).1 hk⟩, rfl⟩
 have hP : Hid (OutInv E (fun s => Maps.has D (kE s)) (-1) []) := OutInv.start _ _ fun s r => (HM.out.has_iff (V := viewE) (by have := HE.out s r; exact ⟨⟨by omega, by omega⟩, ⟨by omega, by omega⟩⟩)).2 (by rw [<- h9.out]; exact r)
 clear hJ z9;have q : Hid (∀ (left : Edge -> Bool) (f : Int) (Y : List Edge), OutInv E left f Y -> Y.length <= 1000000) := fun left f Y h => by
  have h3 := h.length HN.out;have h4 : E.length = L.length := by rw [h9.out]; simp
  omega
 go_loopw [7] (fun t7 wr => ∃ (left : Lit -> Bool) (hG : Nat) (f : Int) (Q : DataW Unit) (Y : List Edge), t7 = .int .i64 f /\ Hid (OutInv E (fun s => left (kE s)) f Y) /\ Hid (∀ kl, left kl = true -> ∃ s, (InE s /\ s ∈ E) /\ kl = kE s) /\
  Hid (wr.ranges Tryz.prog 142 (plainElem Tryz.prog 3) g (w.heap.size + 2) n D left hG) /\ Hid (MapL viewI 3 (Lit.int .i64) wr (w.heap.size + 1) Y.length Q Y) /\ Hid (Maps.size Q = Y.length) /\ (-1 <= f /\ f < 1000000) /\ Below w.heap.size w wr /\ w.heap.size + 3 <= wr.heap.size) (fun _ wr => wr.rangeLeft g (w.heap.size + 2))
 case atStart => exact ⟨_, _, -1, _, [], rfl, hP, hQ, Lib.hid h5, Lib.hid z8, rfl, ⟨by omega, by omega⟩, z0, zc⟩
 case round =>
  obtain ⟨left, hG, f, Q, Y, rfl, HI, HL, HR, p, o, ⟨z4, z5⟩, hB, hz⟩ := hrel;clear h5 z8 hQ hP z0 zc;go_wp2_with (at_next; refine wLn _ rfl _ rfl 142 3 lawE und_I kE (fun s => InE s /\ s ∈ E) (fun s r => keyE r.1.1 r.1.2) g (w.heap.size + 2) n D left hG rfl HR.out HL.out ?_ ?_)
  ·intro _ z6
   have HF : Hid (oLL E = (chase Y f Y.length f []).getD []) := oLo HN.out (fun s r => (HE.out s r).1.1) HI.out (fun s _ => z6 _);have zj : Hid ((Y.map (·.1)).Nodup) := HI.out.2.1;have zi : Hid (∀ s ∈ Y, (0 <= s.1 /\ s.1 < 1000000) /\ (0 <= s.2 /\ s.2 < 1000000)) := fun s r => HE.out s (mem_bordOf.1 ((HI.out.1 s).1 r).1).1;have z7 := q.out _ _ _ HI.out;clear z6 HR HL HI q;go_wp2_with fail;obtain ⟨i0, hi, ze, zf, zg⟩ := info_parts info_i64;obtain ⟨wo, zs⟩ := zex (wr : World);subst zs;obtain ⟨N, hN⟩ := zex (Y.length);have hF := Lib.hid hN;have zm : Hid (Maps.size Q = N) := by
    unfold Hid;rw [hN];exact o.out
   rw [<- hN] at z7 p;clear hN;go_loopw [13, 14] (fun t13 t14 wr => ∃ (out : List Int) (a : Int), t14 = .int .i64 a /\ wr.ownsRow (w.heap.size + 3) 3 1 t13 out.length (out.map (Value.int .i64)) /\ out.length <= N /\ Hid (chase Y f (N - out.length) a out = chase Y f N f []) /\ (-1 <= a /\ a < 1000000) /\
    Hid (MapL viewI 3 (Lit.int .i64) wr (w.heap.size + 1) N Q Y) /\ Below w.heap.size w wr /\ w.heap.size + 3 <= wr.heap.size) (fun t13 _ _ => N - sLn t13)
   case atStart => exact ⟨[], f, rfl, World.ownsRow_nil _ _ _ _, Nat.zero_le _, rfl, ⟨z4, z5⟩, p, hB, hz⟩
   case round =>
    obtain ⟨out, a, rfl, K, zD, HC, ⟨zv, zw⟩, A, he, zI⟩ := hrel;clear p hB hz;obtain ⟨hg, hc, rfl⟩ := oRs K;have hL := (A.out.owns.len uII 3);rw [zm.out] at hL;rcases Nat.lt_or_ge out.length N with zB | zA
    ·have z1 : InI a := ⟨by omega, by omega⟩
     have hb : Hid (keyOf Tryz.prog 3 (.int .i64 a) = some (kI a)) := keyI z1;have hS := Lib.hid (A.out.has_iff (V := viewI) (s := a) z1);obtain ⟨m, hm⟩ : ∃ m, N - out.length = m + 1 := ⟨N - out.length - 1, by omega⟩;have hD := Lib.hid hm;clear hm;cases M : Maps.has Q (viewI.lit a)
     ·have HX : Hid (oLL E = []) := by
       unfold Hid;rw [HF.out, <- hF.out, <- HC.out, hD.out];unfold chase;rw [nxtOf_none.2 (fun h => by have := hS.out.2 h; rw [M] at this; cases this)];rfl
      have ha := Lib.hid M;clear M;go_wp2_with (at_lookup; refine wpList_lookup_own_ok_int _ rfl _ _ 252 rfl 3 3 .i64 lawI uII und_I (zeroI _) (w.heap.size + 1) N Q rfl A.out.owns _ _ rfl hb.out ?_; rw [show Maps.has Q (kI a) = false from ha.out]; intro hd X U; clear X U);go_ret2;exact ⟨_, rfl, ⟨_, by rw [HX.out]; rfl, by rw [HX.out]; exact RdC.nil0 _ _, fun a l c e => by cases e⟩, he⟩
     ·obtain ⟨⟨v, b⟩, hf, rfl⟩ := List.mem_map.1 (hS.out.1 M)
      have zh := Lib.hid hf;have ha := Lib.hid M;dsimp only at *;have z2 := (zi.out _ hf).2;dsimp only at z2;obtain ⟨zx, zo⟩ := z2;have hO : Hid (chase Y f (N - out.length) v out = if v = f /\ out ≠ [] then none else chase Y f m b (out ++ [v])) := by
       unfold Hid;rw [hD.out]
       conv => lhs; unfold chase
       rw [(nOm zj.out).2 hf]
      clear hf M;have O : ((v == f) = true /\ 0 < out.length) \/ ((v == f) = true /\ ¬ 0 < out.length) \/ ((v == f) = false) := by
       by_cases e : v = f
       ·rcases Nat.eq_zero_or_pos out.length with h0 | h0
        ·exact .inr (.inl ⟨by simpa using e, by omega⟩)
        ·exact .inl ⟨by simpa using e, h0⟩
       ·exact .inr (.inr (by simpa using e))
      rcases O with ⟨t1, t2⟩ | O
      ·have HX : Hid (oLL E = []) := by
        unfold Hid;rw [HF.out, <- hF.out, <- HC.out, hO.out, if_pos ⟨by simpa using t1, List.ne_nil_of_length_pos t2⟩];rfl
       go_wp2_with (at_lookup; refine wpList_lookup_own_ok_int _ rfl _ _ 252 rfl 3 3 .i64 lawI uII und_I (zeroI _) (w.heap.size + 1) N Q rfl A.out.owns _ _ rfl hb.out ?_; rw [show Maps.has Q (kI v) = true from ha.out]; intro hd X U; clear X U);go_ret2;exact ⟨_, rfl, ⟨_, by rw [HX.out]; rfl, by rw [HX.out]; exact RdC.nil0 _ _, fun a l c e => by cases e⟩, he⟩
      ·have zk : Hid (chase Y f (N - (out ++ [v]).length) b (out ++ [v]) = chase Y f N f []) := by
        unfold Hid;rw [<- HC.out, hO.out, if_neg, List.length_append]
        ·congr 1
         have := hD.out;simp only [List.length_singleton];omega
        ·rintro ⟨e1, e2⟩
         rcases O with ⟨_, t⟩ | t
         ·exact t (List.length_pos_iff.2 e2)
         ·rw [e1] at t; simp at t
       rcases O with ⟨t1, t2⟩ | t1
       all_goals
        have R : True := trivial;go_wp2_with (first
         | (at_lookup; have _t := R; refine wpList_lookup_own_ok_int _ rfl _ _ 252 rfl 3 3 .i64 lawI uII und_I (zeroI _) (w.heap.size + 1) N Q rfl A.out.owns _ _ rfl hb.out ?_; rw [show Maps.has Q (kI v) = true from ha.out]; intro hd X U; clear X U R)
         | (at_builtin; refine wpList_append_own _ rfl _ _ 66 rfl (w.heap.size + 3) 3 i0 (.int .i64 0) 1 8 Tryz.underlying66 hi ze zf zg rfl (by decide) _ _ _ rfl (K.alloc _) ⟨wr.heap.size, 0, none⟩ 1 1 [.int .i64 v] rfl rfl (coi _ _ _) (oci _) (by unfold maxLen; omega) (by omega) (by simp; omega) ?_
            intro v2 w2 J Z _;have zd := Z.size;have hC : Hid (MapL viewI 3 (Lit.int .i64) w2 (w.heap.size + 1) N Q Y) := (A.out.kept (World.grownBy_alloc _ _ none) (by simp)).kept Z (fun e => by have := (K.lt _ e.symm).1; omega);have zn : Below w.heap.size w w2 := (he.alloc (by omega) _).grown Z (by simp; omega) (fun k hk => by have := (K.lt k hk).1; omega);clear Z)
         | (at_lookup; refine wpList_lookup_own_int _ rfl _ _ 252 rfl 3 3 .i64 lawI uII und_I (zeroI _) (w.heap.size + 1) N Q rfl hC.out.owns _ _ rfl hb.out ?_; intro hZ hh zb
            obtain rfl : hZ = b := by
             have h1 := hh.symm.trans (hC.out.at zh.out _);simp at h1;exact h1
            clear hh zb))
        go_roundw
        case rel => exact ⟨out ++ [v], hZ, rfl, by rw [List.map_append, List.length_append]; exact J, by rw [List.length_append, List.length_singleton]; omega, zk, ⟨by omega, zo⟩, hC, zn, by simp at zd; omega⟩
        case measure =>
         obtain ⟨p2, c2, rfl⟩ := oRs J;simp [sLn];omega
    ·have HX : Hid (oLL E = out) := by
      unfold Hid;rw [HF.out, <- hF.out, <- HC.out, show N - out.length = 0 by omega];rfl
     have zp : FreshV (w.heap.size + 3) (.slice hg out.length hc) := FreshV.of_owns K;have zq : RdI .i64 wr (.slice hg out.length hc) out := RdC.of_owns K;go_wp2_with fail;go_ret2;exact ⟨_, rfl, ⟨.slice hg out.length hc, by rw [HX.out]; exact congrArg (fun b => Value.tuple #[.slice hg out.length hc, .bool b]) (dpi out), by rw [HX.out]; exact zq, fun a l c e => by have := zp a l c e; omega⟩, he⟩
  ·intro x y c w1 d B M hl hu ho hK zr zz
   have hv := HE.out (x, y) M;obtain ⟨⟨zt, zE⟩, zF, zG⟩ := hv;have h6 : InI x := ⟨by omega, by omega⟩;have I : InE (y, x) := ⟨⟨by omega, by omega⟩, h6⟩;have hw : Hid (Below w.heap.size w w1) := hB.grown hK (by omega) (fun j e => by cases e; omega);have zH : w.heap.size + 3 <= w1.heap.size := by omega
   have S : Hid (MapL viewI 3 (Lit.int .i64) w1 (w.heap.size + 1) Y.length Q Y) := p.out.kept hK (by simp);have H := Lib.hid hu;have z7 := q.out _ _ _ HI.out;have hT : Hid (d < wr.rangeLeft g (w.heap.size + 2)) := by unfold Hid; rw [HR.out.left_eq]; exact ho
   have hR : Hid (∀ kl, (left kl && !kl.sameKey (kE (x, y))) = true -> ∃ s, (InE s /\ s ∈ E) /\ kl = kE s) := fun kl h => HL.out kl (by simp at h; exact h.1)
   have hV : Hid (∀ t ∈ E, t ≠ (x, y) -> (left (kE t) && !(kE t).sameKey (kE (x, y))) = left (kE t)) := fun t ht hne => by
    have za : InE t := by have := HE.out t ht; exact ⟨⟨by omega, by omega⟩, ⟨by omega, by omega⟩⟩
    rw [sameKey_ne (fun e => hne (kEi za.1 za.2 B.1 B.2 e))]; simp
   have zl : Hid ((left (kE (x, y)) && !(kE (x, y)).sameKey (kE (x, y))) = false) := by unfold Hid; rw [WideAt.sameKey_self (lawE.key (keyE B.1 B.2))]; simp
   have hM := (HM.out.has_iff (V := viewE) I);rw [<- h9.out] at hM;have hX := Lib.hid hM;have hy : Hid (keyOf Tryz.prog 142 (.agg #[.int .i64 y, .int .i64 x]) = some (kE (y, x))) := keyE I.1 I.2;have hA : Hid (keyOf Tryz.prog 3 (.int .i64 x) = some (kI x)) := keyI h6;clear hK zr hu ho hM hB HR p;cases hin2 : Maps.has D (viewE.lit (y, x))
   ·have h2 : (y, x) ∉ E := fun h => by have := hX.out.2 h; rw [hin2] at this; cases this
    have hU := Lib.hid h2;have G := Lib.hid hin2;clear h2 hin2;cases hin3 : Maps.has Q (viewI.lit x)
    ·have hp : x ∉ Y.map (·.1) := fun h => by have := (S.out.has_iff (V := viewI) h6).2 h; rw [hin3] at this; cases this
     have hW := Lib.hid hp;have C := Lib.hid hin3;clear hp hin3;have hx : Hid (∀ f', f' = (if f < 0 \/ x < f then x else f) -> OutInv E (fun s => left (kE s) && !(kE s).sameKey (kE (x, y))) f' (Y ++ [(x, y)])) := fun f' hf' =>
      HI.out.outer M hU.out hW.out zt (fun t ht => (HE.out t (mem_bordOf.1 ((HI.out.1 t).1 ht).1).1).1.1) hV.out zl.out hf'
     have R : True := trivial;rcases (by omega : f < 0 \/ (¬ f < 0 /\ x < f) \/ (¬ f < 0 /\ ¬ x < f)) with h7 | ⟨h7, h8⟩ | ⟨h7, h8⟩
     all_goals
      go_wp2_with (first
       | (at_lookup; have _t := R; refine wpList_lookup_own_ok_int _ rfl _ _ 218 rfl 142 3 .i64 lawE uEI und_I (zeroI _) g n D rfl (H.out.owns.alloc _) _ _ rfl hy.out ?_; rw [show Maps.has D (kE (y, x)) = false from G.out]; intro cz X U; clear X U R)
       | (at_lookup; refine wpList_lookup_own_ok_int _ rfl _ _ 252 rfl 3 3 .i64 lawI uII und_I (zeroI _) (w.heap.size + 1) Y.length Q rfl (S.out.owns.alloc _) _ _ rfl hA.out ?_; rw [show Maps.has Q (kI x) = false from C.out]; intro hd X U; clear X U)
       | (at_mapUpdate; refine wpList_mapUpdate_own _ rfl _ _ _ 252 rfl 3 3 lawI uII _ (w.heap.size + 1) Y.length Q rfl (S.out.owns.alloc _) (by unfold maxLen; omega) _ _ _ rfl rfl hA.out _ [] (plainElem_int und_I (WalkArith.wf_i64 (by omega))) ?_; intro w2 J Z
          have z3 : w2.heap[w1.heap.size]? = some (.cells #[.int .i64 x, .int .i64 y] 142) := (Z.block _ (by simp) (by simp; omega)).trans (World.alloc_heap_new _ _);have k0 : w2.cell? ⟨w1.heap.size, 0, none⟩ = some (.int .i64 x) := by simp [World.cell?, z3]
          clear z3))
      go_roundw
      case rel =>
       refine ⟨fun z => left z && !z.sameKey (kE (x, y)), d, _, Q.put (kI x) (.lit (.int .i64 y)), Y ++ [(x, y)], rfl, Lib.hid (hx.out _ ?_), hR, Lib.hid ((H.out.alloc _).kept Z (by simp; omega) (by simp)), ?_, ?_, ?_, (hw.out.alloc (by omega) _).grown Z (by simp; omega) (fun j e => by cases e; omega), by have := Z.size; simp at this; omega⟩
       ·first | rw [if_pos (show f < 0 \/ x < f by omega)] | rw [if_neg (show ¬ (f < 0 \/ x < f) by omega)]
       ·have := (S.out.kept (World.grownBy_alloc _ (.cells #[.int .i64 x, .int .i64 y] 142) none) (by simp)).put (i := y) (s := x) h6 (fun j hj => absurd (List.mem_map.2 ⟨_, hj, rfl⟩) hW.out) J
        unfold Hid;rw [List.length_append];exact this
       ·unfold Hid
        rw [Maps.size_put (S.out.owns.tidy lawI), show Maps.has Q (kI x) = false from C.out, List.length_append, o.out];rfl
       ·omega
      case measure =>
       rw [((H.out.alloc (.cells #[.int .i64 x, .int .i64 y] 142)).kept Z (by simp; omega) (by simp)).left_eq];exact hT.out
    ·have hq : x ∈ Y.map (·.1) := (S.out.has_iff (V := viewI) h6).1 hin3
     have hY : Hid (oLL E = []) := oLt (ote HI.out M hU.out hl hq);have C := Lib.hid hin3;clear hq hin3;have R : True := trivial;go_wp2_with (first
      | (at_lookup; have _t := R; refine wpList_lookup_own_ok_int _ rfl _ _ 218 rfl 142 3 .i64 lawE uEI und_I (zeroI _) g n D rfl (H.out.owns.alloc _) _ _ rfl hy.out ?_; rw [show Maps.has D (kE (y, x)) = false from G.out]; intro cz X U; clear X U R)
      | (at_lookup; refine wpList_lookup_own_ok_int _ rfl _ _ 252 rfl 3 3 .i64 lawI uII und_I (zeroI _) (w.heap.size + 1) Y.length Q rfl (S.out.owns.alloc _) _ _ rfl hA.out ?_; rw [show Maps.has Q (kI x) = true from C.out]; intro hd X U; clear X U))
     go_ret2;exact ⟨_, rfl, ⟨_, by rw [hY.out]; rfl, by rw [hY.out]; exact RdC.nil0 _ _, fun a l c e => by cases e⟩, hw.out.alloc (by omega) _⟩
   ·have h2 : (y, x) ∈ E := hX.out.1 hin2
    have G := Lib.hid hin2;have hx : Hid (OutInv E (fun s => left (kE s) && !(kE s).sameKey (kE (x, y))) f Y) := HI.out.inner (s := (x, y)) h2 hV.out;clear h2 hin2;go_wp2_with (at_lookup; refine wpList_lookup_own_ok_int _ rfl _ _ 218 rfl 142 3 .i64 lawE uEI und_I (zeroI _) g n D rfl (H.out.owns.alloc _) _ _ rfl hy.out ?_; rw [show Maps.has D (kE (y, x)) = true from G.out]; intro cz X U; clear X U);go_roundw
    case rel => exact ⟨fun z => left z && !z.sameKey (kE (x, y)), d, f, Q, Y, rfl, hx, hR, Lib.hid (H.out.alloc _), S.out.kept (World.grownBy_alloc _ _ none) (by simp), o, ⟨z4, z5⟩, hw.out.alloc (by omega) _, by simp; omega⟩
    case measure =>
     rw [(H.out.alloc (.cells #[.int .i64 x, .int .i64 y] 142)).left_eq];exact hT.out
end Go.Proofs.YtmcbeajdloaliaaGreatDoor
