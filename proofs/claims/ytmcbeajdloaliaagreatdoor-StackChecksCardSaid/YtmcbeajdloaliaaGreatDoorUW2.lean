import Derived.Test.YtmcbeajdloaliaaGreatDoorUG5
import Derived.LoopN
import Derived.RegionTactic
import Derived.ChangeAlike
/- Field Thickness The walks over mesh.corners, mesh.inside. The walk over mesh.Locate. -/
set_option maxHeartbeats 4000000
set_option maxRecDepth 100000
namespace Go.Proofs.YtmcbeajdloaliaaGreatDoor
open Go.RowKit Go.Lib
def errF (n : Nat) (l : List ByteArray) : Int := if l.length = n then eNm (allQ l) else 5
theorem eFs {n : Nat} {l : List ByteArray} (h : l.length ≠ n) : errF n l = 5 := by unfold errF; rw [if_neg h]
theorem eFn {n : Nat} {l : List ByteArray} (h : l.length = n) : errF n l = eNm (allQ l) := by unfold errF; rw [if_pos h]
theorem cg0 (w : World) (vp vt vf : Value) (P : List PtQ) (T : List Tri) (k : Nat) (l : List ByteArray) (v : RdP w vp (strP P)) (d : RdT w vt T) (g : MeshOK P T k) (hf : RdS w vf l) (hl : ∀ s ∈ l, s.size < 1000000000) (h5 : l.length <= 1000000) (b : Nat)
 (p : w.cell? ⟨b, 0, none⟩ = some vf) (n : Good w) :
 Calls Tryz.prog 51 #[.agg #[vp, vt], .slice (some ⟨b, 0, none⟩) 1 1] w (Ret (fun r _ => r = .int .i64 (errF P.length l)) w) := by
 have B := v;have A := d;have E := hf;obtain ⟨pp, cp, rfl, f, h7, _⟩ := B.open;obtain ⟨pt, ct, rfl, h8, h9, _⟩ := A.open;obtain ⟨pf, cf, rfl, h0, h3, D⟩ := E.open;rw [sPl] at v f ⊢;have HP := hid v;have HT := hid d;have HM := hid g;have HL := hid hl;have HR := hid D;have h6 := g.plen;have G := World.block_lt_of_cell? w _ p;dsimp only at G;clear v d hf B A E g hl D;go_enter Tryz.func51, Tryz.ntmps51;go_wp2_with fail;obtain ⟨K, V⟩ := zex (w.alloc (.cells #[.slice pp P.length cp, .slice pt T.length ct] 41));have X : Below w.heap.size w K := by rw [V]; exact zal _ _
 have ha : w.heap.size + 1 <= K.heap.size := by rw [V]; simp
 have y0 : K.cell? ⟨w.heap.size, 0, none⟩ = some (.slice pp P.length cp) := by rw [V, World.cell?_alloc_at _ _ _ _ rfl]; rfl
 rw [<- V];clear V;refine zR (ca0 K _ _ P T k (RdC.below HP.out X) (RdC.below HT.out X) HM.out (n.below X)) fun w1 hb1 => ?_;have O : Below w.heap.size w w1 := zbt X hb1;have h4 := n.below O;have z0 := zcq hb1 (by show w.heap.size < K.heap.size; omega) y0;have x0 := zcq O G p;clear y0 p hb1 X;go_wp2_with fail;go_loopw [18] (fun t18 wr => ∃ j : Nat, j <= 1 /\ t18 = .int .i64 (j : Int) /\ Hid (j = 1 -> l.length = P.length /\ allQ l = true) /\ Below w1.heap.size w1 wr) (fun t18 _ => 1 - (RowKit.intOf t18).toNat)
 case atStart => exact ⟨0, by omega, rfl, fun h => (by omega), Below.refl _ _⟩
 case round =>
  obtain ⟨j, hj, rfl, HJ, J⟩ := hrel;have a := J.size;have R : Below w.heap.size w wr := zbt O J;have u0 := zcq J (World.block_lt_of_cell? w1 _ z0) z0;have u1 := zcq J (World.block_lt_of_cell? w1 _ x0) x0;rcases (by omega : j = 0 \/ j = 1) with rfl | rfl
  ·rcases (by omega : l.length = P.length \/ l.length ≠ P.length) with Y | Y
   ·have m : ((l.length : Int) != (P.length : Int)) = false := by rw [bne_eq_false_iff_eq]; omega
    have t := hid Y;have L : Hid (errF P.length l = eNm (allQ l)) := eFn Y;have Q := hid R;clear Y z0 x0 HJ R;rw [show ((0 : Nat) : Int) = 0 from rfl];go_wp2_with fail;obtain ⟨wo, c⟩ := zex (wr : World);subst c;go_loopw [30] (fun t30 wr => ∃ (i : Nat), t30 = .int .i64 i /\ i <= l.length /\ Hid (allQ l = allQ (l.drop i)) /\ Below wo.heap.size wo wr) (fun t30 _ => l.length - (RowKit.intOf t30).toNat)
    case atStart => exact ⟨0, rfl, Nat.zero_le _, rfl, Below.refl _ _⟩
    case round =>
     obtain ⟨i, rfl, hi, y, Z⟩ := hrel;rcases Nat.lt_or_ge i l.length with h | h
     ·obtain ⟨bf, off, rfl, o, U⟩ := HR.out (by intro e; rw [e] at h; simp at h)
      have N := zcq Q.out o (U i h);have hc : wr.cell? ⟨bf, off + i, none⟩ = some (.string l[i]) := (zcq Z (World.block_lt_of_cell? wo _ N) N :);have z := HL.out l[i] (List.getElem_mem h);have M := y.out.trans (aQs l i h);obtain ⟨x, hx⟩ := zex (l[i]);rw [<- hx] at hc z M;have S := hid M;have C := (n.below Q.out).below Z;clear hx M U y N;go_wp2_with fail;refine zR (cQa x z _ C) fun w2 hb2 => ?_;have H := zbt Z hb2;clear hb2 C;rcases Bool.eq_false_or_eq_true (rQQ x.data.toList) with hq | hq
      ·have q : Hid (allQ l = allQ (l.drop (i + 1))) := by unfold Hid; rw [S.out, hq]; rfl
       rw [hq, show eNm true = 0 from rfl];clear hq S;go_wp2_with fail;go_roundw
       case rel => exact ⟨i + 1, by go_num, h, q, H⟩
       case measure => simp [RowKit.intOf]; omega
      ·have q : Hid (2 = errF P.length l) := by unfold Hid; rw [L.out, S.out, hq]; rfl
       rw [hq, show eNm false = 2 from rfl];clear hq S;go_wp2_with fail;go_ret;exact ⟨_, rfl, congrArg (Value.int .i64) q.out, (zbt Q.out H)⟩
     ·have I : Hid (allQ l = true) := by unfold Hid; rw [y.out, List.drop_of_length_le h]; rfl
      clear y;go_wp2_with fail;go_roundw
      case rel => exact ⟨1, by omega, rfl, fun _ => ⟨t.out, I.out⟩, J.trans (Z.mono a)⟩
      case measure => simp [RowKit.intOf]
   ·have m : ((l.length : Int) != (P.length : Int)) = true := by rw [bne_iff_ne]; omega
    have L : Hid (5 = errF P.length l) := (eFs Y).symm;clear Y;go_wp2_with fail;go_ret;exact ⟨_, rfl, congrArg (Value.int .i64) L.out, R⟩
  ·have L : Hid (0 = errF P.length l) := by
    obtain ⟨h1, h2⟩ := HJ.out rfl;unfold Hid; rw [eFn h1, h2]; rfl
   go_wp2_with fail;go_ret;exact ⟨_, rfl, congrArg (Value.int .i64) L.out, R⟩
theorem cst (w : World) (v : Value) (Y n : Nat) (Z : w.heap.size = n) : (w.alloc (.cells #[v] Y)).cell? ⟨n, 0, none⟩ = some v := by
 rw [World.cell?_alloc_at _ _ _ _ (by simp [Z])]; rfl
theorem fay (w : World) (N M O : Value) (P : List PtQ) (T : List Tri) (k : Nat) (l : List ByteArray) (R : RdP w N (strP P)) (Q : RdT w M T) (C : MeshOK P T k) (U : RdS w O l) (D : ∀ s ∈ l, s.size < 1000000000) (S : l.length <= 1000000) (E : Good w) :
 Calls Tryz.prog 13 #[.agg #[N, M], O] w (Ret (fun r _ => r = .int .i64 (errF P.length l)) w) := by
 have X := R;have V := Q;have Y := U;obtain ⟨A, H, rfl, _, _, _⟩ := X.open;obtain ⟨z, G, rfl, _, _, _⟩ := V.open;obtain ⟨B, I, rfl, _, _, _⟩ := Y.open;clear X V Y;have K := hid R;have J := hid Q;have L := hid U;clear R Q U;go_enter Tryz.func13, Tryz.ntmps13;go_wp2_with fail;have Z : Below w.heap.size w ((w.alloc (.cells #[.slice A (strP P).length H, .slice z T.length G] 41)).alloc (.cells #[.slice B l.length I] 33)) := ((Below.refl _ _).alloc (Nat.le_refl _) _).alloc (by simp) _;refine zR (cg0 _ _ _ _ P T k l (RdC.below K.out Z) (RdC.below J.out Z) C (RdC.below L.out Z) D S (w.heap.size + 1) (cst _ _ _ _ (by simp)) (E.below Z)) fun w1 hb1 => ?_;go_wp2_with fail;go_ret;exact ⟨_, rfl, rfl, (zbt Z hb1)⟩
def ptI (P : List PtQ) (z : Int) : PtQ := P[z.toNat]?.getD (0, 0)
def hI (F : List Rat) (z : Int) : Rat := F[z.toNat]?.getD 0
theorem pIn (P : List PtQ) (m : Nat) (h : m < P.length) : ptI P (m : Int) = P[m] := by
 unfold ptI; rw [Int.toNat_natCast, List.getElem?_eq_getElem h]; rfl
theorem hh0 (F : List Rat) (m : Nat) (h : m < F.length) : hI F (m : Int) = F[m] := by
 unfold hI; rw [Int.toNat_natCast, List.getElem?_eq_getElem h]; rfl
def BoxN (w : World) (b t : Nat) (l : List Value) : Prop := w.heap[b]? = some (.cells l.toArray t (0, 0))
theorem BoxN.lt {w : World} {b t : Nat} {l : List Value} (h : BoxN w b t l) : b < w.heap.size := (Array.getElem?_eq_some_iff.1 h).1
theorem BoxN.cell {w : World} {b t : Nat} {l : List Value} (h : BoxN w b t l) (i : Nat) {v : Value} (Z : l[i]? = some v) : w.cell? ⟨b, i, none⟩ = some v := by
 unfold BoxN at h;simp [World.cell?, h, Z]
theorem zk2 {w : World} {b t : Nat} {x0 x1 : Value} {l : List Value} (h : BoxN w b t (x0 :: x1 :: l)) : w.cell? ⟨b, 0, none⟩ = some x0 /\ w.cell? ⟨b, 1, none⟩ = some x1 := ⟨h.cell 0 rfl, h.cell 1 rfl⟩
theorem zk3 {w : World} {b t : Nat} {x0 x1 x2 : Value} {l : List Value} (h : BoxN w b t (x0 :: x1 :: x2 :: l)) : w.cell? ⟨b, 0, none⟩ = some x0 /\ w.cell? ⟨b, 1, none⟩ = some x1 /\ w.cell? ⟨b, 2, none⟩ = some x2 := ⟨h.cell 0 rfl, h.cell 1 rfl, h.cell 2 rfl⟩
theorem zk4 {w : World} {b t : Nat} {x0 x1 x2 x3 : Value} {l : List Value} (h : BoxN w b t (x0 :: x1 :: x2 :: x3 :: l)) : w.cell? ⟨b, 0, none⟩ = some x0 /\ w.cell? ⟨b, 1, none⟩ = some x1 /\ w.cell? ⟨b, 2, none⟩ = some x2 /\ w.cell? ⟨b, 3, none⟩ = some x3 := ⟨h.cell 0 rfl, h.cell 1 rfl, h.cell 2 rfl, h.cell 3 rfl⟩
theorem zk12 {w : World} {b t : Nat} {x0 x1 x2 x3 x4 x5 x6 x7 x8 x9 x10 x11 : Value} {l : List Value} (h : BoxN w b t (x0 :: x1 :: x2 :: x3 :: x4 :: x5 :: x6 :: x7 :: x8 :: x9 :: x10 :: x11 :: l)) : w.cell? ⟨b, 0, none⟩ = some x0 /\ w.cell? ⟨b, 1, none⟩ = some x1 /\ w.cell? ⟨b, 2, none⟩ = some x2 /\ w.cell? ⟨b, 3, none⟩ = some x3 /\ w.cell? ⟨b, 4, none⟩ = some x4 /\ w.cell? ⟨b, 5, none⟩ = some x5 /\ w.cell? ⟨b, 6, none⟩ = some x6 /\ w.cell? ⟨b, 7, none⟩ = some x7 /\ w.cell? ⟨b, 8, none⟩ = some x8 /\ w.cell? ⟨b, 9, none⟩ = some x9 /\ w.cell? ⟨b, 10, none⟩ = some x10 /\ w.cell? ⟨b, 11, none⟩ = some x11 := ⟨h.cell 0 rfl, h.cell 1 rfl, h.cell 2 rfl, h.cell 3 rfl, h.cell 4 rfl, h.cell 5 rfl, h.cell 6 rfl, h.cell 7 rfl, h.cell 8 rfl, h.cell 9 rfl, h.cell 10 rfl, h.cell 11 rfl⟩
theorem BoxN.frozen {w : World} {b t : Nat} {l : List Value} (h : BoxN w b t l) (i : Nat) : w.frozen? ⟨b, i, none⟩ = false := by
 unfold BoxN at h;simp [World.frozen?, h]
theorem BoxN.new (w : World) (a : Array Value) (t n : Nat) (Z : w.heap.size = n) : BoxN (w.alloc (.cells a t)) n t a.toList := by
 subst Z; exact World.alloc_heap_new _ _
theorem BoxN.below {w w' : World} {m b t : Nat} {l : List Value} (h : BoxN w b t l) (Z : Below m w w') (Y : b < m) : BoxN w' b t l := (Z.block b Y).trans h
theorem BoxN.bl {w w' : World} {b t : Nat} {l : List Value} (h : BoxN w b t l) (k : Below w.heap.size w w') : BoxN w' b t l := h.below k h.lt
theorem BoxN.set {w : World} {b t : Nat} {l : List Value} (h : BoxN w b t l) (i : Nat) (v : Value) : BoxN (w.setCell ⟨b, i, none⟩ v) b t (l.set i v) := by
 obtain ⟨Z, Y⟩ := Array.getElem?_eq_some_iff.1 (show w.heap[b]? = _ from h);show (w.heap.modify b _)[b]? = _;rw [Array.getElem?_eq_getElem (by rw [Array.size_modify]; exact Z), Array.getElem_modify_self, Y];simp
theorem BoxN.drew {w : World} {b t : Nat} {l : List Value} (h : BoxN w b t l) : BoxN w.drew b t l := h
theorem cd0 (w : World) (vp vt vf : Value) (P : List PtQ) (T : List Tri) (k : Nat) (F : List Rat) (hp : RdP w vp (strP P)) (ht : RdT w vt T) (hm : MeshIn P T k) (hf : RdQ w vf F) (d : F.length = P.length) (t : Nat) (tz : Int) (hZ : tz = (t : Int)) (hr : t < T.length)
 (E : Tri) (hs : E = T[t]) (_hg : Good w) :
 Calls Tryz.prog 145 #[.agg #[vp, vt], vf, .int .i64 tz] w (Ret (fun r _ => r = .agg #[.string (RS (ptI P E.1).1), .string (RS (ptI P E.1).2), .string (RS (hI F E.1)), .string (RS (ptI P E.2.1).1), .string (RS (ptI P E.2.1).2), .string (RS (hI F E.2.1)),
  .string (RS (ptI P E.2.2).1), .string (RS (ptI P E.2.2).2), .string (RS (hI F E.2.2))]) w) := by
 obtain ⟨pp, cp, rfl, hY, zj, hq⟩ := hp.open;obtain ⟨pt, ct, rfl, zk, zl, i⟩ := ht.open;obtain ⟨pf, cf, rfl, zh, zi, ho⟩ := hf.open;rw [sPl] at hY ⊢;obtain ⟨b, off, rfl, zg, G⟩ := i (List.ne_nil_of_length_pos (by omega));obtain ⟨e0, e1, e2⟩ := G t hr;have R := hm.idx T[t] (List.getElem_mem hr);obtain ⟨c, a, h3⟩ := E;rw [<- hs] at e0 e1 e2 R;dsimp only at e0 e1 e2 ⊢;obtain ⟨hJ, hK⟩ := R c (by simp [idxOf]);obtain ⟨hL, hM⟩ := R a (by simp [idxOf]);obtain ⟨hN, hO⟩ := R h3 (by simp [idxOf]);obtain ⟨D, rfl⟩ : ∃ q : Nat, c = (q : Int) := ⟨c.toNat, by omega⟩;obtain ⟨C, rfl⟩ : ∃ q : Nat, a = (q : Int) := ⟨a.toNat, by omega⟩;obtain ⟨B, rfl⟩ : ∃ q : Nat, h3 = (q : Int) := ⟨h3.toNat, by omega⟩;have g0 : D < P.length := by omega
 have g1 : C < P.length := by omega
 have g2 : B < P.length := by omega
 obtain ⟨j, op, rfl, M, N⟩ := hq (by intro e; have h := sPl P; rw [e] at h; simp at h; omega);obtain ⟨bf, of, rfl, f, O⟩ := ho (by intro e; rw [e] at d; simp at d; omega);rw [pIn P D g0, pIn P C g1, pIn P B g2, hh0 F D (by omega), hh0 F C (by omega), hh0 F B (by omega)];obtain ⟨x, s⟩ := N D (by rw [sPl]; exact g0);obtain ⟨o, n⟩ := N C (by rw [sPl]; exact g1);obtain ⟨m, l⟩ := N B (by rw [sPl]; exact g2);rw [sPg P D g0] at x s;rw [sPg P C g1] at o n;rw [sPg P B g2] at m l;have m0 := O D (by omega);have m1 := O C (by omega);have m2 := O B (by omega);dsimp only at x s o n m l;have f0 : (D : Int) < (P.length : Int) := by omega
 have f1 : (C : Int) < (P.length : Int) := by omega
 have f2 : (B : Int) < (P.length : Int) := by omega
 have f3 : (D : Int) < (F.length : Int) := by omega
 have f4 : (C : Int) < (F.length : Int) := by omega
 have f5 : (B : Int) < (F.length : Int) := by omega
 have zf : (t : Int) < (T.length : Int) := by omega
 generalize P[D] = p0 at *;generalize P[C] = p1 at *;generalize P[B] = p2 at *;generalize F[D]'_ = h0 at *;generalize F[C]'_ = h1 at *;generalize F[B]'_ = h2 at *;subst hZ;clear hs R G i hq ho N O hp ht hf hm hJ hK hL hM hN hO d;have i0 := iT0;have i1 := iT1;have i2 := iT2;go_enter Tryz.func145, Tryz.ntmps145;go_wp2_with fail;obtain ⟨L, H⟩ := zex ((w.alloc (.cells #[.slice (some ⟨j, op, none⟩) P.length cp, .slice (some ⟨b, off, none⟩) T.length ct] 41)).alloc (.cells #[.string ⟨#[]⟩, .string ⟨#[]⟩, .string ⟨#[]⟩, .string ⟨#[]⟩, .string ⟨#[]⟩, .string ⟨#[]⟩, .string ⟨#[]⟩, .string ⟨#[]⟩, .string ⟨#[]⟩] 215));have Y : Below w.heap.size w L := by rw [H]; exact zal2 _ _ _
 have Q : BoxN L (w.heap.size + 1) 215 [.string ⟨#[]⟩, .string ⟨#[]⟩, .string ⟨#[]⟩, .string ⟨#[]⟩, .string ⟨#[]⟩, .string ⟨#[]⟩, .string ⟨#[]⟩, .string ⟨#[]⟩, .string ⟨#[]⟩] := by rw [H]; exact BoxN.new _ _ _ _ (by simp)
 have x0 : L.cell? ⟨w.heap.size, 0, none⟩ = some (.slice (some ⟨j, op, none⟩) P.length cp) := by rw [H]; exact cal _ (by rw [World.cell?_alloc_at _ _ _ _ rfl]; rfl)
 have K : Below (w.heap.size + 1) L L := Below.refl _ _;have z9 := zcq Y M x;have za := zcq Y M s;have zb := zcq Y M o;have zc := zcq Y M n;have zd := zcq Y M m;have ze := zcq Y M l;have n0 := zcq Y f m0;have n1 := zcq Y f m1;have n2 := zcq Y f m2;rw [<- H];clear H e0 e1 e2 x s o n m l m0 m1 m2;refine wp_loop_rounds 4 ?_;have h4 := Q.cell 0 rfl;have h5 := Q.cell 1 rfl;have h6 := Q.cell 2 rfl;have h7 := Q.frozen 0;have h8 := Q.frozen 1;have h9 := Q.frozen 2;have hx := zcq K (by show w.heap.size < w.heap.size + 1; omega) x0;have hu := zcq K (by show j < w.heap.size + 1; omega) z9;have hv := zcq K (by show j < w.heap.size + 1; omega) za;have hw := zcq K (by show bf < w.heap.size + 1; omega) n0;rw [rounds_succ];go_wp2_with fail
 go_still_tail 12, (by kernel_rfl)
 change wpList _ _ _ _ _ L.drew;go_wp2_with fail;clear h4 h5 h6 h7 h8 h9 hx hu hv hw;obtain ⟨W1, A⟩ : ∃ X, X = (((L.setCell ⟨w.heap.size + 1, 0, none⟩ (.string (RS p0.1))).setCell ⟨w.heap.size + 1, 1, none⟩ (.string (RS p0.2))).setCell ⟨w.heap.size + 1, 2, none⟩ (.string (RS h0))).drew := ⟨_, rfl⟩;have J : Below (w.heap.size + 1) L W1 := by rw [A]; exact (((K.setCell (p := ⟨w.heap.size + 1, 0, none⟩) (Nat.le_refl _) _).setCell (p := ⟨w.heap.size + 1, 1, none⟩) (Nat.le_refl _) _).setCell (p := ⟨w.heap.size + 1, 2, none⟩) (Nat.le_refl _) _).drew
 have U := ((((Q.set 0 (.string (RS p0.1))).set 1 (.string (RS p0.2))).set 2 (.string (RS h0))).drew);rw [<- A] at U;rw [<- A];clear A;have ha := U.cell 3 rfl;have hb := U.cell 4 rfl;have hc := U.cell 5 rfl;have hd := U.frozen 3;have he := U.frozen 4;have hg := U.frozen 5;have hB := zcq J (by show w.heap.size < w.heap.size + 1; omega) x0;have hy := zcq J (by show j < w.heap.size + 1; omega) zb;have hz := zcq J (by show j < w.heap.size + 1; omega) zc;have hA := zcq J (by show bf < w.heap.size + 1; omega) n1;rw [rounds_succ];go_wp2_with fail
 go_still_tail 12, (by kernel_rfl)
 change wpList _ _ _ _ _ W1.drew;go_wp2_with fail;clear ha hb hc hd he hg hB hy hz hA;obtain ⟨W2, z⟩ : ∃ X, X = (((W1.setCell ⟨w.heap.size + 1, 3, none⟩ (.string (RS p1.1))).setCell ⟨w.heap.size + 1, 4, none⟩ (.string (RS p1.2))).setCell ⟨w.heap.size + 1, 5, none⟩ (.string (RS h1))).drew := ⟨_, rfl⟩;have I : Below (w.heap.size + 1) L W2 := by rw [z]; exact (((J.setCell (p := ⟨w.heap.size + 1, 3, none⟩) (Nat.le_refl _) _).setCell (p := ⟨w.heap.size + 1, 4, none⟩) (Nat.le_refl _) _).setCell (p := ⟨w.heap.size + 1, 5, none⟩) (Nat.le_refl _) _).drew
 have S := ((((U.set 3 (.string (RS p1.1))).set 4 (.string (RS p1.2))).set 5 (.string (RS h1))).drew);rw [<- z] at S;rw [<- z];clear z;have hh := S.cell 6 rfl;have hi := S.cell 7 rfl;have hj := S.cell 8 rfl;have hk := S.frozen 6;have hl := S.frozen 7;have hn := S.frozen 8;have hG := zcq I (by show w.heap.size < w.heap.size + 1; omega) x0;have hC := zcq I (by show j < w.heap.size + 1; omega) zd;have hE := zcq I (by show j < w.heap.size + 1; omega) ze;have hF := zcq I (by show bf < w.heap.size + 1; omega) n2;rw [rounds_succ];go_wp2_with fail
 go_still_tail 12, (by kernel_rfl)
 change wpList _ _ _ _ _ W2.drew;go_wp2_with fail;clear hh hi hj hk hl hn hG hC hE hF;obtain ⟨W3, y⟩ : ∃ X, X = (((W2.setCell ⟨w.heap.size + 1, 6, none⟩ (.string (RS p2.1))).setCell ⟨w.heap.size + 1, 7, none⟩ (.string (RS p2.2))).setCell ⟨w.heap.size + 1, 8, none⟩ (.string (RS h2))).drew := ⟨_, rfl⟩;have hD : Below (w.heap.size + 1) L W3 := by rw [y]; exact (((I.setCell (p := ⟨w.heap.size + 1, 6, none⟩) (Nat.le_refl _) _).setCell (p := ⟨w.heap.size + 1, 7, none⟩) (Nat.le_refl _) _).setCell (p := ⟨w.heap.size + 1, 8, none⟩) (Nat.le_refl _) _).drew
 have Z := ((((S.set 6 (.string (RS p2.1))).set 7 (.string (RS p2.2))).set 8 (.string (RS h2))).drew);rw [<- y] at Z;rw [<- y];clear y;have z0 := Z.cell 0 rfl;have z1 := Z.cell 1 rfl;have z2 := Z.cell 2 rfl;have z3 := Z.cell 3 rfl;have z4 := Z.cell 4 rfl;have z5 := Z.cell 5 rfl;have z6 := Z.cell 6 rfl;have z7 := Z.cell 7 rfl;have z8 := Z.cell 8 rfl;have zm := Z.frozen 0;have zn := Z.frozen 1;have zo := Z.frozen 2;have zp := Z.frozen 3;have zq := Z.frozen 4;have zr := Z.frozen 5;have zs := Z.frozen 6;have zt := Z.frozen 7;have zu := Z.frozen 8;rw [rounds_succ];go_wp2_with fail;obtain ⟨WF, g⟩ : ∃ X, X = (((((((((W3.setCell ⟨w.heap.size + 1, 0, none⟩ (.string (RS p0.1))).setCell ⟨w.heap.size + 1, 1, none⟩ (.string (RS p0.2))).setCell ⟨w.heap.size + 1, 2, none⟩ (.string (RS h0))).setCell ⟨w.heap.size + 1, 3, none⟩ (.string (RS p1.1))).setCell ⟨w.heap.size + 1, 4, none⟩ (.string (RS p1.2))).setCell ⟨w.heap.size + 1, 5, none⟩ (.string (RS h1))).setCell ⟨w.heap.size + 1, 6, none⟩ (.string (RS p2.1))).setCell ⟨w.heap.size + 1, 7, none⟩ (.string (RS p2.2))).setCell ⟨w.heap.size + 1, 8, none⟩ (.string (RS h2))) := ⟨_, rfl⟩;have V : BoxN WF (w.heap.size + 1) 215 [.string (RS p0.1), .string (RS p0.2), .string (RS h0), .string (RS p1.1), .string (RS p1.2), .string (RS h1), .string (RS p2.1), .string (RS p2.2), .string (RS h2)] := by rw [g]; exact (((((((((Z.set 0 (.string (RS p0.1))).set 1 (.string (RS p0.2))).set 2 (.string (RS h0))).set 3 (.string (RS p1.1))).set 4 (.string (RS p1.2))).set 5 (.string (RS h1))).set 6 (.string (RS p2.1))).set 7 (.string (RS p2.2))).set 8 (.string (RS h2)))
 have hH : Below (w.heap.size + 1) L WF := by rw [g]; exact (((((((((hD.setCell (p := ⟨w.heap.size + 1, 0, none⟩) (Nat.le_refl _) _).setCell (p := ⟨w.heap.size + 1, 1, none⟩) (Nat.le_refl _) _).setCell (p := ⟨w.heap.size + 1, 2, none⟩) (Nat.le_refl _) _).setCell (p := ⟨w.heap.size + 1, 3, none⟩) (Nat.le_refl _) _).setCell (p := ⟨w.heap.size + 1, 4, none⟩) (Nat.le_refl _) _).setCell (p := ⟨w.heap.size + 1, 5, none⟩) (Nat.le_refl _) _).setCell (p := ⟨w.heap.size + 1, 6, none⟩) (Nat.le_refl _) _).setCell (p := ⟨w.heap.size + 1, 7, none⟩) (Nat.le_refl _) _).setCell (p := ⟨w.heap.size + 1, 8, none⟩) (Nat.le_refl _) _)
 rw [<- g];have hP := V.cell 0 rfl;have hQ := V.cell 1 rfl;have hR := V.cell 2 rfl;have hS := V.cell 3 rfl;have hT := V.cell 4 rfl;have hU := V.cell 5 rfl;have hV := V.cell 6 rfl;have hW := V.cell 7 rfl;have hX := V.cell 8 rfl;exact bodyPost_ret (v := .agg #[.string (RS p0.1), .string (RS p0.2), .string (RS h0), .string (RS p1.1), .string (RS p1.2), .string (RS h1), .string (RS p2.1), .string (RS p2.2), .string (RS h2)]) (by simp [results, Tryz.results145, go_sem, hP, hQ, hR, hS, hT, hU, hV, hW, hX]) rfl ⟨_, rfl, rfl, Y.trans (hH.mono (by omega))⟩
def mQQ (a b c d : Rat) : Rat := a * d - b * c
def sQQ (A B C : PtQ) (za zb zc : Rat) : PtQ :=
 (1 / mQQ (B.1 - A.1) (B.2 - A.2) (C.1 - A.1) (C.2 - A.2) * mQQ (zb - za) (B.2 - A.2) (zc - za) (C.2 - A.2),
  1 / mQQ (B.1 - A.1) (B.2 - A.2) (C.1 - A.1) (C.2 - A.2) * mQQ (B.1 - A.1) (zb - za) (C.1 - A.1) (zc - za))
theorem Sz.one : Sz 1 1 := ⟨by decide, by decide⟩
theorem mc0 (a b c d : Rat) (k : Nat) (O : 0 < k) (H : k <= 4000) (X : Sz k a) (V : Sz k b) (U : Sz k c) (S : Sz k d) (w : World) (R : Good w) :
 Calls Tryz.prog 211 #[.string (RS a), .string (RS b), .string (RS c), .string (RS d)] w (Ret (fun r _ => r = .string (RS (mQQ a b c d))) w) := by
 unfold mQQ;have L := hid X;have K := hid V;have J := hid U;have I := hid S;have N : Hid (Sz (2 * k) (a * d)) := (X.mul S).mono (by omega);have M : Hid (Sz (2 * k) (b * c)) := (V.mul U).mono (by omega);clear X V U S;go_enter Tryz.func211, Tryz.ntmps211;go_wp2_with fail;refine zR (rMa a d k O (by omega) L.out I.out _ R) fun w1 hb1 => ?_;have Y := R.below hb1;go_wp2_with fail;refine zR (rMa b c k O (by omega) K.out J.out _ Y) fun w2 hb2 => ?_;have Z := zbt hb1 hb2;have Q := R.below Z;clear hb1 hb2 Y;go_wp2_with fail;refine zR (rSa (a * d) (b * c) (2 * k) (by omega) (by omega) N.out M.out _ Q) fun w3 hb4 => ?_;go_wp2_with fail;go_ret;exact ⟨_, rfl, rfl, (zbt Z hb4)⟩
theorem msz {a b c d : Rat} {k : Nat} (Z : Sz k a) (Y : Sz k b) (X : Sz k c) (V : Sz k d) : Sz (4 * k + 1) (mQQ a b c d) :=
 ((Z.mul V).sub (Y.mul X)).mono (by omega)
theorem sy0 (w : World) (vp vt vf : Value) (P : List PtQ) (T : List Tri) (k : Nat) (F : List Rat) (hp : RdP w vp (strP P)) (ht : RdT w vt T) (hm : MeshIn P T k) (zj : k <= 200) (hf : RdQ w vf F) (hM : ∀ q ∈ F, Sz k q) (hL : F.length = P.length) (t : Nat) (tz : Int) (hT : tz = (t : Int)) (hR : t < T.length)
 (Z : Tri) (hS : Z = T[t]) (Y : 0 < turnZ (ptI P Z.1) (ptI P Z.2.1) (ptI P Z.2.2)) (hg : Good w) :
 Calls Tryz.prog 187 #[.agg #[vp, vt], vf, .int .i64 tz] w
  (Ret (fun r _ => r = .agg #[.string (RS (sQQ (ptI P Z.1) (ptI P Z.2.1) (ptI P Z.2.2) (hI F Z.1) (hI F Z.2.1) (hI F Z.2.2)).1), .string (RS (sQQ (ptI P Z.1) (ptI P Z.2.1) (ptI P Z.2.2) (hI F Z.1) (hI F Z.2.1) (hI F Z.2.2)).2)]) w) := by
 have U := hm.kpos;have h4 : ∀ z, SzP k (ptI P z) := fun z => by
  unfold ptI;cases h : P[z.toNat]? with
  | none => exact ⟨Sz.zero k U, Sz.zero k U⟩
  | some p => exact hm.sz _ (List.mem_of_getElem? h)
 have h3 : ∀ z, Sz k (hI F z) := fun z => by
  unfold hI;cases h : F[z.toNat]? with
  | none => exact Sz.zero k U
  | some p => exact hM _ (List.mem_of_getElem? h)
 have sA := h4 Z.1;have sB := h4 Z.2.1;have sC := h4 Z.2.2;have s1 := h3 Z.1;have s2 := h3 Z.2.1;have s3 := h3 Z.2.2;have HC := hid (fun (w : World) (hp : RdP w vp (strP P)) (ht : RdT w vt T) (hf : RdQ w vf F) (hg : Good w) => cd0 w vp vt vf P T k F hp ht hm hf hL t tz hT hR Z hS hg);have hP := hp;have hQ := ht;have hK := hf;obtain ⟨pp, cp, rfl, _, _, _⟩ := hP.open;obtain ⟨pt, ct, rfl, _, _, _⟩ := hQ.open;obtain ⟨pf, cf, rfl, _, _, _⟩ := hK.open;clear hP hQ hK;have HP := hid hp;have HT := hid ht;have HF := hid hf;clear hS h4 h3 hp ht hf hm hM;rw [sPl] at *;generalize ptI P Z.1 = A at *;generalize ptI P Z.2.1 = B at *;generalize ptI P Z.2.2 = C at *;generalize hI F Z.1 = za at *;generalize hI F Z.2.1 = zb at *;generalize hI F Z.2.2 = zc at *;obtain ⟨X, V⟩ := A;obtain ⟨j, l⟩ := B;obtain ⟨i, g⟩ := C;obtain ⟨h1, h2⟩ := sA;obtain ⟨hn, ho⟩ := sB;obtain ⟨hq, hr⟩ := sC;have hC : mQQ (j - X) (l - V) (i - X) (g - V) ≠ 0 := fun e => by
  unfold turnZ areaQ at Y;unfold mQQ at e;dsimp only at Y;rw [e] at Y;simp at Y
 unfold sQQ;dsimp only at *;have z3 := hid hC;have G : Hid (Sz k X /\ Sz k V /\ Sz k j /\ Sz k l /\ Sz k i /\ Sz k g /\ Sz k za /\ Sz k zb /\ Sz k zc) := ⟨h1, h2, hn, ho, hq, hr, s1, s2, s3⟩;have sx := (hn.sub h1).mono (show k + k + 1 <= 2 * k + 1 by omega);have sy := (ho.sub h2).mono (show k + k + 1 <= 2 * k + 1 by omega);have su := (hq.sub h1).mono (show k + k + 1 <= 2 * k + 1 by omega);have sv := (hr.sub h2).mono (show k + k + 1 <= 2 * k + 1 by omega);have sa := (s2.sub s1).mono (show k + k + 1 <= 2 * k + 1 by omega);have sb := (s3.sub s1).mono (show k + k + 1 <= 2 * k + 1 by omega);have E : Hid (Sz (2 * k + 1) (j - X) /\ Sz (2 * k + 1) (l - V) /\ Sz (2 * k + 1) (i - X) /\ Sz (2 * k + 1) (g - V) /\ Sz (2 * k + 1) (zb - za) /\ Sz (2 * k + 1) (zc - za)) := ⟨sx, sy, su, sv, sa, sb⟩;have m1 := (msz sx sy su sv).mono (show 4 * (2 * k + 1) + 1 <= 3000 by omega);have m2 := (msz sa sy sb sv).mono (show 4 * (2 * k + 1) + 1 <= 3000 by omega);have m3 := (msz sx sa su sb).mono (show 4 * (2 * k + 1) + 1 <= 3000 by omega);have m4 := (Sz.one.div m1 (by omega)).mono (show 1 + 3000 <= 6000 by omega);have K3 : Hid (Sz 3000 (mQQ (j - X) (l - V) (i - X) (g - V)) /\ Sz 3000 (mQQ (zb - za) (l - V) (zc - za) (g - V)) /\ Sz 3000 (mQQ (j - X) (zb - za) (i - X) (zc - za)) /\ Sz 6000 (1 / mQQ (j - X) (l - V) (i - X) (g - V))) := ⟨m1, m2, m3, m4⟩;clear h1 h2 hn ho hq hr s1 s2 s3 sx sy su sv sa sb m1 m2 m3 m4 Y hC;clear hT hL hR;have z8 : Hid (∀ (m n : Nat) (q : Rat), Sz m q -> m <= n -> Sz n q) := fun m n q h hmn => h.mono hmn;go_enter Tryz.func187, Tryz.ntmps187;go_wp2_with fail;have H : Below w.heap.size w ((w.alloc (.cells #[.slice pp P.length cp, .slice pt T.length ct] 41)).alloc (.cells #[.string ⟨#[]⟩, .string ⟨#[]⟩] 73)) := ((Below.refl _ _).alloc (Nat.le_refl _) _).alloc (by simp) _;have B6 : BoxN ((w.alloc (.cells #[.slice pp P.length cp, .slice pt T.length ct] 41)).alloc (.cells #[.string ⟨#[]⟩, .string ⟨#[]⟩] 73)) (w.heap.size + 1) 73 [.string ⟨#[]⟩, .string ⟨#[]⟩] := BoxN.new _ _ _ _ (by simp);refine zR (HC.out _ (RdC.below HP.out H) (RdC.below HT.out H) (RdC.below HF.out H) (hg.below H)) fun wc hbc => ?_;have h9 : Below w.heap.size w wc := zbt H hbc;have hu := B6.bl hbc;have hz : w.heap.size + 2 <= wc.heap.size := by have := hbc.size; simp at this; omega
 clear B6 hbc H;go_wp2_with fail;obtain ⟨W, hW⟩ := zex (wc.alloc (.cells #[.string (RS X), .string (RS V), .string (RS za), .string (RS j), .string (RS l), .string (RS zb), .string (RS i), .string (RS g), .string (RS zc)] 215));have BW : BoxN W wc.heap.size 215 [.string (RS X), .string (RS V), .string (RS za), .string (RS j), .string (RS l), .string (RS zb), .string (RS i), .string (RS g), .string (RS zc)] := by rw [hW]; exact BoxN.new _ _ _ _ rfl
 have h8 : Below wc.heap.size wc W := by rw [hW]; exact zal _ _
 have zf : wc.heap.size < W.heap.size := BW.lt;rw [<- hW];clear hW;have hO : Good W := (hg.below h9).below h8;have hh : Good W.drew := hO.drewN 1;have c0 := BW.cell 0 rfl;have c1 := BW.cell 1 rfl;have c3 := BW.cell 3 rfl;have c4 := BW.cell 4 rfl;go_region_held3 (fun w' => w'.cell? ⟨wc.heap.size, 0, none⟩ = some (.string (RS X)) /\ w'.cell? ⟨wc.heap.size, 1, none⟩ = some (.string (RS V)) /\ w'.cell? ⟨wc.heap.size, 3, none⟩ = some (.string (RS j)) /\ w'.cell? ⟨wc.heap.size, 4, none⟩ = some (.string (RS l)))
  (first | exact ⟨c0, c1, c3, c4⟩ | exact ⟨p_1_0, p_1_1, p_1_2, p_1_3⟩ | exact ⟨p_2_0, p_2_1, p_2_2, p_2_3⟩)
  (first
  | (go_at_call 23; refine (rSa l V k U (by omega) G.out.2.2.2.1 G.out.2.1 _ hi).mono ?_; rintro e N ⟨_, rfl, rfl, R⟩
     have p_2_0 := zct R p_1_0;have p_2_1 := zct R p_1_1;have p_2_2 := zct R p_1_2;have p_2_3 := zct R p_1_3;have zn := R.size;have hZ := hi.below R)
  | (go_at_call 23; refine (rSa j X k U (by omega) G.out.2.2.1 G.out.1 _ hh).mono ?_; rintro e zg ⟨_, rfl, rfl, S⟩
     have p_1_0 := zct S c0;have p_1_1 := zct S c1;have p_1_2 := zct S c3;have p_1_3 := zct S c4;have zm : W.heap.size <= zg.heap.size := S.size;have hi := hh.below S))
 have pB : Below W.heap.size W N := zbt (zbt (bdN W 1) S) R;have I := BW.below pB zf;have d : Good N.drew := hZ.drewN 1;have ze : wc.heap.size < N.heap.size := by omega
 have hw := h8.trans (pB.mono (by omega));have d0 := I.cell 0 rfl;have d1 := I.cell 1 rfl;have d6 := I.cell 6 rfl;have d7 := I.cell 7 rfl;clear c0 c1 c3 c4 pB S R p_1_0 p_1_1 p_1_2 p_1_3 p_2_0 p_2_1 p_2_2 p_2_3 BW h8 hO hh hi;go_wp2_with fail;go_region_held3 (fun w' => w'.cell? ⟨wc.heap.size, 0, none⟩ = some (.string (RS X)) /\ w'.cell? ⟨wc.heap.size, 1, none⟩ = some (.string (RS V)) /\ w'.cell? ⟨wc.heap.size, 6, none⟩ = some (.string (RS i)) /\ w'.cell? ⟨wc.heap.size, 7, none⟩ = some (.string (RS g)))
  (first | exact ⟨d0, d1, d6, d7⟩ | exact ⟨q_1_0, q_1_1, q_1_2, q_1_3⟩ | exact ⟨q_2_0, q_2_1, q_2_2, q_2_3⟩)
  (first
  | (go_at_call 23; refine (rSa g V k U (by omega) G.out.2.2.2.2.2.1 G.out.2.1 _ hj).mono ?_; rintro e M ⟨_, rfl, rfl, O⟩
     have q_2_0 := zct O q_1_0;have q_2_1 := zct O q_1_1;have q_2_2 := zct O q_1_2;have q_2_3 := zct O q_1_3;have zp := O.size;have z0 := hj.below O)
  | (go_at_call 23; refine (rSa i X k U (by omega) G.out.2.2.2.2.1 G.out.1 _ d).mono ?_; rintro e zh ⟨_, rfl, rfl, Q⟩
     have q_1_0 := zct Q d0;have q_1_1 := zct Q d1;have q_1_2 := zct Q d6;have q_1_3 := zct Q d7;have zo : N.heap.size <= zh.heap.size := Q.size;have hj := d.below Q))
 have qB : Below N.heap.size N M := zbt (zbt (bdN N 1) Q) O;have h0 := I.below qB ze;have c : Good M.drew := z0.drewN 1;have zk : wc.heap.size < M.heap.size := by omega
 have hx := hw.trans (qB.mono (by omega));have f2 := h0.cell 2 rfl;have f5 := h0.cell 5 rfl;have f8 := h0.cell 8 rfl;clear d0 d1 d6 d7 qB Q O q_1_0 q_1_1 q_1_2 q_1_3 q_2_0 q_2_1 q_2_2 q_2_3 I hw d hj hZ;go_wp2_with fail;go_region_held3 (fun w' => w'.cell? ⟨wc.heap.size, 2, none⟩ = some (.string (RS za)) /\ w'.cell? ⟨wc.heap.size, 5, none⟩ = some (.string (RS zb)) /\ w'.cell? ⟨wc.heap.size, 8, none⟩ = some (.string (RS zc)))
  (first | exact ⟨f2, f5, f8⟩ | exact ⟨r_1_0, r_1_1, r_1_2⟩ | exact ⟨r_2_0, r_2_1, r_2_2⟩)
  (first
  | (go_at_call 23; refine (rSa zc za k U (by omega) G.out.2.2.2.2.2.2.2.2 G.out.2.2.2.2.2.2.1 _ hk).mono ?_; rintro e hl ⟨_, rfl, rfl, J⟩
     have r_2_0 := zct J r_1_0;have r_2_1 := zct J r_1_1;have r_2_2 := zct J r_1_2;have zr := J.size;have z1 := hk.below J)
  | (go_at_call 23; refine (rSa zb za k U (by omega) G.out.2.2.2.2.2.2.2.1 G.out.2.2.2.2.2.2.1 _ c).mono ?_; rintro e zi ⟨_, rfl, rfl, L⟩
     have r_1_0 := zct L f2;have r_1_1 := zct L f5;have r_1_2 := zct L f8;have zq : M.heap.size <= zi.heap.size := L.size;have hk := c.below L))
 have rB : Below M.heap.size M hl := zbt (zbt (bdN M 1) L) J;have h7 := hx.trans (rB.mono (by omega));have hs := hu.below h7 (by omega);have zd : Below w.heap.size w hl := h9.trans (h7.mono (by omega));have zl : w.heap.size + 2 <= hl.heap.size := by omega
 clear f2 f5 f8 rB L J r_1_0 r_1_1 r_1_2 r_2_0 r_2_1 r_2_2 h0 hx h7 c hk z0 hu h9;generalize hX : j - X = x at *;generalize hY : l - V = y at *;generalize hU : i - X = u at *;generalize hV : g - V = v at *;generalize hA : zb - za = a at *;generalize hy : zc - za = b at *;have HX := hid hX;have HY := hid hY;have HU := hid hU;have HV := hid hV;have HA := hid hA;have z2 := hid hy;clear hX hY hU hV hA hy;go_wp2_with fail;refine zR (mc0 x y u v (2 * k + 1) (by omega) (by omega) E.out.1 E.out.2.1 E.out.2.2.1 E.out.2.2.2.1 _ z1) fun w4 hb4 => ?_;have hb := z1.below hb4;generalize hD : mQQ x y u v = D at *;have z4 := hid hD;clear hD;have o := rDa 1 D 6000 (by omega) (by omega) (Sz.one.mono (by omega)) (K3.out.1.mono (by omega)) z3.out w4 hb;rw [Rf0] at o;have hv := hid o;clear o;go_wp2_with fail;refine hv.out.mono ?_;rintro e w5 ⟨_, rfl, rfl, ha⟩;have hH := zbt hb4 ha;have hc := hb.below ha;generalize hE : 1 / D = K at *;have z5 := hid hE;clear hE hb4 ha hb hv;go_wp2_with fail;refine zR (mc0 a y b v (2 * k + 1) (by omega) (by omega) E.out.2.2.2.2.1 E.out.2.1 E.out.2.2.2.2.2 E.out.2.2.2.1 _ hc) fun w6 hb7 => ?_;have hJ := zbt hH hb7;have hd := hc.below hb7;clear hH hb7 hc;generalize hF : mQQ a y b v = M1 at *;have z6 := hid hF;clear hF;go_wp2_with fail;refine zR (rMa K M1 6000 (by omega) (by omega) K3.out.2.2.2 (K3.out.2.1.mono (by omega)) _ hd) fun w7 hb9 => ?_;have h5 := zbt hJ hb9;have he := hd.below hb9;clear hJ hb9 hd;go_wp2_with fail;refine zR (mc0 x a u b (2 * k + 1) (by omega) (by omega) E.out.1 E.out.2.2.2.2.1 E.out.2.2.1 E.out.2.2.2.2.2 _ he) fun w8 hb11 => ?_;have h6 := zbt h5 hb11;have hN := he.below hb11;clear h5 hb11 he;generalize hG : mQQ x a u b = M2 at *;have z7 := hid hG;clear hG;go_wp2_with fail;refine zR (rMa K M2 6000 (by omega) (by omega) K3.out.2.2.2 (K3.out.2.2.1.mono (by omega)) _ hN) fun w9 hb13 => ?_;have f := zbt h6 hb13;have s := hs.below f (by omega);have hB : Below w.heap.size w w9 := zd.trans (f.mono (by omega));have x0 := s.cell 0 rfl;have x1 := s.cell 1 rfl;have y0 := s.frozen 0;have y1 := s.frozen 1;clear h6 hb13 hN hs f;go_wp2_with fail;have z9 := (hB.setCell (p := ⟨w.heap.size + 1, 0, none⟩) (by show w.heap.size <= w.heap.size + 1; omega) (.string (RS (K * M1)))).setCell (p := ⟨w.heap.size + 1, 1, none⟩) (by show w.heap.size <= w.heap.size + 1; omega) (.string (RS (K * M2)));have BF := (s.set 0 (.string (RS (K * M1)))).set 1 (.string (RS (K * M2)));have g0 := BF.cell 0 rfl;have g1 := BF.cell 1 rfl;exact bodyPost_ret (v := .agg #[.string (RS (K * M1)), .string (RS (K * M2))]) (by simp [results, Tryz.results187, go_sem, g0, g1]) rfl ⟨_, rfl, by rw [HX.out, HY.out, HU.out, HV.out, HA.out, z2.out, z4.out, z5.out, z6.out, z7.out], z9⟩
theorem RdQ.toS {w : World} {v : Value} {F : List Rat} (h : RdQ w v F) : RdS w v (F.map RS) := by
 unfold RdQ at h;unfold RdS;rw [List.length_map, List.map_map];exact h
theorem eFo {n : Nat} {F : List Rat} (Z : F.length = n) (Y : ∀ q ∈ F, Sz 200 q) : errF n (F.map RS) = 0 := by
 rw [eFn (by rw [List.length_map]; exact Z)];have : allQ (F.map RS) = true := by
  unfold allQ;rw [List.all_map];refine List.all_eq_true.2 fun q hq => ?_;simp only [Function.comp_apply];rw [Rlt];exact rQR (Y q hq)
 rw [this]; rfl
theorem sok {k : Nat} {F : List Rat} (Z : 0 < k) (Y : k <= 200) (X : ∀ q ∈ F, Sz k q) : ∀ s ∈ F.map RS, s.size < 1000000000 := fun s hs' => by
 obtain ⟨q, hq, rfl⟩ := List.mem_map.1 hs';have := (X q hq).size Z;omega
structure FieldIn (w : World) (vp vt vf : Value) (P : List PtQ) (T : List Tri) (k : Nat) (F : List Rat) : Prop where
 p : RdP w vp (strP P)
 t : RdT w vt T
 m : MeshOK P T k
 f : RdQ w vf F
 fs : ∀ q ∈ F, Sz k q
 fl : F.length = P.length
theorem FieldIn.below {w w' : World} {vp vt vf : Value} {P : List PtQ} {T : List Tri} {k : Nat} {F : List Rat} (h : FieldIn w vp vt vf P T k F) (Z : Below w.heap.size w w') : FieldIn w' vp vt vf P T k F :=
 ⟨RdC.below h.p Z, RdC.below h.t Z, h.m, RdC.below h.f Z, h.fs, h.fl⟩
theorem FieldIn.err {w : World} {vp vt vf : Value} {P : List PtQ} {T : List Tri} {k : Nat} {F : List Rat} (h : FieldIn w vp vt vf P T k F) : errF P.length (F.map RS) = 0 :=
 eFo h.fl fun q hq => (h.fs q hq).mono h.m.klim2
theorem FieldIn.open {w : World} {vp vt vf : Value} {P : List PtQ} {T : List Tri} {k : Nat} {F : List Rat} (h : FieldIn w vp vt vf P T k F) : ∃ U Y S X V Z, vp = .slice U P.length Y /\ vt = .slice S T.length X /\ vf = .slice V F.length Z := by
 obtain ⟨U, Y, R, _⟩ := h.p.open;obtain ⟨S, X, Q, _⟩ := h.t.open;obtain ⟨V, Z, O, _⟩ := h.f.open;rw [sPl] at R;exact ⟨U, Y, S, X, V, Z, R, Q, O⟩
theorem co0 {w : World} {vp vt vf : Value} {P : List PtQ} {T : List Tri} {k : Nat} {F : List Rat} (h : FieldIn w vp vt vf P T k F) (b : Nat) (Z : w.cell? ⟨b, 0, none⟩ = some vf) (Y : Good w) :
 Calls Tryz.prog 51 #[.agg #[vp, vt], .slice (some ⟨b, 0, none⟩) 1 1] w (Ret (fun r _ => r = .int .i64 0) w) := by
 have := cg0 w vp vt vf P T k (F.map RS) h.p h.t h.m h.f.toS (sok h.m.kpos h.m.klim2 h.fs) (by rw [List.length_map, h.fl]; have := h.m.plen; omega) b Z Y;rw [h.err] at this;exact this
def sd0 (P : List PtQ) (F : List Rat) (tr : Tri) : PtQ := sQQ (ptI P tr.1) (ptI P tr.2.1) (ptI P tr.2.2) (hI F tr.1) (hI F tr.2.1) (hI F tr.2.2)
structure PairIn (w : World) (vp vt vl vu : Value) (P : List PtQ) (T : List Tri) (k : Nat) (L U : List Rat) : Prop where
 l : FieldIn w vp vt vl P T k L
 u : FieldIn w vp vt vu P T k U
theorem PairIn.below {w w' : World} {vp vt vl vu : Value} {P : List PtQ} {T : List Tri} {k : Nat} {L U : List Rat} (h : PairIn w vp vt vl vu P T k L U) (Z : Below w.heap.size w w') : PairIn w' vp vt vl vu P T k L U :=
 ⟨h.l.below Z, h.u.below Z⟩
theorem PairIn.open {w : World} {vp vt vl vu : Value} {P : List PtQ} {T : List Tri} {k : Nat} {L U : List Rat} (h : PairIn w vp vt vl vu P T k L U) : ∃ X Z V Y pl cl pu cu, vp = .slice X P.length Z /\ vt = .slice V T.length Y /\ vl = .slice pl L.length cl /\ vu = .slice pu U.length cu := by
 obtain ⟨X, Z, V, Y, K, S, Q, O, N⟩ := h.l.open;obtain ⟨_, _, _, _, J, R, _, _, M⟩ := h.u.open;exact ⟨X, Z, V, Y, K, S, J, R, Q, O, N, M⟩
theorem FieldIn.tri {w : World} {vp vt vf : Value} {P : List PtQ} {T : List Tri} {k : Nat} {F : List Rat} (h : FieldIn w vp vt vf P T k F) (t : Nat) (Y : t < T.length) : ∃ b off Z, vt = .slice (some ⟨b, off, none⟩) T.length Z /\ b < w.heap.size /\
 w.cell? ⟨b, off + t * 3, none⟩ = some (.int .i64 T[t].1) /\ w.cell? ⟨b, off + t * 3 + 1, none⟩ = some (.int .i64 T[t].2.1) /\ w.cell? ⟨b, off + t * 3 + 2, none⟩ = some (.int .i64 T[t].2.2) := by
 obtain ⟨O, Z, rfl, _, _, Q⟩ := h.t.open;obtain ⟨b, off, rfl, S, R⟩ := Q (List.ne_nil_of_length_pos (by omega));obtain ⟨X, V, U⟩ := R t Y;exact ⟨b, off, Z, rfl, S, X, V, U⟩
theorem FieldIn.hgt {w : World} {vp vt vf : Value} {P : List PtQ} {T : List Tri} {k : Nat} {F : List Rat} (h : FieldIn w vp vt vf P T k F) (m : Nat) (Z : m < F.length) : ∃ b off Y, vf = .slice (some ⟨b, off, none⟩) F.length Y /\ b < w.heap.size /\
 w.cell? ⟨b, off + m, none⟩ = some (.string (RS (hI F (m : Int)))) := by
 obtain ⟨S, Y, rfl, _, _, U⟩ := h.f.open;obtain ⟨b, off, rfl, X, V⟩ := U (by intro e; rw [e] at Z; simp at Z);exact ⟨b, off, Y, rfl, X, by rw [hh0 F m Z]; exact V m Z⟩
theorem cos (w : World) (x : ByteArray) (E : Nat) : ∀ (j : Nat) (u : Value), [Value.string x][j]? = some u -> (w.alloc (.cells #[.string x] E)).cell? ((⟨w.heap.size, 0, none⟩ : Addr).add j) = some u := cell_one_new _ _ _
theorem ocs (x : ByteArray) : ∀ u ∈ [Value.string x], u.oneCell' = true := by intro u Z; simp at Z; subst Z; rfl
theorem isr : ((Tryz.prog).info? 55).map (fun i => (i.zero, i.size, i.bytes)) = some (some (.string ⟨#[]⟩), 1, 16) := by kernel_rfl
theorem tsc {α : Type} (l : List α) (i : Nat) (x : α) (h : l[i]? = some x) : l.take (i + 1) = l.take i ++ [x] := by
 obtain ⟨Z, hx⟩ := List.getElem?_eq_some_iff.1 h;rw [List.take_succ_eq_append_getElem Z, hx]
def cNN (ps : List (Int × Int)) : List Value := ps.flatMap fun p => [.int .i64 p.1, .int .i64 p.2]
def RdN (w : World) (v : Value) (ps : List (Int × Int)) : Prop := RdC 2 w v ps.length (cNN ps)
theorem RdN.open {w : World} {v : Value} {ps : List (Int × Int)} (h : RdN w v ps) : ∃ p c, v = .slice p ps.length c /\ ps.length <= c /\ c <= maxLen /\
 (ps ≠ [] -> ∃ b off, p = some ⟨b, off, none⟩ /\ b < w.heap.size /\ ∀ (i : Nat) (Y : i < ps.length), w.cell? ⟨b, off + i * 2, none⟩ = some (.int .i64 ps[i].1) /\ w.cell? ⟨b, off + i * 2 + 1, none⟩ = some (.int .i64 ps[i].2)) := by
 obtain ⟨p, c, Q, V, U, O, S⟩ := h;refine ⟨p, c, Q, V, U, fun hne => ?_⟩;obtain ⟨b, off, R, X⟩ := S (by
  cases ps with
  | nil => exact absurd rfl hne
  | cons a l => simp [cNN])
 have Z : ∀ (i : Nat) (Y : i < ps.length), w.cell? ⟨b, off + i * 2, none⟩ = some (.int .i64 ps[i].1) /\ w.cell? ⟨b, off + i * 2 + 1, none⟩ = some (.int .i64 ps[i].2) := fun i Y => by
  have e := gEf (fun p : Int × Int => [Value.int .i64 p.1, .int .i64 p.2]) 2 (fun _ => rfl) ps i;refine ⟨?_, ?_⟩
  ·have := X (i * 2) (.int .i64 ps[i].1) (by have := e 0 (by omega); rw [Nat.add_zero] at this; unfold cNN; rw [this, List.getElem?_eq_getElem Y]; rfl)
   exact this
  ·have := X (i * 2 + 1) (.int .i64 ps[i].2) (by have := e 1 (by omega); unfold cNN; rw [this, List.getElem?_eq_getElem Y]; rfl)
   rw [<- Nat.add_assoc] at this;exact this
 exact ⟨b, off, R, World.block_lt_of_cell? w _ (Z 0 (List.length_pos_iff.2 hne)).1, Z⟩
theorem RdC.fresh (sz : Nat) (w : World) (cs : Array Value) (U n : Nat) (X : cs.size = n * sz) (V : n <= 1000) (l : List Value) (Z : cs.toList = l) (g : Nat) (Y : g = w.heap.size) :
 RdC sz (w.alloc (.cells cs U)) (.slice (some ⟨g, 0, none⟩) n n) n l := by
 subst Y;subst Z;refine ⟨some ⟨w.heap.size, 0, none⟩, n, rfl, Nat.le_refl _, Nat.le_trans V (by decide), by rw [Array.length_toList]; exact X, fun _ => ⟨w.heap.size, 0, rfl, fun i x hx => ?_⟩⟩;rw [World.cell?_alloc_at _ _ _ _ rfl];simpa using hx
def sPP : Nat -> List (Int × Int)
 | 0 => [(0, 0), (4, 0), (4, 4), (0, 4)]
 | 1 => [(0, 0), (4, 0), (4, 4), (0, 4)]
 | 2 => [(0, 0), (4, 0), (4, 4), (0, 4), (2, 1)]
 | 3 => [(0, 0), (6, 0), (0, 4)]
 | 4 => [(0, 0), (2, 0), (4, 0), (0, 2), (2, 2), (4, 2)]
 | 5 => [(1, 4), (5, 3), (4, 0), (0, 0)]
 | 6 => [(0, 0), (4, 0), (4, 4), (0, 4), (2, 0)]
 | _ => [(0, 0), (6, 0), (0, 6), (2, 2)]
def sTT : Nat -> List Tri
 | 0 => [(0, 1, 2), (0, 2, 3)]
 | 1 => [(0, 1, 3), (1, 2, 3)]
 | 2 => [(0, 1, 4), (1, 2, 4), (2, 3, 4), (3, 0, 4)]
 | 3 => [(2, 0, 1)]
 | 4 => [(0, 1, 4), (0, 4, 3), (1, 2, 5), (1, 5, 4)]
 | 5 => [(3, 2, 1), (3, 1, 0)]
 | 6 => [(0, 4, 3), (4, 2, 3), (4, 1, 2)]
 | _ => [(0, 1, 3), (1, 2, 3), (2, 0, 3)]
theorem ipr : ((Tryz.prog).info? 142).map (fun i => (i.zero, i.size, i.bytes)) = some (some (.agg #[.int .i64 0, .int .i64 0]), 2, 16) := by kernel_rfl
theorem ci0 (w : World) (x y : Value) (E : Nat) : ∀ (j : Nat) (u : Value), [x, y][j]? = some u -> (w.alloc (.cells #[x, y] E)).cell? ((⟨w.heap.size, 0, none⟩ : Addr).add j) = some u := World.news_of_block (cs := #[x, y]) (t := E) (fr := (0, 0)) (World.alloc_heap_new w _)
theorem sA0 (w : World) (U : Int) (k : Nat) (I : U.tmod 8 = (k : Int)) (S : 0 <= U) (L : U <= 255) (_hg : Good w) :
 Calls Tryz.prog 73 #[.int .u8 U] w (Ret (fun r w' => ∃ vp vt, r = .tuple #[vp, vt] /\ RdN w' vp (sPP k) /\ RdT w' vt (sTT k)) w) := by
 have C : k <= 7 := by
  have A : U.tmod 8 = U % 8 := Int.tmod_eq_emod_of_nonneg S;omega
 have H : U % 8 = (k : Int) := by rw [<- I]; exact (Int.tmod_eq_emod_of_nonneg S).symm
 obtain ⟨G, J, O, N, M⟩ := info_parts ipr;have hw : IntKind.u8.wrap (U.tmod 8) = (k : Int) := by rw [I]; rcases (by omega : k = 0 \/ k = 1 \/ k = 2 \/ k = 3 \/ k = 4 \/ k = 5 \/ k = 6 \/ k = 7) with rfl | rfl | rfl | rfl | rfl | rfl | rfl | rfl <;> rfl
 have E := hid S;have D := hid L;rcases (by omega : k = 0 \/ k = 1 \/ k = 2 \/ k = 3 \/ k = 4 \/ k = 5 \/ k = 6 \/ k = 7) with rfl | rfl | rfl | rfl | rfl | rfl | rfl | rfl
 ·go_enter Tryz.func73, Tryz.ntmps73
  go_wp2_with fail;go_ret2;exact ⟨_, rfl, ⟨_, _, rfl, (RdC.fresh 2 w _ _ 4 rfl (by omega) _ rfl _ rfl).alloc _, RdC.fresh 3 _ _ _ 2 rfl (by omega) _ rfl _ (by simp)⟩, ((Below.refl _ _).alloc (Nat.le_refl _) _).alloc (by simp) _⟩
 ·go_enter Tryz.func73, Tryz.ntmps73
  go_wp2_with fail;go_ret2;exact ⟨_, rfl, ⟨_, _, rfl, (RdC.fresh 2 w _ _ 4 rfl (by omega) _ rfl _ rfl).alloc _, RdC.fresh 3 _ _ _ 2 rfl (by omega) _ rfl _ (by simp)⟩, ((Below.refl _ _).alloc (Nat.le_refl _) _).alloc (by simp) _⟩
 ·go_enter Tryz.func73, Tryz.ntmps73
  have X : ((w.alloc (.cells #[.int .i64 0, .int .i64 0, .int .i64 4, .int .i64 0, .int .i64 4, .int .i64 4, .int .i64 0, .int .i64 4] 142)).alloc (.cells #[.int .i64 2, .int .i64 1] 142)).ownsRow w.heap.size 142 2 (.slice (some ⟨w.heap.size, 0, none⟩) 4 4) 4 [.int .i64 0, .int .i64 0, .int .i64 4, .int .i64 0, .int .i64 4, .int .i64 4, .int .i64 0, .int .i64 4] := (World.ownsRow_lit w _ 4 (Nat.le_refl _) (by decide) rfl).alloc _
  go_wp2_with (at_builtin; refine wpList_append_own _ rfl _ _ 138 rfl w.heap.size 142 G (.agg #[.int .i64 0, .int .i64 0]) 2 16 Tryz.underlying138 J O N M rfl (by decide) _ _ _ rfl X ⟨w.heap.size + 1, 0, none⟩ 1 1 [.int .i64 2, .int .i64 1] rfl rfl (by have := ci0 (w.alloc (.cells #[.int .i64 0, .int .i64 0, .int .i64 4, .int .i64 0, .int .i64 4, .int .i64 4, .int .i64 0, .int .i64 4] 142)) (.int .i64 2) (.int .i64 1) 142; simpa using this) (by intro u Q; simp at Q; rcases Q with rfl | rfl <;> rfl) (by decide) (by omega) (by simp; omega) ?_
               intro v2 K Y Z _;obtain ⟨B, c2, rfl⟩ := oRs Y;have V : Below w.heap.size w K := (((Below.refl _ _).alloc (Nat.le_refl _) _).alloc (by simp) _).grown Z (by simp; omega) (fun j hj => by have := (X.lt j hj).1; omega);clear Z)
  go_ret2;have R := V.size;exact ⟨_, rfl, ⟨_, _, rfl, (RdC.of_owns Y).alloc _, RdC.fresh 3 _ _ _ 4 rfl (by omega) _ rfl _ (by simp)⟩, V.alloc R _⟩
 ·go_enter Tryz.func73, Tryz.ntmps73
  go_wp2_with fail;go_ret2;exact ⟨_, rfl, ⟨_, _, rfl, (RdC.fresh 2 _ _ _ 3 rfl (by omega) _ rfl _ (by simp)).alloc _, RdC.fresh 3 _ _ _ 1 rfl (by omega) _ rfl _ (by simp)⟩, (((Below.refl _ _).alloc (Nat.le_refl _) _).alloc (by simp) _).alloc (by simp; omega) _⟩
 ·go_enter Tryz.func73, Tryz.ntmps73
  go_wp2_with fail;go_ret2;exact ⟨_, rfl, ⟨_, _, rfl, (RdC.fresh 2 _ _ _ 6 rfl (by omega) _ rfl _ (by simp)).alloc _, RdC.fresh 3 _ _ _ 4 rfl (by omega) _ rfl _ (by simp)⟩, (((Below.refl _ _).alloc (Nat.le_refl _) _).alloc (by simp) _).alloc (by simp; omega) _⟩
 ·go_enter Tryz.func73, Tryz.ntmps73
  go_wp2_with fail;go_ret2;exact ⟨_, rfl, ⟨_, _, rfl, (RdC.fresh 2 _ _ _ 4 rfl (by omega) _ rfl _ (by simp)).alloc _, RdC.fresh 3 _ _ _ 2 rfl (by omega) _ rfl _ (by simp)⟩, (((Below.refl _ _).alloc (Nat.le_refl _) _).alloc (by simp) _).alloc (by simp; omega) _⟩
 ·go_enter Tryz.func73, Tryz.ntmps73
  have X : ((w.alloc (.cells #[.int .i64 0, .int .i64 0, .int .i64 4, .int .i64 0, .int .i64 4, .int .i64 4, .int .i64 0, .int .i64 4] 142)).alloc (.cells #[.int .i64 2, .int .i64 0] 142)).ownsRow w.heap.size 142 2 (.slice (some ⟨w.heap.size, 0, none⟩) 4 4) 4 [.int .i64 0, .int .i64 0, .int .i64 4, .int .i64 0, .int .i64 4, .int .i64 4, .int .i64 0, .int .i64 4] := (World.ownsRow_lit w _ 4 (Nat.le_refl _) (by decide) rfl).alloc _
  go_wp2_with (at_builtin; refine wpList_append_own _ rfl _ _ 138 rfl w.heap.size 142 G (.agg #[.int .i64 0, .int .i64 0]) 2 16 Tryz.underlying138 J O N M rfl (by decide) _ _ _ rfl X ⟨w.heap.size + 1, 0, none⟩ 1 1 [.int .i64 2, .int .i64 0] rfl rfl (by have := ci0 (w.alloc (.cells #[.int .i64 0, .int .i64 0, .int .i64 4, .int .i64 0, .int .i64 4, .int .i64 4, .int .i64 0, .int .i64 4] 142)) (.int .i64 2) (.int .i64 0) 142; simpa using this) (by intro u Q; simp at Q; rcases Q with rfl | rfl <;> rfl) (by decide) (by omega) (by simp; omega) ?_
               intro v2 K Y Z _;obtain ⟨B, c2, rfl⟩ := oRs Y;have V : Below w.heap.size w K := (((Below.refl _ _).alloc (Nat.le_refl _) _).alloc (by simp) _).grown Z (by simp; omega) (fun j hj => by have := (X.lt j hj).1; omega);clear Z)
  go_ret2;have R := V.size;exact ⟨_, rfl, ⟨_, _, rfl, (RdC.of_owns Y).alloc _, RdC.fresh 3 _ _ _ 3 rfl (by omega) _ rfl _ (by simp)⟩, V.alloc R _⟩
 ·go_enter Tryz.func73, Tryz.ntmps73
  go_wp2_with fail;go_ret2;exact ⟨_, rfl, ⟨_, _, rfl, (RdC.fresh 2 _ _ _ 4 rfl (by omega) _ rfl _ (by simp)).alloc _, RdC.fresh 3 _ _ _ 3 rfl (by omega) _ rfl _ (by simp)⟩, (((Below.refl _ _).alloc (Nat.le_refl _) _).alloc (by simp) _).alloc (by simp; omega) _⟩
theorem RdQ.fresh (w : World) (xs : List Rat) (X : Nat) (cs : Array Value) (Z : cs.toList = xs.map fun x => Value.string (RS x)) (V : xs.length <= 1000) (n : Nat) (U : n = xs.length) (g : Nat) (Y : g = w.heap.size) :
 RdQ (w.alloc (Obj.cells cs X)) (.slice (some ⟨g, 0, none⟩) n n) xs := by
 subst U;exact RdC.fresh 1 w cs X _ (by rw [<- Array.length_toList, Z, List.length_map]; omega) V _ Z g Y
theorem dcl (X : World) (p : Addr) : X.drew.cell? p = X.cell? p := rfl
theorem cf6 (X : World) (b : Nat) (v0 v1 v2 Z Y V : Value) (p : Addr) (h : b ≠ p.block) :
 ((((((X.setCell ⟨b, 0, none⟩ v0).setCell ⟨b, 1, none⟩ v1).setCell ⟨b, 2, none⟩ v2).setCell ⟨b, 3, none⟩ Z).setCell ⟨b, 4, none⟩ Y).setCell ⟨b, 5, none⟩ V).drew.cell? p = X.cell? p := by
 rw [dcl, World.cell?_setCell_far _ _ _ _ h, World.cell?_setCell_far _ _ _ _ h, World.cell?_setCell_far _ _ _ _ h, World.cell?_setCell_far _ _ _ _ h, World.cell?_setCell_far _ _ _ _ h, World.cell?_setCell_far _ _ _ _ h]
theorem me0 (w : World) (vp vt : Value) (P : List PtQ) (T : List Tri) (k : Nat) (hp : RdP w vp (strP P)) (ht : RdT w vt T) (hm : MeshIn P T k) (t : Nat) (tz : Int) (hk : tz = (t : Int)) (h0 : t < T.length) (G : Tri) (o : G = T[t]) :
 Calls Tryz.prog 151 #[.agg #[vp, vt], .int .i64 tz] w (Ret (fun r _ => r = .agg #[.string (RS (ptI P G.1).1), .string (RS (ptI P G.1).2), .string (RS (ptI P G.2.1).1), .string (RS (ptI P G.2.1).2), .string (RS (ptI P G.2.2).1), .string (RS (ptI P G.2.2).2)]) w) := by
 obtain ⟨pp, s, rfl, hj, hn, a⟩ := hp.open;obtain ⟨pt, ct, rfl, ho, hq, D⟩ := ht.open;rw [sPl] at hj ⊢;obtain ⟨bt, ot, rfl, hl, Q⟩ := D (List.ne_nil_of_length_pos (by omega));obtain ⟨e0, e1, e2⟩ := Q t h0;have U := hm.idx G (by rw [o]; exact List.getElem_mem h0);rw [<- o] at e0 e1 e2;obtain ⟨n, m, l⟩ := G;dsimp only at U e0 e1 e2 ⊢;obtain ⟨ha, hb⟩ := U n (by simp [idxOf]);obtain ⟨hc, hd⟩ := U m (by simp [idxOf]);obtain ⟨he, hf⟩ := U l (by simp [idxOf]);obtain ⟨Y, rfl⟩ : ∃ q : Nat, n = (q : Int) := ⟨n.toNat, by omega⟩;obtain ⟨X, rfl⟩ : ∃ q : Nat, m = (q : Int) := ⟨m.toNat, by omega⟩;obtain ⟨V, rfl⟩ : ∃ q : Nat, l = (q : Int) := ⟨l.toNat, by omega⟩;have i : Y < P.length := by omega
 have g : X < P.length := by omega
 have f : V < P.length := by omega
 obtain ⟨Z, op, rfl, N, R⟩ := a (by intro e; have h := sPl P; rw [e] at h; simp at h; omega);rw [pIn P Y i, pIn P X g, pIn P V f];obtain ⟨M, L⟩ := R Y (by rw [sPl]; exact i);obtain ⟨K, J⟩ := R X (by rw [sPl]; exact g);obtain ⟨I, H⟩ := R V (by rw [sPl]; exact f);rw [sPg P Y i] at M L;rw [sPg P X g] at K J;rw [sPg P V f] at I H;dsimp only at M L K J I H;have f0 : (Y : Int) < (P.length : Int) := by omega
 have f1 : (X : Int) < (P.length : Int) := by omega
 have f2 : (V : Int) < (P.length : Int) := by omega
 have ft : (t : Int) < (T.length : Int) := by omega
 generalize RS P[Y].1 = x0s at *;generalize RS P[Y].2 = y0s at *;generalize RS P[X].1 = x1s at *;generalize RS P[X].2 = y1s at *;generalize RS P[V].1 = x2s at *;generalize RS P[V].2 = y2s at *;subst hk;clear o U a D Q R hp ht hm ha hb hc hd he hf i g f;have i0 := iT0;have i1 := iT1;have i2 := iT2;go_enter Tryz.func151, Tryz.ntmps151;go_wp2_with fail;obtain ⟨W, d⟩ := zex (((w.alloc (.cells #[.slice (some ⟨Z, op, none⟩) P.length s, .slice (some ⟨bt, ot, none⟩) T.length ct] 41)).alloc (.cells #[.string ⟨#[]⟩, .string ⟨#[]⟩, .string ⟨#[]⟩, .string ⟨#[]⟩, .string ⟨#[]⟩, .string ⟨#[]⟩] 225)).alloc (.cells #[.int .i64 Y, .int .i64 X, .int .i64 V] 70));have E : Below w.heap.size w W := by rw [d]; exact (((Below.refl _ _).alloc (Nat.le_refl _) _).alloc (by simp) _).alloc (by simp; omega) _
 have b : BoxN W (w.heap.size + 1 + 1) 70 [.int .i64 Y, .int .i64 X, .int .i64 V] := by rw [d]; exact BoxN.new _ _ _ _ (by simp)
 have O : BoxN W (w.heap.size + 1) 225 [.string ⟨#[]⟩, .string ⟨#[]⟩, .string ⟨#[]⟩, .string ⟨#[]⟩, .string ⟨#[]⟩, .string ⟨#[]⟩] := by
  rw [d];have S := (BoxN.new (w.alloc (.cells #[.slice (some ⟨Z, op, none⟩) P.length s, .slice (some ⟨bt, ot, none⟩) T.length ct] 41)) #[.string ⟨#[]⟩, .string ⟨#[]⟩, .string ⟨#[]⟩, .string ⟨#[]⟩, .string ⟨#[]⟩, .string ⟨#[]⟩] 225 (w.heap.size + 1) (by simp));exact S.below (zal _ _) S.lt
 have b2 : BoxN W w.heap.size 41 [.slice (some ⟨Z, op, none⟩) P.length s, .slice (some ⟨bt, ot, none⟩) T.length ct] := by
  rw [d];have S := (BoxN.new w #[.slice (some ⟨Z, op, none⟩) P.length s, .slice (some ⟨bt, ot, none⟩) T.length ct] 41 _ rfl);exact S.below (((Below.refl _ _).alloc (Nat.le_refl _) _).alloc (by simp) _) S.lt
 rw [<- d];clear d;have x0 := b2.cell 0 rfl;have t0 := b.cell 0 rfl;have t1 := b.cell 1 rfl;have t2 := b.cell 2 rfl;have C := zcq E N M;have B := zcq E N L;have A := zcq E N K;have z := zcq E N J;have y := zcq E N I;have x := zcq E N H;have r0 := O.cell 0 rfl;have r1 := O.cell 1 rfl;have r2 := O.cell 2 rfl;have r3 := O.cell 3 rfl;have r4 := O.cell 4 rfl;have r5 := O.cell 5 rfl;have hr := O.frozen 0;have hs := O.frozen 1;have hu := O.frozen 2;have hv := O.frozen 3;have hw := O.frozen 4;have hx := O.frozen 5;have hz := b.lt;have n2 : w.heap.size + 1 ≠ w.heap.size := by omega
 have n5 : w.heap.size + 1 ≠ w.heap.size + 1 + 1 := by omega
 have c : w.heap.size + 1 ≠ Z := by omega
 have HS : Hid (W.drew.cell? ⟨w.heap.size, 0, none⟩ = some (.slice (some ⟨Z, op, none⟩) P.length s) /\ W.drew.cell? ⟨w.heap.size + 1 + 1, 0, none⟩ = some (.int .i64 Y) /\ W.drew.cell? ⟨w.heap.size + 1 + 1, 1, none⟩ = some (.int .i64 X) /\ W.drew.cell? ⟨w.heap.size + 1 + 1, 2, none⟩ = some (.int .i64 V) /\ W.drew.cell? ⟨Z, op + Y * 2, none⟩ = some (.string x0s) /\ W.drew.cell? ⟨Z, op + Y * 2 + 1, none⟩ = some (.string y0s) /\ W.drew.cell? ⟨Z, op + X * 2, none⟩ = some (.string x1s) /\ W.drew.cell? ⟨Z, op + X * 2 + 1, none⟩ = some (.string y1s) /\ W.drew.cell? ⟨Z, op + V * 2, none⟩ = some (.string x2s) /\ W.drew.cell? ⟨Z, op + V * 2 + 1, none⟩ = some (.string y2s)) := ⟨x0, t0, t1, t2, C, B, A, z, y, x⟩;have HT : Hid (W.cell? ⟨w.heap.size, 0, none⟩ = some (.slice (some ⟨Z, op, none⟩) P.length s) /\ W.cell? ⟨w.heap.size + 1 + 1, 0, none⟩ = some (.int .i64 Y) /\ W.cell? ⟨w.heap.size + 1 + 1, 1, none⟩ = some (.int .i64 X) /\ W.cell? ⟨w.heap.size + 1 + 1, 2, none⟩ = some (.int .i64 V) /\ W.cell? ⟨Z, op + Y * 2, none⟩ = some (.string x0s) /\ W.cell? ⟨Z, op + Y * 2 + 1, none⟩ = some (.string y0s) /\ W.cell? ⟨Z, op + X * 2, none⟩ = some (.string x1s) /\ W.cell? ⟨Z, op + X * 2 + 1, none⟩ = some (.string y1s) /\ W.cell? ⟨Z, op + V * 2, none⟩ = some (.string x2s) /\ W.cell? ⟨Z, op + V * 2 + 1, none⟩ = some (.string y2s)) := ⟨x0, t0, t1, t2, C, B, A, z, y, x⟩;clear M L K J I H e0 e1 e2;have hi := hid E;clear x0 t0 t1 t2 C B A z y x b2 b E;go_region_held3 (fun w' => w'.cell? ⟨w.heap.size, 0, none⟩ = some (.slice (some ⟨Z, op, none⟩) P.length s) /\ w'.cell? ⟨w.heap.size + 1 + 1, 0, none⟩ = some (.int .i64 Y) /\ w'.cell? ⟨w.heap.size + 1 + 1, 1, none⟩ = some (.int .i64 X) /\ w'.cell? ⟨w.heap.size + 1 + 1, 2, none⟩ = some (.int .i64 V) /\ w'.cell? ⟨Z, op + Y * 2, none⟩ = some (.string x0s) /\ w'.cell? ⟨Z, op + Y * 2 + 1, none⟩ = some (.string y0s) /\ w'.cell? ⟨Z, op + X * 2, none⟩ = some (.string x1s) /\ w'.cell? ⟨Z, op + X * 2 + 1, none⟩ = some (.string y1s) /\ w'.cell? ⟨Z, op + V * 2, none⟩ = some (.string x2s) /\ w'.cell? ⟨Z, op + V * 2 + 1, none⟩ = some (.string y2s))
  (first | with_reducible exact HS.out | (obtain ⟨S, h2, h3, h4, h5, h6, h7, h8, h9, hg⟩ := HT.out; with_reducible exact ⟨(cf6 _ _ _ _ _ _ _ _ _ n2).trans S, (cf6 _ _ _ _ _ _ _ _ _ n5).trans h2, (cf6 _ _ _ _ _ _ _ _ _ n5).trans h3, (cf6 _ _ _ _ _ _ _ _ _ n5).trans h4, (cf6 _ _ _ _ _ _ _ _ _ c).trans h5, (cf6 _ _ _ _ _ _ _ _ _ c).trans h6, (cf6 _ _ _ _ _ _ _ _ _ c).trans h7, (cf6 _ _ _ _ _ _ _ _ _ c).trans h8, (cf6 _ _ _ _ _ _ _ _ _ c).trans h9, (cf6 _ _ _ _ _ _ _ _ _ c).trans hg⟩))
  (fail)
 all_goals
  go_wp2_with fail;have j := (((((O.set 0 (.string x0s)).set 1 (.string y0s)).set 2 (.string x1s)).set 3 (.string y1s)).set 4 (.string x2s)).set 5 (.string y2s);have i := j.cell 0 rfl;have g := j.cell 1 rfl;have f := j.cell 2 rfl;have g3 := j.cell 3 rfl;have g4 := j.cell 4 rfl;have g5 := j.cell 5 rfl;have hh : Below w.heap.size w (((((((W.setCell ⟨w.heap.size + 1, 0, none⟩ (.string x0s)).setCell ⟨w.heap.size + 1, 1, none⟩ (.string y0s)).setCell ⟨w.heap.size + 1, 2, none⟩ (.string x1s)).setCell ⟨w.heap.size + 1, 3, none⟩ (.string y1s)).setCell ⟨w.heap.size + 1, 4, none⟩ (.string x2s)).setCell ⟨w.heap.size + 1, 5, none⟩ (.string y2s)).drew) := by
   have S : w.heap.size <= w.heap.size + 1 := by omega
   have := (((((hi.out.setCell (p := ⟨w.heap.size + 1, 0, none⟩) S (.string x0s)).setCell (p := ⟨w.heap.size + 1, 1, none⟩) S (.string y0s)).setCell (p := ⟨w.heap.size + 1, 2, none⟩) S (.string x1s)).setCell (p := ⟨w.heap.size + 1, 3, none⟩) S (.string y1s)).setCell (p := ⟨w.heap.size + 1, 4, none⟩) S (.string x2s)).setCell (p := ⟨w.heap.size + 1, 5, none⟩) S (.string y2s);exact this.trans ((bdN _ 1).mono this.size)
  exact bodyPost_ret (v := .agg #[.string x0s, .string y0s, .string x1s, .string y1s, .string x2s, .string y2s]) (by simp [results, Tryz.results151, go_sem, i, g, f, g3, g4, g5]) rfl ⟨_, rfl, rfl, hh⟩
def iBB (a b c p : PtQ) : Bool := decide (0 <= turnZ a b p) && decide (0 <= turnZ b c p) && decide (0 <= turnZ c a p)
theorem ig0 (a b c p : PtQ) (k : Nat) (C : 0 < k) (Q : k <= 2000) (G : SzP k a) (E : SzP k b) (D : SzP k c) (J : SzP k p) (w : World) (S : Good w) :
 Calls Tryz.prog 186 #[.agg #[.string (RS a.1), .string (RS a.2), .string (RS b.1), .string (RS b.2), .string (RS c.1), .string (RS c.2)], .agg #[.string (RS p.1), .string (RS p.2)]] w (Ret (fun r _ => r = .bool (iBB a b c p)) w) := by
 have x := hid fun w S => tb0 a b p k C Q G E J w S;have v := hid fun w S => tb0 b c p k C Q E D J w S;have t := hid fun w S => tb0 c a p k C Q D G J w S;unfold iBB;unfold VP at x v t;generalize turnZ a b p = z1 at *;generalize turnZ b c p = z2 at *;generalize turnZ c a p = z3 at *;generalize RS a.1 = ax at *;generalize RS a.2 = ay at *;generalize RS b.1 = bx at *;generalize RS b.2 = by' at *;generalize RS c.1 = cx at *;generalize RS c.2 = cy at *;generalize RS p.1 = px at *;generalize RS p.2 = py at *;clear G E D J;go_enter Tryz.func186, Tryz.ntmps186;go_wp2_with fail;obtain ⟨W, L⟩ := zex ((w.alloc (.cells #[.string ax, .string ay, .string bx, .string by', .string cx, .string cy] 225)).alloc (.cells #[.string px, .string py] 73));have H : Below w.heap.size w W := by rw [L]; exact zal2 _ _ _
 have q : BoxN W (w.heap.size + 1) 73 [.string px, .string py] := by rw [L]; exact BoxN.new _ _ _ _ (by simp)
 have s : BoxN W w.heap.size 225 [.string ax, .string ay, .string bx, .string by', .string cx, .string cy] := by
  rw [L];have N := (BoxN.new w #[.string ax, .string ay, .string bx, .string by', .string cx, .string cy] 225 _ rfl);exact N.below (zal _ _) N.lt
 rw [<- L];clear L;refine zR (x.out W (S.below H)) fun w1 hb1 => ?_;have V := zbt H hb1;have Z := s.bl hb1;have X := q.bl hb1;clear hb1 H s q;rcases Int.lt_or_le z1 0 with N | N
 ·have O : decide (0 <= z1) = false := decide_eq_false (by omega)
  go_wp2_with fail;go_ret;exact ⟨_, rfl, by rw [O]; rfl, V⟩
 have x0 := Z.cell 0 rfl;have x1 := Z.cell 1 rfl;have x2 := Z.cell 2 rfl;have m := Z.cell 3 rfl;have B := Z.cell 4 rfl;have A := Z.cell 5 rfl;have z := X.cell 0 rfl;have y := X.cell 1 rfl;go_wp2_with fail;refine zR (v.out w1 (S.below V)) fun w2 hb2 => ?_;have U := zbt V hb2;have Y := Z.bl hb2;have R := X.bl hb2;have O : decide (0 <= z1) = true := decide_eq_true N;clear hb2 V Z X x0 x1 x2 m B A z y;rcases Int.lt_or_le z2 0 with o | o
 ·have K : decide (0 <= z2) = false := decide_eq_false (by omega)
  go_wp2_with fail;go_ret;exact ⟨_, rfl, by rw [O, K]; rfl, U⟩
 have x0 := Y.cell 0 rfl;have x1 := Y.cell 1 rfl;have B := Y.cell 4 rfl;have A := Y.cell 5 rfl;have z := R.cell 0 rfl;have y := R.cell 1 rfl;go_wp2_with fail;refine zR (t.out w2 (S.below U)) fun w3 hb3 => ?_;have M := zbt U hb3;have K : decide (0 <= z2) = true := decide_eq_true o;clear hb3 U Y R x0 x1 B A z y;rcases Int.lt_or_le z3 0 with n | n
 ·have I : decide (0 <= z3) = false := decide_eq_false (by omega)
  go_wp2_with fail;go_ret;exact ⟨_, rfl, by rw [O, K, I]; rfl, M⟩
 ·have I : decide (0 <= z3) = true := decide_eq_true n
  go_wp2_with fail;go_ret;exact ⟨_, rfl, by rw [O, K, I]; rfl, M⟩
def iTT (P : List PtQ) (T : List Tri) (p : PtQ) (i : Nat) : Bool :=
 match T[i]? with
 | some tr => iBB (ptI P tr.1) (ptI P tr.2.1) (ptI P tr.2.2) p
 | none => false
def locN (P : List PtQ) (T : List Tri) (p : PtQ) (n : Nat) : List Int := ((List.range n).filter (iTT P T p)).map fun i : Nat => (i : Int)
theorem lNs (P : List PtQ) (T : List Tri) (p : PtQ) (n : Nat) : locN P T p (n + 1) = locN P T p n ++ (if iTT P T p n then [(n : Int)] else []) := by
 unfold locN;rw [List.range_succ, List.filter_append, List.map_append];congr 1;cases h : iTT P T p n <;> simp [h]
theorem lok (w : World) (t s : Value) (P : List PtQ) (T : List Tri) (k : Nat) (hp : RdP w t (strP P)) (ht : RdT w s T) (H : MeshOK P T k) (p : PtQ) (M : SzP 200 p) (hg : Good w) :
 Calls Tryz.prog 154 #[.agg #[t, s], .agg #[.string (RS p.1), .string (RS p.2)]] w (Ret (fun r w' => ∃ v, r = .tuple #[v, .int .i64 0] /\ RdI .i64 w' v (locN P T p T.length)) w) := by
 have ha := hid (M.right (Nat.le_refl _));have hC := M.1.size (by omega);have hD := M.2.size (by omega);have h8 : Hid (∀ w', Below w.heap.size w w' -> Good w' -> Calls Tryz.prog 61 #[.agg #[t, s]] w' (Ret (fun r _ => r = .int .i64 0) w')) := fun w' hb hg' => ca0 w' t s P T k (RdC.below hp hb) (RdC.below ht hb) H hg';have h9 : Hid (∀ (i : Nat) (h : i < T.length) (w' : World), Below w.heap.size w w' -> Calls Tryz.prog 151 #[.agg #[t, s], .int .i64 (i : Int)] w' (Ret (fun r _ => r = .agg #[.string (RS (ptI P T[i].1).1), .string (RS (ptI P T[i].1).2), .string (RS (ptI P T[i].2.1).1), .string (RS (ptI P T[i].2.1).2), .string (RS (ptI P T[i].2.2).1), .string (RS (ptI P T[i].2.2).2)]) w')) :=
  fun i h w' hb => me0 w' t s P T k (RdC.below hp hb) (RdC.below ht hb) H.toMeshIn i i rfl h T[i] rfl
 have hf : Hid (∀ (i : Nat) (h : i < T.length), SzP 200 (ptI P T[i].1) /\ SzP 200 (ptI P T[i].2.1) /\ SzP 200 (ptI P T[i].2.2)) := fun i h => by
  have b := H.idx T[i] (List.getElem_mem h);have key : ∀ z ∈ idxOf T[i], SzP 200 (ptI P z) := fun z hz => by
   obtain ⟨h0, n⟩ := b z hz;obtain ⟨q, rfl⟩ : ∃ q : Nat, z = (q : Int) := ⟨z.toNat, by omega⟩;rw [pIn P q (by omega)];have := H.sz _ (List.getElem_mem (show q < P.length by omega));exact ⟨this.1.mono H.klim2, this.2.mono H.klim2⟩
  exact ⟨key _ (by simp [idxOf]), key _ (by simp [idxOf]), key _ (by simp [idxOf])⟩
 have a := hp;have h4 := ht;obtain ⟨pp, cp, rfl, -, -, -⟩ := a.open;obtain ⟨pt, ct, rfl, -, -, -⟩ := h4.open;have hy : T.length <= 800 := H.tlen;have he := hid M;obtain ⟨i0, hi, h5, h6, h7⟩ := info_parts info_i64;generalize h2 : RS p.1 = px at *;generalize h3 : RS p.2 = py at *;have hc := hid h2;have hd := hid h3;rw [sPl] at *;clear hp ht H a h4 M h2 h3;go_enter Tryz.func154, Tryz.ntmps154;go_wp2_with fail;obtain ⟨W, g⟩ := zex ((w.alloc (.cells #[.slice pp P.length cp, .slice pt T.length ct] 41)).alloc (.cells #[.string px, .string py] 73));have hB : Below w.heap.size w W := by rw [g]; exact zal2 _ _ _
 have e3 : BoxN W (w.heap.size + 1) 73 [.string px, .string py] := by rw [g]; exact BoxN.new _ _ _ _ (by simp)
 have e2 : BoxN W w.heap.size 41 [.slice pp P.length cp, .slice pt T.length ct] := by
  rw [g];have n := (BoxN.new w #[.slice pp P.length cp, .slice pt T.length ct] 41 _ rfl);exact n.below (zal _ _) n.lt
 rw [<- g];clear g;refine zR (h8.out W hB (hg.below hB)) fun w1 hb1 => ?_;have C := zbt hB hb1;have o := e2.bl hb1;have J := e3.bl hb1;have y0 := J.cell 0 rfl;have y1 := J.cell 1 rfl;clear hb1 hB e2 e3;go_wp2_with fail;refine (cPa px py (by omega) (by omega) w1 (hg.below C)).mono ?_;rw [ha.out];rintro e G ⟨_, rfl, rfl, I⟩;have l := zbt C I;have R := o.bl I;have O := J.bl I;have hE := O.lt;have x1 := R.cell 1 rfl;clear I C o J y0 y1;go_wp2_with fail;go_loopw [7, 20] (fun t7 t20 wr => ∃ (i m : Nat), t20 = .int .i64 i /\ i <= T.length /\ m <= i /\ Hid ((locN P T p i).length = m) /\ wr.ownsRow G.heap.size 3 1 t7 m ((locN P T p i).map fun x => Value.int .i64 x) /\ Below G.heap.size G wr) (fun _ t20 _ => T.length - (RowKit.intOf t20).toNat)
 case atStart => exact ⟨0, 0, rfl, Nat.zero_le _, Nat.le_refl _, rfl, World.ownsRow_nil _ _ _ _, Below.refl _ _⟩
 case round =>
  obtain ⟨i, m, rfl, hw, hx, HL, S, Z⟩ := hrel;obtain ⟨p7, c7, rfl⟩ := oRs S;have hl := Z.size;rcases Nat.lt_or_ge i T.length with h | h
  ·have K := hid (lNs P T p i)
   have L : Hid (iTT P T p i = iBB (ptI P T[i].1) (ptI P T[i].2.1) (ptI P T[i].2.2) p) := by unfold Hid iTT; rw [List.getElem?_eq_getElem h]
   obtain ⟨s1, s2, s3⟩ := hf.out i h;have Q : Below w.heap.size w wr := zbt l Z;have f : Below w.heap.size w wr.drew := Q.trans ((bdN wr 1).mono Q.size);have HC : Hid (∀ w', Below w.heap.size w w' -> _) := fun w' hb => h9.out i h w' hb;have HI : Hid (∀ w', Good w' -> _) := fun w' hg' => ig0 (ptI P T[i].1) (ptI P T[i].2.1) (ptI P T[i].2.2) p 200 (by omega) (by omega) s1 s2 s3 he.out w' hg'
   rw [hc.out, hd.out] at HI;generalize iBB (ptI P T[i].1) (ptI P T[i].2.1) (ptI P T[i].2.2) p = bi at *;generalize RS (ptI P T[i].1).1 = q1 at *;generalize RS (ptI P T[i].1).2 = q2 at *;generalize RS (ptI P T[i].2.1).1 = q3 at *;generalize RS (ptI P T[i].2.1).2 = q4 at *;generalize RS (ptI P T[i].2.2).1 = q5 at *;generalize RS (ptI P T[i].2.2).2 = q6 at *;have a0 := (Z.cell (p := ⟨w.heap.size, 0, none⟩) R.lt).trans (R.cell 0 rfl);have a1 := (Z.cell (p := ⟨w.heap.size, 1, none⟩) R.lt).trans (R.cell 1 rfl);have b0 := (Z.cell (p := ⟨w.heap.size + 1, 0, none⟩) O.lt).trans (O.cell 0 rfl);have b1 := (Z.cell (p := ⟨w.heap.size + 1, 1, none⟩) O.lt).trans (O.cell 1 rfl);have hs := R.lt;have hv : (i : Int) < (T.length : Int) := by omega
   have c : Good wr.drew := (hg.below Q).drewN 1;clear s1 s2 s3 x1;go_upto_region 10 with fail;go_region_held3 (fun w' => w'.cell? ⟨w.heap.size, 0, none⟩ = some (.slice pp P.length cp) /\ w'.cell? ⟨w.heap.size, 1, none⟩ = some (.slice pt T.length ct) /\ w'.cell? ⟨w.heap.size + 1, 0, none⟩ = some (.string px) /\ w'.cell? ⟨w.heap.size + 1, 1, none⟩ = some (.string py))
    (first | exact ⟨a0, a1, b0, b1⟩ | exact ⟨p_1_0, p_1_1, p_1_2, p_1_3⟩ | exact ⟨p_2_0, p_2_1, p_2_2, p_2_3⟩)
    (first
    | (go_at_call 186; refine (HI.out _ A).mono ?_; rintro e y ⟨_, rfl, rfl, V⟩
       have p_2_0 := zct V p_1_0;have p_2_1 := zct V p_1_1;have p_2_2 := zct V p_1_2;have p_2_3 := zct V p_1_3;have hq := V.size;have hn := A.below V)
    | (go_at_call 151; refine (HC.out _ f).mono ?_; rintro e hr ⟨_, rfl, rfl, X⟩
       have p_1_0 := zct X a0;have p_1_1 := zct X a1;have p_1_2 := zct X b0;have p_1_3 := zct X b1;have ho : wr.heap.size <= hr.heap.size := X.size;have A := c.below X))
   have pB : Below wr.heap.size wr y := zbt (zbt (bdN wr 1) X) V;have U := WRA S pB;have N : Below G.heap.size G y := Z.trans (pB.mono hl);have hk := N.size;have hA := pB.size;clear pB X V ho hq A hn p_1_0 p_1_1 p_1_2 p_1_3 p_2_0 p_2_1 p_2_2 p_2_3 a0 a1 b0 b1 S Z c f Q;cases bi
   ·have D : Hid ((locN P T p (i + 1)).length = m) := by unfold Hid; rw [K.out, L.out]; simpa using HL.out
    have E : Hid (locN P T p (i + 1) = locN P T p i) := by unfold Hid; rw [K.out, L.out]; simp
    go_wp2_with fail;go_roundw
    case rel => exact ⟨i + 1, m, by go_num, h, by omega, D, by rw [E.out]; exact U, N⟩
    case measure => simp [RowKit.intOf]; omega
   ·have D : Hid ((locN P T p (i + 1)).length = m + 1) := by unfold Hid; rw [K.out, L.out]; simpa using HL.out
    have E : Hid (locN P T p (i + 1) = locN P T p i ++ [(i : Int)]) := by unfold Hid; rw [K.out, L.out]; simp
    go_wp2_with (at_builtin; refine wpList_append_own _ rfl _ _ 66 rfl G.heap.size 3 i0 (.int .i64 0) 1 8 Tryz.underlying66 hi h5 h6 h7 rfl (by decide) _ _ _ rfl (U.alloc _) ⟨y.heap.size, 0, none⟩ 1 1 [.int .i64 i] rfl rfl (coi _ _ _) (oci _) (by unfold maxLen; omega) (by omega) (by simp; omega) ?_
                 intro v3 w3 B Y _;have hu := Y.size;have d : Below G.heap.size G w3 := (N.alloc hk _).grown Y (by simp; omega) (fun j hj => by have := (U.lt j hj).1; omega);clear Y)
    go_roundw
    case rel => exact ⟨i + 1, m + 1, by go_num, h, by omega, D, by rw [E.out, List.map_append]; exact B, d⟩
    case measure => simp [RowKit.intOf]; omega
  ·obtain rfl : i = T.length := by omega
   have Q : Below w.heap.size w wr := zbt l Z;have hh : RdI .i64 wr (.slice p7 m c7) (locN P T p T.length) := by
    have n : RdC 1 wr (.slice p7 m c7) m ((locN P T p T.length).map fun x => Value.int .i64 x) := RdC.of_owns S;unfold RdI;rw [HL.out];exact n
   go_wp2_with fail;go_ret2;exact ⟨_, rfl, ⟨_, rfl, hh⟩, Q⟩
end Go.Proofs.YtmcbeajdloaliaaGreatDoor
