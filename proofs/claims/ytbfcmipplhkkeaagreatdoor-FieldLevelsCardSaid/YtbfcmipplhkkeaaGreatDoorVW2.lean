import Derived.Test.YtbfcmipplhkkeaaGreatDoorVG5
import Derived.LoopN
import Derived.RegionTactic
import Derived.ChangeAlike
/- Field Thickness The walks over mesh.corners, mesh.inside. The walk over mesh.Locate. -/
set_option maxHeartbeats 4000000
set_option maxRecDepth 100000
namespace Go.Proofs.YtbfcmipplhkkeaaGreatDoor
open Go.RowKit Go.Lib
def errF (n : Nat) (l : List ByteArray) : Int := if l.length = n then eNm (allQ l) else 5
theorem eFs {n : Nat} {l : List ByteArray} (h : l.length ≠ n) : errF n l = 5 := by unfold errF; rw [if_neg h]
theorem eFn {n : Nat} {l : List ByteArray} (h : l.length = n) : errF n l = eNm (allQ l) := by unfold errF; rw [if_pos h]
theorem cx0 (w : World) (vp vt vf : Value) (P : List PtQ) (T : List Tri) (k : Nat) (l : List ByteArray) (p : RdP w vp (strP P)) (ht : RdT w vt T) (c : MeshOK P T k) (hf : RdS w vf l) (hl : ∀ s ∈ l, s.size < 1000000000) (h7 : l.length <= 1000000) (b : Nat)
 (m : w.cell? ⟨b, 0, none⟩ = some vf) (f : Good w) :
 Calls Tryz.prog 36 #[.agg #[vp, vt], .slice (some ⟨b, 0, none⟩) 1 1] w (Ret (fun r _ => r = .int .i64 (errF P.length l)) w) := by
 have z := p;have y := ht;have C := hf;obtain ⟨pp, cp, rfl, a, h9, _⟩ := z.open;obtain ⟨pt, ct, rfl, ha, hd, _⟩ := y.open;obtain ⟨pf, cf, rfl, h4, h5, B⟩ := C.open;rw [sPl] at p a ⊢;have HP := hid p;have HT := hid ht;have HM := hid c;have HL := hid hl;have HR := hid B;have h8 := c.plen;have D := World.block_lt_of_cell? w _ m;dsimp only at D;clear p ht hf z y C c hl B;go_enter Tryz.func36, Tryz.ntmps36;go_wp2_with fail;obtain ⟨J, V⟩ := zex (w.alloc (.cells #[.slice pp P.length cp, .slice pt T.length ct] 35));have X : Below w.heap.size w J := by rw [V]; exact zal _ _
 have he : w.heap.size + 1 <= J.heap.size := by rw [V]; simp
 have y0 : J.cell? ⟨w.heap.size, 0, none⟩ = some (.slice pp P.length cp) := by rw [V, World.cell?_alloc_at _ _ _ _ rfl]; rfl
 rw [<- V];clear V;refine (ci0 J _ _ P T k (RdC.below HP.out X) (RdC.below HT.out X) HM.out (f.below X)).mono ?_;rintro e t ⟨_, rfl, rfl, N⟩;have O : Below w.heap.size w t := zbt X N;have h6 := f.below O;have z0 := zcq N (by show w.heap.size < J.heap.size; omega) y0;have x0 := zcq O D m;clear y0 m N X;go_wp2_with fail;go_loopw [18] (fun t18 wr => ∃ j : Nat, j <= 1 /\ t18 = .int .i64 (j : Int) /\ Hid (j = 1 -> l.length = P.length /\ allQ l = true) /\ Below t.heap.size t wr) (fun t18 _ => 1 - (RowKit.intOf t18).toNat)
 case atStart => exact ⟨0, by omega, rfl, fun h => (by omega), Below.refl _ _⟩
 case round =>
  obtain ⟨j, hj, rfl, HJ, I⟩ := hrel;have h3 := I.size;have R : Below w.heap.size w wr := zbt O I;have u0 := zcq I (World.block_lt_of_cell? t _ z0) z0;have u1 := zcq I (World.block_lt_of_cell? t _ x0) x0;rcases (by omega : j = 0 \/ j = 1) with rfl | rfl
  ·rcases (by omega : l.length = P.length \/ l.length ≠ P.length) with Y | Y
   ·have d : ((l.length : Int) != (P.length : Int)) = false := by rw [bne_eq_false_iff_eq]; omega
    have o := hid Y;have K : Hid (errF P.length l = eNm (allQ l)) := eFn Y;have Q := hid R;clear Y z0 x0 HJ R;rw [show ((0 : Nat) : Int) = 0 from rfl];go_wp2_with fail;obtain ⟨wo, h0⟩ := zex (wr : World);subst h0;go_loopw [30] (fun t30 wr => ∃ (i : Nat), t30 = .int .i64 i /\ i <= l.length /\ Hid (allQ l = allQ (l.drop i)) /\ Below wo.heap.size wo wr) (fun t30 _ => l.length - (RowKit.intOf t30).toNat)
    case atStart => exact ⟨0, rfl, Nat.zero_le _, rfl, Below.refl _ _⟩
    case round =>
     obtain ⟨i, rfl, hi, q, Z⟩ := hrel;rcases Nat.lt_or_ge i l.length with h | h
     ·obtain ⟨bf, off, rfl, g, U⟩ := HR.out (by intro e; rw [e] at h; simp at h)
      have M := zcq Q.out g (U i h);have hc : wr.cell? ⟨bf, off + i, none⟩ = some (.string l[i]) := (zcq Z (World.block_lt_of_cell? wo _ M) M :);have v := HL.out l[i] (List.getElem_mem h);have L := q.out.trans (aQs l i h);obtain ⟨x, hx⟩ := zex (l[i]);rw [<- hx] at hc v L;have S := hid L;have A := (f.below Q.out).below Z;clear hx L U q M;go_wp2_with fail;refine (cQa x v _ A).mono ?_;rintro e w2 ⟨_, rfl, rfl, G⟩;have E := zbt Z G;clear G A;rcases Bool.eq_false_or_eq_true (rQQ x.data.toList) with hq | hq
      ·have n : Hid (allQ l = allQ (l.drop (i + 1))) := by unfold Hid; rw [S.out, hq]; rfl
       rw [hq, show eNm true = 0 from rfl];clear hq S;go_wp2_with fail;go_roundw
       case rel => exact ⟨i + 1, by go_num, h, n, E⟩
       case measure => simp [RowKit.intOf]; omega
      ·have n : Hid (2 = errF P.length l) := by unfold Hid; rw [K.out, S.out, hq]; rfl
       rw [hq, show eNm false = 2 from rfl];clear hq S;go_wp2_with fail;go_ret;exact ⟨_, rfl, congrArg (Value.int .i64) n.out, (zbt Q.out E)⟩
     ·have H : Hid (allQ l = true) := by unfold Hid; rw [q.out, List.drop_of_length_le h]; rfl
      clear q;go_wp2_with fail;go_roundw
      case rel => exact ⟨1, by omega, rfl, fun _ => ⟨o.out, H.out⟩, I.trans (Z.mono h3)⟩
      case measure => simp [RowKit.intOf]
   ·have d : ((l.length : Int) != (P.length : Int)) = true := by rw [bne_iff_ne]; omega
    have K : Hid (5 = errF P.length l) := (eFs Y).symm;clear Y;go_wp2_with fail;go_ret;exact ⟨_, rfl, congrArg (Value.int .i64) K.out, R⟩
  ·have K : Hid (0 = errF P.length l) := by
    obtain ⟨h1, h2⟩ := HJ.out rfl;unfold Hid; rw [eFn h1, h2]; rfl
   go_wp2_with fail;go_ret;exact ⟨_, rfl, congrArg (Value.int .i64) K.out, R⟩
theorem cst (w : World) (v : Value) (Y n : Nat) (Z : w.heap.size = n) : (w.alloc (.cells #[v] Y)).cell? ⟨n, 0, none⟩ = some v := by
 rw [World.cell?_alloc_at _ _ _ _ (by simp [Z])]; rfl
def ptI (P : List PtQ) (z : Int) : PtQ := P[z.toNat]?.getD (0, 0)
def hI (F : List Rat) (z : Int) : Rat := F[z.toNat]?.getD 0
theorem pIn (P : List PtQ) (m : Nat) (h : m < P.length) : ptI P (m : Int) = P[m] := by
 unfold ptI; rw [Int.toNat_natCast, List.getElem?_eq_getElem h]; rfl
theorem he0 (F : List Rat) (m : Nat) (h : m < F.length) : hI F (m : Int) = F[m] := by
 unfold hI; rw [Int.toNat_natCast, List.getElem?_eq_getElem h]; rfl
def BoxN (w : World) (b t : Nat) (l : List Value) : Prop := w.heap[b]? = some (.cells l.toArray t (0, 0))
theorem BoxN.lt {w : World} {b t : Nat} {l : List Value} (h : BoxN w b t l) : b < w.heap.size := (Array.getElem?_eq_some_iff.1 h).1
theorem BoxN.cell {w : World} {b t : Nat} {l : List Value} (h : BoxN w b t l) (i : Nat) {v : Value} (Z : l[i]? = some v) : w.cell? ⟨b, i, none⟩ = some v := by
 unfold BoxN at h;simp [World.cell?, h, Z]
theorem BoxN.frozen {w : World} {b t : Nat} {l : List Value} (h : BoxN w b t l) (i : Nat) : w.frozen? ⟨b, i, none⟩ = false := by
 unfold BoxN at h;simp [World.frozen?, h]
theorem BoxN.new (w : World) (a : Array Value) (t n : Nat) (Z : w.heap.size = n) : BoxN (w.alloc (.cells a t)) n t a.toList := by
 subst Z; exact World.alloc_heap_new _ _
theorem BoxN.below {w w' : World} {m b t : Nat} {l : List Value} (h : BoxN w b t l) (Z : Below m w w') (Y : b < m) : BoxN w' b t l := (Z.block b Y).trans h
theorem BoxN.set {w : World} {b t : Nat} {l : List Value} (h : BoxN w b t l) (i : Nat) (v : Value) : BoxN (w.setCell ⟨b, i, none⟩ v) b t (l.set i v) := by
 obtain ⟨Z, Y⟩ := Array.getElem?_eq_some_iff.1 (show w.heap[b]? = _ from h);show (w.heap.modify b _)[b]? = _;rw [Array.getElem?_eq_getElem (by rw [Array.size_modify]; exact Z), Array.getElem_modify_self, Y];simp
theorem BoxN.drew {w : World} {b t : Nat} {l : List Value} (h : BoxN w b t l) : BoxN w.drew b t l := h
theorem cc0 (w : World) (vp vt vf : Value) (P : List PtQ) (T : List Tri) (k : Nat) (F : List Rat) (hp : RdP w vp (strP P)) (ht : RdT w vt T) (hm : MIn P T k) (hf : RdQ w vf F) (f : F.length = P.length) (t : Nat) (tz : Int) (hZ : tz = (t : Int)) (hq : t < T.length)
 (tr : Tri) (hr : tr = T[t]) (_hg : Good w) :
 Calls Tryz.prog 28 #[.agg #[vp, vt], vf, .int .i64 tz] w (Ret (fun r _ => r = .agg #[.string (RS (ptI P tr.1).1), .string (RS (ptI P tr.1).2), .string (RS (hI F tr.1)), .string (RS (ptI P tr.2.1).1), .string (RS (ptI P tr.2.1).2), .string (RS (hI F tr.2.1)),
  .string (RS (ptI P tr.2.2).1), .string (RS (ptI P tr.2.2).2), .string (RS (hI F tr.2.2))]) w) := by
 obtain ⟨pp, cp, rfl, hY, zj, ho⟩ := hp.open;obtain ⟨pt, ct, rfl, zk, zl, j⟩ := ht.open;obtain ⟨pf, cf, rfl, zh, zi, hn⟩ := hf.open;rw [sPl] at hY ⊢;obtain ⟨b, off, rfl, zg, G⟩ := j (List.ne_nil_of_length_pos (by omega));obtain ⟨e0, e1, e2⟩ := G t hq;have R := hm.idx T[t] (List.getElem_mem hq);obtain ⟨d, c, a⟩ := tr;rw [<- hr] at e0 e1 e2 R;dsimp only at e0 e1 e2 ⊢;obtain ⟨hH, hJ⟩ := R d (by simp [idxOf]);obtain ⟨hK, hL⟩ := R c (by simp [idxOf]);obtain ⟨hM, hN⟩ := R a (by simp [idxOf]);obtain ⟨E, rfl⟩ : ∃ q : Nat, d = (q : Int) := ⟨d.toNat, by omega⟩;obtain ⟨D, rfl⟩ : ∃ q : Nat, c = (q : Int) := ⟨c.toNat, by omega⟩;obtain ⟨C, rfl⟩ : ∃ q : Nat, a = (q : Int) := ⟨a.toNat, by omega⟩;have g0 : E < P.length := by omega
 have g1 : D < P.length := by omega
 have g2 : C < P.length := by omega
 obtain ⟨l, op, rfl, M, N⟩ := ho (by intro e; have h := sPl P; rw [e] at h; simp at h; omega);obtain ⟨bf, of, rfl, g, O⟩ := hn (by intro e; rw [e] at f; simp at f; omega);rw [pIn P E g0, pIn P D g1, pIn P C g2, he0 F E (by omega), he0 F D (by omega), he0 F C (by omega)];obtain ⟨y, x⟩ := N E (by rw [sPl]; exact g0);obtain ⟨s, o⟩ := N D (by rw [sPl]; exact g1);obtain ⟨n, m⟩ := N C (by rw [sPl]; exact g2);rw [sPg P E g0] at y x;rw [sPg P D g1] at s o;rw [sPg P C g2] at n m;have m0 := O E (by omega);have m1 := O D (by omega);have m2 := O C (by omega);dsimp only at y x s o n m;have f0 : (E : Int) < (P.length : Int) := by omega
 have f1 : (D : Int) < (P.length : Int) := by omega
 have f2 : (C : Int) < (P.length : Int) := by omega
 have f3 : (E : Int) < (F.length : Int) := by omega
 have f4 : (D : Int) < (F.length : Int) := by omega
 have f5 : (C : Int) < (F.length : Int) := by omega
 have zf : (t : Int) < (T.length : Int) := by omega
 generalize P[E] = p0 at *;generalize P[D] = p1 at *;generalize P[C] = p2 at *;generalize F[E]'_ = h0 at *;generalize F[D]'_ = h1 at *;generalize F[C]'_ = h2 at *;subst hZ;clear hr R G j ho hn N O hp ht hf hm hH hJ hK hL hM hN f;have i0 := iT0;have i1 := iT1;have i2 := iT2;go_enter Tryz.func28, Tryz.ntmps28;go_wp2_with fail;obtain ⟨L, H⟩ := zex ((w.alloc (.cells #[.slice (some ⟨l, op, none⟩) P.length cp, .slice (some ⟨b, off, none⟩) T.length ct] 35)).alloc (.cells #[.string ⟨#[]⟩, .string ⟨#[]⟩, .string ⟨#[]⟩, .string ⟨#[]⟩, .string ⟨#[]⟩, .string ⟨#[]⟩, .string ⟨#[]⟩, .string ⟨#[]⟩, .string ⟨#[]⟩] 90));have Y : Below w.heap.size w L := by rw [H]; exact zal2 _ _ _
 have Q : BoxN L (w.heap.size + 1) 90 [.string ⟨#[]⟩, .string ⟨#[]⟩, .string ⟨#[]⟩, .string ⟨#[]⟩, .string ⟨#[]⟩, .string ⟨#[]⟩, .string ⟨#[]⟩, .string ⟨#[]⟩, .string ⟨#[]⟩] := by rw [H]; exact BoxN.new _ _ _ _ (by simp)
 have x0 : L.cell? ⟨w.heap.size, 0, none⟩ = some (.slice (some ⟨l, op, none⟩) P.length cp) := by rw [H]; exact cal _ (by rw [World.cell?_alloc_at _ _ _ _ rfl]; rfl)
 have K : Below (w.heap.size + 1) L L := Below.refl _ _;have z9 := zcq Y M y;have za := zcq Y M x;have zb := zcq Y M s;have zc := zcq Y M o;have zd := zcq Y M n;have ze := zcq Y M m;have n0 := zcq Y g m0;have n1 := zcq Y g m1;have n2 := zcq Y g m2;rw [<- H];clear H e0 e1 e2 y x s o n m m0 m1 m2;refine wp_loop_rounds 4 ?_;have h3 := Q.cell 0 rfl;have h4 := Q.cell 1 rfl;have h5 := Q.cell 2 rfl;have h6 := Q.frozen 0;have h7 := Q.frozen 1;have h8 := Q.frozen 2;have hw := zcq K (by show w.heap.size < w.heap.size + 1; omega) x0;have hs := zcq K (by show l < w.heap.size + 1; omega) z9;have hu := zcq K (by show l < w.heap.size + 1; omega) za;have hv := zcq K (by show bf < w.heap.size + 1; omega) n0;rw [rounds_succ];go_wp2_with fail
 go_still_tail 12, (by kernel_rfl)
 change wpList _ _ _ _ _ L.drew;go_wp2_with fail;clear h3 h4 h5 h6 h7 h8 hw hs hu hv;obtain ⟨W1, B⟩ : ∃ X, X = (((L.setCell ⟨w.heap.size + 1, 0, none⟩ (.string (RS p0.1))).setCell ⟨w.heap.size + 1, 1, none⟩ (.string (RS p0.2))).setCell ⟨w.heap.size + 1, 2, none⟩ (.string (RS h0))).drew := ⟨_, rfl⟩;have J : Below (w.heap.size + 1) L W1 := by rw [B]; exact (((K.setCell (p := ⟨w.heap.size + 1, 0, none⟩) (Nat.le_refl _) _).setCell (p := ⟨w.heap.size + 1, 1, none⟩) (Nat.le_refl _) _).setCell (p := ⟨w.heap.size + 1, 2, none⟩) (Nat.le_refl _) _).drew
 have U := ((((Q.set 0 (.string (RS p0.1))).set 1 (.string (RS p0.2))).set 2 (.string (RS h0))).drew);rw [<- B] at U;rw [<- B];clear B;have h9 := U.cell 3 rfl;have ha := U.cell 4 rfl;have hb := U.cell 5 rfl;have hc := U.frozen 3;have hd := U.frozen 4;have he := U.frozen 5;have hA := zcq J (by show w.heap.size < w.heap.size + 1; omega) x0;have hx := zcq J (by show l < w.heap.size + 1; omega) zb;have hy := zcq J (by show l < w.heap.size + 1; omega) zc;have hz := zcq J (by show bf < w.heap.size + 1; omega) n1;rw [rounds_succ];go_wp2_with fail
 go_still_tail 12, (by kernel_rfl)
 change wpList _ _ _ _ _ W1.drew;go_wp2_with fail;clear h9 ha hb hc hd he hA hx hy hz;obtain ⟨W2, A⟩ : ∃ X, X = (((W1.setCell ⟨w.heap.size + 1, 3, none⟩ (.string (RS p1.1))).setCell ⟨w.heap.size + 1, 4, none⟩ (.string (RS p1.2))).setCell ⟨w.heap.size + 1, 5, none⟩ (.string (RS h1))).drew := ⟨_, rfl⟩;have I : Below (w.heap.size + 1) L W2 := by rw [A]; exact (((J.setCell (p := ⟨w.heap.size + 1, 3, none⟩) (Nat.le_refl _) _).setCell (p := ⟨w.heap.size + 1, 4, none⟩) (Nat.le_refl _) _).setCell (p := ⟨w.heap.size + 1, 5, none⟩) (Nat.le_refl _) _).drew
 have S := ((((U.set 3 (.string (RS p1.1))).set 4 (.string (RS p1.2))).set 5 (.string (RS h1))).drew);rw [<- A] at S;rw [<- A];clear A;have hg := S.cell 6 rfl;have hh := S.cell 7 rfl;have hi := S.cell 8 rfl;have hj := S.frozen 6;have hk := S.frozen 7;have hl := S.frozen 8;have hF := zcq I (by show w.heap.size < w.heap.size + 1; omega) x0;have hB := zcq I (by show l < w.heap.size + 1; omega) zd;have hD := zcq I (by show l < w.heap.size + 1; omega) ze;have hE := zcq I (by show bf < w.heap.size + 1; omega) n2;rw [rounds_succ];go_wp2_with fail
 go_still_tail 12, (by kernel_rfl)
 change wpList _ _ _ _ _ W2.drew;go_wp2_with fail;clear hg hh hi hj hk hl hF hB hD hE;obtain ⟨W3, z⟩ : ∃ X, X = (((W2.setCell ⟨w.heap.size + 1, 6, none⟩ (.string (RS p2.1))).setCell ⟨w.heap.size + 1, 7, none⟩ (.string (RS p2.2))).setCell ⟨w.heap.size + 1, 8, none⟩ (.string (RS h2))).drew := ⟨_, rfl⟩;have hC : Below (w.heap.size + 1) L W3 := by rw [z]; exact (((I.setCell (p := ⟨w.heap.size + 1, 6, none⟩) (Nat.le_refl _) _).setCell (p := ⟨w.heap.size + 1, 7, none⟩) (Nat.le_refl _) _).setCell (p := ⟨w.heap.size + 1, 8, none⟩) (Nat.le_refl _) _).drew
 have Z := ((((S.set 6 (.string (RS p2.1))).set 7 (.string (RS p2.2))).set 8 (.string (RS h2))).drew);rw [<- z] at Z;rw [<- z];clear z;have z0 := Z.cell 0 rfl;have z1 := Z.cell 1 rfl;have z2 := Z.cell 2 rfl;have z3 := Z.cell 3 rfl;have z4 := Z.cell 4 rfl;have z5 := Z.cell 5 rfl;have z6 := Z.cell 6 rfl;have z7 := Z.cell 7 rfl;have z8 := Z.cell 8 rfl;have zm := Z.frozen 0;have zn := Z.frozen 1;have zo := Z.frozen 2;have zp := Z.frozen 3;have zq := Z.frozen 4;have zr := Z.frozen 5;have zs := Z.frozen 6;have zt := Z.frozen 7;have zu := Z.frozen 8;rw [rounds_succ];go_wp2_with fail;obtain ⟨WF, i⟩ : ∃ X, X = (((((((((W3.setCell ⟨w.heap.size + 1, 0, none⟩ (.string (RS p0.1))).setCell ⟨w.heap.size + 1, 1, none⟩ (.string (RS p0.2))).setCell ⟨w.heap.size + 1, 2, none⟩ (.string (RS h0))).setCell ⟨w.heap.size + 1, 3, none⟩ (.string (RS p1.1))).setCell ⟨w.heap.size + 1, 4, none⟩ (.string (RS p1.2))).setCell ⟨w.heap.size + 1, 5, none⟩ (.string (RS h1))).setCell ⟨w.heap.size + 1, 6, none⟩ (.string (RS p2.1))).setCell ⟨w.heap.size + 1, 7, none⟩ (.string (RS p2.2))).setCell ⟨w.heap.size + 1, 8, none⟩ (.string (RS h2))) := ⟨_, rfl⟩;have V : BoxN WF (w.heap.size + 1) 90 [.string (RS p0.1), .string (RS p0.2), .string (RS h0), .string (RS p1.1), .string (RS p1.2), .string (RS h1), .string (RS p2.1), .string (RS p2.2), .string (RS h2)] := by rw [i]; exact (((((((((Z.set 0 (.string (RS p0.1))).set 1 (.string (RS p0.2))).set 2 (.string (RS h0))).set 3 (.string (RS p1.1))).set 4 (.string (RS p1.2))).set 5 (.string (RS h1))).set 6 (.string (RS p2.1))).set 7 (.string (RS p2.2))).set 8 (.string (RS h2)))
 have hG : Below (w.heap.size + 1) L WF := by rw [i]; exact (((((((((hC.setCell (p := ⟨w.heap.size + 1, 0, none⟩) (Nat.le_refl _) _).setCell (p := ⟨w.heap.size + 1, 1, none⟩) (Nat.le_refl _) _).setCell (p := ⟨w.heap.size + 1, 2, none⟩) (Nat.le_refl _) _).setCell (p := ⟨w.heap.size + 1, 3, none⟩) (Nat.le_refl _) _).setCell (p := ⟨w.heap.size + 1, 4, none⟩) (Nat.le_refl _) _).setCell (p := ⟨w.heap.size + 1, 5, none⟩) (Nat.le_refl _) _).setCell (p := ⟨w.heap.size + 1, 6, none⟩) (Nat.le_refl _) _).setCell (p := ⟨w.heap.size + 1, 7, none⟩) (Nat.le_refl _) _).setCell (p := ⟨w.heap.size + 1, 8, none⟩) (Nat.le_refl _) _)
 rw [<- i];have hO := V.cell 0 rfl;have hP := V.cell 1 rfl;have hR := V.cell 2 rfl;have hS := V.cell 3 rfl;have hT := V.cell 4 rfl;have hU := V.cell 5 rfl;have hV := V.cell 6 rfl;have hW := V.cell 7 rfl;have hX := V.cell 8 rfl;exact bodyPost_ret (v := .agg #[.string (RS p0.1), .string (RS p0.2), .string (RS h0), .string (RS p1.1), .string (RS p1.2), .string (RS h1), .string (RS p2.1), .string (RS p2.2), .string (RS h2)]) (by simp [results, Tryz.results28, go_sem, hO, hP, hR, hS, hT, hU, hV, hW, hX]) rfl ⟨_, rfl, rfl, Y.trans (hG.mono (by omega))⟩
def mQQ (a b c d : Rat) : Rat := a * d - b * c
def sQQ (A B C : PtQ) (za zb zc : Rat) : PtQ :=
 (1 / mQQ (B.1 - A.1) (B.2 - A.2) (C.1 - A.1) (C.2 - A.2) * mQQ (zb - za) (B.2 - A.2) (zc - za) (C.2 - A.2),
  1 / mQQ (B.1 - A.1) (B.2 - A.2) (C.1 - A.1) (C.2 - A.2) * mQQ (B.1 - A.1) (zb - za) (C.1 - A.1) (zc - za))
theorem Sz.one : Sz 1 1 := ⟨by decide, by decide⟩
theorem md0 (a b c d : Rat) (k : Nat) (L : 0 < k) (D : k <= 4000) (U : Sz k a) (S : Sz k b) (Q : Sz k c) (O : Sz k d) (w : World) (N : Good w) :
 Calls Tryz.prog 99 #[.string (RS a), .string (RS b), .string (RS c), .string (RS d)] w (Ret (fun r _ => r = .string (RS (mQQ a b c d))) w) := by
 unfold mQQ;have I := hid U;have H := hid S;have G := hid Q;have E := hid O;have K : Hid (Sz (2 * k) (a * d)) := (U.mul O).mono (by omega);have J : Hid (Sz (2 * k) (b * c)) := (S.mul Q).mono (by omega);clear U S Q O;go_enter Tryz.func99, Tryz.ntmps99;go_wp2_with fail;refine (rMa a d k L (by omega) I.out E.out _ N).mono ?_;rintro e C ⟨_, rfl, rfl, Z⟩;have V := N.below Z;go_wp2_with fail;refine (rMa b c k L (by omega) H.out G.out _ V).mono ?_;rintro e B ⟨_, rfl, rfl, Y⟩;have X := zbt Z Y;have M := N.below X;clear Z Y V;go_wp2_with fail;refine (rSa (a * d) (b * c) (2 * k) (by omega) (by omega) K.out J.out _ M).mono ?_;rintro e A ⟨_, rfl, rfl, R⟩;go_wp2_with fail;go_ret;exact ⟨_, rfl, rfl, (zbt X R)⟩
theorem msz {a b c d : Rat} {k : Nat} (Z : Sz k a) (Y : Sz k b) (X : Sz k c) (V : Sz k d) : Sz (4 * k + 1) (mQQ a b c d) :=
 ((Z.mul V).sub (Y.mul X)).mono (by omega)
theorem sl0 (w : World) (vp vt vf : Value) (P : List PtQ) (T : List Tri) (k : Nat) (F : List Rat) (hp : RdP w vp (strP P)) (ht : RdT w vt T) (hm : MIn P T k) (zp : k <= 200) (hf : RdQ w vf F) (hS : ∀ q ∈ F, Sz k q) (hR : F.length = P.length) (t : Nat) (tz : Int) (z4 : tz = (t : Int)) (z2 : t < T.length)
 (tr : Tri) (z3 : tr = T[t]) (Z : 0 < turnZ (ptI P tr.1) (ptI P tr.2.1) (ptI P tr.2.2)) (hg : Good w) :
 Calls Tryz.prog 55 #[.agg #[vp, vt], vf, .int .i64 tz] w
  (Ret (fun r _ => r = .agg #[.string (RS (sQQ (ptI P tr.1) (ptI P tr.2.1) (ptI P tr.2.2) (hI F tr.1) (hI F tr.2.1) (hI F tr.2.2)).1), .string (RS (sQQ (ptI P tr.1) (ptI P tr.2.1) (ptI P tr.2.2) (hI F tr.1) (hI F tr.2.1) (hI F tr.2.2)).2)]) w) := by
 have V := hm.kpos;have h5 : ∀ z, SzP k (ptI P z) := fun z => by
  unfold ptI;cases h : P[z.toNat]? with
  | none => exact ⟨Sz.zero k V, Sz.zero k V⟩
  | some p => exact hm.sz _ (List.mem_of_getElem? h)
 have h4 : ∀ z, Sz k (hI F z) := fun z => by
  unfold hI;cases h : F[z.toNat]? with
  | none => exact Sz.zero k V
  | some p => exact hS _ (List.mem_of_getElem? h)
 have sA := h5 tr.1;have sB := h5 tr.2.1;have sC := h5 tr.2.2;have s1 := h4 tr.1;have s2 := h4 tr.2.1;have s3 := h4 tr.2.2;have HC := hid (fun (w : World) (hp : RdP w vp (strP P)) (ht : RdT w vt T) (hf : RdQ w vf F) (hg : Good w) => cc0 w vp vt vf P T k F hp ht hm hf hR t tz z4 z2 tr z3 hg);have z0 := hp;have z1 := ht;have hP := hf;obtain ⟨pp, cp, rfl, _, _, _⟩ := z0.open;obtain ⟨pt, ct, rfl, _, _, _⟩ := z1.open;obtain ⟨pf, cf, rfl, _, _, _⟩ := hP.open;clear z0 z1 hP;have HP := hid hp;have HT := hid ht;have HF := hid hf;clear z3 h5 h4 hp ht hf hm hS;rw [sPl] at *;generalize ptI P tr.1 = A at *;generalize ptI P tr.2.1 = B at *;generalize ptI P tr.2.2 = C at *;generalize hI F tr.1 = za at *;generalize hI F tr.2.1 = zb at *;generalize hI F tr.2.2 = zc at *;obtain ⟨Y, X⟩ := A;obtain ⟨l, o⟩ := B;obtain ⟨j, i⟩ := C;obtain ⟨h2, h3⟩ := sA;obtain ⟨hu, hv⟩ := sB;obtain ⟨hw, hx⟩ := sC;have hH : mQQ (l - Y) (o - X) (j - Y) (i - X) ≠ 0 := fun e => by
  unfold turnZ areaQ at Z;unfold mQQ at e;dsimp only at Z;rw [e] at Z;simp at Z
 unfold sQQ;dsimp only at *;have z9 := hid hH;have H : Hid (Sz k Y /\ Sz k X /\ Sz k l /\ Sz k o /\ Sz k j /\ Sz k i /\ Sz k za /\ Sz k zb /\ Sz k zc) := ⟨h2, h3, hu, hv, hw, hx, s1, s2, s3⟩;have sx := (hu.sub h2).mono (show k + k + 1 <= 2 * k + 1 by omega);have sy := (hv.sub h3).mono (show k + k + 1 <= 2 * k + 1 by omega);have su := (hw.sub h2).mono (show k + k + 1 <= 2 * k + 1 by omega);have sv := (hx.sub h3).mono (show k + k + 1 <= 2 * k + 1 by omega);have sa := (s2.sub s1).mono (show k + k + 1 <= 2 * k + 1 by omega);have sb := (s3.sub s1).mono (show k + k + 1 <= 2 * k + 1 by omega);have G : Hid (Sz (2 * k + 1) (l - Y) /\ Sz (2 * k + 1) (o - X) /\ Sz (2 * k + 1) (j - Y) /\ Sz (2 * k + 1) (i - X) /\ Sz (2 * k + 1) (zb - za) /\ Sz (2 * k + 1) (zc - za)) := ⟨sx, sy, su, sv, sa, sb⟩;have m1 := (msz sx sy su sv).mono (show 4 * (2 * k + 1) + 1 <= 3000 by omega);have m2 := (msz sa sy sb sv).mono (show 4 * (2 * k + 1) + 1 <= 3000 by omega);have m3 := (msz sx sa su sb).mono (show 4 * (2 * k + 1) + 1 <= 3000 by omega);have m4 := (Sz.one.div m1 (by omega)).mono (show 1 + 3000 <= 6000 by omega);have K3 : Hid (Sz 3000 (mQQ (l - Y) (o - X) (j - Y) (i - X)) /\ Sz 3000 (mQQ (zb - za) (o - X) (zc - za) (i - X)) /\ Sz 3000 (mQQ (l - Y) (zb - za) (j - Y) (zc - za)) /\ Sz 6000 (1 / mQQ (l - Y) (o - X) (j - Y) (i - X))) := ⟨m1, m2, m3, m4⟩;clear h2 h3 hu hv hw hx s1 s2 s3 sx sy su sv sa sb m1 m2 m3 m4 Z hH;clear z4 hR z2;have zh : Hid (∀ (m n : Nat) (q : Rat), Sz m q -> m <= n -> Sz n q) := fun m n q h hmn => h.mono hmn;go_enter Tryz.func55, Tryz.ntmps55;go_wp2_with fail;have I : Below w.heap.size w ((w.alloc (.cells #[.slice pp P.length cp, .slice pt T.length ct] 35)).alloc (.cells #[.string ⟨#[]⟩, .string ⟨#[]⟩] 50)) := ((Below.refl _ _).alloc (Nat.le_refl _) _).alloc (by simp) _;have B6 : BoxN ((w.alloc (.cells #[.slice pp P.length cp, .slice pt T.length ct] 35)).alloc (.cells #[.string ⟨#[]⟩, .string ⟨#[]⟩] 50)) (w.heap.size + 1) 50 [.string ⟨#[]⟩, .string ⟨#[]⟩] := BoxN.new _ _ _ _ (by simp);refine (HC.out _ (RdC.below HP.out I) (RdC.below HT.out I) (RdC.below HF.out I) (hg.below I)).mono ?_;rintro e wc ⟨_, rfl, rfl, h1⟩;have hb : Below w.heap.size w wc := zbt I h1;have hB := B6.below h1 B6.lt;have hz : w.heap.size + 2 <= wc.heap.size := by have := h1.size; simp at this; omega
 clear B6 h1 I;go_wp2_with fail;obtain ⟨W, hW⟩ := zex (wc.alloc (.cells #[.string (RS Y), .string (RS X), .string (RS za), .string (RS l), .string (RS o), .string (RS zb), .string (RS j), .string (RS i), .string (RS zc)] 90));have BW : BoxN W wc.heap.size 90 [.string (RS Y), .string (RS X), .string (RS za), .string (RS l), .string (RS o), .string (RS zb), .string (RS j), .string (RS i), .string (RS zc)] := by rw [hW]; exact BoxN.new _ _ _ _ rfl
 have ha : Below wc.heap.size wc W := by rw [hW]; exact zal _ _
 have zl : wc.heap.size < W.heap.size := BW.lt;rw [<- hW];clear hW;have hZ : Good W := (hg.below hb).below ha;have hn : Good W.drew := hZ.drewN 1;have c0 := BW.cell 0 rfl;have c1 := BW.cell 1 rfl;have c3 := BW.cell 3 rfl;have c4 := BW.cell 4 rfl;go_region_held3 (fun w' => w'.cell? ⟨wc.heap.size, 0, none⟩ = some (.string (RS Y)) /\ w'.cell? ⟨wc.heap.size, 1, none⟩ = some (.string (RS X)) /\ w'.cell? ⟨wc.heap.size, 3, none⟩ = some (.string (RS l)) /\ w'.cell? ⟨wc.heap.size, 4, none⟩ = some (.string (RS o)))
  (first | exact ⟨c0, c1, c3, c4⟩ | exact ⟨p_1_0, p_1_1, p_1_2, p_1_3⟩ | exact ⟨p_2_0, p_2_1, p_2_2, p_2_3⟩)
  (first
  | (go_at_call 68; refine (rSa o X k V (by omega) H.out.2.2.2.1 H.out.2.1 _ ho).mono ?_; rintro e O ⟨_, rfl, rfl, S⟩
     have p_2_0 := zct S p_1_0;have p_2_1 := zct S p_1_1;have p_2_2 := zct S p_1_2;have p_2_3 := zct S p_1_3;have zt := S.size;have z5 := ho.below S)
  | (go_at_call 68; refine (rSa l Y k V (by omega) H.out.2.2.1 H.out.1 _ hn).mono ?_; rintro e zm ⟨_, rfl, rfl, U⟩
     have p_1_0 := zct U c0;have p_1_1 := zct U c1;have p_1_2 := zct U c3;have p_1_3 := zct U c4;have zs : W.heap.size <= zm.heap.size := U.size;have ho := hn.below U))
 have pB : Below W.heap.size W O := zbt (zbt (bdN W 1) U) S;have J := BW.below pB zl;have d : Good O.drew := z5.drewN 1;have zk : wc.heap.size < O.heap.size := by omega
 have hD := ha.trans (pB.mono (by omega));have d0 := J.cell 0 rfl;have d1 := J.cell 1 rfl;have d6 := J.cell 6 rfl;have d7 := J.cell 7 rfl;clear c0 c1 c3 c4 pB U S p_1_0 p_1_1 p_1_2 p_1_3 p_2_0 p_2_1 p_2_2 p_2_3 BW ha hZ hn ho;go_wp2_with fail;go_region_held3 (fun w' => w'.cell? ⟨wc.heap.size, 0, none⟩ = some (.string (RS Y)) /\ w'.cell? ⟨wc.heap.size, 1, none⟩ = some (.string (RS X)) /\ w'.cell? ⟨wc.heap.size, 6, none⟩ = some (.string (RS j)) /\ w'.cell? ⟨wc.heap.size, 7, none⟩ = some (.string (RS i)))
  (first | exact ⟨d0, d1, d6, d7⟩ | exact ⟨q_1_0, q_1_1, q_1_2, q_1_3⟩ | exact ⟨q_2_0, q_2_1, q_2_2, q_2_3⟩)
  (first
  | (go_at_call 68; refine (rSa i X k V (by omega) H.out.2.2.2.2.2.1 H.out.2.1 _ hq).mono ?_; rintro e N ⟨_, rfl, rfl, Q⟩
     have q_2_0 := zct Q q_1_0;have q_2_1 := zct Q q_1_1;have q_2_2 := zct Q q_1_2;have q_2_3 := zct Q q_1_3;have zv := Q.size;have z6 := hq.below Q)
  | (go_at_call 68; refine (rSa j Y k V (by omega) H.out.2.2.2.2.1 H.out.1 _ d).mono ?_; rintro e zn ⟨_, rfl, rfl, R⟩
     have q_1_0 := zct R d0;have q_1_1 := zct R d1;have q_1_2 := zct R d6;have q_1_3 := zct R d7;have zu : O.heap.size <= zn.heap.size := R.size;have hq := d.below R))
 have qB : Below O.heap.size O N := zbt (zbt (bdN O 1) R) Q;have h0 := J.below qB zk;have c : Good N.drew := z6.drewN 1;have zq : wc.heap.size < N.heap.size := by omega
 have hE := hD.trans (qB.mono (by omega));have f2 := h0.cell 2 rfl;have f5 := h0.cell 5 rfl;have f8 := h0.cell 8 rfl;clear d0 d1 d6 d7 qB R Q q_1_0 q_1_1 q_1_2 q_1_3 q_2_0 q_2_1 q_2_2 q_2_3 J hD d hq z5;go_wp2_with fail;go_region_held3 (fun w' => w'.cell? ⟨wc.heap.size, 2, none⟩ = some (.string (RS za)) /\ w'.cell? ⟨wc.heap.size, 5, none⟩ = some (.string (RS zb)) /\ w'.cell? ⟨wc.heap.size, 8, none⟩ = some (.string (RS zc)))
  (first | exact ⟨f2, f5, f8⟩ | exact ⟨r_1_0, r_1_1, r_1_2⟩ | exact ⟨r_2_0, r_2_1, r_2_2⟩)
  (first
  | (go_at_call 68; refine (rSa zc za k V (by omega) H.out.2.2.2.2.2.2.2.2 H.out.2.2.2.2.2.2.1 _ hr).mono ?_; rintro e hs ⟨_, rfl, rfl, L⟩
     have r_2_0 := zct L r_1_0;have r_2_1 := zct L r_1_1;have r_2_2 := zct L r_1_2;have rs2 := L.size;have z7 := hr.below L)
  | (go_at_call 68; refine (rSa zb za k V (by omega) H.out.2.2.2.2.2.2.2.1 H.out.2.2.2.2.2.2.1 _ c).mono ?_; rintro e zo ⟨_, rfl, rfl, M⟩
     have r_1_0 := zct M f2;have r_1_1 := zct M f5;have r_1_2 := zct M f8;have rs1 : N.heap.size <= zo.heap.size := M.size;have hr := c.below M))
 have rB : Below N.heap.size N hs := zbt (zbt (bdN N 1) M) L;have h9 := hE.trans (rB.mono (by omega));have hy := hB.below h9 (by omega);have zj : Below w.heap.size w hs := hb.trans (h9.mono (by omega));have zr : w.heap.size + 2 <= hs.heap.size := by omega
 clear f2 f5 f8 rB M L r_1_0 r_1_1 r_1_2 r_2_0 r_2_1 r_2_2 h0 hE h9 c hr z6 hB hb;generalize hX : l - Y = x at *;generalize hY : o - X = y at *;generalize hU : j - Y = u at *;generalize hV : i - X = v at *;generalize hA : zb - za = a at *;generalize hF : zc - za = b at *;have HX := hid hX;have HY := hid hY;have HU := hid hU;have HV := hid hV;have HA := hid hA;have z8 := hid hF;clear hX hY hU hV hA hF;go_wp2_with fail;refine (md0 x y u v (2 * k + 1) (by omega) (by omega) G.out.1 G.out.2.1 G.out.2.2.1 G.out.2.2.2.1 _ z7).mono ?_;rintro e w4 ⟨_, rfl, rfl, hc⟩;have hi := z7.below hc;generalize hJ : mQQ x y u v = D at *;have zd := hid hJ;clear hJ;have s := rDa 1 D 6000 (by omega) (by omega) (Sz.one.mono (by omega)) (K3.out.1.mono (by omega)) z9.out w4 hi;rw [Roe] at s;have hC := hid s;clear s;go_wp2_with fail;refine hC.out.mono ?_;rintro e w5 ⟨_, rfl, rfl, hd⟩;have hN := zbt hc hd;have hj := hi.below hd;generalize hK : 1 / D = K at *;have ze := hid hK;clear hK hc hd hi hC;go_wp2_with fail;refine (md0 a y b v (2 * k + 1) (by omega) (by omega) G.out.2.2.2.2.1 G.out.2.1 G.out.2.2.2.2.2 G.out.2.2.2.1 _ hj).mono ?_;rintro e w6 ⟨_, rfl, rfl, he⟩;have hO := zbt hN he;have hk := hj.below he;clear hN he hj;generalize hL : mQQ a y b v = M1 at *;have zf := hid hL;clear hL;go_wp2_with fail;refine (rMa K M1 6000 (by omega) (by omega) K3.out.2.2.2 (K3.out.2.1.mono (by omega)) _ hk).mono ?_;rintro e w7 ⟨_, rfl, rfl, hh⟩;have h6 := zbt hO hh;have hl := hk.below hh;clear hO hh hk;go_wp2_with fail;refine (md0 x a u b (2 * k + 1) (by omega) (by omega) G.out.1 G.out.2.2.2.2.1 G.out.2.2.1 G.out.2.2.2.2.2 _ hl).mono ?_;rintro e w8 ⟨_, rfl, rfl, g⟩;have h7 := zbt h6 g;have hT := hl.below g;clear h6 g hl;generalize hM : mQQ x a u b = M2 at *;have zg := hid hM;clear hM;go_wp2_with fail;refine (rMa K M2 6000 (by omega) (by omega) K3.out.2.2.2 (K3.out.2.2.1.mono (by omega)) _ hT).mono ?_;rintro e w9 ⟨_, rfl, rfl, h8⟩;have f := zbt h7 h8;have E := hy.below f (by omega);have hG : Below w.heap.size w w9 := zj.trans (f.mono (by omega));have x0 := E.cell 0 rfl;have x1 := E.cell 1 rfl;have y0 := E.frozen 0;have y1 := E.frozen 1;clear h7 h8 hT hy f;go_wp2_with fail;have zi := (hG.setCell (p := ⟨w.heap.size + 1, 0, none⟩) (by show w.heap.size <= w.heap.size + 1; omega) (.string (RS (K * M1)))).setCell (p := ⟨w.heap.size + 1, 1, none⟩) (by show w.heap.size <= w.heap.size + 1; omega) (.string (RS (K * M2)));have BF := (E.set 0 (.string (RS (K * M1)))).set 1 (.string (RS (K * M2)));have g0 := BF.cell 0 rfl;have g1 := BF.cell 1 rfl;exact bodyPost_ret (v := .agg #[.string (RS (K * M1)), .string (RS (K * M2))]) (by simp [results, Tryz.results55, go_sem, g0, g1]) rfl ⟨_, rfl, by rw [HX.out, HY.out, HU.out, HV.out, HA.out, z8.out, zd.out, ze.out, zf.out, zg.out], zi⟩
theorem RdQ.toS {w : World} {v : Value} {F : List Rat} (h : RdQ w v F) : RdS w v (F.map RS) := by
 unfold RdQ at h;unfold RdS;rw [List.length_map, List.map_map];exact h
theorem eFo {n : Nat} {F : List Rat} (Z : F.length = n) (Y : ∀ q ∈ F, Sz 200 q) : errF n (F.map RS) = 0 := by
 rw [eFn (by rw [List.length_map]; exact Z)];have : allQ (F.map RS) = true := by
  unfold allQ;rw [List.all_map];refine List.all_eq_true.2 fun q hq => ?_;simp only [Function.comp_apply];rw [Rlt];exact rQR (Y q hq)
 rw [this]; rfl
theorem sC0 {k : Nat} {F : List Rat} (Z : 0 < k) (Y : k <= 200) (X : ∀ q ∈ F, Sz k q) : ∀ s ∈ F.map RS, s.size < 1000000000 := fun s hs' => by
 obtain ⟨q, hq, rfl⟩ := List.mem_map.1 hs';have := (X q hq).size Z;omega
structure FieldIn (w : World) (vp vt vf : Value) (P : List PtQ) (T : List Tri) (k : Nat) (F : List Rat) : Prop where
 p : RdP w vp (strP P)
 t : RdT w vt T
 m : MeshOK P T k
 f : RdQ w vf F
 fs : ∀ q ∈ F, Sz k q
 fl : F.length = P.length
theorem FieldIn.below {w w' : World} {vp vt vf : Value} {P : List PtQ} {T : List Tri} {k : Nat} {F : List Rat} (h : FieldIn w vp vt vf P T k F) (Z : Below w.heap.size w w') : FieldIn w' vp vt vf P T k F :=
 ⟨RdC.below h.p Z, RdC.below h.t Z, h.m, RdC.below h.f Z, h.fs, h.fl⟩
theorem FieldIn.err {w : World} {vp vt vf : Value} {P : List PtQ} {T : List Tri} {k : Nat} {F : List Rat} (h : FieldIn w vp vt vf P T k F) : errF P.length (F.map RS) = 0 :=
 eFo h.fl fun q hq => (h.fs q hq).mono h.m.klim2
theorem FieldIn.open {w : World} {vp vt vf : Value} {P : List PtQ} {T : List Tri} {k : Nat} {F : List Rat} (h : FieldIn w vp vt vf P T k F) : ∃ U Y S X V Z, vp = .slice U P.length Y /\ vt = .slice S T.length X /\ vf = .slice V F.length Z := by
 obtain ⟨U, Y, R, _⟩ := h.p.open;obtain ⟨S, X, Q, _⟩ := h.t.open;obtain ⟨V, Z, O, _⟩ := h.f.open;rw [sPl] at R;exact ⟨U, Y, S, X, V, Z, R, Q, O⟩
theorem cg0 {w : World} {vp vt vf : Value} {P : List PtQ} {T : List Tri} {k : Nat} {F : List Rat} (h : FieldIn w vp vt vf P T k F) (b : Nat) (Z : w.cell? ⟨b, 0, none⟩ = some vf) (Y : Good w) :
 Calls Tryz.prog 36 #[.agg #[vp, vt], .slice (some ⟨b, 0, none⟩) 1 1] w (Ret (fun r _ => r = .int .i64 0) w) := by
 have := cx0 w vp vt vf P T k (F.map RS) h.p h.t h.m h.f.toS (sC0 h.m.kpos h.m.klim2 h.fs) (by rw [List.length_map, h.fl]; have := h.m.plen; omega) b Z Y;rw [h.err] at this;exact this
def sTT (P : List PtQ) (F : List Rat) (tr : Tri) : PtQ := sQQ (ptI P tr.1) (ptI P tr.2.1) (ptI P tr.2.2) (hI F tr.1) (hI F tr.2.1) (hI F tr.2.2)
theorem fd0 (w : World) (vp vt vf : Value) (P : List PtQ) (T : List Tri) (k : Nat) (F : List Rat) (h : FieldIn w vp vt vf P T k F) (t : Nat) (C : Int) (s : C = (t : Int)) (x : t < T.length) (tr : Tri) (I : tr = T[t]) (n : SzP 200 (sTT P F tr)) (y : Good w) :
 Calls Tryz.prog 20 #[.agg #[vp, vt], vf, .int .i64 C] w (Ret (fun r _ => r = .tuple #[.agg #[.string (RS (sTT P F tr).1), .string (RS (sTT P F tr).2)], .int .i64 0]) w) := by
 have HH := hid h;obtain ⟨E, H, D, G, m, o, rfl, rfl, rfl⟩ := h.open;have h0 : ¬ C < 0 := by omega
 have h2 : C < (T.length : Int) := by omega
 have j := hid (n.right (Nat.le_refl _));have h3 := n.1.size (by omega);have h4 := n.2.size (by omega);have i : Hid (∀ (w : World), FieldIn w (.slice E P.length H) (.slice D T.length G) (.slice m F.length o) P T k F -> Good w -> Calls Tryz.prog 55 #[.agg #[.slice E P.length H, .slice D T.length G], .slice m F.length o, .int .i64 C] w
  (Ret (fun r _ => r = .agg #[.string (RS (sTT P F tr).1), .string (RS (sTT P F tr).2)]) w)) := fun w h y =>
  sl0 w _ _ _ P T k F h.p h.t h.m.toMIn h.m.klim2 h.f h.fs h.fl t C s x tr I (by
   have := h.m.turns tr (by rw [I]; exact List.getElem_mem x);exact this) y
 generalize sTT P F tr = S at *;clear h s I n;go_enter Tryz.func20, Tryz.ntmps20;go_wp2_with fail;obtain ⟨q, Z⟩ := zex (((w.alloc (.cells #[.slice E P.length H, .slice D T.length G] 35)).alloc (.cells #[.string ⟨#[]⟩, .string ⟨#[]⟩] 50)).alloc (.cells #[.slice m F.length o] 38));have X : Below w.heap.size w q := by rw [Z]; exact (((Below.refl _ _).alloc (Nat.le_refl _) _).alloc (by simp) _).alloc (by simp; omega) _
 have f : BoxN q w.heap.size 35 [.slice E P.length H, .slice D T.length G] := by
  rw [Z];have A := (BoxN.new w #[.slice E P.length H, .slice D T.length G] 35 _ rfl);exact (A.below ((Below.refl _ _).alloc (Nat.le_refl _) (.cells #[.string ⟨#[]⟩, .string ⟨#[]⟩] 50)) A.lt).below (((Below.refl _ _).alloc (Nat.le_refl _) _)) (by simp; omega)
 have d : BoxN q (w.heap.size + 1) 50 [.string ⟨#[]⟩, .string ⟨#[]⟩] := by
  rw [Z];have A := (BoxN.new (w.alloc (.cells #[.slice E P.length H, .slice D T.length G] 35)) #[.string ⟨#[]⟩, .string ⟨#[]⟩] 50 (w.heap.size + 1) (by simp));exact A.below (zal _ _) A.lt
 have c0 : q.cell? ⟨w.heap.size + 2, 0, none⟩ = some (.slice m F.length o) := by rw [Z]; exact cst _ _ _ _ (by simp)
 rw [<- Z];clear Z;refine (cg0 (HH.out.below X) (w.heap.size + 2) c0 (y.below X)).mono ?_;rintro e w1 ⟨_, rfl, rfl, R⟩;have V := zbt X R;have N := f.below R f.lt;have M := d.below R d.lt;have x0 := N.cell 0 rfl;have x1 := N.cell 1 rfl;clear f d c0 R X;go_wp2_with fail;refine (i.out w1 (HH.out.below V) (y.below V)).mono ?_;rintro e l ⟨_, rfl, rfl, J⟩;have z := zbt V J;have L := M.below J M.lt;have hz := L.lt;clear N M x0 x1 J V;go_wp2_with fail;obtain ⟨g, U⟩ := zex (l.alloc (.cells #[.string (RS S.1), .string (RS S.2)] 50));have Q : Below l.heap.size l g := by rw [U]; exact zal _ _
 have c : BoxN g l.heap.size 50 [.string (RS S.1), .string (RS S.2)] := by rw [U]; exact BoxN.new _ _ _ _ rfl
 rw [<- U];clear U;have K := zbt z Q;refine (cPa (RS S.1) (RS S.2) (by omega) (by omega) g (y.below K)).mono ?_;rintro e w4 ⟨_, rfl, rfl, O⟩;rw [j.out];have b := zbt K O;have B := c.below O c.lt;have Y := (L.below Q hz).below O (Nat.lt_of_lt_of_le hz Q.size);have y0 := B.cell 0 rfl;have y1 := B.cell 1 rfl;have u0 := Y.cell 0 rfl;have u1 := Y.cell 1 rfl;have v0 := Y.frozen 0;have v1 := Y.frozen 1;clear c L Q O K z;go_wp2_with fail;have a := (b.setCell (p := ⟨w.heap.size + 1, 0, none⟩) (by show w.heap.size <= w.heap.size + 1; omega) (.string (RS S.1))).setCell (p := ⟨w.heap.size + 1, 1, none⟩) (by show w.heap.size <= w.heap.size + 1; omega) (.string (RS S.2));have BF := (Y.set 0 (.string (RS S.1))).set 1 (.string (RS S.2));have g0 := BF.cell 0 rfl;have g1 := BF.cell 1 rfl;exact bodyPost_ret (v := .tuple #[.agg #[.string (RS S.1), .string (RS S.2)], .int .i64 0]) (by simp [results, Tryz.results20, go_sem, g0, g1]) rfl ⟨_, rfl, rfl, a⟩
structure PairIn (w : World) (vp vt vl vu : Value) (P : List PtQ) (T : List Tri) (k : Nat) (L U : List Rat) : Prop where
 l : FieldIn w vp vt vl P T k L
 u : FieldIn w vp vt vu P T k U
theorem PairIn.below {w w' : World} {vp vt vl vu : Value} {P : List PtQ} {T : List Tri} {k : Nat} {L U : List Rat} (h : PairIn w vp vt vl vu P T k L U) (Z : Below w.heap.size w w') : PairIn w' vp vt vl vu P T k L U :=
 ⟨h.l.below Z, h.u.below Z⟩
theorem PairIn.open {w : World} {vp vt vl vu : Value} {P : List PtQ} {T : List Tri} {k : Nat} {L U : List Rat} (h : PairIn w vp vt vl vu P T k L U) : ∃ X Z V Y pl cl pu cu, vp = .slice X P.length Z /\ vt = .slice V T.length Y /\ vl = .slice pl L.length cl /\ vu = .slice pu U.length cu := by
 obtain ⟨X, Z, V, Y, K, S, Q, O, N⟩ := h.l.open;obtain ⟨_, _, _, _, J, R, _, _, M⟩ := h.u.open;exact ⟨X, Z, V, Y, K, S, J, R, Q, O, N, M⟩
theorem RtL {p q : Rat} (h : (RS p).toList = (RS q).toList) : p = q := by
 rw [btL, btL, Rlt, Rlt] at h;exact Rij h
theorem tps (Z Y : PtQ) : (Z = Y /\ (RS Z.1).toList = (RS Y.1).toList /\ (RS Z.2).toList = (RS Y.2).toList) \/ (Z ≠ Y /\ ((¬ (RS Z.1).toList = (RS Y.1).toList) \/ ((RS Z.1).toList = (RS Y.1).toList /\ ¬ (RS Z.2).toList = (RS Y.2).toList))) := by
 by_cases h1 : Z.1 = Y.1
 ·by_cases h2 : Z.2 = Y.2
  ·exact .inl ⟨Prod.ext h1 h2, by rw [h1], by rw [h2]⟩
  ·exact .inr ⟨fun e => h2 (by rw [e]), .inr ⟨by rw [h1], fun e => h2 (RtL e)⟩⟩
 ·exact .inr ⟨fun e => h1 (by rw [e]), .inl fun e => h1 (RtL e)⟩
theorem FieldIn.tri {w : World} {vp vt vf : Value} {P : List PtQ} {T : List Tri} {k : Nat} {F : List Rat} (h : FieldIn w vp vt vf P T k F) (t : Nat) (Y : t < T.length) : ∃ b off Z, vt = .slice (some ⟨b, off, none⟩) T.length Z /\ b < w.heap.size /\
 w.cell? ⟨b, off + t * 3, none⟩ = some (.int .i64 T[t].1) /\ w.cell? ⟨b, off + t * 3 + 1, none⟩ = some (.int .i64 T[t].2.1) /\ w.cell? ⟨b, off + t * 3 + 2, none⟩ = some (.int .i64 T[t].2.2) := by
 obtain ⟨O, Z, rfl, _, _, Q⟩ := h.t.open;obtain ⟨b, off, rfl, S, R⟩ := Q (List.ne_nil_of_length_pos (by omega));obtain ⟨X, V, U⟩ := R t Y;exact ⟨b, off, Z, rfl, S, X, V, U⟩
theorem FieldIn.hgt {w : World} {vp vt vf : Value} {P : List PtQ} {T : List Tri} {k : Nat} {F : List Rat} (h : FieldIn w vp vt vf P T k F) (m : Nat) (Z : m < F.length) : ∃ b off Y, vf = .slice (some ⟨b, off, none⟩) F.length Y /\ b < w.heap.size /\
 w.cell? ⟨b, off + m, none⟩ = some (.string (RS (hI F (m : Int)))) := by
 obtain ⟨S, Y, rfl, _, _, U⟩ := h.f.open;obtain ⟨b, off, rfl, X, V⟩ := U (by intro e; rw [e] at Z; simp at Z);exact ⟨b, off, Y, rfl, X, by rw [he0 F m Z]; exact V m Z⟩
theorem rDz (p : Rat) (w : World) :
 Calls Tryz.prog 70 #[.string (RS p), .string (RS 0)] w (Ret (fun v _ => v = .tuple #[.string ⟨#[]⟩, .int .i64 17]) w) := by
 have Z := Re4 0;rw [decide_eq_true rfl] at Z;generalize RS 0 = s at *;go_enter Tryz.func70, Tryz.ntmps70;go_wp2_with fail;go_ret2;exact ⟨_, rfl, rfl, Below.refl _ _⟩
theorem cos (w : World) (x : ByteArray) (E : Nat) : ∀ (j : Nat) (u : Value), [Value.string x][j]? = some u -> (w.alloc (.cells #[.string x] E)).cell? ((⟨w.heap.size, 0, none⟩ : Addr).add j) = some u := cell_one_new _ _ _
theorem ocs (x : ByteArray) : ∀ u ∈ [Value.string x], u.oneCell' = true := by intro u Z; simp at Z; subst Z; rfl
theorem isr : ((Tryz.prog).info? 40).map (fun i => (i.zero, i.size, i.bytes)) = some (some (.string ⟨#[]⟩), 1, 16) := by kernel_rfl
theorem tsc {α : Type} (l : List α) (i : Nat) (x : α) (h : l[i]? = some x) : l.take (i + 1) = l.take i ++ [x] := by
 obtain ⟨Z, hx⟩ := List.getElem?_eq_some_iff.1 h;rw [List.take_succ_eq_append_getElem Z, hx]
def cNN (ps : List (Int × Int)) : List Value := ps.flatMap fun p => [.int .i64 p.1, .int .i64 p.2]
def RdN (w : World) (v : Value) (ps : List (Int × Int)) : Prop := RdC 2 w v ps.length (cNN ps)
theorem RdN.open {w : World} {v : Value} {ps : List (Int × Int)} (h : RdN w v ps) : ∃ p c, v = .slice p ps.length c /\ ps.length <= c /\ c <= maxLen /\
 (ps ≠ [] -> ∃ b off, p = some ⟨b, off, none⟩ /\ b < w.heap.size /\ ∀ (i : Nat) (Y : i < ps.length), w.cell? ⟨b, off + i * 2, none⟩ = some (.int .i64 ps[i].1) /\ w.cell? ⟨b, off + i * 2 + 1, none⟩ = some (.int .i64 ps[i].2)) := by
 obtain ⟨p, c, Q, V, U, O, S⟩ := h;refine ⟨p, c, Q, V, U, fun hne => ?_⟩;obtain ⟨b, off, R, X⟩ := S (by
  cases ps with
  | nil => exact absurd rfl hne
  | cons a l => simp [cNN])
 have Z : ∀ (i : Nat) (Y : i < ps.length), w.cell? ⟨b, off + i * 2, none⟩ = some (.int .i64 ps[i].1) /\ w.cell? ⟨b, off + i * 2 + 1, none⟩ = some (.int .i64 ps[i].2) := fun i Y => by
  have e := gEf (fun p : Int × Int => [Value.int .i64 p.1, .int .i64 p.2]) 2 (fun _ => rfl) ps i;refine ⟨?_, ?_⟩
  ·have := X (i * 2) (.int .i64 ps[i].1) (by have := e 0 (by omega); rw [Nat.add_zero] at this; unfold cNN; rw [this, List.getElem?_eq_getElem Y]; rfl)
   exact this
  ·have := X (i * 2 + 1) (.int .i64 ps[i].2) (by have := e 1 (by omega); unfold cNN; rw [this, List.getElem?_eq_getElem Y]; rfl)
   rw [<- Nat.add_assoc] at this;exact this
 exact ⟨b, off, R, World.block_lt_of_cell? w _ (Z 0 (List.length_pos_iff.2 hne)).1, Z⟩
theorem RdC.fresh (sz : Nat) (w : World) (cs : Array Value) (U n : Nat) (X : cs.size = n * sz) (V : n <= 1000) (l : List Value) (Z : cs.toList = l) (g : Nat) (Y : g = w.heap.size) :
 RdC sz (w.alloc (.cells cs U)) (.slice (some ⟨g, 0, none⟩) n n) n l := by
 subst Y;subst Z;refine ⟨some ⟨w.heap.size, 0, none⟩, n, rfl, Nat.le_refl _, Nat.le_trans V (by decide), by rw [Array.length_toList]; exact X, fun _ => ⟨w.heap.size, 0, rfl, fun i x hx => ?_⟩⟩;rw [World.cell?_alloc_at _ _ _ _ rfl];simpa using hx
def sc0 : Nat -> List (Int × Int)
 | 0 => [(0, 0), (4, 0), (4, 4), (0, 4)]
 | 1 => [(0, 0), (4, 0), (4, 4), (0, 4)]
 | 2 => [(0, 0), (4, 0), (4, 4), (0, 4), (2, 1)]
 | 3 => [(0, 0), (6, 0), (0, 4)]
 | 4 => [(0, 0), (2, 0), (4, 0), (0, 2), (2, 2), (4, 2)]
 | 5 => [(1, 4), (5, 3), (4, 0), (0, 0)]
 | 6 => [(0, 0), (4, 0), (4, 4), (0, 4), (2, 0)]
 | _ => [(0, 0), (6, 0), (0, 6), (2, 2)]
def sa0 : Nat -> List Tri
 | 0 => [(0, 1, 2), (0, 2, 3)]
 | 1 => [(0, 1, 3), (1, 2, 3)]
 | 2 => [(0, 1, 4), (1, 2, 4), (2, 3, 4), (3, 0, 4)]
 | 3 => [(2, 0, 1)]
 | 4 => [(0, 1, 4), (0, 4, 3), (1, 2, 5), (1, 5, 4)]
 | 5 => [(3, 2, 1), (3, 1, 0)]
 | 6 => [(0, 4, 3), (4, 2, 3), (4, 1, 2)]
 | _ => [(0, 1, 3), (1, 2, 3), (2, 0, 3)]
theorem ipr : ((Tryz.prog).info? 83).map (fun i => (i.zero, i.size, i.bytes)) = some (some (.agg #[.int .i64 0, .int .i64 0]), 2, 16) := by kernel_rfl
theorem cto (w : World) (x y : Value) (E : Nat) : ∀ (j : Nat) (u : Value), [x, y][j]? = some u -> (w.alloc (.cells #[x, y] E)).cell? ((⟨w.heap.size, 0, none⟩ : Addr).add j) = some u := World.news_of_block (cs := #[x, y]) (t := E) (fr := (0, 0)) (World.alloc_heap_new w _)
theorem sw0 (w : World) (U : Int) (k : Nat) (I : U.tmod 8 = (k : Int)) (S : 0 <= U) (L : U <= 255) (_hg : Good w) :
 Calls Tryz.prog 23 #[.int .u8 U] w (Ret (fun r w' => ∃ vp vt, r = .tuple #[vp, vt] /\ RdN w' vp (sc0 k) /\ RdT w' vt (sa0 k)) w) := by
 have C : k <= 7 := by
  have z : U.tmod 8 = U % 8 := Int.tmod_eq_emod_of_nonneg S;omega
 have H : U % 8 = (k : Int) := by rw [<- I]; exact (Int.tmod_eq_emod_of_nonneg S).symm
 obtain ⟨G, J, O, N, M⟩ := info_parts ipr;have hw : IntKind.u8.wrap (U.tmod 8) = (k : Int) := by rw [I]; rcases (by omega : k = 0 \/ k = 1 \/ k = 2 \/ k = 3 \/ k = 4 \/ k = 5 \/ k = 6 \/ k = 7) with rfl | rfl | rfl | rfl | rfl | rfl | rfl | rfl <;> rfl
 have E := hid S;have D := hid L;rcases (by omega : k = 0 \/ k = 1 \/ k = 2 \/ k = 3 \/ k = 4 \/ k = 5 \/ k = 6 \/ k = 7) with rfl | rfl | rfl | rfl | rfl | rfl | rfl | rfl
 ·go_enter Tryz.func23, Tryz.ntmps23
  go_wp2_with fail;go_ret2;exact ⟨_, rfl, ⟨_, _, rfl, (RdC.fresh 2 w _ _ 4 rfl (by omega) _ rfl _ rfl).alloc _, RdC.fresh 3 _ _ _ 2 rfl (by omega) _ rfl _ (by simp)⟩, ((Below.refl _ _).alloc (Nat.le_refl _) _).alloc (by simp) _⟩
 ·go_enter Tryz.func23, Tryz.ntmps23
  go_wp2_with fail;go_ret2;exact ⟨_, rfl, ⟨_, _, rfl, (RdC.fresh 2 w _ _ 4 rfl (by omega) _ rfl _ rfl).alloc _, RdC.fresh 3 _ _ _ 2 rfl (by omega) _ rfl _ (by simp)⟩, ((Below.refl _ _).alloc (Nat.le_refl _) _).alloc (by simp) _⟩
 ·go_enter Tryz.func23, Tryz.ntmps23
  have X : ((w.alloc (.cells #[.int .i64 0, .int .i64 0, .int .i64 4, .int .i64 0, .int .i64 4, .int .i64 4, .int .i64 0, .int .i64 4] 83)).alloc (.cells #[.int .i64 2, .int .i64 1] 83)).ownsRow w.heap.size 83 2 (.slice (some ⟨w.heap.size, 0, none⟩) 4 4) 4 [.int .i64 0, .int .i64 0, .int .i64 4, .int .i64 0, .int .i64 4, .int .i64 4, .int .i64 0, .int .i64 4] := (World.ownsRow_lit w _ 4 (Nat.le_refl _) (by decide) rfl).alloc _
  go_wp2_with (at_builtin; refine wpList_append_own _ rfl _ _ 79 rfl w.heap.size 83 G (.agg #[.int .i64 0, .int .i64 0]) 2 16 Tryz.underlying79 J O N M rfl (by decide) _ _ _ rfl X ⟨w.heap.size + 1, 0, none⟩ 1 1 [.int .i64 2, .int .i64 1] rfl rfl (by have := cto (w.alloc (.cells #[.int .i64 0, .int .i64 0, .int .i64 4, .int .i64 0, .int .i64 4, .int .i64 4, .int .i64 0, .int .i64 4] 83)) (.int .i64 2) (.int .i64 1) 83; simpa using this) (by intro u Q; simp at Q; rcases Q with rfl | rfl <;> rfl) (by decide) (by omega) (by simp; omega) ?_
               intro A K Y Z _;obtain ⟨B, c2, rfl⟩ := oRs Y;have V : Below w.heap.size w K := (((Below.refl _ _).alloc (Nat.le_refl _) _).alloc (by simp) _).grown Z (by simp; omega) (fun j hj => by have := (X.lt j hj).1; omega);clear Z)
  go_ret2;have R := V.size;exact ⟨_, rfl, ⟨_, _, rfl, (RdC.of_owns Y).alloc _, RdC.fresh 3 _ _ _ 4 rfl (by omega) _ rfl _ (by simp)⟩, V.alloc R _⟩
 ·go_enter Tryz.func23, Tryz.ntmps23
  go_wp2_with fail;go_ret2;exact ⟨_, rfl, ⟨_, _, rfl, (RdC.fresh 2 _ _ _ 3 rfl (by omega) _ rfl _ (by simp)).alloc _, RdC.fresh 3 _ _ _ 1 rfl (by omega) _ rfl _ (by simp)⟩, (((Below.refl _ _).alloc (Nat.le_refl _) _).alloc (by simp) _).alloc (by simp; omega) _⟩
 ·go_enter Tryz.func23, Tryz.ntmps23
  go_wp2_with fail;go_ret2;exact ⟨_, rfl, ⟨_, _, rfl, (RdC.fresh 2 _ _ _ 6 rfl (by omega) _ rfl _ (by simp)).alloc _, RdC.fresh 3 _ _ _ 4 rfl (by omega) _ rfl _ (by simp)⟩, (((Below.refl _ _).alloc (Nat.le_refl _) _).alloc (by simp) _).alloc (by simp; omega) _⟩
 ·go_enter Tryz.func23, Tryz.ntmps23
  go_wp2_with fail;go_ret2;exact ⟨_, rfl, ⟨_, _, rfl, (RdC.fresh 2 _ _ _ 4 rfl (by omega) _ rfl _ (by simp)).alloc _, RdC.fresh 3 _ _ _ 2 rfl (by omega) _ rfl _ (by simp)⟩, (((Below.refl _ _).alloc (Nat.le_refl _) _).alloc (by simp) _).alloc (by simp; omega) _⟩
 ·go_enter Tryz.func23, Tryz.ntmps23
  have X : ((w.alloc (.cells #[.int .i64 0, .int .i64 0, .int .i64 4, .int .i64 0, .int .i64 4, .int .i64 4, .int .i64 0, .int .i64 4] 83)).alloc (.cells #[.int .i64 2, .int .i64 0] 83)).ownsRow w.heap.size 83 2 (.slice (some ⟨w.heap.size, 0, none⟩) 4 4) 4 [.int .i64 0, .int .i64 0, .int .i64 4, .int .i64 0, .int .i64 4, .int .i64 4, .int .i64 0, .int .i64 4] := (World.ownsRow_lit w _ 4 (Nat.le_refl _) (by decide) rfl).alloc _
  go_wp2_with (at_builtin; refine wpList_append_own _ rfl _ _ 79 rfl w.heap.size 83 G (.agg #[.int .i64 0, .int .i64 0]) 2 16 Tryz.underlying79 J O N M rfl (by decide) _ _ _ rfl X ⟨w.heap.size + 1, 0, none⟩ 1 1 [.int .i64 2, .int .i64 0] rfl rfl (by have := cto (w.alloc (.cells #[.int .i64 0, .int .i64 0, .int .i64 4, .int .i64 0, .int .i64 4, .int .i64 4, .int .i64 0, .int .i64 4] 83)) (.int .i64 2) (.int .i64 0) 83; simpa using this) (by intro u Q; simp at Q; rcases Q with rfl | rfl <;> rfl) (by decide) (by omega) (by simp; omega) ?_
               intro A K Y Z _;obtain ⟨B, c2, rfl⟩ := oRs Y;have V : Below w.heap.size w K := (((Below.refl _ _).alloc (Nat.le_refl _) _).alloc (by simp) _).grown Z (by simp; omega) (fun j hj => by have := (X.lt j hj).1; omega);clear Z)
  go_ret2;have R := V.size;exact ⟨_, rfl, ⟨_, _, rfl, (RdC.of_owns Y).alloc _, RdC.fresh 3 _ _ _ 3 rfl (by omega) _ rfl _ (by simp)⟩, V.alloc R _⟩
 ·go_enter Tryz.func23, Tryz.ntmps23
  go_wp2_with fail;go_ret2;exact ⟨_, rfl, ⟨_, _, rfl, (RdC.fresh 2 _ _ _ 4 rfl (by omega) _ rfl _ (by simp)).alloc _, RdC.fresh 3 _ _ _ 3 rfl (by omega) _ rfl _ (by simp)⟩, (((Below.refl _ _).alloc (Nat.le_refl _) _).alloc (by simp) _).alloc (by simp; omega) _⟩
theorem RdQ.fresh (w : World) (Y : List Rat) (V : Nat) (cs : Array Value) (Z : cs.toList = Y.map fun x => Value.string (RS x)) (U : Y.length <= 1000) (n : Nat) (S : n = Y.length) (g : Nat) (X : g = w.heap.size) :
 RdQ (w.alloc (Obj.cells cs V)) (.slice (some ⟨g, 0, none⟩) n n) Y := by
 subst S;exact RdC.fresh 1 w cs V _ (by rw [<- Array.length_toList, Z, List.length_map]; omega) U _ Z g X
theorem dcl (X : World) (p : Addr) : X.drew.cell? p = X.cell? p := rfl
theorem cf6 (X : World) (b : Nat) (Z Y V U S R : Value) (p : Addr) (h : b ≠ p.block) :
 ((((((X.setCell ⟨b, 0, none⟩ Z).setCell ⟨b, 1, none⟩ Y).setCell ⟨b, 2, none⟩ V).setCell ⟨b, 3, none⟩ U).setCell ⟨b, 4, none⟩ S).setCell ⟨b, 5, none⟩ R).drew.cell? p = X.cell? p := by
 rw [dcl, World.cell?_setCell_far _ _ _ _ h, World.cell?_setCell_far _ _ _ _ h, World.cell?_setCell_far _ _ _ _ h, World.cell?_setCell_far _ _ _ _ h, World.cell?_setCell_far _ _ _ _ h, World.cell?_setCell_far _ _ _ _ h]
theorem mb0 (w : World) (vp vt : Value) (P : List PtQ) (T : List Tri) (k : Nat) (hp : RdP w vp (strP P)) (ht : RdT w vt T) (hm : MIn P T k) (t : Nat) (tz : Int) (hj : tz = (t : Int)) (a : t < T.length) (tr : Tri) (s : tr = T[t]) :
 Calls Tryz.prog 78 #[.agg #[vp, vt], .int .i64 tz] w (Ret (fun r _ => r = .agg #[.string (RS (ptI P tr.1).1), .string (RS (ptI P tr.1).2), .string (RS (ptI P tr.2.1).1), .string (RS (ptI P tr.2.1).2), .string (RS (ptI P tr.2.2).1), .string (RS (ptI P tr.2.2).2)]) w) := by
 obtain ⟨pp, x, rfl, hi, hl, b⟩ := hp.open;obtain ⟨pt, ct, rfl, hn, ho, E⟩ := ht.open;rw [sPl] at hi ⊢;obtain ⟨bt, ot, rfl, hk, Q⟩ := E (List.ne_nil_of_length_pos (by omega));obtain ⟨e0, e1, e2⟩ := Q t a;have U := hm.idx tr (by rw [s]; exact List.getElem_mem a);rw [<- s] at e0 e1 e2;obtain ⟨o, n, m⟩ := tr;dsimp only at U e0 e1 e2 ⊢;obtain ⟨h0, ha⟩ := U o (by simp [idxOf]);obtain ⟨hb, hc⟩ := U n (by simp [idxOf]);obtain ⟨hd, he⟩ := U m (by simp [idxOf]);obtain ⟨Y, rfl⟩ : ∃ q : Nat, o = (q : Int) := ⟨o.toNat, by omega⟩;obtain ⟨X, rfl⟩ : ∃ q : Nat, n = (q : Int) := ⟨n.toNat, by omega⟩;obtain ⟨V, rfl⟩ : ∃ q : Nat, m = (q : Int) := ⟨m.toNat, by omega⟩;have j : Y < P.length := by omega
 have i : X < P.length := by omega
 have g : V < P.length := by omega
 obtain ⟨Z, op, rfl, N, R⟩ := b (by intro e; have h := sPl P; rw [e] at h; simp at h; omega);rw [pIn P Y j, pIn P X i, pIn P V g];obtain ⟨M, L⟩ := R Y (by rw [sPl]; exact j);obtain ⟨K, J⟩ := R X (by rw [sPl]; exact i);obtain ⟨I, H⟩ := R V (by rw [sPl]; exact g);rw [sPg P Y j] at M L;rw [sPg P X i] at K J;rw [sPg P V g] at I H;dsimp only at M L K J I H;have f0 : (Y : Int) < (P.length : Int) := by omega
 have f1 : (X : Int) < (P.length : Int) := by omega
 have f2 : (V : Int) < (P.length : Int) := by omega
 have ft : (t : Int) < (T.length : Int) := by omega
 generalize RS P[Y].1 = x0s at *;generalize RS P[Y].2 = y0s at *;generalize RS P[X].1 = x1s at *;generalize RS P[X].2 = y1s at *;generalize RS P[V].1 = x2s at *;generalize RS P[V].2 = y2s at *;subst hj;clear s U b E Q R hp ht hm h0 ha hb hc hd he j i g;have i0 := iT0;have i1 := iT1;have i2 := iT2;go_enter Tryz.func78, Tryz.ntmps78;go_wp2_with fail;obtain ⟨W, f⟩ := zex (((w.alloc (.cells #[.slice (some ⟨Z, op, none⟩) P.length x, .slice (some ⟨bt, ot, none⟩) T.length ct] 35)).alloc (.cells #[.string ⟨#[]⟩, .string ⟨#[]⟩, .string ⟨#[]⟩, .string ⟨#[]⟩, .string ⟨#[]⟩, .string ⟨#[]⟩] 156)).alloc (.cells #[.int .i64 Y, .int .i64 X, .int .i64 V] 121));have G : Below w.heap.size w W := by rw [f]; exact (((Below.refl _ _).alloc (Nat.le_refl _) _).alloc (by simp) _).alloc (by simp; omega) _
 have c : BoxN W (w.heap.size + 1 + 1) 121 [.int .i64 Y, .int .i64 X, .int .i64 V] := by rw [f]; exact BoxN.new _ _ _ _ (by simp)
 have O : BoxN W (w.heap.size + 1) 156 [.string ⟨#[]⟩, .string ⟨#[]⟩, .string ⟨#[]⟩, .string ⟨#[]⟩, .string ⟨#[]⟩, .string ⟨#[]⟩] := by
  rw [f];have S := (BoxN.new (w.alloc (.cells #[.slice (some ⟨Z, op, none⟩) P.length x, .slice (some ⟨bt, ot, none⟩) T.length ct] 35)) #[.string ⟨#[]⟩, .string ⟨#[]⟩, .string ⟨#[]⟩, .string ⟨#[]⟩, .string ⟨#[]⟩, .string ⟨#[]⟩] 156 (w.heap.size + 1) (by simp));exact S.below (zal _ _) S.lt
 have b2 : BoxN W w.heap.size 35 [.slice (some ⟨Z, op, none⟩) P.length x, .slice (some ⟨bt, ot, none⟩) T.length ct] := by
  rw [f];have S := (BoxN.new w #[.slice (some ⟨Z, op, none⟩) P.length x, .slice (some ⟨bt, ot, none⟩) T.length ct] 35 _ rfl);exact S.below (((Below.refl _ _).alloc (Nat.le_refl _) _).alloc (by simp) _) S.lt
 rw [<- f];clear f;have x0 := b2.cell 0 rfl;have t0 := c.cell 0 rfl;have t1 := c.cell 1 rfl;have t2 := c.cell 2 rfl;have D := zcq G N M;have C := zcq G N L;have B := zcq G N K;have A := zcq G N J;have z := zcq G N I;have y := zcq G N H;have r0 := O.cell 0 rfl;have r1 := O.cell 1 rfl;have r2 := O.cell 2 rfl;have r3 := O.cell 3 rfl;have r4 := O.cell 4 rfl;have r5 := O.cell 5 rfl;have hq := O.frozen 0;have hr := O.frozen 1;have hs := O.frozen 2;have hu := O.frozen 3;have hv := O.frozen 4;have hw := O.frozen 5;have hz := c.lt;have n2 : w.heap.size + 1 ≠ w.heap.size := by omega
 have n5 : w.heap.size + 1 ≠ w.heap.size + 1 + 1 := by omega
 have d : w.heap.size + 1 ≠ Z := by omega
 have HS : Hid (W.drew.cell? ⟨w.heap.size, 0, none⟩ = some (.slice (some ⟨Z, op, none⟩) P.length x) /\ W.drew.cell? ⟨w.heap.size + 1 + 1, 0, none⟩ = some (.int .i64 Y) /\ W.drew.cell? ⟨w.heap.size + 1 + 1, 1, none⟩ = some (.int .i64 X) /\ W.drew.cell? ⟨w.heap.size + 1 + 1, 2, none⟩ = some (.int .i64 V) /\ W.drew.cell? ⟨Z, op + Y * 2, none⟩ = some (.string x0s) /\ W.drew.cell? ⟨Z, op + Y * 2 + 1, none⟩ = some (.string y0s) /\ W.drew.cell? ⟨Z, op + X * 2, none⟩ = some (.string x1s) /\ W.drew.cell? ⟨Z, op + X * 2 + 1, none⟩ = some (.string y1s) /\ W.drew.cell? ⟨Z, op + V * 2, none⟩ = some (.string x2s) /\ W.drew.cell? ⟨Z, op + V * 2 + 1, none⟩ = some (.string y2s)) := ⟨x0, t0, t1, t2, D, C, B, A, z, y⟩;have HT : Hid (W.cell? ⟨w.heap.size, 0, none⟩ = some (.slice (some ⟨Z, op, none⟩) P.length x) /\ W.cell? ⟨w.heap.size + 1 + 1, 0, none⟩ = some (.int .i64 Y) /\ W.cell? ⟨w.heap.size + 1 + 1, 1, none⟩ = some (.int .i64 X) /\ W.cell? ⟨w.heap.size + 1 + 1, 2, none⟩ = some (.int .i64 V) /\ W.cell? ⟨Z, op + Y * 2, none⟩ = some (.string x0s) /\ W.cell? ⟨Z, op + Y * 2 + 1, none⟩ = some (.string y0s) /\ W.cell? ⟨Z, op + X * 2, none⟩ = some (.string x1s) /\ W.cell? ⟨Z, op + X * 2 + 1, none⟩ = some (.string y1s) /\ W.cell? ⟨Z, op + V * 2, none⟩ = some (.string x2s) /\ W.cell? ⟨Z, op + V * 2 + 1, none⟩ = some (.string y2s)) := ⟨x0, t0, t1, t2, D, C, B, A, z, y⟩;clear M L K J I H e0 e1 e2;have hh := hid G;clear x0 t0 t1 t2 D C B A z y b2 c G;go_region_held3 (fun w' => w'.cell? ⟨w.heap.size, 0, none⟩ = some (.slice (some ⟨Z, op, none⟩) P.length x) /\ w'.cell? ⟨w.heap.size + 1 + 1, 0, none⟩ = some (.int .i64 Y) /\ w'.cell? ⟨w.heap.size + 1 + 1, 1, none⟩ = some (.int .i64 X) /\ w'.cell? ⟨w.heap.size + 1 + 1, 2, none⟩ = some (.int .i64 V) /\ w'.cell? ⟨Z, op + Y * 2, none⟩ = some (.string x0s) /\ w'.cell? ⟨Z, op + Y * 2 + 1, none⟩ = some (.string y0s) /\ w'.cell? ⟨Z, op + X * 2, none⟩ = some (.string x1s) /\ w'.cell? ⟨Z, op + X * 2 + 1, none⟩ = some (.string y1s) /\ w'.cell? ⟨Z, op + V * 2, none⟩ = some (.string x2s) /\ w'.cell? ⟨Z, op + V * 2 + 1, none⟩ = some (.string y2s))
  (first | with_reducible exact HS.out | (obtain ⟨S, h2, h3, h4, h5, h6, h7, h8, h9, hf⟩ := HT.out; with_reducible exact ⟨(cf6 _ _ _ _ _ _ _ _ _ n2).trans S, (cf6 _ _ _ _ _ _ _ _ _ n5).trans h2, (cf6 _ _ _ _ _ _ _ _ _ n5).trans h3, (cf6 _ _ _ _ _ _ _ _ _ n5).trans h4, (cf6 _ _ _ _ _ _ _ _ _ d).trans h5, (cf6 _ _ _ _ _ _ _ _ _ d).trans h6, (cf6 _ _ _ _ _ _ _ _ _ d).trans h7, (cf6 _ _ _ _ _ _ _ _ _ d).trans h8, (cf6 _ _ _ _ _ _ _ _ _ d).trans h9, (cf6 _ _ _ _ _ _ _ _ _ d).trans hf⟩))
  (fail)
 all_goals
  go_wp2_with fail;have l := (((((O.set 0 (.string x0s)).set 1 (.string y0s)).set 2 (.string x1s)).set 3 (.string y1s)).set 4 (.string x2s)).set 5 (.string y2s);have j := l.cell 0 rfl;have i := l.cell 1 rfl;have g := l.cell 2 rfl;have g3 := l.cell 3 rfl;have g4 := l.cell 4 rfl;have g5 := l.cell 5 rfl;have hg : Below w.heap.size w (((((((W.setCell ⟨w.heap.size + 1, 0, none⟩ (.string x0s)).setCell ⟨w.heap.size + 1, 1, none⟩ (.string y0s)).setCell ⟨w.heap.size + 1, 2, none⟩ (.string x1s)).setCell ⟨w.heap.size + 1, 3, none⟩ (.string y1s)).setCell ⟨w.heap.size + 1, 4, none⟩ (.string x2s)).setCell ⟨w.heap.size + 1, 5, none⟩ (.string y2s)).drew) := by
   have S : w.heap.size <= w.heap.size + 1 := by omega
   have := (((((hh.out.setCell (p := ⟨w.heap.size + 1, 0, none⟩) S (.string x0s)).setCell (p := ⟨w.heap.size + 1, 1, none⟩) S (.string y0s)).setCell (p := ⟨w.heap.size + 1, 2, none⟩) S (.string x1s)).setCell (p := ⟨w.heap.size + 1, 3, none⟩) S (.string y1s)).setCell (p := ⟨w.heap.size + 1, 4, none⟩) S (.string x2s)).setCell (p := ⟨w.heap.size + 1, 5, none⟩) S (.string y2s);exact this.trans ((bdN _ 1).mono this.size)
  exact bodyPost_ret (v := .agg #[.string x0s, .string y0s, .string x1s, .string y1s, .string x2s, .string y2s]) (by simp [results, Tryz.results78, go_sem, j, i, g, g3, g4, g5]) rfl ⟨_, rfl, rfl, hg⟩
def iBB (a b c p : PtQ) : Bool := decide (0 <= turnZ a b p) && decide (0 <= turnZ b c p) && decide (0 <= turnZ c a p)
theorem ij0 (a b c p : PtQ) (k : Nat) (x : 0 < k) (N : k <= 2000) (A : SzP k a) (z : SzP k b) (y : SzP k c) (G : SzP k p) (w : World) (Q : Good w) :
 Calls Tryz.prog 77 #[.agg #[.string (RS a.1), .string (RS a.2), .string (RS b.1), .string (RS b.2), .string (RS c.1), .string (RS c.2)], .agg #[.string (RS p.1), .string (RS p.2)]] w (Ret (fun r _ => r = .bool (iBB a b c p)) w) := by
 have m := hid fun w Q => tb0 a b p k x N A z G w Q;have l := hid fun w Q => tb0 b c p k x N z y G w Q;have j := hid fun w Q => tb0 c a p k x N y A G w Q;unfold iBB;unfold VP at m l j;generalize turnZ a b p = z1 at *;generalize turnZ b c p = z2 at *;generalize turnZ c a p = z3 at *;generalize RS a.1 = ax at *;generalize RS a.2 = ay at *;generalize RS b.1 = bx at *;generalize RS b.2 = by' at *;generalize RS c.1 = cx at *;generalize RS c.2 = cy at *;generalize RS p.1 = px at *;generalize RS p.2 = py at *;clear A z y G;go_enter Tryz.func77, Tryz.ntmps77;go_wp2_with fail;obtain ⟨W, J⟩ := zex ((w.alloc (.cells #[.string ax, .string ay, .string bx, .string by', .string cx, .string cy] 156)).alloc (.cells #[.string px, .string py] 50));have B : Below w.heap.size w W := by rw [J]; exact zal2 _ _ _
 have C : BoxN W (w.heap.size + 1) 50 [.string px, .string py] := by rw [J]; exact BoxN.new _ _ _ _ (by simp)
 have D : BoxN W w.heap.size 156 [.string ax, .string ay, .string bx, .string by', .string cx, .string cy] := by
  rw [J];have L := (BoxN.new w #[.string ax, .string ay, .string bx, .string by', .string cx, .string cy] 156 _ rfl);exact L.below (zal _ _) L.lt
 rw [<- J];clear J;refine (m.out W (Q.below B)).mono ?_;rintro e g ⟨_, rfl, rfl, S⟩;have V := zbt B S;have Z := D.below S D.lt;have X := C.below S C.lt;clear S B D C;rcases Int.lt_or_le z1 0 with L | L
 ·have M : decide (0 <= z1) = false := decide_eq_false (by omega)
  go_wp2_with fail;go_ret;exact ⟨_, rfl, by rw [M]; rfl, V⟩
 have v := Z.cell 0 rfl;have t := Z.cell 1 rfl;have d := Z.cell 2 rfl;have x3 := Z.cell 3 rfl;have s := Z.cell 4 rfl;have q := Z.cell 5 rfl;have o := X.cell 0 rfl;have n := X.cell 1 rfl;go_wp2_with fail;refine (l.out g (Q.below V)).mono ?_;rintro e f ⟨_, rfl, rfl, R⟩;have U := zbt V R;have Y := Z.below R Z.lt;have O := X.below R X.lt;have M : decide (0 <= z1) = true := decide_eq_true L;clear R V Z X v t d x3 s q o n;rcases Int.lt_or_le z2 0 with i | i
 ·have H : decide (0 <= z2) = false := decide_eq_false (by omega)
  go_wp2_with fail;go_ret;exact ⟨_, rfl, by rw [M, H]; rfl, U⟩
 have v := Y.cell 0 rfl;have t := Y.cell 1 rfl;have s := Y.cell 4 rfl;have q := Y.cell 5 rfl;have o := O.cell 0 rfl;have n := O.cell 1 rfl;go_wp2_with fail;refine (j.out f (Q.below U)).mono ?_;rintro e w3 ⟨_, rfl, rfl, I⟩;have K := zbt U I;have H : decide (0 <= z2) = true := decide_eq_true i;clear I U Y O v t s q o n;rcases Int.lt_or_le z3 0 with h | h
 ·have E : decide (0 <= z3) = false := decide_eq_false (by omega)
  go_wp2_with fail;go_ret;exact ⟨_, rfl, by rw [M, H, E]; rfl, K⟩
 ·have E : decide (0 <= z3) = true := decide_eq_true h
  go_wp2_with fail;go_ret;exact ⟨_, rfl, by rw [M, H, E]; rfl, K⟩
def iTT (P : List PtQ) (T : List Tri) (p : PtQ) (i : Nat) : Bool :=
 match T[i]? with
 | some tr => iBB (ptI P tr.1) (ptI P tr.2.1) (ptI P tr.2.2) p
 | none => false
def locN (P : List PtQ) (T : List Tri) (p : PtQ) (n : Nat) : List Int := ((List.range n).filter (iTT P T p)).map fun i : Nat => (i : Int)
theorem lNs (P : List PtQ) (T : List Tri) (p : PtQ) (n : Nat) : locN P T p (n + 1) = locN P T p n ++ (if iTT P T p n then [(n : Int)] else []) := by
 unfold locN;rw [List.range_succ, List.filter_append, List.map_append];congr 1;cases h : iTT P T p n <;> simp [h]
theorem lok (w : World) (o n : Value) (P : List PtQ) (T : List Tri) (k : Nat) (hp : RdP w o (strP P)) (ht : RdT w n T) (G : MeshOK P T k) (p : PtQ) (L : SzP 200 p) (hg : Good w) :
 Calls Tryz.prog 37 #[.agg #[o, n], .agg #[.string (RS p.1), .string (RS p.2)]] w (Ret (fun r w' => ∃ v, r = .tuple #[v, .int .i64 0] /\ RdI .i64 w' v (locN P T p T.length)) w) := by
 have hc := hid (L.right (Nat.le_refl _));have hD := L.1.size (by omega);have hE := L.2.size (by omega);have h9 : Hid (∀ w', Below w.heap.size w w' -> Good w' -> Calls Tryz.prog 33 #[.agg #[o, n]] w' (Ret (fun r _ => r = .int .i64 0) w')) := fun w' hb hg' => ci0 w' o n P T k (RdC.below hp hb) (RdC.below ht hb) G hg';have ha : Hid (∀ (i : Nat) (h : i < T.length) (w' : World), Below w.heap.size w w' -> Calls Tryz.prog 78 #[.agg #[o, n], .int .i64 (i : Int)] w' (Ret (fun r _ => r = .agg #[.string (RS (ptI P T[i].1).1), .string (RS (ptI P T[i].1).2), .string (RS (ptI P T[i].2.1).1), .string (RS (ptI P T[i].2.1).2), .string (RS (ptI P T[i].2.2).1), .string (RS (ptI P T[i].2.2).2)]) w')) :=
  fun i h w' hb => mb0 w' o n P T k (RdC.below hp hb) (RdC.below ht hb) G.toMIn i i rfl h T[i] rfl
 have hh : Hid (∀ (i : Nat) (h : i < T.length), SzP 200 (ptI P T[i].1) /\ SzP 200 (ptI P T[i].2.1) /\ SzP 200 (ptI P T[i].2.2)) := fun i h => by
  have a := G.idx T[i] (List.getElem_mem h);have key : ∀ z ∈ idxOf T[i], SzP 200 (ptI P z) := fun z hz => by
   obtain ⟨h0, l⟩ := a z hz;obtain ⟨q, rfl⟩ : ∃ q : Nat, z = (q : Int) := ⟨z.toNat, by omega⟩;rw [pIn P q (by omega)];have := G.sz _ (List.getElem_mem (show q < P.length by omega));exact ⟨this.1.mono G.klim2, this.2.mono G.klim2⟩
  exact ⟨key _ (by simp [idxOf]), key _ (by simp [idxOf]), key _ (by simp [idxOf])⟩
 have h2 := hp;have h5 := ht;obtain ⟨pp, cp, rfl, -, -, -⟩ := h2.open;obtain ⟨pt, ct, rfl, -, -, -⟩ := h5.open;have hA : T.length <= 800 := G.tlen;have hf := hid L;obtain ⟨i0, hi, h6, h7, h8⟩ := info_parts info_i64;generalize h3 : RS p.1 = px at *;generalize h4 : RS p.2 = py at *;have hd := hid h3;have he := hid h4;rw [sPl] at *;clear hp ht G h2 h5 L h3 h4;go_enter Tryz.func37, Tryz.ntmps37;go_wp2_with fail;obtain ⟨W, f⟩ := zex ((w.alloc (.cells #[.slice pp P.length cp, .slice pt T.length ct] 35)).alloc (.cells #[.string px, .string py] 50));have hB : Below w.heap.size w W := by rw [f]; exact zal2 _ _ _
 have e3 : BoxN W (w.heap.size + 1) 50 [.string px, .string py] := by rw [f]; exact BoxN.new _ _ _ _ (by simp)
 have e2 : BoxN W w.heap.size 35 [.slice pp P.length cp, .slice pt T.length ct] := by
  rw [f];have l := (BoxN.new w #[.slice pp P.length cp, .slice pt T.length ct] 35 _ rfl);exact l.below (zal _ _) l.lt
 rw [<- f];clear f;refine (h9.out W hB (hg.below hB)).mono ?_;rintro e w1 ⟨_, rfl, rfl, I⟩;have A := zbt hB I;have B := e2.below I e2.lt;have O := e3.below I e3.lt;have y0 := O.cell 0 rfl;have y1 := O.cell 1 rfl;clear I hB e2 e3;go_wp2_with fail;refine (cPa px py (by omega) (by omega) w1 (hg.below A)).mono ?_;rw [hc.out];rintro e E ⟨_, rfl, rfl, H⟩;have g := zbt A H;have R := B.below H B.lt;have N := O.below H O.lt;have hF := N.lt;have x1 := R.cell 1 rfl;clear H A B O y0 y1;go_wp2_with fail;go_loopw [7, 20] (fun t7 t20 wr => ∃ (i m : Nat), t20 = .int .i64 i /\ i <= T.length /\ m <= i /\ Hid ((locN P T p i).length = m) /\ wr.ownsRow E.heap.size 3 1 t7 m ((locN P T p i).map fun x => Value.int .i64 x) /\ Below E.heap.size E wr) (fun _ t20 _ => T.length - (RowKit.intOf t20).toNat)
 case atStart => exact ⟨0, 0, rfl, Nat.zero_le _, Nat.le_refl _, rfl, World.ownsRow_nil _ _ _ _, Below.refl _ _⟩
 case round =>
  obtain ⟨i, m, rfl, hx, hy, HL, S, Z⟩ := hrel;obtain ⟨p7, c7, rfl⟩ := oRs S;have hn := Z.size;rcases Nat.lt_or_ge i T.length with h | h
  ·have J := hid (lNs P T p i)
   have K : Hid (iTT P T p i = iBB (ptI P T[i].1) (ptI P T[i].2.1) (ptI P T[i].2.2) p) := by unfold Hid iTT; rw [List.getElem?_eq_getElem h]
   obtain ⟨s1, s2, s3⟩ := hh.out i h;have Q : Below w.heap.size w wr := zbt g Z;have d : Below w.heap.size w wr.drew := Q.trans ((bdN wr 1).mono Q.size);have HC : Hid (∀ w', Below w.heap.size w w' -> _) := fun w' hb => ha.out i h w' hb;have HI : Hid (∀ w', Good w' -> _) := fun w' hg' => ij0 (ptI P T[i].1) (ptI P T[i].2.1) (ptI P T[i].2.2) p 200 (by omega) (by omega) s1 s2 s3 hf.out w' hg'
   rw [hd.out, he.out] at HI;generalize iBB (ptI P T[i].1) (ptI P T[i].2.1) (ptI P T[i].2.2) p = bi at *;generalize RS (ptI P T[i].1).1 = q1 at *;generalize RS (ptI P T[i].1).2 = q2 at *;generalize RS (ptI P T[i].2.1).1 = q3 at *;generalize RS (ptI P T[i].2.1).2 = q4 at *;generalize RS (ptI P T[i].2.2).1 = q5 at *;generalize RS (ptI P T[i].2.2).2 = q6 at *;have a0 := (Z.cell (p := ⟨w.heap.size, 0, none⟩) R.lt).trans (R.cell 0 rfl);have a1 := (Z.cell (p := ⟨w.heap.size, 1, none⟩) R.lt).trans (R.cell 1 rfl);have b0 := (Z.cell (p := ⟨w.heap.size + 1, 0, none⟩) N.lt).trans (N.cell 0 rfl);have b1 := (Z.cell (p := ⟨w.heap.size + 1, 1, none⟩) N.lt).trans (N.cell 1 rfl);have hu := R.lt;have hw : (i : Int) < (T.length : Int) := by omega
   have b : Good wr.drew := (hg.below Q).drewN 1;clear s1 s2 s3 x1;go_upto_region 10 with fail;go_region_held3 (fun w' => w'.cell? ⟨w.heap.size, 0, none⟩ = some (.slice pp P.length cp) /\ w'.cell? ⟨w.heap.size, 1, none⟩ = some (.slice pt T.length ct) /\ w'.cell? ⟨w.heap.size + 1, 0, none⟩ = some (.string px) /\ w'.cell? ⟨w.heap.size + 1, 1, none⟩ = some (.string py))
    (first | exact ⟨a0, a1, b0, b1⟩ | exact ⟨p_1_0, p_1_1, p_1_2, p_1_3⟩ | exact ⟨p_2_0, p_2_1, p_2_2, p_2_3⟩)
    (first
    | (go_at_call 77; refine (HI.out _ t).mono ?_; rintro e s ⟨_, rfl, rfl, V⟩
       have p_2_0 := zct V p_1_0;have p_2_1 := zct V p_1_1;have p_2_2 := zct V p_1_2;have p_2_3 := zct V p_1_3;have hr := V.size;have ho := t.below V)
    | (go_at_call 78; refine (HC.out _ d).mono ?_; rintro e hs ⟨_, rfl, rfl, X⟩
       have p_1_0 := zct X a0;have p_1_1 := zct X a1;have p_1_2 := zct X b0;have p_1_3 := zct X b1;have hq : wr.heap.size <= hs.heap.size := X.size;have t := b.below X))
   have pB : Below wr.heap.size wr s := zbt (zbt (bdN wr 1) X) V;have U := WRA S pB;have M : Below E.heap.size E s := Z.trans (pB.mono hn);have hl := M.size;have hC := pB.size;clear pB X V hq hr t ho p_1_0 p_1_1 p_1_2 p_1_3 p_2_0 p_2_1 p_2_2 p_2_3 a0 a1 b0 b1 S Z b d Q;cases bi
   ·have C : Hid ((locN P T p (i + 1)).length = m) := by unfold Hid; rw [J.out, K.out]; simpa using HL.out
    have D : Hid (locN P T p (i + 1) = locN P T p i) := by unfold Hid; rw [J.out, K.out]; simp
    go_wp2_with fail;go_roundw
    case rel => exact ⟨i + 1, m, by go_num, h, by omega, C, by rw [D.out]; exact U, M⟩
    case measure => simp [RowKit.intOf]; omega
   ·have C : Hid ((locN P T p (i + 1)).length = m + 1) := by unfold Hid; rw [J.out, K.out]; simpa using HL.out
    have D : Hid (locN P T p (i + 1) = locN P T p i ++ [(i : Int)]) := by unfold Hid; rw [J.out, K.out]; simp
    go_wp2_with (at_builtin; refine wpList_append_own _ rfl _ _ 46 rfl E.heap.size 3 i0 (.int .i64 0) 1 8 Tryz.underlying46 hi h6 h7 h8 rfl (by decide) _ _ _ rfl (U.alloc _) ⟨s.heap.size, 0, none⟩ 1 1 [.int .i64 i] rfl rfl (coi _ _ _) (oci _) (by unfold maxLen; omega) (by omega) (by simp; omega) ?_
                 intro v3 w3 y Y _;have hv := Y.size;have c : Below E.heap.size E w3 := (M.alloc hl _).grown Y (by simp; omega) (fun j hj => by have := (U.lt j hj).1; omega);clear Y)
    go_roundw
    case rel => exact ⟨i + 1, m + 1, by go_num, h, by omega, C, by rw [D.out, List.map_append]; exact y, c⟩
    case measure => simp [RowKit.intOf]; omega
  ·obtain rfl : i = T.length := by omega
   have Q : Below w.heap.size w wr := zbt g Z;have hk : RdI .i64 wr (.slice p7 m c7) (locN P T p T.length) := by
    have l : RdC 1 wr (.slice p7 m c7) m ((locN P T p T.length).map fun x => Value.int .i64 x) := RdC.of_owns S;unfold RdI;rw [HL.out];exact l
   go_wp2_with fail;go_ret2;exact ⟨_, rfl, ⟨_, rfl, hk⟩, Q⟩
end Go.Proofs.YtbfcmipplhkkeaaGreatDoor
