import Derived.Test.YtlodicfimpgibaaGreatDoorZS48
/- What the functions of stack say of a plan's deposit at a place. klippelaw28.StackPlaces. -/
set_option maxHeartbeats 8000000
set_option maxRecDepth 100000
namespace Go.Proofs.YtlodicfimpgibaaGreatDoor
open Go.RowKit Go.Lib
theorem ppe {w : World} {pp pt pb pu ps : Option Addr} {cp ct cb cu cs : Nat} {P : List PtQ} {T : List Tri} {B : List Rat} {U : List ByteArray} {H : List StepQ} {n : Nat} (h2 : MeshOK P T 2) (hn : n <= 3) (h7 : B.length = P.length) (hm : U.length = n + 1) (h8 : ∀ u ∈ U, u ≠ ⟨#[]⟩)
 (h : DepN w (.slice pp P.length cp) (.slice pt T.length ct) (.slice pb P.length cb) (.slice pu U.length cu) (.slice ps n cs) P T 3 B U (sTo P.length B H n)) (p : PtQ) (z : Rat) (a : SzP 20 p) (hz : Sz 200 z) :
 ∃ (ut : ByteArray) (bl : Bool) (ez : Int) (Y : Bool) (kz : Int),
  (∀ w', Below w.heap.size w w' -> Good w' -> Calls Tryz.prog 13 #[.agg #[.slice pp P.length cp, .slice pt T.length ct], .agg #[.slice pb P.length cb, .slice pu U.length cu, .slice ps n cs], .agg #[.string (RS p.1), .string (RS p.2), .string (RS z)]] w' (Ret (fun r _ => r = .tuple #[.string ut, .bool bl, .int .i64 ez]) w')) /\
  (∀ w', Below w.heap.size w w' -> Good w' -> Calls Tryz.prog 10 #[.agg #[.slice pp P.length cp, .slice pt T.length ct], .agg #[.string (RS p.1), .string (RS p.2)]] w' (Ret (fun r _ => r = .tuple #[.bool Y, .int .i64 0]) w')) /\
  (Y = true -> ∀ w', Below w.heap.size w w' -> Good w' -> Calls Tryz.prog 18 #[.agg #[.slice pp P.length cp, .slice pt T.length ct], .agg #[.slice pb P.length cb, .slice pu U.length cu, .slice ps n cs], .agg #[.string (RS p.1), .string (RS p.2), .string (RS z)]] w' (Ret (fun r _ => ∃ q m c, r = .tuple #[.int .i64 kz, .slice q m c]) w')) /\
  ((Y = false /\ ut = ⟨#[]⟩ /\ bl = false /\ ez = 28) \/ (Y = true /\ kz = -1 /\ ut = ⟨#[]⟩ /\ bl = true /\ ez = 0) \/ (Y = true /\ ∃ kn : Nat, kz = (kn : Int) /\ U[kn]? = some ut /\ bl = false /\ ez = 0)) := by
 have X : SzP 200 p := ⟨a.1.mono (by omega), a.2.mono (by omega)⟩;have N : ∀ w', Below w.heap.size w w' -> Good w' -> _ := fun w' hb hg' => cok w' _ _ P T 3 (h.below hb).p (h.below hb).t h.m p X hg';have M : ∀ w', Below w.heap.size w w' -> Good w' -> _ := fun w' hb hg' => cPo w' _ _ _ _ _ P T 3 B U _ (h.below hb) p z X hz hg';have Q := sTl P.length B H n;cases hl : locN P T p T.length with
 | nil =>
   rw [hl] at N M;refine ⟨⟨#[]⟩, false, 28, false, 0, fun w' hb hg' => ?_, fun w' hb hg' => N w' hb hg', (fun e => by cases e), .inl ⟨rfl, rfl, rfl, rfl⟩⟩;exact aer w' _ _ _ _ _ pp pt pb pu ps _ _ _ _ _ cp ct cb cu cs rfl rfl rfl rfl rfl _ _ _ 28 (by decide) (hid fun V hb2 hg2 => M V ((zbt hb hb2)) hg2) hg'
 | cons x l =>
   obtain ⟨t, rfl, ht⟩ : ∃ t : Nat, x = (t : Int) /\ t < T.length := by
    have hx : x ∈ locN P T p T.length := by rw [hl]; simp
    unfold locN at hx;obtain ⟨t, D, rfl⟩ := List.mem_map.1 hx;exact ⟨t, rfl, List.mem_range.1 (List.mem_filter.1 D).1⟩
   have hf : iBB (ptI P T[t].1) (ptI P T[t].2.1) (ptI P T[t].2.2) p = true := by
    have hx : (t : Int) ∈ locN P T p T.length := by rw [hl]; simp
    unfold locN at hx;obtain ⟨t', D, e⟩ := List.mem_map.1 hx;obtain rfl : t' = t := by omega
    have h3 := (List.mem_filter.1 D).2;unfold iTT at h3;rw [List.getElem?_eq_getElem ht] at h3;exact h3
   have K : T[t] ∈ T := List.getElem_mem ht;rw [hl, show decide ((0 : Int) < (((t : Int) :: l).length : Int)) = true from decide_eq_true (by simp)] at N;rw [hl] at M;obtain ⟨L, hL⟩ := zex (hgtL P B (sTo P.length B H n) T[t] p);have s : L.length = n + 1 := by rw [hL, hC0, Q]
   have J : ∀ i, i < n + 1 -> L[i]?.getD 0 = onQ P (fldN B (sTo P.length B H n) i) T[t] p := fun i Z => by
    rw [hL, hJ0 _ _ _ _ _ i (by rw [Q]; exact Z)];rfl
   have R : ∀ i, i < n + 1 -> fldN B (sTo P.length B H n) i ∈ B :: sTo P.length B H n := fun i Z => fNm _ _ (by omega)
   have k : ∀ q ∈ L, Sz 200 q := fun q hq => by
    obtain ⟨i, Z, rfl⟩ := List.getElem_of_mem hq;have D := J i (by omega);rw [List.getElem?_eq_getElem Z] at D;have h6 : L[i] = _ := D;rw [h6];exact (oQS h2 (by omega) (h.fs _ (R i (by omega))) K a).mono (by omega)
   have y : ∀ i, i < n + 1 -> ∀ w' v, Below w.heap.size w w' -> RdQ w' v (fldN B (sTo P.length B H n) i) -> FieldIn w' (.slice pp P.length cp) (.slice pt T.length ct) v P T 3 (fldN B (sTo P.length B H n) i) := fun i Z w' v hb hv => ⟨(h.below hb).p, (h.below hb).t, h.m, hv, h.fs _ (R i Z), h.fl _ (R i Z)⟩;have h9 : ∀ i, i < n + 1 -> ∀ w' v, Below w.heap.size w w' -> RdQ w' v (fldN B (sTo P.length B H n) i) -> Good w' -> Calls Tryz.prog 14 #[.agg #[.slice pp P.length cp, .slice pt T.length ct], v, .agg #[.string (RS p.1), .string (RS p.2)]] w' (Ret (fun r _ => r = .tuple #[.string (RS (L[i]?.getD 0)), .int .i64 0]) w') := fun i Z w' v hb hv hg' => by
    rw [J i Z];exact vin w' _ _ _ P T 3 _ (y i Z w' v hb hv) p X t l hl ht (by have := sS2 h2 (by omega) (h.fs _ (R i Z)) K; exact ⟨this.1.mono (by omega), this.2.mono (by omega)⟩) ((oQS h2 (by omega) (h.fs _ (R i Z)) K a).mono (by omega)) hg'
   have A : ∀ i, i < n + 1 -> ∀ w' v, Below w.heap.size w w' -> RdQ w' v (fldN B (sTo P.length B H n) i) -> Good w' -> Calls Tryz.prog 42 #[.agg #[.slice pp P.length cp, .slice pt T.length ct], v, .agg #[.string (RS p.1), .string (RS p.2)]] w' (Ret (fun r _ => r = .tuple #[.string (RS (L[i]?.getD 0)), .bool true]) w') := fun i Z w' v hb hv hg' => by
    refine (a1k w' _ _ _ P T 3 _ (y i Z w' v hb hv) p 20 (by omega) (by omega) (by omega) a hg').mono ?_;rintro e V ⟨r, rfl, G, I⟩;rcases G with ⟨h0, -⟩ | ⟨t', ho, l', he, G⟩
    ·rw [hl] at h0; cases h0
    ·rw [hl] at he
     injection he with he1 he2
     obtain rfl : t = t' := by omega
     rw [J i Z];exact ⟨_, rfl, G, I⟩
   have h5 : ∀ i : Nat, ∃ S : Option Addr × Nat, i < U.length -> RdQ w (.slice S.1 P.length S.2) (fldN B (sTo P.length B H n) i) /\ ∀ w', Below w.heap.size w w' -> Calls Tryz.prog 46 #[.agg #[.slice pb P.length cb, .slice pu U.length cu, .slice ps n cs], .int .i64 (i : Int)] w' (Ret (fun r _ => r = .slice S.1 P.length S.2) w') := fun i => by
    by_cases Z : i < U.length
    ·obtain ⟨q, c, a1, a2⟩ := h.surface i (by rw [Q]; omega)
     exact ⟨(q, c), fun _ => ⟨a1, a2⟩⟩
    ·exact ⟨(none, 0), fun h' => absurd h' Z⟩
   obtain ⟨S, h4⟩ : ∃ S : Nat -> Option Addr × Nat, ∀ i : Nat, i < U.length -> RdQ w (.slice (S i).1 P.length (S i).2) (fldN B (sTo P.length B H n) i) /\ ∀ w', Below w.heap.size w w' -> Calls Tryz.prog 46 #[.agg #[.slice pb P.length cb, .slice pu U.length cu, .slice ps n cs], .int .i64 (i : Int)] w' (Ret (fun r _ => r = .slice (S i).1 P.length (S i).2) w') := ⟨fun i => (h5 i).choose, fun i => (h5 i).choose_spec⟩;have O := psd h2 (H := H) h7 K hf n;rw [<- hL] at O;have hj := uTa (z := z) O n s;have hk := cHl L z;refine ⟨uAt U L z, decide (cHH L z = 0), 0, true, (cHH L z : Int) - 1, fun w' hb hg' => ?_, fun w' hb hg' => N w' hb hg', fun _ w' hb hg' => ?_, ?_⟩
   ·exact at_ok w' hg' pp pt pb pu ps P.length T.length n cp ct cb cu cs (RS p.1) (RS p.2) z U L (by omega) (by omega) h8 (h.below hb).unit 200 (by omega) (by omega) k hz (fun i => (S i).1) (fun i => (S i).2)
     (hid fun V hb2 hg2 => M V ((zbt hb hb2)) hg2) (hid fun i Z V hb2 => (h4 i Z).2 V ((zbt hb hb2)))
     (hid fun i Z V hb2 hg2 => h9 i (by omega) V _ ((zbt hb hb2)) (RdC.below (h4 i Z).1 ((zbt hb hb2))) hg2)
   ·have ha := h.base
    refine (u2a w' hg' pp pt pb pu ps P.length T.length P.length U.length n cp ct cb cu cs (RS p.1) (RS p.2) z L s (by omega) 200 (by omega) (by omega) k hz
     (hid fun V hb2 hg2 => A 0 (by omega) V _ ((zbt hb hb2)) (RdC.below ha ((zbt hb hb2))) hg2) (hid fun i Z => ?_)).mono ?_
    ·obtain ⟨b, o, c, C, nf, E, e1, j, hd, hg⟩ : ∃ (b o c : Nat) (C : Option Addr) (nf E : Nat), Value.slice ps n cs = .slice (some ⟨b, o, none⟩) n c /\ b < w.heap.size /\ w.cell? ⟨b, o + i, none⟩ = some (.slice C nf E) /\ RdQ w (.slice C nf E) (fldN B (sTo P.length B H n) (i + 1)) := by
      obtain ⟨us, ⟨q, c, e, -, -, hh, G⟩, hF⟩ := h.surf;rw [Q] at e hh;have hs : us.length = n := by omega
      obtain ⟨b, o, rfl, g⟩ := G (List.ne_nil_of_length_pos (by omega));have d : i < us.length := by omega
      have f := g i us[i] (List.getElem?_eq_getElem d);have hS : (sTo P.length B H n)[i]? = some (fldN B (sTo P.length B H n) (i + 1)) := by
       unfold fldN;rw [List.getElem?_cons_succ, List.getElem?_eq_getElem (by rw [Q]; exact Z)];rfl
      have hq := hF i us[i] _ (List.getElem?_eq_getElem d) hS;obtain ⟨C, E, e3, -, -, -⟩ := hq.open;refine ⟨b, o, c, C, _, E, e, World.block_lt_of_cell? w _ f, by rw [f, e3], by rw [<- e3]; exact hq⟩
     injection e1 with e11 _ _
     exact ⟨b, o, C, nf, E, e11, Nat.lt_of_lt_of_le j hb.size, (zcq hb j hd :), fun V hb2 hg2 => A (i + 1) (by omega) V _ ((zbt hb hb2)) (RdC.below hg ((zbt hb hb2))) hg2⟩
    ·rintro e V ⟨r, rfl, ⟨vh, rfl, G⟩, I⟩
     rw [hj];obtain ⟨q, c, rfl, -, -, -⟩ := G.open;exact ⟨_, rfl, ⟨_, _, _, rfl⟩, I⟩
   ·right
    unfold uAt;by_cases g : cHH L z = 0
    ·left
     rw [g];exact ⟨rfl, rfl, rfl, rfl, rfl⟩
    ·right
     refine ⟨rfl, cHH L z - 1, by omega, ?_, decide_eq_false g, rfl⟩;rw [if_neg g, List.getElem?_eq_getElem (by omega)];rfl
open Go.Shelf
theorem sPa (w : World) (C O N : Int) (Z : Bool) (a0 a1 a2 a3 a4 a5 : Int) (ah : Bool) (vh : Value) (H : List StepQ) (x y ht : Int)
 (hr : 0 <= C) (z4 : C <= 255) (hw : -128 <= O /\ O <= 127) (hz : -128 <= N /\ N <= 127) (ha : ∀ x ∈ [a0, a1, a2, a3, a4, a5], -128 <= x /\ x <= 127) (hH : RdSt w vh H) (hx : -128 <= x /\ x <= 127) (hy : -128 <= y /\ y <= 127) (zn : -32768 <= ht /\ ht <= 32767) (Y : Good w) :
 Calls Tryz.prog 4 #[.agg #[.int .u8 C, .int .i8 O, .int .i8 N, .bool Z, .int .i8 a0, .int .i8 a1, .int .i8 a2, .int .i8 a3, .int .i8 a4, .int .i8 a5, .bool ah, vh], .agg #[.int .i8 x, .int .i8 y], .int .i16 ht] w (Ret (fun r _ => r = .bool true) w) := by
 obtain ⟨kk, z5⟩ : ∃ k : Nat, C.tmod 8 = (k : Int) := ⟨(C.tmod 8).toNat, by have := Int.tmod_nonneg 8 hr; omega⟩;have h1 : Hid (H.length <= 3 -> ∀ w', Below w.heap.size w w' -> Good w' -> _) := fun h3 w' hbw Y => m2n w' C O N Z kk z5 hr z4 hw hz a0 a1 a2 a3 a4 a5 ah ha vh H (hH.below hbw) h3 Y;have zc : Hid (∀ w', Good w' -> _) := fun w' Y => p4a w' C O N Z x y hw hz hx hy Y;have ze : Hid (∀ w', Good w' -> _) := fun w' Y => rOa ht 4 ht 4 4 rfl (by omega) (by omega) (by omega) (.inl ⟨rfl, rfl⟩) w' Y
 have z7 : SzP 20 (pBB 4 O Z x, pBB 4 N Z y) := ⟨(pBS 4 (by omega) (by omega) O Z x hx).mono (by omega), (pBS 4 (by omega) (by omega) N Z y hy).mono (by omega)⟩;have z9 : Sz 200 (mkRat ht 4) := (Sz.mkRat (k := 5) (by omega) (by omega) (by omega)).mono (by omega);have zd := hid z7;have zf := hid z9;generalize pBB 4 O Z x = px at *;generalize pBB 4 N Z y = py at *;generalize mkRat ht 4 = z at *;clear z7 z9;obtain ⟨p1, c1, rfl, zk, zl, -⟩ := hH.1;unfold maxLen at zl;clear hH ha hr z4 hw hz hx hy z5;obtain ⟨X, z6⟩ : ∃ n, n = H.length := ⟨_, rfl⟩;rw [<- z6] at zk h1 ⊢;clear z6;have h6 : Hid (∀ w', _) := fun w' => fd0 w' C O N Z a0 a1 a2 a3 a4 a5 ah p1 X c1 (by omega)
 obtain ⟨f1, I⟩ : ∃ f, f = decide (X <= 3) := ⟨_, rfl⟩;rw [<- I] at h6;have zb : Hid (f1 = true -> X <= 3) := fun h => of_decide_eq_true (I.symm.trans h);clear I;go_enter Tryz.func4, Tryz.ntmps4;go_wp2_with fail;obtain ⟨W, hW⟩ := zex ((w.alloc (.cells #[.int .u8 C, .int .i8 O, .int .i8 N, .bool Z, .int .i8 a0, .int .i8 a1, .int .i8 a2, .int .i8 a3, .int .i8 a4, .int .i8 a5, .bool ah, .slice p1 X c1] 31)).alloc (.cells #[.int .i8 x, .int .i8 y] 23));have hB : Below w.heap.size w W := by rw [hW]; exact zal2 _ _ _
 have bx : BoxN W w.heap.size 31 [.int .u8 C, .int .i8 O, .int .i8 N, .bool Z, .int .i8 a0, .int .i8 a1, .int .i8 a2, .int .i8 a3, .int .i8 a4, .int .i8 a5, .bool ah, .slice p1 X c1] := by
  rw [hW];exact (BoxN.new w #[.int .u8 C, .int .i8 O, .int .i8 N, .bool Z, .int .i8 a0, .int .i8 a1, .int .i8 a2, .int .i8 a3, .int .i8 a4, .int .i8 a5, .bool ah, .slice p1 X c1] 31 _ rfl).alloc _
 have hK : BoxN W (w.heap.size + 1) 23 [.int .i8 x, .int .i8 y] := by rw [hW]; exact BoxN.new _ _ _ _ (by simp)
 rw [<- hW];clear hW;refine zR (k2a W (Y.below hB)) fun o1 hb1 => ?_;have hU := zbt hB hb1;have h7 := bx.bl hb1;have hJ := hK.bl hb1;clear hb1 hB bx hK;obtain ⟨k0, k1, k2, k3, k4, k5, k6, k7, k8, k9, hA, hC⟩ := zk12 h7;go_wp2_with fail;refine zR (h6.out o1) fun o3 hb2 => ?_;have S := zbt hU hb2;have h8 := h7.bl hb2;have hL := hJ.bl hb2;clear hb2 hU h7 hJ k0 k1 k2 k3 k4 k5 k6 k7 k8 k9 hA hC h6;cases I : f1
 ·go_wp2_with fail
  refine zR (k2a o3 (Y.below S)) fun A R => ?_;go_wp2_with fail;go_ret;exact ⟨_, rfl, rfl, (zbt S R)⟩
 obtain ⟨k0, k1, k2, k3, k4, k5, k6, k7, k8, k9, hA, hC⟩ := zk12 h8;go_wp2_with fail;refine (h1.out (zb.out I) o3 S (Y.below S)).mono ?_;rintro e A ⟨_, rfl, ⟨pp, cp, pt, ct, pb, cb, pu, cu, ps, cs, P, T, B, H0, U, n, rfl, hP, hT, zo, hY, hn, hD, -⟩, R⟩;have zi := zbt S R;have hF := h8.bl R;have hM := hL.bl R;clear R S h8 hL k0 k1 k2 k3 k4 k5 k6 k7 k8 k9 hA hC h1;have h2 : MeshOK P T 2 := by rw [hP, hT]; exact sok kk O N Z
 have z1 : ∀ u ∈ U, u ≠ ⟨#[]⟩ := by rw [hn]; exact uTf _
 have ho : U.length = n + 1 := by rw [hn, uTl]
 clear hP hT hn;obtain ⟨ut, bl, ez, zr, kq, hS, hZ, z0, z3⟩ := ppe h2 zo hY ho z1 hD (px, py) z zd.out zf.out;have t := hid hS;have h0 := hid hZ;have M := hid z0;have z2 : eNm (allQ [⟨#[48]⟩, ⟨#[48]⟩, ⟨#[49, 47, 49]⟩]) = 2 := by decide +kernel
 have v : Hid (∀ w', Below A.heap.size A w' -> Good w' -> _) := fun w' hb hg' => aer w' _ _ _ _ _ pp pt pb pu ps P.length T.length P.length U.length n cp ct cb cu cs rfl rfl rfl rfl rfl ⟨#[48]⟩ ⟨#[48]⟩ ⟨#[49, 47, 49]⟩ 2 (by decide) (hid fun w2 hb2 hg2 => cPn w2 _ _ _ _ _ P T 3 B U _ (hD.below ((zbt hb hb2))) _ _ _ (by decide) (by decide) (by decide) z2 hg2) hg'
 obtain ⟨zv, zs, eu, -, zm, z8⟩ := hD.unit.open;have hE : Hid (∀ d : Nat, U[d]? = some ut -> ∃ b o, pu = some ⟨b, o, none⟩ /\ b < A.heap.size /\ d < U.length /\ A.cell? ⟨b, o + d, none⟩ = some (.string ut)) := fun d E => by
  have hl := (List.getElem?_eq_some_iff.1 E).1;injection eu with s _ _
  obtain ⟨b, o, e2, h3, h4⟩ := z8 (List.ne_nil_of_length_pos (by omega));refine ⟨b, o, s.trans e2, h3, hl, ?_⟩;rw [h4 d hl];rw [List.getElem?_eq_getElem hl] at E;rw [Option.some.inj E]
 have za := hid z3;unfold maxLen at zm;clear z3 hS hZ z0 z2 eu z8 hD h2 z1 hY;obtain ⟨nP, hs⟩ : ∃ k, k = P.length := ⟨_, rfl⟩;obtain ⟨nT, hu⟩ : ∃ k, k = T.length := ⟨_, rfl⟩;obtain ⟨nU, hv⟩ : ∃ k, k = U.length := ⟨_, rfl⟩;rw [<- hv] at t M v hE ho;rw [<- hu] at t M v h0;rw [<- hs] at t M v h0;rw [<- hv, <- hu, <- hs];clear hv hu hs ho;go_upto_region 4 with fail;obtain ⟨o5, D⟩ : ∃ W, W = (A.alloc (.cells #[.slice pp nP cp, .slice pt nT ct] 38)).alloc (.cells #[.slice pb nP cb, .slice pu nU cu, .slice ps n cs] 44) := ⟨_, rfl⟩;have L : Below A.heap.size A o5 := by rw [D]; exact zal2 _ _ _
 obtain ⟨g6, p⟩ : ∃ g, g = A.heap.size := ⟨_, rfl⟩;obtain ⟨g7, hp⟩ : ∃ g, g = A.heap.size + 1 := ⟨_, rfl⟩;have cM : BoxN o5 g6 38 [.slice pp nP cp, .slice pt nT ct] := by rw [D]; exact (BoxN.new _ _ _ _ p.symm).alloc _
 have cD : BoxN o5 g7 44 [.slice pb nP cb, .slice pu nU cu, .slice ps n cs] := by rw [D]; exact BoxN.new _ _ _ _ (by simp [hp])
 have hf := zbt zi L;have hG := hF.bl L;have hN := hM.bl L;rw [<- D, <- hp, <- p];have G6 := hid p;clear D p hp hF hM;obtain ⟨k0, k1, k2, k3⟩ := zk4 hG;obtain ⟨l0, l1⟩ := zk2 hN;go_wp2_with fail;refine zR (zc.out o5 (Y.below hf)) fun o6 hb6 => ?_;have hO := zbt L hb6;have hV := zbt hf hb6;have dM := cM.bl hb6;have dD := cD.bl hb6;clear hb6 L hf cM cD k0 k1 k2 k3 l0 l1 hG hN;go_upto_region 5 with fail;obtain ⟨o7, l⟩ : ∃ W, W = o6.alloc (.cells #[.string (RS px), .string (RS py)] 49) := ⟨_, rfl⟩;have K : Below o6.heap.size o6 o7 := by rw [l]; exact zal _ _
 obtain ⟨g9, hq⟩ : ∃ g, g = o6.heap.size := ⟨_, rfl⟩;have eP : BoxN o7 g9 49 [.string (RS px), .string (RS py)] := by rw [l]; exact BoxN.new _ _ _ _ hq.symm
 have hQ := zbt hO K;have hh := zbt hV K;have eM := dM.bl K;have eD := dD.bl K;rw [<- l, <- hq];clear l hq K hO hV dM dD;obtain ⟨zp, zq⟩ := zn;go_wp2_with fail;refine zR (ze.out o7 (Y.below hh)) fun o8 hb8 => ?_;have hR := zbt hQ hb8;have hX := zbt hh hb8;have fM := eM.bl hb8;have fD := eD.bl hb8;have fP := eP.bl hb8;clear hb8 hQ hh eM eD eP;obtain ⟨x0, x1⟩ := zk2 fP;go_upto_region 7 with fail;obtain ⟨o9, j⟩ : ∃ W, W = o8.alloc (.cells #[.string (RS px), .string (RS py), .string (RS z)] 57) := ⟨_, rfl⟩;have V : Below o8.heap.size o8 o9 := by rw [j]; exact zal _ _
 obtain ⟨zg, G⟩ : ∃ g, g = o8.heap.size := ⟨_, rfl⟩;have aV : BoxN o9 zg 57 [.string (RS px), .string (RS py), .string (RS z)] := by rw [j]; exact BoxN.new _ _ _ _ G.symm
 have h9 := zbt hR V;have hi := zbt hX V;have aM := fM.bl V;have aD := fD.bl V;have aP := fP.bl V;rw [<- j, <- G];clear j G V hR hX fM fD fP x0 x1;obtain ⟨a, X⟩ := zk2 aM;obtain ⟨d0, d1, d2⟩ := zk3 aD;obtain ⟨v0, v1, v2⟩ := zk3 aV;go_wp2_with fail;refine zR (t.out o9 h9 (Y.below hi)) fun oa hba => ?_;have hc := zbt h9 hba;have hj := zbt hi hba;have bM := aM.bl hba;have bD := aD.bl hba;have bP := aP.bl hba;have bV := aV.bl hba;clear hba h9 hi aM aD aP aV a X d0 d1 d2 v0 v1 v2;obtain ⟨a, X⟩ := zk2 bM;obtain ⟨d0, d1, d2⟩ := zk3 bD;go_wp2_with fail;refine zR (v.out oa hc (Y.below hj)) fun ob hbb => ?_;have hd := zbt hc hbb;have hk := zbt hj hbb;have cM := bM.bl hbb;have cD := bD.bl hbb;have cP := bP.bl hbb;have cV := bV.bl hbb;clear hbb hc hj bM bD bP bV a X d0 d1 d2;obtain ⟨a, X⟩ := zk2 cM;obtain ⟨q0, q1⟩ := zk2 cP;go_wp2_with fail;refine zR (h0.out ob hd (Y.below hk)) fun oc hbc => ?_;have he := zbt hd hbc;have J := zbt hk hbc;have dM := cM.bl hbc;have dD := cD.bl hbc;have dV := cV.bl hbc;clear hbc hd hk cM cD cP cV a X q0 q1;rcases za.out with ⟨s, e2, e3, e4⟩ | ⟨s, e5, e2, e3, e4⟩ | ⟨s, d, e5, E, e3, e4⟩
 ·subst s e2 e3 e4
  go_wp2_with fail;go_ret;exact ⟨_, rfl, rfl, J⟩
 ·have h5 := hid (M.out s)
  subst s e2 e3 e4 e5;obtain ⟨a, X⟩ := zk2 dM;obtain ⟨d0, d1, d2⟩ := zk3 dD;obtain ⟨v0, v1, v2⟩ := zk3 dV;go_wp2_with fail;refine (h5.out oc he (Y.below J)).mono ?_;rintro e od ⟨_, rfl, ⟨q, m, c, rfl⟩, Q⟩;have hm := zbt J Q;go_wp2_with fail;go_ret;exact ⟨_, rfl, rfl, hm⟩
 ·have h5 := hid (M.out s)
  obtain ⟨bu, ou, rfl, zj, zt, i⟩ := hE.out d E;subst s e3 e4 e5;obtain ⟨a, X⟩ := zk2 dM;obtain ⟨d0, d1, d2⟩ := zk3 dD;obtain ⟨v0, v1, v2⟩ := zk3 dV;go_wp2_with fail;refine (h5.out oc he (Y.below J)).mono ?_;rintro e od ⟨_, rfl, ⟨q, m, c, rfl⟩, Q⟩;have zh := zbt he Q;have hm := zbt J Q;have y1 := (dD.bl Q).cell 1 rfl;have y2 := zcq zh zj i;have zu : (d : Int) < (nU : Int) := by omega
  clear a X d0 d1 d2 v0 v1 v2 Q i dM dD dV;go_wp2_with fail;go_ret;exact ⟨_, rfl, rfl, hm⟩
end Go.Proofs.YtlodicfimpgibaaGreatDoor
