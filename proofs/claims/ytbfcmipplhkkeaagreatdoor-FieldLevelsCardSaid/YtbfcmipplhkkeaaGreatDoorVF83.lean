import Derived.Test.YtbfcmipplhkkeaaGreatDoorVF42
/- The walks over klipperef05.Area, klippelaw13.corners, klippelaw13.On. The walks over klipperef09.Less, Begin. The walks over klipperef05.Toward, klippelaw13.Part. The walk over klippelaw13.volume Plain -/
set_option maxHeartbeats 4000000
set_option maxRecDepth 100000
namespace Go.Proofs.YtbfcmipplhkkeaaGreatDoor
open Go.RowKit Go.Lib
theorem m0a (a b c d : Rat) (k : Nat) (N : 0 < k) (H : k <= 4000) (V : Sz k a) (U : Sz k b) (Q : Sz k c) (O : Sz k d) (w : World) (Z : Good w) :
 Calls Tryz.prog 134 #[.string (RS a), .string (RS b), .string (RS c), .string (RS d)] w (Ret (fun r _ => r = .string (RS (a * b - c * d))) w) := by
 have K := hid fun w Z => mQa a b k N (by omega) V U w Z
 have J := hid fun w Z => mQa c d k N (by omega) Q O w Z
 have M : Sz (2 * k) (a * b) := (V.mul U).mono (by omega);have L : Sz (2 * k) (c * d) := (Q.mul O).mono (by omega);have I := hid fun w Z => sQa (a * b) (c * d) (2 * k) (by omega) (by omega) M L w Z
 generalize a * b = x at *;generalize c * d = y at *;clear V U Q O M L;go_enter Tryz.func134, Tryz.ntmps134;go_wp2_with fail;refine (K.out w Z).mono ?_;rintro e G ⟨_, rfl, rfl, X⟩;go_wp2_with fail;refine (J.out G (Z.below X)).mono ?_;rintro e E ⟨_, rfl, rfl, S⟩;have Y := zbt X S;go_wp2_with fail;refine (I.out E (Z.below Y)).mono ?_;rintro e D ⟨_, rfl, rfl, R⟩;go_wp2_with fail;go_ret;exact ⟨_, rfl, rfl, (zbt Y R)⟩
theorem aa0 (a b c : PtQ) (k : Nat) (A : 0 < k) (d : k <= 1000) (O : SzP k a) (J : SzP k b) (H : SzP k c) (w : World) (S : Good w) :
 Calls Tryz.prog 81 #[VP a, VP b, VP c] w (Ret (fun r _ => r = .string (RS (areaQ a b c))) w) := by
 obtain ⟨W, m, ⟨a0, t⟩, ⟨s, b1⟩, ⟨c0, c1⟩, I, h0⟩ := tbs w a b c 50;have y := S.below I;obtain ⟨R, Q⟩ := a;obtain ⟨M, N⟩ := b;obtain ⟨L, K⟩ := c;unfold VP areaQ;dsimp only [SzP] at *;have f := hid m;have l := hid fun w S => sQa M R k A (by omega) J.1 O.1 w S
 have j := hid fun w S => sQa K Q k A (by omega) H.2 O.2 w S
 have i := hid fun w S => sQa N Q k A (by omega) J.2 O.2 w S
 have h := hid fun w S => sQa L R k A (by omega) H.1 O.1 w S
 have q : Sz (2 * k + 1) (M - R) := (J.1.sub O.1).mono (by omega);have p : Sz (2 * k + 1) (K - Q) := (H.2.sub O.2).mono (by omega);have o : Sz (2 * k + 1) (N - Q) := (J.2.sub O.2).mono (by omega);have n : Sz (2 * k + 1) (L - R) := (H.1.sub O.1).mono (by omega);have g := hid fun w S => m0a (M - R) (K - Q) (N - Q) (L - R) (2 * k + 1) (by omega) (by omega) q p o n w S
 generalize M - R = x1 at *;generalize K - Q = x2 at *;generalize N - Q = x3 at *;generalize L - R = x4 at *;clear m O J H q p o n;go_enter Tryz.func81, Tryz.ntmps81;have G : Good W.drew := y.drewN 1;go_upto_region 1 with fail;rw [<- f.out];go_region_held3 (fun w' => w'.cell? ⟨w.heap.size, 0, none⟩ = some (.string (RS R)) /\ w'.cell? ⟨w.heap.size, 1, none⟩ = some (.string (RS Q)) /\ w'.cell? ⟨w.heap.size + 1, 0, none⟩ = some (.string (RS M)) /\ w'.cell? ⟨w.heap.size + 1, 1, none⟩ = some (.string (RS N)) /\ w'.cell? ⟨w.heap.size + 2, 0, none⟩ = some (.string (RS L)) /\ w'.cell? ⟨w.heap.size + 2, 1, none⟩ = some (.string (RS K)))
  (first | exact ⟨a0, t, s, b1, c0, c1⟩ | exact ⟨p_1_0, p_1_1, p_1_2, p_1_3, p_1_4, p_1_5⟩ | exact ⟨p_2_0, p_2_1, p_2_2, p_2_3, p_2_4, p_2_5⟩ | exact ⟨p_3_0, p_3_1, p_3_2, p_3_3, p_3_4, p_3_5⟩ | exact ⟨p_4_0, p_4_1, p_4_2, p_4_3, p_4_4, p_4_5⟩ | exact ⟨p_5_0, p_5_1, p_5_2, p_5_3, p_5_4, p_5_5⟩)
  (first
  | (go_at_call 134; refine (g.out _ B).mono ?_; rintro e v ⟨_, rfl, rfl, U⟩
     have p_5_0 := zct U p_4_0;have p_5_1 := zct U p_4_1;have p_5_2 := zct U p_4_2;have p_5_3 := zct U p_4_3;have p_5_4 := zct U p_4_4;have p_5_5 := zct U p_4_5;have h6 := U.size;have h1 := B.below U)
  | (go_at_call 49; refine (h.out _ C).mono ?_; rintro e h9 ⟨_, rfl, rfl, V⟩
     have p_4_0 := zct V p_3_0;have p_4_1 := zct V p_3_1;have p_4_2 := zct V p_3_2;have p_4_3 := zct V p_3_3;have p_4_4 := zct V p_3_4;have p_4_5 := zct V p_3_5;have h5 := V.size;have B := C.below V)
  | (go_at_call 49; refine (i.out _ D).mono ?_; rintro e h8 ⟨_, rfl, rfl, X⟩
     have p_3_0 := zct X p_2_0;have p_3_1 := zct X p_2_1;have p_3_2 := zct X p_2_2;have p_3_3 := zct X p_2_3;have p_3_4 := zct X p_2_4;have p_3_5 := zct X p_2_5;have h4 := X.size;have C := D.below X)
  | (go_at_call 49; refine (j.out _ E).mono ?_; rintro e h7 ⟨_, rfl, rfl, Y⟩
     have p_2_0 := zct Y p_1_0;have p_2_1 := zct Y p_1_1;have p_2_2 := zct Y p_1_2;have p_2_3 := zct Y p_1_3;have p_2_4 := zct Y p_1_4;have p_2_5 := zct Y p_1_5;have h3 := Y.size;have D := E.below Y)
  | (go_at_call 49; refine (l.out _ G).mono ?_; rintro e x ⟨_, rfl, rfl, Z⟩
     have p_1_0 := zct Z a0;have p_1_1 := zct Z t;have p_1_2 := zct Z s;have p_1_3 := zct Z b1;have p_1_4 := zct Z c0;have p_1_5 := zct Z c1;have h2 : W.heap.size <= x.heap.size := Z.size;have E := G.below Z))
 have pB : Below W.heap.size W v := zbt (zbt (zbt (zbt (zbt (bdN W 1) Z) Y) X) V) U;have z := zbt I pB;go_wp2_with fail;go_ret;exact ⟨_, rfl, rfl, z⟩
theorem l1a (w : World) (vp vt : Value) (P : List PtQ) (T : List Tri) (k : Nat) (hp : RdP w vp (strP P)) (ht : RdT w vt T) (hm : MIn P T k) (t : Nat) (o : t < T.length) (tr : Tri) (D : tr = T[t]) (_hg : Good w) :
 Calls Tryz.prog 48 #[.agg #[vp, vt], .int .i64 (t : Int)] w (Ret (fun r w' => RdP w' r (strP [ptI P tr.1, ptI P tr.2.1, ptI P tr.2.2])) w) := by
 obtain ⟨pp, n, rfl, h2, h9, s⟩ := hp.open;obtain ⟨pt, ct, rfl, ha, hc, E⟩ := ht.open;rw [sPl] at h2 ⊢;obtain ⟨bt, ot, rfl, M, N⟩ := E (List.ne_nil_of_length_pos (by omega));obtain ⟨m, l, j⟩ := N t o;rw [<- D] at m l j;have U := hm.idx tr (by rw [D]; exact List.getElem_mem o);obtain ⟨C, B, A⟩ := tr;dsimp only at U m l j ⊢;obtain ⟨d, c⟩ := U C (by simp [idxOf]);obtain ⟨b, a⟩ := U B (by simp [idxOf]);obtain ⟨h0, h1⟩ := U A (by simp [idxOf]);obtain ⟨R, rfl⟩ : ∃ q : Nat, C = (q : Int) := ⟨C.toNat, by omega⟩;obtain ⟨Q, rfl⟩ : ∃ q : Nat, B = (q : Int) := ⟨B.toNat, by omega⟩;obtain ⟨O, rfl⟩ : ∃ q : Nat, A = (q : Int) := ⟨A.toNat, by omega⟩;have g0 : R < P.length := by omega
 have g1 : Q < P.length := by omega
 have g2 : O < P.length := by omega
 obtain ⟨Y, op, rfl, X, S⟩ := s (by intro e; have h := sPl P; rw [e] at h; simp at h; omega);rw [pIn P R g0, pIn P Q g1, pIn P O g2];obtain ⟨L, K⟩ := S R (by rw [sPl]; exact g0);obtain ⟨J, I⟩ := S Q (by rw [sPl]; exact g1);obtain ⟨H, G⟩ := S O (by rw [sPl]; exact g2);rw [sPg P R g0] at L K;rw [sPg P Q g1] at J I;rw [sPg P O g2] at H G;dsimp only at L K J I H G;have f0 : (R : Int) < (P.length : Int) := by omega
 have f1 : (Q : Int) < (P.length : Int) := by omega
 have f2 : (O : Int) < (P.length : Int) := by omega
 generalize P[R] = p0 at *;generalize P[Q] = p1 at *;generalize P[O] = p2 at *;have hd : (t : Int) < (T.length : Int) := by omega
 have he : IntKind.i64.wrap (t : Int) = (t : Int) := IntWalk.i64_in _ (by have := hm.tlen; omega);clear D U s S hp hm ht E N d c b a h0 h1;go_enter Tryz.func48, Tryz.ntmps48;go_upto_region 1 with fail;obtain ⟨W, f⟩ := zex (w.alloc (.cells #[.slice (some ⟨Y, op, none⟩) P.length n, .slice (some ⟨bt, ot, none⟩) T.length ct] 35));have i : Below w.heap.size w W := by rw [f]; exact zal _ _
 have b1 : BoxN W w.heap.size 35 [.slice (some ⟨Y, op, none⟩) P.length n, .slice (some ⟨bt, ot, none⟩) T.length ct] := by rw [f]; exact BoxN.new _ _ _ _ rfl
 rw [<- f];clear f;have m0 := b1.cell 0 rfl;have m1 := b1.cell 1 rfl;have t0 := zcq i M m;have t1 := zcq i M l;have t2 := zcq i M j;go_upto_region 2 with fail;obtain ⟨V, g⟩ := zex (W.alloc (.cells #[.int .i64 (R : Int), .int .i64 (Q : Int), .int .i64 (O : Int)] 121));have v : Below W.heap.size W V := by rw [g]; exact zal _ _
 have y : BoxN V W.heap.size 121 [.int .i64 (R : Int), .int .i64 (Q : Int), .int .i64 (O : Int)] := by rw [g]; exact BoxN.new _ _ _ _ rfl
 rw [<- g];clear g m0 m1 t0 t1 t2;have Z := zbt i v;have b2 := b1.below v b1.lt;have m0 := b2.cell 0 rfl;have t0 := y.cell 0 rfl;have t1 := y.cell 1 rfl;have t2 := y.cell 2 rfl;have h3 := zcq Z X L;have h4 := zcq Z X K;have h5 := zcq Z X J;have h6 := zcq Z X I;have h7 := zcq Z X H;have h8 := zcq Z X G;have lb := b2.lt;have lt := y.lt;have z : Y < V.heap.size := Nat.lt_of_lt_of_le X Z.size;have HS : Hid (∀ w', Below V.heap.size V w' -> w'.cell? ⟨w.heap.size, 0, none⟩ = some (.slice (some ⟨Y, op, none⟩) P.length n) /\ w'.cell? ⟨W.heap.size, 0, none⟩ = some (.int .i64 (R : Int)) /\ w'.cell? ⟨W.heap.size, 1, none⟩ = some (.int .i64 (Q : Int)) /\ w'.cell? ⟨W.heap.size, 2, none⟩ = some (.int .i64 (O : Int)) /\ w'.cell? ⟨Y, op + R * 2, none⟩ = some (.string (RS p0.1)) /\ w'.cell? ⟨Y, op + R * 2 + 1, none⟩ = some (.string (RS p0.2)) /\ w'.cell? ⟨Y, op + Q * 2, none⟩ = some (.string (RS p1.1)) /\ w'.cell? ⟨Y, op + Q * 2 + 1, none⟩ = some (.string (RS p1.2)) /\ w'.cell? ⟨Y, op + O * 2, none⟩ = some (.string (RS p2.1)) /\ w'.cell? ⟨Y, op + O * 2 + 1, none⟩ = some (.string (RS p2.2))) := fun w' hb => ⟨(zcq hb lb m0 :), (zcq hb lt t0 :), (zcq hb lt t1 :), (zcq hb lt t2 :), (zcq hb z h3 :), (zcq hb z h4 :), (zcq hb z h5 :), (zcq hb z h6 :), (zcq hb z h7 :), (zcq hb z h8 :)⟩;have p : Below V.heap.size V V.drew := bdN V 1;clear L K J I H G m l j b1 b2 y M X;go_region_held3 (fun w' => w'.cell? ⟨w.heap.size, 0, none⟩ = some (.slice (some ⟨Y, op, none⟩) P.length n) /\ w'.cell? ⟨W.heap.size, 0, none⟩ = some (.int .i64 (R : Int)) /\ w'.cell? ⟨W.heap.size, 1, none⟩ = some (.int .i64 (Q : Int)) /\ w'.cell? ⟨W.heap.size, 2, none⟩ = some (.int .i64 (O : Int)) /\ w'.cell? ⟨Y, op + R * 2, none⟩ = some (.string (RS p0.1)) /\ w'.cell? ⟨Y, op + R * 2 + 1, none⟩ = some (.string (RS p0.2)) /\ w'.cell? ⟨Y, op + Q * 2, none⟩ = some (.string (RS p1.1)) /\ w'.cell? ⟨Y, op + Q * 2 + 1, none⟩ = some (.string (RS p1.2)) /\ w'.cell? ⟨Y, op + O * 2, none⟩ = some (.string (RS p2.1)) /\ w'.cell? ⟨Y, op + O * 2 + 1, none⟩ = some (.string (RS p2.2)))
  ((refine HS.out _ ?_; repeat (first | with_reducible exact p | with_reducible exact Below.refl _ _ | with_reducible refine Below.drew ?_ | ((with_reducible refine Below.setCell ?_ ?_ _); rotate_left; (first | omega | (simp <;> omega))) | ((with_reducible refine Below.alloc ?_ ?_ _); rotate_left; (first | exact Nat.le_refl _ | omega | (simp <;> omega))))))
  (first | fail)
 all_goals
  go_wp2_with fail;have x : Below w.heap.size w V.drew := Z.trans ((bdN V 1).mono Z.size);go_ret;first
   | exact ⟨_, rfl, RdC.fresh 2 _ _ _ 3 rfl (by omega) _ rfl _ rfl, x.alloc x.size _⟩
   | exact ⟨_, rfl, (RdC.fresh 2 _ _ _ 3 rfl (by omega) _ rfl _ rfl).below (bdN _ 1), (Z.alloc Z.size _).trans ((bdN _ 1).mono (Z.alloc Z.size _).size)⟩
theorem pFs {P : List PtQ} {m : Nat} (h : ∀ p ∈ P, SzP m p) (Y : 0 < m) (z : Int) : SzP m (ptI P z) := by
 unfold ptI;rcases Nat.lt_or_ge z.toNat P.length with Z | Z
 ·rw [List.getElem?_eq_getElem Z]; exact h _ (List.getElem_mem Z)
 ·rw [List.getElem?_eq_none Z]; exact ⟨Sz.zero _ Y, Sz.zero _ Y⟩
def lonA (P : List PtQ) (tr : Tri) : Nat -> PtQ | 0 => ptI P tr.1 | 1 => ptI P tr.2.1 | _ => ptI P tr.2.2
def lonF (F : List Rat) (tr : Tri) : Nat -> Rat | 0 => hI F tr.1 | 1 => hI F tr.2.1 | _ => hI F tr.2.2
def lonTo (P : List PtQ) (F : List Rat) (tr : Tri) (p : PtQ) : Nat -> Rat
 | 0 => 0
 | i + 1 => lonTo P F tr p i + areaQ p (lonA P tr ((i + 1) % 3)) (lonA P tr ((i + 2) % 3)) * lonF F tr i
theorem lTt (P : List PtQ) (F : List Rat) (tr : Tri) (p : PtQ) : lonT P F tr p = lonTo P F tr p 3 / areaQ (ptI P tr.1) (ptI P tr.2.1) (ptI P tr.2.2) := rfl
theorem ll0 (w : World) (vp vt vf : Value) (P : List PtQ) (T : List Tri) (k : Nat) (F : List Rat) (h : FieldIn w vp vt vf P T k F) (t : Nat) (h9 : t < T.length) (tr : Tri) (o : tr = T[t]) (p : PtQ) (m : Nat) (hm : m <= 700) (hp : SzP m p) (h8 : k <= m) (V : Good w) :
 Calls Tryz.prog 54 #[.agg #[vp, vt], vf, .int .i64 (t : Int), .agg #[.string (RS p.1), .string (RS p.2)]] w (Ret (fun r _ => r = .string (RS (lonT P F tr p))) w) := by
 have s : 0 < m := by have := h.m.kpos; omega
 have D : tr ∈ T := by rw [o]; exact List.getElem_mem h9
 have U := h.m.idx tr D;have hN := h.fl;have f : areaQ (ptI P tr.1) (ptI P tr.2.1) (ptI P tr.2.2) ≠ 0 := by have := aQp h.m D; intro e; rw [e] at this; exact absurd this (by decide)
 have C : ∀ i, SzP m (lonA P tr i) := fun i => by
  have hs : ∀ p ∈ P, SzP m p := fun p hp => ⟨(h.m.sz p hp).1.mono h8, (h.m.sz p hp).2.mono h8⟩;unfold lonA; split <;> exact pFs hs s _
 have zF : ∀ i, Sz m (lonF F tr i) := fun i => by
  have hs : ∀ z : Int, Sz m (hI F z) := fun z => by
   unfold hI;rcases Nat.lt_or_ge z.toNat F.length with g | g
   ·rw [List.getElem?_eq_getElem g]; exact (h.fs _ (List.getElem_mem g)).mono h8
   ·rw [List.getElem?_eq_none g]; exact Sz.zero _ s
  unfold lonF; split <;> exact hs _
 have zS : ∀ i j, Sz (8 * m + 6) (areaQ p (lonA P tr i) (lonA P tr j)) := fun i j => (aQS hp (C i) (C j)).mono (by omega)
 have zT : ∀ i, Sz ((9 * m + 7) * i + 1) (lonTo P F tr p i) := fun i => by
  induction i with
  | zero => exact Sz.zero 1 (by omega)
  | succ i ih => exact (ih.add ((zS _ _).mul (zF i))).mono (by rw [Nat.mul_add]; omega)
 have c : Hid (∀ w', Below w.heap.size w w' -> Good w' -> Calls Tryz.prog 48 #[.agg #[vp, vt], .int .i64 (t : Int)] w' (Ret (fun r w' => RdP w' r (strP [ptI P tr.1, ptI P tr.2.1, ptI P tr.2.2])) w')) := fun w' hb V => l1a w' vp vt P T k (RdC.below h.p hb) (RdC.below h.t hb) h.m.toMIn t h9 tr o V;have hd : Hid (∀ (i j : Nat) (w : World), Good w -> _) := fun i j w V => aa0 p (lonA P tr i) (lonA P tr j) m s (by omega) hp (C i) (C j) w V
 have d := hid fun w V => aa0 (lonA P tr 0) (lonA P tr 1) (lonA P tr 2) m s (by omega) (C 0) (C 1) (C 2) w V
 have hD : Hid (∀ (i : Nat) (w : World), Good w -> _) := fun i w V => mQa (areaQ p (lonA P tr ((i + 1) % 3)) (lonA P tr ((i + 2) % 3))) (lonF F tr i) (9 * m + 6) (by omega) (by omega) ((zS _ _).mono (by omega)) ((zF i).mono (by omega)) w V
 have hz : Hid (∀ (i : Nat), i < 3 -> ∀ (w : World), Good w -> _) := fun i hi w V => aQa (lonTo P F tr p i) (areaQ p (lonA P tr ((i + 1) % 3)) (lonA P tr ((i + 2) % 3)) * lonF F tr i) ((9 * m + 7) * 3 + 1) (by omega) (by omega) ((zT i).mono (by have := Nat.mul_le_mul_left (9 * m + 7) (show i <= 3 by omega); omega)) (((zS _ _).mul (zF i)).mono (by omega)) w V
 have hf := hid fun w V => dQa (lonTo P F tr p 3) (areaQ (lonA P tr 0) (lonA P tr 1) (lonA P tr 2)) ((9 * m + 7) * 3 + 1) (by omega) (by omega) (zT 3) ((aQS (C 0) (C 1) (C 2)).mono (by omega)) f w V
 rw [lTt];rw [show areaQ (ptI P tr.1) (ptI P tr.2.1) (ptI P tr.2.2) = areaQ (lonA P tr 0) (lonA P tr 1) (lonA P tr 2) from rfl];obtain ⟨bt, ot, ct, rfl, hM, e0, e1, e2⟩ := h.tri t h9;have hC : Hid (∀ i : Nat, i < 3 -> ∃ (q : Nat) (N of E : Nat), q < F.length /\ vf = .slice (some ⟨N, of, none⟩) F.length E /\ N < w.heap.size /\ w.cell? ⟨bt, ot + t * 3 + i, none⟩ = some (.int .i64 (q : Int)) /\ w.cell? ⟨N, of + q, none⟩ = some (.string (RS (lonF F tr i)))) := fun i hi => by
  rw [<- o] at e0 e1 e2;have key : ∀ z : Int, 0 <= z -> z < P.length -> ∃ (q : Nat) (N of E : Nat), z = (q : Int) /\ q < F.length /\ vf = .slice (some ⟨N, of, none⟩) F.length E /\ N < w.heap.size /\ w.cell? ⟨N, of + q, none⟩ = some (.string (RS (hI F z))) := fun z h0 g => by
   obtain ⟨q, rfl⟩ : ∃ q : Nat, z = (q : Int) := ⟨z.toNat, by omega⟩;obtain ⟨N, of, E, hv, h7, ef⟩ := h.hgt q (by omega);exact ⟨q, N, of, E, rfl, by omega, hv, h7, ef⟩
  rcases (by omega : i = 0 \/ i = 1 \/ i = 2) with rfl | rfl | rfl
  ·obtain ⟨q, N, of, E, hq, I, H, G, l⟩ := key tr.1 (U _ (by simp [idxOf])).1 (U _ (by simp [idxOf])).2
   exact ⟨q, N, of, E, I, H, G, by rw [<- hq]; exact e0, l⟩
  ·obtain ⟨q, N, of, E, hq, I, H, G, l⟩ := key tr.2.1 (U _ (by simp [idxOf])).1 (U _ (by simp [idxOf])).2
   exact ⟨q, N, of, E, I, H, G, by rw [<- hq]; exact e1, l⟩
  ·obtain ⟨q, N, of, E, hq, I, H, G, l⟩ := key tr.2.2 (U _ (by simp [idxOf])).1 (U _ (by simp [idxOf])).2
   exact ⟨q, N, of, E, I, H, G, by rw [<- hq]; exact e2, l⟩
 obtain ⟨pp, cp, rfl, -, -, -⟩ := h.p.open;rw [sPl] at *;rw [show strP [ptI P tr.1, ptI P tr.2.1, ptI P tr.2.2] = strP [lonA P tr 0, lonA P tr 1, lonA P tr 2] from rfl] at c;have hE : Hid (∀ i, lonTo P F tr p (i + 1) = lonTo P F tr p i + areaQ p (lonA P tr ((i + 1) % 3)) (lonA P tr ((i + 2) % 3)) * lonF F tr i) := fun i => rfl;have hy : lonTo P F tr p 0 = 0 := rfl;have z7 : (t : Int) < (T.length : Int) := by omega
 have z8 : IntKind.i64.wrap (t : Int) = (t : Int) := IntWalk.i64_in _ (by have := h.m.tlen; omega);have z1 := h.m.tlen;unfold VP at hd d;generalize lonTo P F tr p = LT at *;generalize lonA P tr = A at *;generalize lonF F tr = Fz at *;clear h U o D e0 e1 e2 f C zF zS zT hp hN;go_enter Tryz.func54, Tryz.ntmps54;go_upto_region 1 with fail;obtain ⟨W, hW⟩ := zex ((w.alloc (.cells #[.slice pp P.length cp, .slice (some ⟨bt, ot, none⟩) T.length ct] 35)).alloc (.cells #[.string (RS p.1), .string (RS p.2)] 50));have hB : Below w.heap.size w W := by rw [hW]; exact zal2 _ _ _
 have b7 : BoxN W (w.heap.size + 1) 50 [.string (RS p.1), .string (RS p.2)] := by rw [hW]; exact BoxN.new _ _ _ _ (by simp)
 have b4 : BoxN W w.heap.size 35 [.slice pp P.length cp, .slice (some ⟨bt, ot, none⟩) T.length ct] := by
  rw [hW];have g := (BoxN.new w #[.slice pp P.length cp, .slice (some ⟨bt, ot, none⟩) T.length ct] 35 _ rfl);exact g.below (zal _ _) g.lt
 rw [<- hW];clear hW;have m0 := b4.cell 0 rfl;have m1 := b4.cell 1 rfl;go_wp2_with fail;refine (c.out W hB (V.below hB)).mono ?_;rintro e w1 ⟨_, rfl, hx, v⟩;have hJ := zbt hB v;have hl := b7.below v b7.lt;have hk := b4.below v b4.lt;obtain ⟨pc, cc, rfl, -, -, ht⟩ := hx.open;obtain ⟨R, O, rfl, X, M⟩ := ht (by simp [strP]);have S : Hid (∀ i : Nat, i < 3 -> w1.cell? ⟨R, O + i * 2, none⟩ = some (.string (RS (A i).1)) /\ w1.cell? ⟨R, O + i * 2 + 1, none⟩ = some (.string (RS (A i).2))) := fun i hi => by
  rcases (by omega : i = 0 \/ i = 1 \/ i = 2) with rfl | rfl | rfl
  ·exact M 0 (by simp [strP])
  ·exact M 1 (by simp [strP])
  ·exact M 2 (by simp [strP])
 rw [show (strP [A 0, A 1, A 2]).length = 3 from rfl];have HJ : Hid (∀ i : Nat, i < 3 -> ∃ L K : Nat, L < 3 /\ K < 3 /\ L = (i + 1) % 3 /\ K = (i + 2) % 3 /\ ((i : Int) + 1).tmod 3 = (L : Int) /\ ((i : Int) + 2).tmod 3 = (K : Int)) := fun i hi => by
  rcases (by omega : i = 0 \/ i = 1 \/ i = 2) with rfl | rfl | rfl
  ·exact ⟨1, 2, by omega, by omega, rfl, rfl, by decide, by decide⟩
  ·exact ⟨2, 0, by omega, by omega, rfl, rfl, by decide, by decide⟩
  ·exact ⟨0, 1, by omega, by omega, rfl, rfl, by decide, by decide⟩
 clear v hB b7 b4 m0 m1 hx ht M c;go_wp2_with fail;go_loopw [10, 11] (fun t10 t11 wr => ∃ i : Nat, t11 = .int .i64 i /\ i <= 3 /\ t10 = .string (RS (LT i)) /\ Below w1.heap.size w1 wr) (fun _ t11 _ => 3 - (RowKit.intOf t11).toNat)
 case atStart => exact ⟨0, rfl, Nat.zero_le _, by rw [hy, RS_zero], Below.refl _ _⟩
 case round =>
  obtain ⟨i, rfl, hi, rfl, Y⟩ := hrel;have x := zbt hJ Y;have hY : R < wr.heap.size := Nat.lt_of_lt_of_le X Y.size;rcases Nat.lt_or_ge i 3 with h3 | h3
  ·have z3 : (i : Int) < 3 := by omega
   obtain ⟨L, K, hu, hw, h2, h4, hO, hP⟩ := HJ.out i h3;obtain ⟨q, N, of, E, z5, rfl, h7, hH, hG⟩ := hC.out i h3;have hj := hid (hE.out i);rw [<- h2, <- h4] at hj;have hc := hid fun w V => hd.out L K w V;have hh := hid fun w V => hD.out i w V;have he := hid fun w V => hz.out i h3 w V;rw [<- h2, <- h4] at hh he;have x0 := zcq Y X (S.out L hu).1;have I := zcq Y X (S.out L hu).2;have H := zcq Y X (S.out K hw).1;have G := zcq Y X (S.out K hw).2;have B := hl.below Y hl.lt;have b := hk.below Y hk.lt;have y0 := B.cell 0 rfl;have y1 := B.cell 1 rfl;have z4 := B.lt;have J : Good wr.drew := (V.below x).drewN 1;have hR : IntKind.i64.wrap ((i : Int) + 1) = (i : Int) + 1 := IntWalk.i64_in _ (by omega);have hS : IntKind.i64.wrap ((i : Int) + 2) = (i : Int) + 2 := IntWalk.i64_in _ (by omega);have hT : IntKind.i64.wrap (L : Int) = (L : Int) := IntWalk.i64_in _ (by omega);have hU : IntKind.i64.wrap (K : Int) = (K : Int) := IntWalk.i64_in _ (by omega);have hZ : (L : Int) < 3 := by omega
   have z0 : (K : Int) < 3 := by omega
   generalize areaQ p (A L) (A K) = ar at *;generalize A L = pb at *;generalize A K = pd at *;clear h2 h4;go_wp2_with fail;go_region_held3 (fun w' => w'.cell? ⟨w.heap.size + 1, 0, none⟩ = some (.string (RS p.1)) /\ w'.cell? ⟨w.heap.size + 1, 1, none⟩ = some (.string (RS p.2)) /\ w'.cell? ⟨R, O + L * 2, none⟩ = some (.string (RS pb.1)) /\ w'.cell? ⟨R, O + L * 2 + 1, none⟩ = some (.string (RS pb.2)) /\ w'.cell? ⟨R, O + K * 2, none⟩ = some (.string (RS pd.1)) /\ w'.cell? ⟨R, O + K * 2 + 1, none⟩ = some (.string (RS pd.2)))
    (first | exact ⟨y0, y1, x0, I, H, G⟩ | exact ⟨p_1_0, p_1_1, p_1_2, p_1_3, p_1_4, p_1_5⟩)
    (first
    | (go_at_call 81; refine (hc.out _ J).mono ?_; rintro e n ⟨_, rfl, rfl, Z⟩
       have p_1_0 := zct Z y0;have p_1_1 := zct Z y1;have p_1_2 := zct Z x0;have p_1_3 := zct Z I;have p_1_4 := zct Z H;have p_1_5 := zct Z G;have hV : wr.heap.size <= n.heap.size := Z.size;have ha := J.below Z))
   have pB : Below wr.heap.size wr n := zbt (bdN wr 1) Z;have hL := zbt Y pB;have y := zbt x pB;have hF := b.below pB b.lt;have m1 := hF.cell 1 rfl;have c0 := zcq y hM hH;have c1 := zcq y h7 hG;have z6 : (q : Int) < (F.length : Int) := by omega
   clear x0 I H G y0 y1 B b hR hS hT hU hO hP J hc;go_wp2_with fail;refine (hh.out _ (V.below y)).mono ?_;rintro e w3 ⟨_, rfl, rfl, h6⟩;have ho := zbt hL h6;have hn := zbt y h6;clear m1 c0 c1 h6;go_wp2_with fail;refine (he.out _ (V.below hn)).mono ?_;rintro e w4 ⟨_, rfl, rfl, hK⟩;have hr := zbt ho hK;go_wp2_with fail;go_roundw
   case rel => exact ⟨i + 1, by go_num, by omega, by rw [hj.out], hr⟩
   case measure => simp [RowKit.intOf]; omega
  ·have z2 : ¬ (i : Int) < 3 := by omega
   have HI : Hid (i = 3) := by unfold Hid; omega
   rw [HI.out];have x0 := (Y.cell (p := ⟨R, O + 0 * 2, none⟩) X).trans (S.out 0 (by omega)).1;have I := (Y.cell (p := ⟨R, O + 0 * 2 + 1, none⟩) X).trans (S.out 0 (by omega)).2;have H := (Y.cell (p := ⟨R, O + 1 * 2, none⟩) X).trans (S.out 1 (by omega)).1;have G := (Y.cell (p := ⟨R, O + 1 * 2 + 1, none⟩) X).trans (S.out 1 (by omega)).2;have l := (Y.cell (p := ⟨R, O + 2 * 2, none⟩) X).trans (S.out 2 (by omega)).1;have x5 := (Y.cell (p := ⟨R, O + 2 * 2 + 1, none⟩) X).trans (S.out 2 (by omega)).2;simp only [Nat.zero_mul, Nat.one_mul, Nat.reduceMul, Nat.add_zero, Nat.add_assoc, Nat.reduceAdd] at x0 I H G l x5;have J : Good wr.drew := (V.below x).drewN 1;obtain ⟨ar, h5⟩ : ∃ a, a = areaQ (A 0) (A 1) (A 2) := ⟨_, rfl⟩;rw [<- h5] at d hf;have hA := hid h5;clear hi h3 h5;go_wp2_with fail;go_region_held3 (fun w' => w'.cell? ⟨R, O, none⟩ = some (.string (RS (A 0).1)) /\ w'.cell? ⟨R, O + 1, none⟩ = some (.string (RS (A 0).2)) /\ w'.cell? ⟨R, O + 2, none⟩ = some (.string (RS (A 1).1)) /\ w'.cell? ⟨R, O + 3, none⟩ = some (.string (RS (A 1).2)) /\ w'.cell? ⟨R, O + 4, none⟩ = some (.string (RS (A 2).1)) /\ w'.cell? ⟨R, O + 5, none⟩ = some (.string (RS (A 2).2)))
    (first | exact ⟨x0, I, H, G, l, x5⟩ | exact ⟨p_1_0, p_1_1, p_1_2, p_1_3, p_1_4, p_1_5⟩ | exact ⟨p_2_0, p_2_1, p_2_2, p_2_3, p_2_4, p_2_5⟩)
    (first
    | (go_at_call 52; refine (hf.out _ ha).mono ?_; rintro e hX ⟨_, rfl, rfl, Q⟩
       have p_2_0 := zct Q p_1_0;have p_2_1 := zct Q p_1_1;have p_2_2 := zct Q p_1_2;have p_2_3 := zct Q p_1_3;have p_2_4 := zct Q p_1_4;have p_2_5 := zct Q p_1_5;have za := Q.size;have z9 := ha.below Q)
    | (go_at_call 81; refine (d.out _ J).mono ?_; rintro e n ⟨_, rfl, rfl, Z⟩
       have p_1_0 := zct Z x0;have p_1_1 := zct Z I;have p_1_2 := zct Z H;have p_1_3 := zct Z G;have p_1_4 := zct Z l;have p_1_5 := zct Z x5;have hV : wr.heap.size <= n.heap.size := Z.size;have ha := J.below Z))
   have pB : Below wr.heap.size wr hX := zbt (zbt (bdN wr 1) Z) Q;go_wp2_with fail;go_ret;exact ⟨_, rfl, (by rw [hA.out]; exact rfl), (zbt x pB)⟩
theorem ip9 : ((Tryz.prog).info? 50).map (fun i => (i.zero, i.size, i.bytes)) = some (some (.agg #[.string ⟨#[]⟩, .string ⟨#[]⟩]), 2, 32) := by kernel_rfl
theorem lPc (a b : PtQ) : decide (ltP a b) = (decide (cmpQ a.1 b.1 < 0) || (decide (cmpQ a.1 b.1 = 0) && decide (cmpQ a.2 b.2 < 0))) := by
 unfold ltP;rcases cQc a.1 b.1 with ⟨h, e⟩ | ⟨h, e⟩ | ⟨h, e⟩ <;> rcases cQc a.2 b.2 with ⟨g, f⟩ | ⟨g, f⟩ | ⟨g, f⟩ <;> rw [e, f] <;> simp <;> grind
theorem l0a (a b : PtQ) (k : Nat) (I : 0 < k) (S : k <= 20000) (M : SzP k a) (L : SzP k b) (w : World) (V : Good w) :
 Calls Tryz.prog 98 #[.agg #[.string (RS a.1), .string (RS a.2)], .agg #[.string (RS b.1), .string (RS b.2)]] w (Ret (fun r _ => r = .bool (decide (ltP a b))) w) := by
 have R := hid (lPc a b);have H := hid fun w V => cj0 a.1 b.1 k I S M.1 L.1 w V;have G := hid fun w V => cj0 a.2 b.2 k I S M.2 L.2 w V;clear M L;generalize cmpQ a.1 b.1 = c1 at *;generalize cmpQ a.2 b.2 = c2 at *;go_enter Tryz.func98, Tryz.ntmps98;go_wp2_with fail;obtain ⟨W, U⟩ := zex ((w.alloc (.cells #[.string (RS a.1), .string (RS a.2)] 50)).alloc (.cells #[.string (RS b.1), .string (RS b.2)] 50));have N : Below w.heap.size w W := by rw [U]; exact zal2 _ _ _
 have O : BoxN W (w.heap.size + 1) 50 [.string (RS b.1), .string (RS b.2)] := by rw [U]; exact BoxN.new _ _ _ _ (by simp)
 have Q : BoxN W w.heap.size 50 [.string (RS a.1), .string (RS a.2)] := by
  rw [U];have J := BoxN.new w #[.string (RS a.1), .string (RS a.2)] 50 _ rfl;exact J.below (zal _ _) J.lt
 rw [<- U];clear U;refine (H.out W (V.below N)).mono ?_;rintro e D ⟨_, rfl, rfl, Y⟩;have Z := zbt N Y;have B := (Q.below Y Q.lt).cell 1 rfl;have A := (O.below Y O.lt).cell 1 rfl;clear Q O Y N;by_cases hc : c1 < 0
 ·have X : decide (c1 < 0) = true := decide_eq_true hc
  go_wp2_with fail;go_ret;exact ⟨_, rfl, by show Value.bool _ = _; rw [R.out, X, Bool.true_or], Z⟩
 ·have X : decide (c1 < 0) = false := decide_eq_false hc
  by_cases h0 : c1 = 0
  ·subst h0
   go_wp2_with fail;refine (G.out D (V.below Z)).mono ?_;rintro e C ⟨_, rfl, rfl, K⟩;go_wp2_with fail;go_ret;exact ⟨_, rfl, by show Value.bool _ = _; rw [R.out]; simp, (zbt Z K)⟩
  ·have E : (c1 == 0) = false := by simpa using h0
   go_wp2_with fail;go_ret;exact ⟨_, rfl, by show Value.bool _ = _; rw [R.out, X, decide_eq_false h0]; rfl, Z⟩
theorem cPl (l : List PtQ) : (cPP (strP l)).length = l.length * 2 := by
 induction l with
 | nil => rfl
 | cons a l ih => rw [show cPP (strP (a :: l)) = [Value.string (RS a.1), .string (RS a.2)] ++ cPP (strP l) from rfl, List.length_append, ih, List.length_cons]; simp; omega
theorem cPo (l : List PtQ) : ∀ u ∈ cPP (strP l), u.oneCell' = true := fun u hu => by
 unfold cPP at hu;obtain ⟨p, -, Z⟩ := List.mem_flatMap.1 hu;rcases List.mem_cons.1 Z with rfl | Z
 ·rfl
 ·rcases List.mem_cons.1 Z with rfl | Z
  ·rfl
  ·cases Z
theorem nps {w : World} {b o : Nat} {l : List PtQ} (n m : Nat) (S : n + m <= l.length) (h : ∀ i : Nat, i < l.length -> w.cell? ⟨b, o + i * 2, none⟩ = some (.string (RS (ptI l i).1)) /\ w.cell? ⟨b, o + i * 2 + 1, none⟩ = some (.string (RS (ptI l i).2))) :
 ∀ (j : Nat) (u : Value), (cPP (strP ((l.drop n).take m)))[j]? = some u -> w.cell? ((⟨b, o + n * 2, none⟩ : Addr).add j) = some u := fun j u hu => by
 have R : j < m * 2 := by
  have X := (List.getElem?_eq_some_iff.1 hu).1;rw [cPl, List.length_take, List.length_drop] at X;have : min m (l.length - n) <= m := Nat.min_le_left _ _;omega
 have hA : (⟨b, o + n * 2, none⟩ : Addr).add j = ⟨b, o + n * 2 + j, none⟩ := by
  unfold Addr.add;split
  ·rename_i h0; rw [h0]; rfl
  ·rfl
 have V : j = j / 2 * 2 + j % 2 := by omega
 have Y : n + j / 2 < l.length := by omega
 unfold cPP at hu;rw [V, gEf _ 2 (fun _ => rfl) _ _ _ (by omega)] at hu;have U : (strP ((l.drop n).take m))[j / 2]? = some (RS (ptI l ((n + j / 2 : Nat) : Int)).1, RS (ptI l ((n + j / 2 : Nat) : Int)).2) := by
  unfold strP;rw [List.getElem?_map, List.getElem?_take_of_lt (by omega), List.getElem?_drop, List.getElem?_eq_getElem Y, pIn l _ Y];rfl
 rw [U] at hu;obtain ⟨c0, c1⟩ := h (n + j / 2) Y;rcases (by omega : j % 2 = 0 \/ j % 2 = 1) with e | e
 ·rw [e] at hu
  have Z : some (Value.string (RS (ptI l ((n + j / 2 : Nat) : Int)).1)) = some u := hu;rw [<- Z, <- c0];rw [hA, show o + n * 2 + j = o + (n + j / 2) * 2 by omega]
 ·rw [e] at hu
  have Z : some (Value.string (RS (ptI l ((n + j / 2 : Nat) : Int)).2)) = some u := hu;rw [<- Z, <- c1];rw [hA, show o + n * 2 + j = o + (n + j / 2) * 2 + 1 by omega]
theorem cd0 (a b : List (ByteArray × ByteArray)) : cPP (a ++ b) = cPP a ++ cPP b := by simp [cPP]
theorem sPa (a b : List PtQ) : strP (a ++ b) = strP a ++ strP b := by unfold strP; exact List.map_append
theorem oey (w : World) (base t s : Nat) (Z : base <= w.heap.size) : (w.alloc (.cells #[] t)).drew.ownsRow base t s (.slice (some ⟨w.heap.size, 0, none⟩) 0 0) 0 [] := by
 refine ⟨by simp, .inr ⟨w.heap.size, 0, #[], rfl, Z, ?_, Nat.le_refl _, Nat.zero_le _, by simp, by simp⟩⟩;have := BoxN.new w #[] t w.heap.size rfl;exact this
def PtsV (w : World) (B : Nat) (v : Value) (l : List PtQ) : Prop := w.ownsRow B 50 2 v l.length (cPP (strP l))
theorem PtsV.rd {w : World} {B : Nat} {v : Value} {l : List PtQ} (h : PtsV w B v l) : RdP w v (strP l) := by
 have := RdC.of_owns h;rw [<- sPl l] at this;exact this
theorem PtsV.below {w w' : World} {B : Nat} {v : Value} {l : List PtQ} (h : PtsV w B v l) (Z : Below w.heap.size w w') : PtsV w' B v l := WRA h Z
theorem PtsV.base {w : World} {B B' : Nat} {v : Value} {l : List PtQ} (h : PtsV w B v l) (Z : B' <= B) : PtsV w B' v l := oRb h Z
theorem b0l (w : World) (v : Value) (l : List PtQ) (k : Nat) (H : 0 < k) (hm : k <= 20000) (hl : 0 < l.length) (hB : l.length <= 100) (hs : ∀ p ∈ l, SzP k p) (hv : RdP w v (strP l)) (hg : Good w) :
 Calls Tryz.prog 53 #[v] w (Ret (fun r w' => ∃ n, n < l.length /\ (∀ j : Nat, j < l.length -> ¬ ltP (ptI l j) (ptI l n)) /\ PtsV w' w.heap.size r (begL l n)) w) := by
 have ht : l.length <= maxLen := by unfold maxLen; omega
 have L : ∀ p c, v = .slice p l.length c -> l.length <= c /\ c <= maxLen := fun p c e => by
  obtain ⟨p', c', e', h1, h2, -⟩ := hv.open;rw [e] at e';rw [sPl] at e' h1;injection e' with _ _ e3
  rw [e3];exact ⟨h1, h2⟩
 obtain ⟨b, o, c, rfl, N, z⟩ := hv.cells hl;obtain ⟨hu, hx⟩ := L _ _ rfl;have h6 : Hid (∀ i j : Nat, i < l.length -> j < l.length -> ∀ w, Good w -> Calls Tryz.prog 98 #[.agg #[.string (RS (ptI l i).1), .string (RS (ptI l i).2)], .agg #[.string (RS (ptI l j).1), .string (RS (ptI l j).2)]] w (Ret (fun r _ => ∃ c : Bool, r = .bool c /\ Hid (c = decide (ltP (ptI l i) (ptI l j)))) w)) := fun i j x hj w hg => (l0a (ptI l i) (ptI l j) k H hm (pFs hs H _) (pFs hs H _) w hg).mono (by rintro e w' ⟨r, rfl, rfl, N⟩; exact ⟨_, rfl, ⟨_, rfl, rfl⟩, N⟩)
 have O := hid z;obtain ⟨i0, x, G, E, D⟩ := info_parts ip9;clear hs z L hv;go_enter Tryz.func53, Tryz.ntmps53;go_wp2_with fail;have hd : Hid (∀ j : Nat, j < 1 -> ¬ ltP (ptI l j) (ptI l (0 : Nat))) := fun j hj => by
  obtain rfl : j = 0 := by omega
  exact lPi _
 go_loopw [3, 4] (fun t3 t4 wr => ∃ i n : Nat, t4 = .int .i64 i /\ t3 = .int .i64 n /\ i <= l.length /\ n < l.length /\ Hid (∀ j : Nat, j < i -> ¬ ltP (ptI l j) (ptI l n)) /\ Below w.heap.size w wr) (fun _ t4 _ => l.length - (RowKit.intOf t4).toNat)
 case atStart => exact ⟨1, 0, rfl, rfl, hl, hl, hd, Below.refl _ _⟩
 case round =>
  obtain ⟨i, n, rfl, rfl, hz, M, B, Y⟩ := hrel;have hh := hg.below Y;rcases Nat.lt_or_ge i l.length with h | h
  ·have hA : (i : Int) < (l.length : Int) := by omega
   have hn : (n : Int) < (l.length : Int) := by omega
   have C : Hid (∀ w, Good w -> _) := h6.out i n h M;obtain ⟨t, s⟩ := O.out i h;obtain ⟨m, g⟩ := O.out n M;have h8 : Hid (∀ c : Bool, c = decide (ltP (ptI l i) (ptI l n)) -> (c = false -> ∀ j : Nat, j < i + 1 -> ¬ ltP (ptI l j) (ptI l n)) /\ (c = true -> ∀ j : Nat, j < i + 1 -> ¬ ltP (ptI l j) (ptI l i))) := fun c z => ⟨fun e j hj => by
    rcases (by omega : j < i \/ j = i) with h | rfl
    ·exact B.out j h
    ·rw [e] at z; exact of_decide_eq_false z.symm, fun e j hj => by
    rcases (by omega : j < i \/ j = i) with h | rfl
    ·rw [e] at z; exact fun h2 => B.out j h (lPt h2 (of_decide_eq_true z.symm))
    ·exact lPi _⟩
   generalize hp : ptI l (i : Int) = p at t s C;generalize hq : ptI l (n : Int) = q at m g C;have h9 : Hid (∀ c : Bool, Hid (c = decide (ltP p q)) -> c = decide (ltP (ptI l i) (ptI l n))) := fun c h => by rw [hp, hq]; exact h.out
   clear hp hq;have t := zcq Y N t;have s := zcq Y N s;have m := zcq Y N m;have g := zcq Y N g;have lb : b < wr.heap.size := Nat.lt_of_lt_of_le N Y.size;have y : Good wr.drew := hh.drewN 1;go_wp2_with fail;go_region_held3 (fun w' => w'.cell? ⟨b, o + i * 2, none⟩ = some (.string (RS p.1)) /\ w'.cell? ⟨b, o + i * 2 + 1, none⟩ = some (.string (RS p.2)) /\ w'.cell? ⟨b, o + n * 2, none⟩ = some (.string (RS q.1)) /\ w'.cell? ⟨b, o + n * 2 + 1, none⟩ = some (.string (RS q.2)))
    (first | exact ⟨t, s, m, g⟩ | exact ⟨p_1_0, p_1_1, p_1_2, p_1_3⟩)
    (first
    | (go_at_call 98; refine (C.out _ y).mono ?_; rintro e h4 ⟨_, rfl, ⟨cb, rfl, h3⟩, V⟩
       have p_1_0 := zct V t;have p_1_1 := zct V s;have p_1_2 := zct V m;have p_1_3 := zct V g;have hF : wr.heap.size <= h4.heap.size := V.size;have hE := y.below V;have f := hid (h8.out _ (h9.out _ h3));clear h3))
   have pB : Below wr.heap.size wr h4 := zbt (bdN wr 1) V;have h0 := zbt Y pB;clear t s m g y;cases cb
   ·go_wp2_with fail
    go_roundw
    case rel => exact ⟨i + 1, n, by go_num, rfl, by omega, M, f.out.1 rfl, h0⟩
    case measure => simp [RowKit.intOf]; omega
   ·go_wp2_with fail
    go_roundw
    case rel => exact ⟨i + 1, i, by go_num, rfl, by omega, h, f.out.2 rfl, h0⟩
    case measure => simp [RowKit.intOf]; omega
  ·have hr : ¬ (i : Int) < (l.length : Int) := by omega
   have hn : (n : Int) <= (l.length : Int) := by omega
   have hC : (0 : Int) <= (n : Int) := by omega
   have hD : n <= c := by omega
   have hy : ¬ c = n := by omega
   have h5 : Hid ((cPP (strP ((l.drop n).take (l.length - n)))).length = (l.length - n) * 2) := by unfold Hid; rw [cPl, List.length_take, List.length_drop, Nat.min_self]
   have h7 : Hid ((cPP (strP ((l.drop 0).take n))).length = n * 2) := by unfold Hid; rw [cPl, List.length_take, List.length_drop]; congr 1; omega
   have ha : Hid (∀ (v' : Value) (w' : World), w'.ownsRow w.heap.size 50 2 v' (0 + (l.length - n) + n) ([] ++ cPP (strP ((l.drop n).take (l.length - n))) ++ cPP (strP ((l.drop 0).take n))) -> PtsV w' w.heap.size v' (begL l n)) := fun v' w' h => by
    have e1 : [] ++ cPP (strP ((l.drop n).take (l.length - n))) ++ cPP (strP ((l.drop 0).take n)) = cPP (strP (begL l n)) := by
     rw [List.nil_append, <- cd0, <- sPa, List.take_of_length_le (by rw [List.length_drop]; omega), List.drop_zero];rfl
    have e2 : 0 + (l.length - n) + n = (begL l n).length := by
     unfold begL;rw [List.length_append, List.length_drop, List.length_take];omega
    rw [e1, e2] at h;exact h
   have d : Hid (∀ w', Below w.heap.size w w' -> ∀ i : Nat, i < l.length -> w'.cell? ⟨b, o + i * 2, none⟩ = some (.string (RS (ptI l i).1)) /\ w'.cell? ⟨b, o + i * 2 + 1, none⟩ = some (.string (RS (ptI l i).2))) := fun w' hw i x => ⟨(zcq hw N (O.out i x).1 :), (zcq hw N (O.out i x).2 :)⟩;have hf : Below w.heap.size w wr.drew := Y.trans ((bdN wr 1).mono Y.size);have U : Below w.heap.size w (wr.alloc (.cells #[] 50)).drew := (Y.alloc Y.size _).trans ((bdN _ 1).mono (Y.alloc Y.size _).size);go_upto_region 7 with fail;refine AnyL.region (S := Till 4 (fun w' => Below w.heap.size w w') (fun _ => True)) (by kernel_rfl) ?_;have Z : Till 4 (fun w' => Below w.heap.size w w') (fun _ => True) (Array.replicate 10 false) _ := ⟨hf, fun _ => trivial⟩;refine zlk 1 Z ?_;try simp only [Act.put]
   refine zlk 2 Z ?_;try simp only [Act.put]
   refine zlk 3 Z ?_;try simp only [Act.put]
   refine zlk 5 Z ?_;try simp only [Act.put]
   refine zlk 6 Z ?_;try simp only [Act.put]
   refine zlk 7 Z ?_;try simp only [Act.put]
   refine AnyL.one (i := 0) (o := _) (by kernel_rfl) rfl (fun K hK => ?_);go_simp;refine hK.out _ _ ⟨U, fun H => trivial⟩ (fun Z => ?_);clear hK K;try simp only [Act.put]
   refine AnyL.one (i := 4) (o := _) (by kernel_rfl) rfl (fun K hK => ?_)
   (rw [if_pos (by simp [Region.wanted])]; refine wp_append_own _ (.tmp 21) (.tmp 24) 32 (by rfl) w.heap.size 50 i0 (.agg #[.string ⟨#[]⟩, .string ⟨#[]⟩]) 2 32 Tryz.underlying32 x G E D rfl (by decide) _ 0 [] (by simp [Act.eval]) (oey wr w.heap.size _ 2 Y.size) ⟨b, o + n * 2, none⟩ (l.length - n) (c - n) (cPP (strP ((l.drop n).take (l.length - n)))) (by simp [Act.eval]) (h5.out) (nps n (l.length - n) (by omega) (d.out _ U)) (cPo _) (by unfold maxLen; omega) (by omega) U.size ?_; intro v4 w4 X J _; have R := U.grown J U.size (fun j hj => by have := ((oey wr w.heap.size 50 2 Y.size).lt j hj).1; omega))
   refine hK.out _ _ ⟨R, fun H => trivial⟩ (fun Z => ?_);clear hK K;try simp only [Act.put]
   refine AnyL.one (i := 8) (o := _) (by kernel_rfl) rfl (fun K hK => ?_)
   (rw [if_pos (by simp [Region.wanted])]; refine wp_append_own _ (.tmp 25) (.tmp 28) 32 (by rfl) w.heap.size 50 i0 (.agg #[.string ⟨#[]⟩, .string ⟨#[]⟩]) 2 32 Tryz.underlying32 x G E D rfl (by decide) _ _ _ (by simp [Act.eval]) X ⟨b, o, none⟩ n c (cPP (strP ((l.drop 0).take n))) (by simp [Act.eval]) (h7.out) (nps 0 n (by omega) (d.out _ R)) (cPo _) (by unfold maxLen; omega) (by omega) R.size ?_; intro v8 w8 Q I _; have A := R.grown I R.size (fun j hj => by have := (X.lt j hj).1; omega))
   refine hK.out _ _ ⟨A, fun H => trivial⟩ (fun Z => ?_);clear hK K;try simp only [Act.put]
   refine AnyL.take (i := 9) (oi := _) (v := ?_) rfl (by kernel_rfl) (by kernel_rfl) (by kernel_rfl) (by decide) (fun _ _ _ h => h) (Or.inl ⟨by rfl, ?_⟩) ⟨Z.1, fun H => (by simp at H)⟩ ?_;rotate_left
   ·intro w he; (try dsimp only at he); first | (go_simp; done) | (go_simp; with_reducible rfl)
   try simp only [Act.put]
   refine AnyL.done (by kernel_rfl) ?_ _;have ho : PtsV w8 w.heap.size v8 (begL l n) := ha.out _ _ Q;have a : Below w.heap.size w w8 := A;clear Q I X J A R U;go_wp2_with fail;go_ret;exact ⟨_, rfl, ⟨n, M, fun j hj => B.out j (by omega), ho⟩, a⟩
theorem t0a (a b : PtQ) (s : Rat) (n m : Nat) (hn : 0 < n) (hm : m + 3 * n + 2 <= 20000) (O : SzP n a) (U : SzP n b) (C : Sz m s) (w : World) (Y : Good w) :
 Calls Tryz.prog 51 #[.agg #[.string (RS a.1), .string (RS a.2)], .agg #[.string (RS b.1), .string (RS b.2)], .string (RS s)] w (Ret (fun r _ => r = .agg #[.string (RS (towQ a.1 b.1 s)), .string (RS (towQ a.2 b.2 s))]) w) := by
 have H1 := hid fun w Y => sQa b.1 a.1 n hn (by omega) U.1 O.1 w Y
 have H4 := hid fun w Y => sQa b.2 a.2 n hn (by omega) U.2 O.2 w Y
 have z1 : Sz (2 * n + 1) (b.1 - a.1) := (U.1.sub O.1).mono (by omega);have z2 : Sz (2 * n + 1) (b.2 - a.2) := (U.2.sub O.2).mono (by omega);have H2 := hid fun w Y => mQa s (b.1 - a.1) (m + 2 * n + 1) (by omega) (by omega) (C.mono (by omega)) (z1.mono (by omega)) w Y
 have H5 := hid fun w Y => mQa s (b.2 - a.2) (m + 2 * n + 1) (by omega) (by omega) (C.mono (by omega)) (z2.mono (by omega)) w Y
 have y1 : Sz (m + 2 * n + 1) (s * (b.1 - a.1)) := (C.mul z1).mono (by omega);have y2 : Sz (m + 2 * n + 1) (s * (b.2 - a.2)) := (C.mul z2).mono (by omega);have H3 := hid fun w Y => aQa a.1 (s * (b.1 - a.1)) (m + 2 * n + 1) (by omega) (by omega) (O.1.mono (by omega)) y1 w Y
 have H6 := hid fun w Y => aQa a.2 (s * (b.2 - a.2)) (m + 2 * n + 1) (by omega) (by omega) (O.2.mono (by omega)) y2 w Y
 unfold towQ;generalize RS (a.1 + s * (b.1 - a.1)) = r1 at *;generalize RS (a.2 + s * (b.2 - a.2)) = r2 at *;generalize RS (s * (b.1 - a.1)) = p1 at *;generalize RS (s * (b.2 - a.2)) = p2 at *;generalize RS (b.1 - a.1) = d1 at *;generalize RS (b.2 - a.2) = d2 at *;generalize RS a.1 = ax at *;generalize RS a.2 = ay at *;generalize RS b.1 = bx at *;generalize RS b.2 = by' at *;generalize RS s = sz at *;clear O U C z1 z2 y1 y2 hm;go_enter Tryz.func51, Tryz.ntmps51;go_wp2_with fail;obtain ⟨W, N⟩ := zex (((w.alloc (.cells #[.string ax, .string ay] 50)).alloc (.cells #[.string bx, .string by'] 50)).alloc (.cells #[.string ⟨#[]⟩, .string ⟨#[]⟩] 50));have B : Below w.heap.size w W := by rw [N]; exact (((Below.refl _ _).alloc (Nat.le_refl _) _).alloc (by simp) _).alloc (by simp; omega) _
 have y : BoxN W (w.heap.size + 1 + 1) 50 [.string ⟨#[]⟩, .string ⟨#[]⟩] := by rw [N]; exact BoxN.new _ _ _ _ (by simp)
 have z : BoxN W (w.heap.size + 1) 50 [.string bx, .string by'] := by
  rw [N];have Q := (BoxN.new (w.alloc (.cells #[.string ax, .string ay] 50)) #[.string bx, .string by'] 50 (w.heap.size + 1) (by simp));exact Q.below (zal _ _) Q.lt
 have A : BoxN W w.heap.size 50 [.string ax, .string ay] := by
  rw [N];have Q := (BoxN.new w #[.string ax, .string ay] 50 _ rfl);exact Q.below (((Below.refl _ _).alloc (Nat.le_refl _) _).alloc (by simp) _) Q.lt
 rw [<- N];clear N;have f : Good W.drew := (Y.below B).drewN 1;have R : Hid (∀ w', Below W.heap.size W w' -> (w'.cell? ⟨w.heap.size, 0, none⟩ = some (.string ax) /\ w'.cell? ⟨w.heap.size, 1, none⟩ = some (.string ay) /\ w'.cell? ⟨w.heap.size + 1, 0, none⟩ = some (.string bx) /\ w'.cell? ⟨w.heap.size + 1, 1, none⟩ = some (.string by')) /\ Good w' /\ BoxN w' (w.heap.size + 1 + 1) 50 [.string ⟨#[]⟩, .string ⟨#[]⟩] /\ Below w.heap.size w w') := fun w' U => by
  have x3 := A.below U A.lt;have x4 := z.below U z.lt;exact ⟨⟨x3.cell 0 rfl, x3.cell 1 rfl, x4.cell 0 rfl, x4.cell 1 rfl⟩, (Y.below B).below U, y.below U y.lt, (zbt B U)⟩
 have V : Hid (∀ w' w'', Below W.heap.size W w' -> Below w'.heap.size w' w'' -> Below W.heap.size W w'') := fun w' w'' Q h2 => (zbt Q h2);have M := bdN W 1;have d := (R.out _ M).1;have Z : Hid (∀ (X : World) (i j b m : Nat) (u v : Value), b < w.heap.size + 1 + 1 -> ((X.setCell ⟨w.heap.size + 1 + 1, i, none⟩ u).setCell ⟨w.heap.size + 1 + 1, j, none⟩ v).cell? ⟨b, m, none⟩ = X.cell? ⟨b, m, none⟩) := fun X i j b m u v h => by
  have D : w.heap.size + 1 + 1 ≠ b := by omega
  rw [World.cell?_setCell_far _ _ _ _ D, World.cell?_setCell_far _ _ _ _ D]
 clear A z y B;go_region_held3 (fun w' => w'.cell? ⟨w.heap.size, 0, none⟩ = some (.string ax) /\ w'.cell? ⟨w.heap.size, 1, none⟩ = some (.string ay) /\ w'.cell? ⟨w.heap.size + 1, 0, none⟩ = some (.string bx) /\ w'.cell? ⟨w.heap.size + 1, 1, none⟩ = some (.string by'))
  (first | exact d | exact c | exact h0 | exact h3 | exact h4 | exact h5 | exact S | exact ⟨(Z.out _ _ _ _ _ _ _ (by omega)).trans S.1, (Z.out _ _ _ _ _ _ _ (by omega)).trans S.2.1, (Z.out _ _ _ _ _ _ _ (by omega)).trans S.2.2.1, (Z.out _ _ _ _ _ _ _ (by omega)).trans S.2.2.2⟩)
  (first
    | (go_at_call 95; refine (H6.out _ g).mono ?_; rintro e v6 ⟨_, rfl, rfl, G⟩
       have hb_6 := V.out _ _ hb_5 G;obtain ⟨S, hd, b6_6, x⟩ := R.out _ hb_6;have y0 := b6_6.cell 0 rfl;have y1 := b6_6.cell 1 rfl;have he := b6_6.frozen 0;have hf := b6_6.frozen 1)
    | (go_at_call 97; refine (H5.out _ k).mono ?_; rintro e v5 ⟨_, rfl, rfl, H⟩
       have hb_5 := V.out _ _ hb_4 H;obtain ⟨h5, g, b6_5, hc⟩ := R.out _ hb_5)
    | (go_at_call 49; refine (H4.out _ l).mono ?_; rintro e v4 ⟨_, rfl, rfl, I⟩
       have hb_4 := V.out _ _ hb_3 I;obtain ⟨h4, k, b6_4, h9⟩ := R.out _ hb_4)
    | (go_at_call 95; refine (H3.out _ o).mono ?_; rintro e v3 ⟨_, rfl, rfl, J⟩
       have hb_3 := V.out _ _ hb_2 J;obtain ⟨h3, l, b6_3, h8⟩ := R.out _ hb_3)
    | (go_at_call 97; refine (H2.out _ q).mono ?_; rintro e v2 ⟨_, rfl, rfl, K⟩
       have hb_2 := V.out _ _ hb_1 K;obtain ⟨h0, o, b6_2, h7⟩ := R.out _ hb_2)
    | (go_at_call 49; refine (H1.out _ f).mono ?_; rintro e v1 ⟨_, rfl, rfl, L⟩
       have hb_1 := V.out _ _ M L;obtain ⟨c, q, b6_1, h6⟩ := R.out _ hb_1))
 all_goals
  go_wp2_with fail;have BF := (b6_6.set 0 (.string r1)).set 1 (.string r2);have g0 := BF.cell 0 rfl;have g1 := BF.cell 1 rfl;have E : w.heap.size <= w.heap.size + 1 + 1 := by omega
  have t := (x.setCell (p := ⟨w.heap.size + 1 + 1, 0, none⟩) E (.string r1)).setCell (p := ⟨w.heap.size + 1 + 1, 1, none⟩) E (.string r2);exact bodyPost_ret (v := .agg #[.string r1, .string r2]) (by simp [results, Tryz.results51, go_sem, g0, g1]) rfl ⟨_, rfl, rfl, t⟩
theorem cPs (l : List PtQ) (p : PtQ) : cPP (strP (l ++ [p])) = cPP (strP l) ++ [.string (RS p.1), .string (RS p.2)] := by simp [cPP, strP]
theorem cAl (P : List PtQ) (F : List Rat) (tr : Tri) (i : Nat) (_hi : i < 3) : corA (corP P F tr.1) (corP P F tr.2.1) (corP P F tr.2.2) i = (lonA P tr i, lonF F tr i) := by
 rcases (by omega : i = 0 \/ i = 1 \/ i = 2) with rfl | rfl | rfl <;> rfl
theorem cBl (P : List PtQ) (F : List Rat) (tr : Tri) (i : Nat) (_hi : i < 3) : corB (corP P F tr.1) (corP P F tr.2.1) (corP P F tr.2.2) i = (lonA P tr ((i + 1) % 3), lonF F tr ((i + 1) % 3)) := by
 rcases (by omega : i = 0 \/ i = 1 \/ i = 2) with rfl | rfl | rfl <;> rfl
theorem l1l (w : World) (vp vt vf : Value) (P : List PtQ) (T : List Tri) (k : Nat) (F : List Rat) (h : FieldIn w vp vt vf P T k F) (t : Nat) (zw : t < T.length) (tr : Tri) (hY : tr = T[t]) (z : Rat) (m : Nat) (hz : Sz m z) (yv : 6 * k + m + 4 <= 200) (Q : Good w) :
 Calls Tryz.prog 15 #[.agg #[vp, vt], vf, .int .i64 (t : Int), .string (RS z)] w (Ret (fun r w' => (partT P F z tr = [] /\ r = .slice none 0 0) \/ (partT P F z tr ≠ [] /\ ∃ n, n < (partT P F z tr).length /\ (∀ j : Nat, j < (partT P F z tr).length -> ¬ ltP (ptI ((partT P F z tr).map (·.1)) j) (ptI ((partT P F z tr).map (·.1)) n)) /\ PtsV w' w.heap.size r (begL ((partT P F z tr).map (·.1)) n))) w) := by
 have yi := h.m.kpos;have z8 : tr ∈ T := by rw [hY]; exact List.getElem_mem zw
 have Y := h.m.idx tr z8;have yh := h.fl;have yk := h.m.plen;have yr := h.m.tlen;have hG : ∀ x ∈ idxOf tr, SzP k (ptI P x) /\ Sz k (hI F x) := fun x hx => by
  obtain ⟨h0, h1⟩ := Y x hx;obtain ⟨q, rfl⟩ : ∃ q : Nat, x = (q : Int) := ⟨x.toNat, by omega⟩;rw [pIn P q (by omega), he0 F q (by omega)];exact ⟨h.m.sz _ (List.getElem_mem _), h.fs _ (List.getElem_mem _)⟩
 have zC : ∀ i, i < 3 -> SzP k (lonA P tr i) /\ Sz k (lonF F tr i) := fun i hi => by
  rcases (by omega : i = 0 \/ i = 1 \/ i = 2) with rfl | rfl | rfl
  ·exact hG _ (by simp [idxOf])
  ·exact hG _ (by simp [idxOf])
  ·exact hG _ (by simp [idxOf])
 have zL : Hid (∀ p ∈ (partT P F z tr).map (·.1), SzP (6 * k + m + 4) p) := fun p hp => by
  obtain ⟨c, hc, rfl⟩ := List.mem_map.1 hp;exact (pTS hG hz c hc).1
 have y9 : Hid (∀ w' v, 0 < (partT P F z tr).length -> RdP w' v (strP ((partT P F z tr).map (·.1))) -> Good w' -> _) := fun w' v hp hv Q => b0l w' v ((partT P F z tr).map (·.1)) (6 * k + m + 4) (by omega) (by omega) (by rw [List.length_map]; exact hp) (by rw [List.length_map]; have := pTl P F z tr; omega) zL.out hv Q
 have zg : Hid (∀ w', Below w.heap.size w w' -> Good w' -> Calls Tryz.prog 48 #[.agg #[vp, vt], .int .i64 (t : Int)] w' (Ret (fun r w' => RdP w' r (strP [ptI P tr.1, ptI P tr.2.1, ptI P tr.2.2])) w')) := fun w' hb Q => l1a w' vp vt P T k (RdC.below h.p hb) (RdC.below h.t hb) h.m.toMIn t zw tr hY Q;obtain ⟨bt, ot, ct, rfl, zq, e0, e1, e2⟩ := h.tri t zw;have yf := Y tr.1 (by simp [idxOf]);obtain ⟨bf, of, cf, rfl, zp, zW⟩ := h.f.cells (by omega);have zj : Hid (∀ i : Nat, i < 3 -> ∃ q : Nat, q < F.length /\ w.cell? ⟨bt, ot + t * 3 + i, none⟩ = some (.int .i64 (q : Int)) /\ w.cell? ⟨bf, of + q, none⟩ = some (.string (RS (lonF F tr i)))) := fun i hi => by
  rw [<- hY] at e0 e1 e2;have key : ∀ z : Int, 0 <= z -> z < P.length -> ∃ q : Nat, z = (q : Int) /\ q < F.length /\ w.cell? ⟨bf, of + q, none⟩ = some (.string (RS (hI F z))) := fun z h0 h1 => by
   obtain ⟨q, rfl⟩ : ∃ q : Nat, z = (q : Int) := ⟨z.toNat, by omega⟩;exact ⟨q, rfl, by omega, zW q (by omega)⟩
  rcases (by omega : i = 0 \/ i = 1 \/ i = 2) with rfl | rfl | rfl
  ·obtain ⟨q, hq, x1, x4⟩ := key tr.1 (Y _ (by simp [idxOf])).1 (Y _ (by simp [idxOf])).2
   exact ⟨q, x1, by rw [<- hq]; exact e0, x4⟩
  ·obtain ⟨q, hq, x1, x4⟩ := key tr.2.1 (Y _ (by simp [idxOf])).1 (Y _ (by simp [idxOf])).2
   exact ⟨q, x1, by rw [<- hq]; exact e1, x4⟩
  ·obtain ⟨q, hq, x1, x4⟩ := key tr.2.2 (Y _ (by simp [idxOf])).1 (Y _ (by simp [idxOf])).2
   exact ⟨q, x1, by rw [<- hq]; exact e2, x4⟩
 obtain ⟨pp, cp, rfl, -, -, -⟩ := h.p.open;rw [sPl] at *;rw [show strP [ptI P tr.1, ptI P tr.2.1, ptI P tr.2.2] = strP [lonA P tr 0, lonA P tr 1, lonA P tr 2] from rfl] at zg;have zl : Hid (partT P F z tr = cutL (corP P F tr.1) (corP P F tr.2.1) (corP P F tr.2.2) z) := rfl;obtain ⟨cA, hC⟩ : ∃ c, c = cutTo (corP P F tr.1) (corP P F tr.2.1) (corP P F tr.2.2) z := ⟨_, rfl⟩;obtain ⟨sA, U⟩ : ∃ c, c = sTo (corP P F tr.1) (corP P F tr.2.1) (corP P F tr.2.2) z := ⟨_, rfl⟩;have zI : Hid (∀ i : Nat, i < 3 -> ∃ (A B : Cor) (j : Nat), ((i : Int) + 1).tmod 3 = (j : Int) /\ j < 3 /\ A = (lonA P tr i, lonF F tr i) /\ B = (lonA P tr j, lonF F tr j) /\ (SzP k A.1 /\ Sz k A.2) /\ (SzP k B.1 /\ Sz k B.2) /\ cA (i + 1) = cA i ++ cutS A B z /\ sA (i + 1) = (sA i || decide (0 < (A.2 - z).num.sign))) := fun i hi => by
  have h1 := cAl P F tr i hi;have h2 := cBl P F tr i hi;have h3 : ((i : Int) + 1).tmod 3 = (((i + 1) % 3 : Nat) : Int) /\ (i + 1) % 3 < 3 := by
   rcases (by omega : i = 0 \/ i = 1 \/ i = 2) with rfl | rfl | rfl <;> decide
  refine ⟨_, _, (i + 1) % 3, h3.1, h3.2, h1, h2, ?_, ?_, by rw [hC]; rfl, by rw [U]; rfl⟩
  ·rw [h1]; exact zC i hi
  ·rw [h2]; exact zC _ h3.2
 have zi : Hid ((sA 3 = true -> cA 3 ≠ []) /\ (sA 3 = true -> partT P F z tr = cA 3) /\ (sA 3 = false -> partT P F z tr = [])) := by
  refine ⟨fun e => ?_, fun e => ?_, fun e => ?_⟩
  ·rw [hC]; rw [U] at e; exact cTn _ _ _ _ 3 e
  ·rw [U] at e; rw [zl.out, hC]; unfold cutL; rw [if_pos e]
  ·rw [U] at e; rw [zl.out]; unfold cutL; rw [e]; rfl
 have zU : cA 0 = [] := by rw [hC]; rfl
 have yl : sA 0 = false := by rw [U]; rfl
 have HZ := hid hz;have yE : (t : Int) < (T.length : Int) := by omega
 have yG : IntKind.i64.wrap (t : Int) = (t : Int) := IntWalk.i64_in _ (by omega);generalize lonA P tr = CA at *;generalize lonF F tr = CF at *;generalize partT P F z tr = PT at *;clear h Y z8 e0 e1 e2 hG zC zW zL zl hC U hz hY yf yh yk;obtain ⟨i0, hi, z9, za, zb⟩ := info_parts ip9;go_enter Tryz.func15, Tryz.ntmps15;go_upto_region 2 with fail;obtain ⟨W, hW⟩ := zex (w.alloc (.cells #[.slice pp P.length cp, .slice (some ⟨bt, ot, none⟩) T.length ct] 35));have hB : Below w.heap.size w W := by rw [hW]; exact zal _ _
 have b4 : BoxN W w.heap.size 35 [.slice pp P.length cp, .slice (some ⟨bt, ot, none⟩) T.length ct] := by rw [hW]; exact BoxN.new _ _ _ _ rfl
 rw [<- hW];clear hW;have m0 := b4.cell 0 rfl;have m1 := b4.cell 1 rfl;go_wp2_with fail;refine (zg.out W hB (Q.below hB)).mono ?_;rintro e H ⟨_, rfl, y5, zo⟩;have zm := zbt hB zo;have hR := b4.below zo b4.lt;obtain ⟨pc, cc, rfl, -, -, zV⟩ := y5.open;obtain ⟨d, oc, rfl, hV, a⟩ := zV (by simp [strP]);have zH : Hid (∀ i : Nat, i < 3 -> H.cell? ⟨d, oc + i * 2, none⟩ = some (.string (RS (CA i).1)) /\ H.cell? ⟨d, oc + i * 2 + 1, none⟩ = some (.string (RS (CA i).2))) := fun i hi => by
  rcases (by omega : i = 0 \/ i = 1 \/ i = 2) with rfl | rfl | rfl
  ·exact a 0 (by simp [strP])
  ·exact a 1 (by simp [strP])
  ·exact a 2 (by simp [strP])
 rw [show (strP [CA 0, CA 1, CA 2]).length = 3 from rfl];clear zo hB b4 m0 m1 y5 zV a zg;have yD := zm.size;go_wp2_with fail;go_loopw [9, 11, 12] (fun t9 t11 t12 wr => ∃ (i n : Nat) (b : Bool), t12 = .int .i64 i /\ t11 = .bool b /\ i <= 3 /\ n <= 2 * i /\ Hid ((cA i).length = n) /\ Hid (b = sA i) /\ wr.ownsRow H.heap.size 50 2 t9 n (cPP (strP ((cA i).map (·.1)))) /\ Below H.heap.size H wr) (fun _ _ t12 _ => 3 - (RowKit.intOf t12).toNat)
 case atStart => exact ⟨0, 0, false, rfl, rfl, Nat.zero_le _, Nat.le_refl _, by unfold Hid; rw [zU]; rfl, yl.symm, by rw [zU]; exact World.ownsRow_nil _ _ _ _, Below.refl _ _⟩
 case round =>
  obtain ⟨i, n, b, rfl, rfl, ys, yy, hf, h7, C, h8⟩ := hrel;obtain ⟨p5, c5, rfl⟩ := oRs C;have V := zbt zm h8;have zY := Q.below V;rcases Nat.lt_or_ge i 3 with h3 | h3
  ·obtain ⟨A, B, j, hj, zZ, hA, zn, U, hX, z2, z1⟩ := zI.out i h3
   have hm := hid z2;have hl : Hid (sA (i + 1) = (b || decide (0 < (A.2 - z).num.sign))) := by unfold Hid; rw [z1, h7.out]
   obtain ⟨q, yz, y7, zF⟩ := zj.out i h3;obtain ⟨r, yB, y8, zG⟩ := zj.out j zZ;have ca := zH.out i h3;have cb := zH.out j zZ;have zP : CA i = A.1 := by rw [hA]
   have zQ : CF i = A.2 := by rw [hA]
   have z4 : CA j = B.1 := by rw [zn]
   have z5 : CF j = B.2 := by rw [zn]
   rw [zQ] at zF;rw [z5] at zG;rw [zP] at ca;rw [z4] at cb;have f : Sz (k + m + 1) (A.2 - z) := (U.2.sub HZ.out).mono (by omega);have hH : Sz (k + m + 1) (B.2 - z) := (hX.2.sub HZ.out).mono (by omega);have HX := hid fun w Q => sQa A.2 z (k + m) (by omega) (by omega) (U.2.mono (by omega)) (HZ.out.mono (by omega)) w Q
   have HY := hid fun w Q => sQa B.2 z (k + m) (by omega) (by omega) (hX.2.mono (by omega)) (HZ.out.mono (by omega)) w Q
   have h6 : Hid (A.2 - z - (B.2 - z) ≠ 0 -> Sz (4 * (k + m + 1) + 4) ((A.2 - z) / (A.2 - z - (B.2 - z)))) := fun D => (f.div ((f.sub hH).mono (Nat.le_refl _)) (by omega)).mono (by omega)
   obtain ⟨x, hx⟩ := zex (A.2 - z);obtain ⟨y, hy⟩ := zex (B.2 - z);rw [<- hx] at f HX hl h6;rw [<- hy] at hH HY h6;have hM : Hid (x - y ≠ 0 -> ∀ w, Good w -> _) := fun D w Q => dQa x (x - y) (2 * (k + m + 1) + 1) (by omega) (by omega) (f.mono (by omega)) ((f.sub hH).mono (by omega)) D w Q
   have zh := hid fun w Q => sQa x y (k + m + 1) (by omega) (by omega) f hH w Q
   have hP : Hid (x - y ≠ 0 -> ∀ w, Good w -> _) := fun D w Q => t0a A.1 B.1 (x / (x - y)) k (4 * (k + m + 1) + 4) yi (by omega) U.1 hX.1 (h6.out D) w Q
   have h9 : Hid (cutS A B z = (if 0 <= x.num.sign then [A] else []) ++ (if x.num.sign * y.num.sign < 0 then [cKK A B z] else [])) := by rw [hx, hy]; rfl
   have hL : Hid ((cKK A B z).1 = (towQ A.1.1 B.1.1 (x / (x - y)), towQ A.1.2 B.1.2 (x / (x - y)))) := by rw [hx, hy]; rfl
   have hN : Hid (∀ w, _) := fun w => si0 x w;have zK : Hid (∀ w, _) := fun w => si0 y w;have hO : Hid (x.num.sign * y.num.sign < 0 -> x - y ≠ 0) := fun hlt e => by
    have e2 : x = y := by grind
    rw [e2] at hlt;rcases sign3 y with e | e | e <;> rw [e] at hlt <;> exact absurd hlt (by decide)
   have ho := hid (sign3 x);have z3 := hid (sign3 y);generalize x.num.sign = sx at *;generalize y.num.sign = sy at *;have m1 := (hR.below h8 hR.lt).cell 1 rfl;have q1 := zcq V zq y7;have q2 := zcq V zp zF;have r1 := zcq V zq y8;have r2 := zcq V zp zG;have R : Hid (∀ w', Below H.heap.size H w' -> w'.cell? ⟨d, oc + i * 2, none⟩ = some (.string (RS A.1.1)) /\ w'.cell? ⟨d, oc + i * 2 + 1, none⟩ = some (.string (RS A.1.2)) /\ w'.cell? ⟨d, oc + j * 2, none⟩ = some (.string (RS B.1.1)) /\ w'.cell? ⟨d, oc + j * 2 + 1, none⟩ = some (.string (RS B.1.2))) := fun w' hw => ⟨(zcq hw hV ca.1 :), (zcq hw hV ca.2 :), (zcq hw hV cb.1 :), (zcq hw hV cb.2 :)⟩;have yJ : bt < wr.heap.size := Nat.lt_of_lt_of_le zq V.size;have yH : bf < wr.heap.size := Nat.lt_of_lt_of_le zp V.size;have yI : w.heap.size < wr.heap.size := (hR.below h8 hR.lt).lt;have zu : Good wr.drew := zY.drewN 1;have yF : IntKind.i64.wrap ((i : Int) + 1) = (i : Int) + 1 := IntWalk.i64_in _ (by omega);have hZ : IntKind.i64.wrap (j : Int) = (j : Int) := IntWalk.i64_in _ (by omega);have yt : (i : Int) < 3 := by omega
   have yu : (j : Int) < 3 := by omega
   have yA : (q : Int) < (F.length : Int) := by omega
   have yC : (r : Int) < (F.length : Int) := by omega
   clear ca cb y7 zF y8 zG zP zQ z4 z5 hA zn z2 z1 f hH U hX hx hy zI zj;go_upto_region 8 with fail;go_region_held3 (fun w' => w'.cell? ⟨w.heap.size, 1, none⟩ = some (.slice (some ⟨bt, ot, none⟩) T.length ct) /\ w'.cell? ⟨bt, ot + t * 3 + i, none⟩ = some (.int .i64 (q : Int)) /\ w'.cell? ⟨bf, of + q, none⟩ = some (.string (RS A.2)) /\ w'.cell? ⟨bt, ot + t * 3 + j, none⟩ = some (.int .i64 (r : Int)) /\ w'.cell? ⟨bf, of + r, none⟩ = some (.string (RS B.2)))
    (first | exact ⟨m1, q1, q2, r1, r2⟩ | exact ⟨p_1_0, p_1_1, p_1_2, p_1_3, p_1_4⟩ | exact ⟨p_2_0, p_2_1, p_2_2, p_2_3, p_2_4⟩)
    (first
    | (go_at_call 49; refine (HY.out _ zE).mono ?_; rintro e s ⟨_, rfl, rfl, I⟩
       have p_2_0 := zct I p_1_0;have p_2_1 := zct I p_1_1;have p_2_2 := zct I p_1_2;have p_2_3 := zct I p_1_3;have p_2_4 := zct I p_1_4;have yp := I.size;have yn := zE.below I)
    | (go_at_call 49; refine (HX.out _ zu).mono ?_; rintro e yq ⟨_, rfl, rfl, J⟩
       have p_1_0 := zct J m1;have p_1_1 := zct J q1;have p_1_2 := zct J q2;have p_1_3 := zct J r1;have p_1_4 := zct J r2;have yo : wr.heap.size <= yq.heap.size := J.size;have zE := zu.below J))
   have pB : Below wr.heap.size wr s := zbt (zbt (bdN wr 1) J) I;have g := WRA C pB;have hr : Below H.heap.size H s := zbt h8 pB;clear pB J I yo yp zE yn m1 q1 q2 r1 r2 C zu;go_upto_region 9 with fail;go_cut [11] (fun s11 wx => s11 = .bool (b || decide (0 < sx)) /\ ∃ nd, wx = s.drewN nd)
   case first =>
    clear h9 hL hO hM zh h6 hP HX HY hm hl hf h7 R g hr h8 V;cases b
    ·go_wp2_with fail
     refine (hN.out s).mono ?_;rintro e w3 ⟨_, rfl, rfl, nd, rfl⟩;rcases ho.out with rfl | rfl | rfl
     all_goals
      go_wp2_with fail;go_meet;exact ⟨rfl, _, rfl⟩
    ·go_wp2_with fail
     go_meet;exact ⟨rfl, 0, rfl⟩
   case rest =>
   obtain ⟨rfl, y6, rfl⟩ := hcut;obtain ⟨w3, hZ⟩ : ∃ X, X = s.drewN y6 := ⟨_, rfl⟩;have zr : Below s.heap.size s w3 := by rw [hZ]; exact bdN s y6
   rw [<- hZ];clear hZ;have hD := WRA g zr;have z6 := zbt hr zr;obtain ⟨b2, zS⟩ := zex ((b || decide (0 < sx)));rw [<- zS] at hl ⊢;have z0 : Hid (b2 = sA (i + 1)) := hl.out.symm;clear zr g hr h8 V zS hl h7;go_upto_region 11 with fail;refine (hN.out w3).mono ?_;rintro e yL ⟨_, rfl, rfl, nd, rfl⟩;go_upto_if 58 with fail;obtain ⟨w4, zx⟩ : ∃ X, X = w3.drewN nd := ⟨_, rfl⟩;have zs : Below w3.heap.size w3 w4 := by rw [zx]; exact bdN w3 nd
   rw [<- zx];clear zx;have O := WRA hD zs;have E := zbt z6 zs;clear zs hD z6;generalize cA i = L at *;obtain ⟨L1, zR⟩ : ∃ l, l = L ++ (if 0 <= sx then [A] else []) := ⟨_, rfl⟩;have h5 := hid zR;clear zR;go_cut [9] (fun s9 wx => ∃ n' : Nat, n' <= n + 1 /\ Hid (L1.length = n') /\ wx.ownsRow H.heap.size 50 2 s9 n' (cPP (strP (L1.map (·.1)))) /\ Below H.heap.size H wx)
   case first =>
    rcases Int.lt_or_le sx 0 with hs | hs
    ·have HE : Hid (L1 = L) := by unfold Hid; rw [h5.out, if_neg (by omega), List.append_nil]
     go_wp2_with fail;go_meet;exact ⟨n, by omega, by unfold Hid; rw [HE.out]; exact hf.out, by rw [HE.out]; exact O, E⟩
    ·have HE : Hid (L1 = L ++ [A]) := by unfold Hid; rw [h5.out, if_pos hs]
     have yb : Hid (L1.length = n + 1) := by unfold Hid; rw [HE.out, List.length_append, hf.out]; rfl
     have zf : Hid (cPP (strP (L1.map (·.1))) = cPP (strP (L.map (·.1))) ++ [.string (RS A.1.1), .string (RS A.1.2)]) := by unfold Hid; rw [HE.out, List.map_append]; exact cPs _ _
     obtain ⟨a0, a1, -, -⟩ := R.out _ E;have yw : n <= 4 := by omega
     have ym := E.size
     go_wp2_with (at_builtin; refine wpList_append_own _ rfl _ _ 32 rfl H.heap.size 50 i0 (.agg #[.string ⟨#[]⟩, .string ⟨#[]⟩]) 2 32 Tryz.underlying32 hi z9 za zb rfl (by decide) _ _ _ rfl (O.alloc _) ⟨w4.heap.size, 0, none⟩ 1 1 [.string (RS A.1.1), .string (RS A.1.2)] rfl rfl (cto _ _ _ _) (tsr _ _) (by unfold maxLen; omega) (by omega) (by simp; omega) ?_
                  intro v5 w5 hE h4 _;have zT : Below H.heap.size H w5 := (E.alloc ym _).grown h4 (by simp; omega) (fun j hj => by have := (O.lt j hj).1; omega);clear h4)
     rw [<- zf.out] at hE;go_wp2_with fail;go_meet;exact ⟨n + 1, Nat.le_refl _, yb, hE, zT⟩
   case rest =>
   obtain ⟨n1, yj, he, M, hu⟩ := hcut;obtain ⟨pd, cd, rfl⟩ := oRs M;obtain ⟨cr, zX⟩ := zex (decide (sx * sy < 0));have ha := hid zX;clear zX O E;go_upto_region 12 with fail;go_cut [71] (fun s71 wx => s71 = .bool cr /\ ∃ nd, wx = wc.drewN nd)
   case first =>
    clear h9 hL hO hM zh h6 hP HX HY hm hf h5 M hu he yj R;go_wp2_with fail;refine (hN.out wc).mono ?_;rintro e w5 ⟨_, rfl, rfl, yK, rfl⟩;go_wp2_with fail;refine (zK.out _).mono ?_;rintro e w6 ⟨_, rfl, rfl, zD, rfl⟩;rcases ho.out with rfl | rfl | rfl <;> rcases z3.out with rfl | rfl | rfl
    all_goals
     go_wp2_with fail;go_meet;exact ⟨by rw [ha.out]; rfl, _, rfl⟩
   case rest =>
   obtain ⟨rfl, zD, rfl⟩ := hcut;obtain ⟨w6, zy⟩ : ∃ X, X = wc.drewN zD := ⟨_, rfl⟩;have zt : Below wc.heap.size wc w6 := by rw [zy]; exact bdN wc zD
   rw [<- zy];clear zy;have N := WRA M zt;have ht := zbt hu zt;clear M hu zt;cases cr
   ·have hd : Hid (cA (i + 1) = L1) := by
     unfold Hid;have hn : ¬ sx * sy < 0 := fun e => by have := ha.out; rw [decide_eq_true e] at this; cases this
     rw [hm.out, h9.out, h5.out, if_neg hn, List.append_nil]
    have hh : Hid ((cA (i + 1)).length = n1) := by unfold Hid; rw [hd.out, he.out]
    rw [<- hd.out] at N;go_wp2_with fail;go_roundw
    case rel => exact ⟨i + 1, n1, b2, by go_num, rfl, by omega, by omega, hh, z0, N, ht⟩
    case measure => simp [RowKit.intOf]; omega
   ·have D := hO.out (of_decide_eq_true ha.out.symm)
    have hd : Hid (cA (i + 1) = L1 ++ [cKK A B z]) := by
     unfold Hid;rw [hm.out, h9.out, h5.out, if_pos (of_decide_eq_true ha.out.symm), List.append_assoc]
    have hh : Hid ((cA (i + 1)).length = n1 + 1) := by unfold Hid; rw [hd.out, List.length_append, he.out]; rfl
    have zf : Hid (cPP (strP ((cA (i + 1)).map (·.1))) = cPP (strP (L1.map (·.1))) ++ [.string (RS (towQ A.1.1 B.1.1 (x / (x - y)))), .string (RS (towQ A.1.2 B.1.2 (x / (x - y))))]) := by
     unfold Hid;rw [hd.out, List.map_append, List.map_cons, List.map_nil, cPs, hL.out]
    have zN := hid fun w Q => hP.out D w Q;have zJ := hid fun w Q => hM.out D w Q;have zk : Hid (∀ w', Below H.heap.size H w' -> Good w') := fun w' hb => Q.below ((zbt zm hb));clear h9 hL hO hM hP h6 HX HY hN zK hm h5 ha ho z3;generalize RS (towQ A.1.1 B.1.1 (x / (x - y))) = px at *;generalize RS (towQ A.1.2 B.1.2 (x / (x - y))) = py at *;generalize RS (x / (x - y)) = qs at *;generalize RS (x - y) = ds at *;clear D;have hS := ht.trans ((bdN w6 1).mono ht.size);have zc := WRA N (bdN w6 1);have yx : n1 <= 6 := by omega
    clear N;go_upto_region 13 with fail;refine AnyL.region (S := Till 16 (fun w' => w'.cell? ⟨d, oc + i * 2, none⟩ = some (.string (RS A.1.1)) /\ w'.cell? ⟨d, oc + i * 2 + 1, none⟩ = some (.string (RS A.1.2)) /\ w'.cell? ⟨d, oc + j * 2, none⟩ = some (.string (RS B.1.1)) /\ w'.cell? ⟨d, oc + j * 2 + 1, none⟩ = some (.string (RS B.1.2))) (fun _ => True)) (by kernel_rfl) ?_;have Z : Till 16 (fun w' => w'.cell? ⟨d, oc + i * 2, none⟩ = some (.string (RS A.1.1)) /\ w'.cell? ⟨d, oc + i * 2 + 1, none⟩ = some (.string (RS A.1.2)) /\ w'.cell? ⟨d, oc + j * 2, none⟩ = some (.string (RS B.1.1)) /\ w'.cell? ⟨d, oc + j * 2 + 1, none⟩ = some (.string (RS B.1.2))) (fun _ => True) (Array.replicate 18 false) _ := ⟨R.out _ hS, fun _ => trivial⟩;refine zlk 0 Z ?_;try simp only [Act.put]
    refine zlk 1 Z ?_;try simp only [Act.put]
    refine zlk 2 Z ?_;try simp only [Act.put]
    refine zlk 3 Z ?_;try simp only [Act.put]
    refine zlk 4 Z ?_;try simp only [Act.put]
    refine zlk 5 Z ?_;try simp only [Act.put]
    refine zlk 6 Z ?_;try simp only [Act.put]
    refine zlk 7 Z ?_;try simp only [Act.put]
    refine zlk 8 Z ?_;try simp only [Act.put]
    refine zlk 9 Z ?_;try simp only [Act.put]
    refine zlk 10 Z ?_;try simp only [Act.put]
    refine zlk 11 Z ?_;try simp only [Act.put]
    refine AnyL.one (i := 12) (o := _) (by kernel_rfl) rfl (fun K hK => ?_);go_simp
    (refine (zh.out _ (zk.out _ hS)).mono ?_; rintro e y1 ⟨_, rfl, rfl, zz⟩; have hT := zbt hS zz; have zd := WRA zc zz)
    refine hK.out _ _ ⟨R.out _ hT, fun hk => trivial⟩ (fun Z => ?_);clear hK K;try simp only [Act.put]
    refine AnyL.one (i := 13) (o := _) (by kernel_rfl) rfl (fun K hK => ?_);go_simp
    (refine (zJ.out _ (zk.out _ hT)).mono ?_; rintro e y2 ⟨_, rfl, rfl, zA⟩; have hU := zbt hT zA; have ze := WRA zd zA)
    refine hK.out _ _ ⟨R.out _ hU, fun hk => trivial⟩ (fun Z => ?_);clear hK K;try simp only [Act.put]
    refine AnyL.one (i := 14) (o := _) (by kernel_rfl) rfl (fun K hK => ?_);go_simp
    (refine (zN.out _ (zk.out _ hU)).mono ?_; rintro e y3 ⟨_, rfl, rfl, zB⟩; have G := zbt hU zB; have hJ := WRA ze zB)
    refine hK.out _ _ ⟨R.out _ G, fun hk => trivial⟩ (fun Z => ?_);clear hK K;try simp only [Act.put]
    refine AnyL.one (i := 15) (o := _) (by kernel_rfl) rfl (fun K hK => ?_);go_simp;refine hK.out _ _ ⟨R.out _ (G.alloc G.size _), fun hk => trivial⟩ (fun Z => ?_);clear hK K;try simp only [Act.put]
    refine AnyL.one (i := 16) (o := _) (by kernel_rfl) rfl (fun K hK => ?_)
    (rw [if_pos (by simp [Region.wanted])]; refine wp_append_own _ (.tmp 72) (.tmp 87) 32 (by rfl) H.heap.size 50 i0 (.agg #[.string ⟨#[]⟩, .string ⟨#[]⟩]) 2 32 Tryz.underlying32 hi z9 za zb rfl (by decide) _ _ _ (by simp [Act.eval]) (hJ.alloc _) ⟨y3.heap.size, 0, none⟩ 1 1 [.string px, .string py] (by simp [Act.eval]) rfl (cto _ _ _ _) (tsr _ _) (by unfold maxLen; omega) (by omega) (by have := G.size; simp; omega) ?_; intro v8 w8 hF z7 _; have zO := (G.alloc G.size (.cells #[.string px, .string py] 50)).grown z7 (by have := G.size; simp; omega) (fun j hj => by have := (hJ.lt j hj).1; omega))
    refine hK.out _ _ ⟨R.out _ zO, fun hk => trivial⟩ (fun Z => ?_);clear hK K;try simp only [Act.put]
    refine AnyL.take (i := 17) (oi := _) (v := ?_) rfl (by kernel_rfl) (by kernel_rfl) (by kernel_rfl) (by decide) (fun _ _ _ h => h) (Or.inl ⟨by rfl, ?_⟩) ⟨Z.1, fun hk => (by simp at hk)⟩ ?_;rotate_left
    ·intro w ye; (try dsimp only at ye); first | (go_simp; done) | (go_simp; with_reducible rfl)
    try simp only [Act.put]
    refine AnyL.done (by kernel_rfl) ?_ _;rw [<- zf.out] at hF;clear zc zd ze hJ z7 zz zA zB hS hT hU G R;go_wp2_with fail;go_roundw
    case rel => exact ⟨i + 1, n1 + 1, b2, by go_num, rfl, by omega, by omega, hh, z0, hF, zO⟩
    case measure => simp [RowKit.intOf]; omega
  ·obtain rfl : i = 3 := by omega
   cases b
   ·have HE := hid (zi.out.2.2 h7.out.symm)
    go_wp2_with fail;go_ret;exact ⟨_, rfl, .inl ⟨HE.out, rfl⟩, V⟩
   ·have HE := hid (zi.out.2.1 h7.out.symm)
    have HN : Hid (PT ≠ []) := by unfold Hid; rw [HE.out]; exact zi.out.1 h7.out.symm
    have zM : Hid (RdP wr (.slice p5 n c5) (strP (PT.map (·.1)))) := by
     have h1 := RdC.of_owns C;have h2 : n = (strP (PT.map (·.1))).length := by rw [sPl, List.length_map, HE.out]; exact hf.out.symm
     unfold Hid RdP;rw [<- h2, HE.out];exact h1
    clear C;go_wp2_with fail;refine (y9.out wr _ (List.length_pos_iff.2 HN.out) zM.out zY).mono ?_;rintro e w9 ⟨_, rfl, ⟨nb, zv, y0, y4⟩, yg⟩;have yc : Hid (nb < PT.length) := by unfold Hid; rw [List.length_map] at zv; exact zv
    have ya : Hid (∀ j : Nat, j < PT.length -> ¬ ltP (ptI (PT.map (·.1)) j) (ptI (PT.map (·.1)) nb)) := fun j hj => y0 j (by rw [List.length_map]; exact hj)
    have yd := hid (y4.base V.size);clear zv y4 y0 zM;go_wp2_with fail;go_ret;exact ⟨_, rfl, .inr ⟨HN.out, nb, yc.out, ya.out, yd.out⟩, (zbt V yg)⟩
theorem mbL {l : List PtQ} {n : Nat} {p : PtQ} (h : p ∈ begL l n) : p ∈ l := by
 unfold begL at h;rcases List.mem_append.1 h with h | h
 ·exact List.mem_of_mem_drop h
 ·exact List.mem_of_mem_take h
theorem bLl (l : List PtQ) (n : Nat) (Z : n <= l.length) : (begL l n).length = l.length := by
 unfold begL;rw [List.length_append, List.length_drop, List.length_take];omega
theorem ane {a b c : PtQ} (h : 0 < areaQ a b c) : a ≠ b /\ b ≠ c /\ a ≠ c := by
 refine ⟨fun e => ?_, fun e => ?_, fun e => ?_⟩
 ·subst e; have : areaQ a a c = 0 := by unfold areaQ; grind
  rw [this] at h; exact absurd h (by decide)
 ·subst e; have : areaQ a b b = 0 := by unfold areaQ; grind
  rw [this] at h; exact absurd h (by decide)
 ·subst e; have : areaQ a b a = 0 := by unfold areaQ; grind
  rw [this] at h; exact absurd h (by decide)
theorem cnp {l : List PtQ} (h : CvxL l) : l.Nodup := by
 rcases h with ⟨a, b, c, rfl, V⟩ | ⟨a, b, c, d, rfl, V, Q, O, N⟩
 ·obtain ⟨Z, Y, X⟩ := ane V
  simp [Z, Y, X]
 ·obtain ⟨Z, Y, X⟩ := ane V
  obtain ⟨-, U, S⟩ := ane Q;obtain ⟨-, -, R⟩ := ane O;simp [Z, Y, X, U, S, R]
theorem blt {l : List PtQ} (h : CvxL l) {n : Nat} (Q : n < l.length) (N : ∀ j : Nat, j < l.length -> ¬ ltP (ptI l j) (ptI l n)) {S : List PtQ} (O : S.Pairwise ltP) (M : ∀ x, x ∈ S ↔ x ∈ l) : hullL S = begL l n := by
 have Y := cbg h n (by omega);have U := cnp Y;have e : begL l n = l[n] :: (l.drop (n + 1) ++ l.take n) := by unfold begL; rw [List.drop_eq_getElem_cons Q, List.cons_append]
 have Z : ∀ x, x ∈ begL l n ↔ x ∈ l := fun x => by
  refine ⟨mbL, fun hx => ?_⟩;unfold begL;rw [List.mem_append];rw [<- List.take_append_drop n l, List.mem_append] at hx;exact hx.symm
 rw [e] at Y U ⊢;refine chl Y (fun q hq => ?_) O (fun x => by rw [M, <- Z, e]);have V : q ∈ l := by rw [<- Z, e]; exact List.mem_cons_of_mem _ hq
 obtain ⟨j, R, rfl⟩ := List.mem_iff_getElem.1 V;have X : l[n] ≠ l[j] := fun e2 => (List.nodup_cons.1 U).1 (by rw [e2]; exact hq)
 have := N j R;rw [pIn l j R, pIn l n Q] at this;rcases lc0 l[n] l[j] with g | g | g
 ·exact g
 ·exact absurd g X
 ·exact absurd g this
def cmpP (a b : PtQ) : Int := if cmpQ a.1 b.1 = 0 then cmpQ a.2 b.2 else cmpQ a.1 b.1
theorem cPn (a b : PtQ) : cmpP a b < 0 ↔ ltP a b := by
 have h := lPc a b;unfold cmpP;rw [<- decide_eq_true_iff (p := ltP a b), h];rcases cQc a.1 b.1 with ⟨-, e⟩ | ⟨-, e⟩ | ⟨-, e⟩ <;> rw [e] <;> simp
def rankP (l0 : List PtQ) (p : PtQ) : Rat := ((l0.countP fun x => decide (ltP x p) : Nat) : Rat)
theorem clt {α : Type} {f g : α -> Bool} {l : List α} (h : ∀ x, f x = true -> g x = true) {y : α} (hy : y ∈ l) (Z : f y = false) (Y : g y = true) : l.countP f < l.countP g := by
 induction l with
 | nil => cases hy
 | cons a l ih =>
   have X : l.countP f <= l.countP g := List.countP_mono_left fun x _ => h x;rw [List.countP_cons, List.countP_cons];rcases List.mem_cons.1 hy with rfl | hy
   ·rw [Z, Y]; simp; omega
   ·have := ih hy
    cases e : f a with
    | false => simp only [Bool.false_eq_true, if_false]; split <;> omega
    | true => rw [h a e]; simp; omega
theorem rj0 {l0 : List PtQ} {p q : PtQ} (Z : p ∈ l0) (hq : q ∈ l0) : ltP p q ↔ rankP l0 p < rankP l0 q := by
 have key : ∀ a b : PtQ, a ∈ l0 -> ltP a b -> rankP l0 a < rankP l0 b := fun a b ha h => by
  unfold rankP;rw [Rat.natCast_lt_natCast];exact clt (fun x hx => by rw [decide_eq_true_eq] at hx ⊢; exact lPt hx h) ha (decide_eq_false (lPi a)) (decide_eq_true h)
 refine ⟨key p q Z, fun h => ?_⟩;rcases lc0 p q with g | g | g
 ·exact g
 ·rw [g] at h; exact absurd h (by grind)
 ·have := key q p hq g; grind
theorem sq0 {l0 l : List PtQ} (U : l0.Nodup) (V : l.Perm l0) (S : STo (l.map (rankP l0)) l.length) : l.Pairwise ltP := by
 rw [List.pairwise_iff_getElem];intro i j X Y Z;have h := S i j (rankP l0 l[i]) (rankP l0 l[j]) Z Y (by rw [List.getElem?_map, List.getElem?_eq_getElem X]; rfl) (by rw [List.getElem?_map, List.getElem?_eq_getElem Y]; rfl);have R := V.mem_iff.1 (List.getElem_mem X);have Q := V.mem_iff.1 (List.getElem_mem Y);rcases lc0 l[i] l[j] with g | g | g
 ·exact g
 ·exact absurd g (List.pairwise_iff_getElem.1 (V.nodup_iff.2 U) i j X Y Z)
 ·have := (rj0 Q R).1 g
  grind
theorem pe0 (a b : PtQ) (k : Nat) (J : 0 < k) (U : k <= 20000) (O : SzP k a) (N : SzP k b) (w : World) (X : Good w) :
 Calls Tryz.prog 85 #[.agg #[.string (RS a.1), .string (RS a.2)], .agg #[.string (RS b.1), .string (RS b.2)]] w (Ret (fun r _ => r = .int .i64 (cmpP a b)) w) := by
 have I := hid fun w X => rCa a.1 b.1 k J U O.1 N.1 w X;have H := hid fun w X => rCa a.2 b.2 k J U O.2 N.2 w X;have L : Hid (cmpP a b = if cmpQ a.1 b.1 = 0 then cmpQ a.2 b.2 else cmpQ a.1 b.1) := rfl;clear O N;generalize cmpQ a.1 b.1 = c1 at *;generalize cmpQ a.2 b.2 = c2 at *;generalize cmpP a b = c at *;go_enter Tryz.func85, Tryz.ntmps85;go_wp2_with fail;obtain ⟨W, V⟩ := zex ((w.alloc (.cells #[.string (RS a.1), .string (RS a.2)] 50)).alloc (.cells #[.string (RS b.1), .string (RS b.2)] 50));have Q : Below w.heap.size w W := by rw [V]; exact zal2 _ _ _
 have R : BoxN W (w.heap.size + 1) 50 [.string (RS b.1), .string (RS b.2)] := by rw [V]; exact BoxN.new _ _ _ _ (by simp)
 have S : BoxN W w.heap.size 50 [.string (RS a.1), .string (RS a.2)] := by
  rw [V];have K := BoxN.new w #[.string (RS a.1), .string (RS a.2)] 50 _ rfl;exact K.below (zal _ _) K.lt
 rw [<- V];clear V;refine (I.out W (X.below Q)).mono ?_;rintro e E ⟨_, rfl, rfl, Z⟩;have Y := zbt Q Z;have C := (S.below Z S.lt).cell 1 rfl;have B := (R.below Z R.lt).cell 1 rfl;clear S R Z Q;by_cases h0 : c1 = 0
 ·subst h0
  go_wp2_with fail;refine (H.out E (X.below Y)).mono ?_;rintro e D ⟨_, rfl, rfl, M⟩;go_wp2_with fail;go_ret;exact ⟨_, rfl, by show Value.int _ _ = _; rw [L.out]; simp, (zbt Y M)⟩
 ·have G : (c1 != 0) = true := by simpa using h0
  go_wp2_with fail;go_ret;exact ⟨_, rfl, by show Value.int _ _ = _; rw [L.out, if_neg h0], Y⟩
theorem oe0 {w : World} {b e s n c m : Nat} {p : Option Addr} {xs : List Value} (h : w.ownsRow b e s (.slice p n c) n xs) (M : m <= n) : w.ownsRow b e s (.slice p m c) m (xs.take (m * s)) := by
 obtain ⟨V, U⟩ := h;have X : m * s <= n * s := Nat.mul_le_mul_right s M;refine ⟨by rw [List.length_take, V]; omega, ?_⟩;rcases U with ⟨Y, rfl⟩ | ⟨g, cap, Z, Y, S, R, L, Q, O, N⟩
 ·obtain rfl : m = 0 := by omega
  injection Y with e2 e3 e4
  exact .inl ⟨by rw [e2, e4], rfl⟩
 ·injection Y with e2 e3 e4
  subst e2; subst e4;exact .inr ⟨g, c, Z, rfl, S, R, by omega, Q, O, by rw [<- N, List.take_take, Nat.min_eq_left X]⟩
theorem cPt (l : List PtQ) (m : Nat) : (cPP (strP l)).take (m * 2) = cPP (strP (l.take m)) := by
 induction l generalizing m with
 | nil => simp [strP, cPP]
 | cons a l ih =>
   cases m with
   | zero => simp [strP, cPP]
   | succ m =>
     rw [show (m + 1) * 2 = m * 2 + 2 by omega, List.take_succ_cons];show List.take (m * 2 + 2) (Value.string (RS a.1) :: Value.string (RS a.2) :: cPP (strP l)) = Value.string (RS a.1) :: Value.string (RS a.2) :: cPP (strP (l.take m));rw [List.take_succ_cons, List.take_succ_cons, ih]
def dQ (p q : PtQ) : Int := if q = p then 1 else 0
def gQ (p a b : PtQ) : Int := dQ p a - dQ p b
def hQ (p : PtQ) (z : Rat) (a b : Cor) : Int :=
 if a.2 < z then (if z < b.2 then gQ p (cKK a b z).1 b.1 else 0) else if b.2 < z then (if z < a.2 then gQ p a.1 (cKK a b z).1 else 0) else gQ p a.1 b.1
def oneB (l : List Bool) : Bool := (List.range l.length).all fun i => (List.range l.length).all fun j => !((l[i]?.getD false && l[(i + 1) % l.length]?.getD false) && (l[j]?.getD false && l[(j + 1) % l.length]?.getD false)) || decide (i = j)
theorem coe (c0 c1 c2 : Cor) (z : Rat) : oneB ((cutL c0 c1 c2 z).map fun c => decide (c.2 = z)) = true := by
 have R : (cKK c0 c1 z).2 = z := rfl;have Q : (cKK c1 c2 z).2 = z := rfl;have O : (cKK c2 c0 z).2 = z := rfl;simp only [cutL, sTo, cutTo, corA, corB, cutS];generalize cKK c0 c1 z = X01 at *;generalize cKK c1 c2 z = X12 at *;generalize cKK c2 c0 z = X20 at *;have tri : ∀ q : Rat, q < 0 \/ q = 0 \/ 0 < q := fun q => by grind
 rcases tri (c0.2 - z) with Z | Z | Z <;> rcases tri (c1.2 - z) with Y | Y | Y <;> rcases tri (c2.2 - z) with X | X | X
 all_goals
  first
   | (rw [sng Z] at *; have V : decide (c0.2 = z) = false := decide_eq_false (by grind))
   | (rw [szo Z] at *; have V : decide (c0.2 = z) = true := decide_eq_true (by grind))
   | (rw [sps Z] at *; have V : decide (c0.2 = z) = false := decide_eq_false (by grind))
  first
   | (rw [sng Y] at *; have U : decide (c1.2 = z) = false := decide_eq_false (by grind))
   | (rw [szo Y] at *; have U : decide (c1.2 = z) = true := decide_eq_true (by grind))
   | (rw [sps Y] at *; have U : decide (c1.2 = z) = false := decide_eq_false (by grind))
  first
   | (rw [sng X] at *; have S : decide (c2.2 = z) = false := decide_eq_false (by grind))
   | (rw [szo X] at *; have S : decide (c2.2 = z) = true := decide_eq_true (by grind))
   | (rw [sps X] at *; have S : decide (c2.2 = z) = false := decide_eq_false (by grind))
  simp only [Int.reduceLE, Int.reduceLT, Int.reduceMul, Int.reduceNeg, decide_true, decide_false, Bool.or_true, Bool.or_false, if_false, if_pos, Bool.false_eq_true, List.nil_append, List.cons_append, List.append_nil, List.map_cons, List.map_nil, V, U, S, R, Q, O];decide
def levI (l : List Cor) (z : Rat) (i : Nat) : Bool := decide ((corI l i).2 = z) && decide ((corI l ((i + 1) % l.length)).2 = z)
theorem lk0 {c0 c1 c2 : Cor} {z : Rat} {i j : Nat} (S : i < (cutL c0 c1 c2 z).length) (R : j < (cutL c0 c1 c2 z).length) (X : levI (cutL c0 c1 c2 z) z i = true) (V : levI (cutL c0 c1 c2 z) z j = true) : i = j := by
 have h := coe c0 c1 c2 z;unfold oneB at h;rw [List.length_map, List.all_eq_true] at h;have U := h i (List.mem_range.2 S);rw [List.all_eq_true] at U;have Y := U j (List.mem_range.2 R);have Z : ∀ k, k < (cutL c0 c1 c2 z).length -> (((cutL c0 c1 c2 z).map fun c => decide (c.2 = z))[k]?.getD false) = decide ((corI (cutL c0 c1 c2 z) k).2 = z) := fun k hk => by
  rw [List.getElem?_map, List.getElem?_eq_getElem hk, cIn _ _ hk]; rfl
 have Q : (i + 1) % (cutL c0 c1 c2 z).length < (cutL c0 c1 c2 z).length := Nat.mod_lt _ (by omega);have O : (j + 1) % (cutL c0 c1 c2 z).length < (cutL c0 c1 c2 z).length := Nat.mod_lt _ (by omega);rw [Z i S, Z j R, Z _ Q, Z _ O] at Y;unfold levI at X V;rw [X, V] at Y;simpa using Y
theorem sAl {P : List PtQ} {T : List Tri} {F : List Rat} {z : Rat} {t : Nat} {tr : Tri} {l : List Cor} {i : Nat} (h : levI l z i = false) : segA P T F z t tr l i = [] := by
 unfold segA;rw [if_neg];intro Z;unfold keepB at Z;rw [Bool.and_eq_true] at Z;unfold levI at h;rw [Z.1] at h;cases h
theorem sne {P : List PtQ} {T : List Tri} {F : List Rat} {z : Rat} {t : Nat} {tr : Tri} {l : List Cor} : ∀ n, (∀ i, i < n -> levI l z i = false) -> segTo P T F z t tr l n = []
 | 0, _ => rfl
 | n + 1, h => by
   show segTo P T F z t tr l n ++ segA P T F z t tr l n = [];rw [sne n fun i hi => h i (by omega), sAl (h n (by omega))]; rfl
theorem sx0 {P : List PtQ} {T : List Tri} {F : List Rat} {z : Rat} {t : Nat} {tr : Tri} {l : List Cor} {j : Nat} : ∀ n, j < n -> (∀ i, i < n -> levI l z i = true -> i = j) -> segTo P T F z t tr l n = segA P T F z t tr l j
 | 0, h, _ => by omega
 | n + 1, hj, h => by
   show segTo P T F z t tr l n ++ segA P T F z t tr l n = _;rcases Nat.lt_or_ge j n with Z | Z
   ·have Y : levI l z n = false := by
     cases e : levI l z n with
     | false => rfl
     | true => have := h n (by omega) e; omega
    rw [sx0 n Z fun i hi => h i (by omega), sAl Y, List.append_nil]
   ·obtain rfl : j = n := by omega
    rw [sne j fun i hi => by
     cases e : levI l z i with
     | false => rfl
     | true => have := h i (by omega) e; omega]
    rfl
theorem psg {P : List PtQ} {T : List Tri} {F : List Rat} {z : Rat} {t : Nat} {tr : Tri} {j : Nat} (Z : j < (partT P F z tr).length) (Y : levI (partT P F z tr) z j = true) : segTo P T F z t tr (partT P F z tr) (partT P F z tr).length = segA P T F z t tr (partT P F z tr) j :=
 sx0 _ Z fun _ hi he => lk0 (c0 := corP P F tr.1) (c1 := corP P F tr.2.1) (c2 := corP P F tr.2.2) (z := z) hi Z he Y
end Go.Proofs.YtbfcmipplhkkeaaGreatDoor
