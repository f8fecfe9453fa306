import Derived.Test.YtmcbeajdloaliaaGreatDoorUS94
/- klippelaw28.known. klippelaw28.StackSurfaces. klippelaw28.check of any texts. -/
set_option maxHeartbeats 16000000
set_option maxRecDepth 100000
namespace Go.Proofs.YtmcbeajdloaliaaGreatDoor
open Go.RowKit Go.Lib Go.Shelf
theorem ri0 {w : World} {b cap : Nat} {v1 v2 : Value} {F G : List Rat} (Z : w.cell? ⟨b, 0, none⟩ = some v1) (Y : w.cell? ⟨b, 1, none⟩ = some v2) (U : RdQ w v1 F) (S : RdQ w v2 G) (X : 2 <= cap) (V : cap <= maxLen) : RdF w (.slice (some ⟨b, 0, none⟩) 2 cap) [F, G] := by
 refine ⟨[v1, v2], ⟨_, cap, rfl, X, V, rfl, fun _ => ⟨b, 0, rfl, fun i x hx => ?_⟩⟩, fun i u H a c => ?_⟩
 ·match i, hx with
  | 0, hx => cases hx; exact Z
  | 1, hx => cases hx; exact Y
 ·match i, a, c with
  | 0, a, c => cases a; cases c; exact U
  | 1, a, c => cases a; cases c; exact S
theorem rFt {w : World} {b cap : Nat} {v1 v2 v3 : Value} {F G K : List Rat} (Z : w.cell? ⟨b, 0, none⟩ = some v1) (Y : w.cell? ⟨b, 1, none⟩ = some v2) (X : w.cell? ⟨b, 2, none⟩ = some v3) (S : RdQ w v1 F) (R : RdQ w v2 G) (Q : RdQ w v3 K) (V : 3 <= cap) (U : cap <= maxLen) : RdF w (.slice (some ⟨b, 0, none⟩) 3 cap) [F, G, K] := by
 refine ⟨[v1, v2, v3], ⟨_, cap, rfl, V, U, rfl, fun _ => ⟨b, 0, rfl, fun i x hx => ?_⟩⟩, fun i u H a c => ?_⟩
 ·match i, hx with
  | 0, hx => cases hx; exact Z
  | 1, hx => cases hx; exact Y
  | 2, hx => cases hx; exact X
 ·match i, a, c with
  | 0, a, c => cases a; cases c; exact S
  | 1, a, c => cases a; cases c; exact R
  | 2, a, c => cases a; cases c; exact Q
theorem RdTx.set_other {w : World} {v : Value} {S : List (List ByteArray)} (h : RdTx w v S) {a : Addr} {x : Value} (V : w.cell? a = some (.slice none 0 0)) (R : ∀ F ∈ S, F ≠ []) : RdTx (w.setCell a x) v S := by
 obtain ⟨us, Z, Y⟩ := h;have O : us.length = S.length := by obtain ⟨_, _, _, _, _, X, _⟩ := Z; omega
 refine ⟨us, RdC.set_other Z V (fun y hy e => ?_), fun i u F a' b' => RdC.set_other (Y i u F a' b') V (fun y hy e => ?_)⟩
 ·obtain ⟨i, Q, rfl⟩ := List.getElem_of_mem hy
  have X := Y i us[i] S[i] (List.getElem?_eq_getElem Q) (List.getElem?_eq_getElem (by omega));obtain ⟨p, c, U, -, -, -⟩ := X.open;rw [U] at e;injection e with _ e2 _
  exact R _ (List.getElem_mem (by omega)) (List.length_eq_zero_iff.1 e2)
 ·rw [e] at hy
  obtain ⟨_, _, hq⟩ := List.mem_map.1 hy;cases hq
theorem DepR.set_other {w : World} {v1 v2 v3 : Value} {b U : List ByteArray} {S : List (List ByteArray)} (h : DepR w v1 v2 v3 b U S) {a : Addr} {x : Value} (Z : w.cell? a = some (.slice none 0 0)) (X : ∀ F ∈ S, F ≠ []) : DepR (w.setCell a x) v1 v2 v3 b U S := by
 have Y : ∀ l : List ByteArray, ∀ y ∈ l.map (fun x => Value.string x), y ≠ Value.slice none 0 0 := fun l y hy e => by
  rw [e] at hy;obtain ⟨_, _, hq⟩ := List.mem_map.1 hy;cases hq
 exact ⟨RdC.set_other h.base Z (Y b), RdC.set_other h.unit Z (Y U), h.surf.set_other Z X⟩
theorem DepR.set3 {w : World} {v1 v2 v3 x0 x1 x2 : Value} {b U : List ByteArray} {S : List (List ByteArray)} {g t : Nat} (h : DepR w v1 v2 v3 b U S) (Y : BoxN w g t [.slice none 0 0, .slice none 0 0, .slice none 0 0]) (Z : ∀ F ∈ S, F ≠ []) : DepR (((w.setCell ⟨g, 0, none⟩ x0).setCell ⟨g, 1, none⟩ x1).setCell ⟨g, 2, none⟩ x2) v1 v2 v3 b U S :=
 ((h.set_other (Y.cell 0 rfl) Z).set_other ((Y.set 0 x0).cell 1 rfl) Z).set_other (((Y.set 0 x0).set 1 x1).cell 2 rfl) Z
theorem DepR.alloc {w : World} {v1 v2 v3 : Value} {b U : List ByteArray} {S : List (List ByteArray)} (h : DepR w v1 v2 v3 b U S) (o : Obj) : DepR (w.alloc o) v1 v2 v3 b U S := h.below ((Below.refl _ _).alloc (Nat.le_refl _) o)
theorem f4a (w : World) (q : Rat) : Calls Tryz.prog 36 #[.string (RS q)] w (Ret (fun r w' => ∃ p c, r = .slice p 4 c /\ RdQ w' (.slice p 4 c) [q, q, q, q]) w) :=
 (fa0 w q).mono fun e w' ⟨v, he, hv, hb⟩ => by
   obtain ⟨p, c, Z, -, -, -⟩ := hv.open;rw [show ([q, q, q, q] : List Rat).length = 4 from rfl] at Z;subst Z;exact ⟨_, he, ⟨p, c, rfl, hv⟩, hb⟩
theorem ke0 : ∀ F ∈ (([[2, 2, 2, 2], [3, 3, 3, 3], [6, 6, 6, 6]] : List (List Rat)).map fun F => F.map RS), F ≠ [] := by
 intro F Z e;subst e;simp at Z
theorem k2a (w : World) (hg : Good w) :
 Calls Tryz.prog 7 #[] w (Ret (fun r _ => r = .bool true) w) := by
 have ha := hid fun w hg => md0 w 0 0 0 false 0 (by decide) (by omega) (by omega) (by omega) (by omega) hg
 rw [k28_P, k28_T] at ha;have hs : Hid (∀ w, _) := fun w => fa0 w 0;have hu : Hid (∀ w, _) := fun w => f4a w 1;have hz : Hid (∀ w, _) := fun w => f4a w 0;have hA : Hid (∀ w, _) := fun w => f4a w 2;have hv : Hid (∀ w, _) := fun w => fa0 w 2;have hx : Hid (∀ w, _) := fun w => fa0 w 5;have hw : Hid (∀ w, _) := fun w => f4a w 3;have hy : Hid (∀ w, _) := fun w => f4a w 6;rw [k28_rs.1] at hs hz;rw [k28_rs.2.1] at hu;rw [k28_rs.2.2.1] at hv hA;rw [k28_rs.2.2.2.1] at hw;rw [k28_rs.2.2.2.2.1] at hx;rw [k28_rs.2.2.2.2.2.1] at hy;go_enter Tryz.func7, Tryz.ntmps7;go_wp2_with fail;refine (ha.out w hg).mono ?_;rintro e w1 ⟨_, rfl, ⟨vp, vt, rfl, hp, ht⟩, zf⟩;have HP := hid hp;have HT := hid ht;obtain ⟨pp, cp, rfl, -, -, -⟩ := hp.open;obtain ⟨pt, ct, rfl, -, -, -⟩ := ht.open;rw [show (strP pP28).length = 4 from rfl] at *;rw [show tT28.length = 2 from rfl] at *;clear hp ht ha;go_wp2_with fail;obtain ⟨W1, a⟩ := zex (w1.alloc (.cells #[.slice pp 4 cp, .slice pt 2 ct] 41));have E : BoxN W1 w1.heap.size 41 [.slice pp 4 cp, .slice pt 2 ct] := by rw [a]; exact BoxN.new _ #[.slice pp 4 cp, .slice pt 2 ct] _ _ rfl
 have q : Below w1.heap.size w1 W1 := by rw [a]; exact zal _ _
 rw [<- a];clear a;have q1 := zbt zf q;refine (hs.out W1).mono ?_;rintro e w2 ⟨_, rfl, I, h1⟩;have q2 := zbt q1 h1;have hT := zbt q h1;replace E := E.bl h1;obtain ⟨p0, c0, rfl, -, -, -⟩ := I.open;rw [show ([0, 0, 0, 0] : List Rat).length = 4 from rfl] at *;go_wp2_with fail;obtain ⟨W2, h0⟩ := zex (w2.alloc (.cells #[.string ⟨#[97]⟩, .string ⟨#[98]⟩, .string ⟨#[99]⟩] 9));have C : RdS W2 (.slice (some ⟨w2.heap.size, 0, none⟩) 3 3) uU28 := by rw [h0]; exact RdS.fresh w2 uU28 _ #[.string ⟨#[97]⟩, .string ⟨#[98]⟩, .string ⟨#[99]⟩] rfl (by decide) 3 rfl _ rfl
 have G : Below w2.heap.size w2 W2 := by rw [h0]; exact zal _ _
 rw [<- h0];clear h0;replace I := RdC.below I G;have hn := zbt q2 G;have g := zbt hT G;replace E := E.bl G;refine (hv.out W2).mono ?_;rintro e w3 ⟨_, rfl, k, z⟩;have q3 := hn.trans (z.mono hn.size);have hU := g.trans (z.mono g.size);replace E := E.bl z;replace I := RdC.below I z;replace C := RdC.below C z;obtain ⟨H, c2, rfl, -, -, -⟩ := k.open;rw [show ([2, 2, 2, 2] : List Rat).length = 4 from rfl] at *;clear h1 z G q q1 q2 hT hn g;go_wp2_with fail;refine (hx.out w3).mono ?_;rintro e K ⟨_, rfl, hl, D⟩;have q4 := zbt q3 D;have hV := zbt hU D;replace E := E.bl D;replace I := RdC.below I D;replace C := RdC.below C D;replace k := RdC.below k D;obtain ⟨p5, c5, rfl, -, -, -⟩ := hl.open;rw [show ([5, 5, 5, 5] : List Rat).length = 4 from rfl] at *;obtain ⟨z2, hS⟩ := zex (w2.heap.size);rw [<- hS] at C ⊢;obtain ⟨W5, A⟩ := zex ((K.alloc (.cells #[.slice H 4 c2, .slice p5 4 c5] 33)).alloc (.cells #[.slice p0 4 c0, .slice (some ⟨z2, 0, none⟩) 3 3, .slice (some ⟨K.heap.size, 0, none⟩) 2 2] 45));have L : Below K.heap.size K W5 := by rw [A]; exact zal2 _ _ _
 have bs : BoxN W5 K.heap.size 33 [.slice H 4 c2, .slice p5 4 c5] := by rw [A]; exact (BoxN.new K #[.slice H 4 c2, .slice p5 4 c5] _ _ rfl).alloc _
 have bd : BoxN W5 (K.heap.size + 1) 45 [.slice p0 4 c0, .slice (some ⟨z2, 0, none⟩) 3 3, .slice (some ⟨K.heap.size, 0, none⟩) 2 2] := by rw [A]; exact BoxN.new _ #[.slice p0 4 c0, .slice (some ⟨z2, 0, none⟩) 3 3, .slice (some ⟨K.heap.size, 0, none⟩) 2 2] _ _ (by simp)
 have q5 := zbt q4 L;have hq := zbt hV L;replace E := E.bl L;have hN : RdF W5 (.slice (some ⟨K.heap.size, 0, none⟩) 2 2) [[2, 2, 2, 2], [5, 5, 5, 5]] := ri0 (bs.cell 0 rfl) (bs.cell 1 rfl) (RdC.below k L) (RdC.below hl L) (Nat.le_refl _) (by decide);have HK : Hid (K28 W5 pp pt p0 (some ⟨z2, 0, none⟩) (some ⟨K.heap.size, 0, none⟩) cp ct c0 3 2) := ⟨k28_n (RdC.below HP.out hq) (RdC.below HT.out hq) (RdC.below I L) (RdC.below C L) hN⟩;obtain ⟨s1, h3⟩ := zex (w1.heap.size);have hO : s1 < W5.heap.size := by rw [h3]; exact E.lt
 have hP : K.heap.size + 1 < W5.heap.size := bd.lt;rw [<- h3] at E;obtain ⟨n0, n1⟩ := zk2 E;obtain ⟨o0, o1, o2⟩ := zk3 bd;clear D I C k hl q3 hU q4 hV bs hN hS hq;rw [A] at n0 n1 o0 o1 o2;rw [<- h3];clear h3;go_wp2_with fail;rw [<- A];clear A n0 n1 o0 o1 o2;refine zR (k2A HK.out (hg.below q5)) fun w6 hb6 => ?_;have h8 := hid (HK.out.below hb6);have q6 := zbt q5 hb6;have hf := E.bl hb6;have hd := bd.bl hb6;obtain ⟨n0, n1⟩ := zk2 hf;obtain ⟨o0, o1, o2⟩ := zk3 hd;clear hb6 E bd HK q5 hO hP;go_wp2_with fail;refine (k2L h8.out (hg.below q6)).mono ?_;rintro e w7 ⟨_, rfl, ⟨vl, rfl, hK⟩, s⟩;obtain ⟨pl, cl, zi, zM, zg, -, hH⟩ := RdC.of_owns hK;obtain ⟨bl, d, rfl, h2⟩ := hH (by simp [cIv, cp0]);subst zi;have y3 := h2 3 _ rfl;have y4 := h2 4 _ rfl;have y5 := h2 5 _ rfl;rw [k28_rs.2.1] at y4;rw [k28_rs.2.2.2.2.2.2.1] at y5;have n : bl < w7.heap.size := World.block_lt_of_cell? w7 _ y3;unfold maxLen at zg;clear hK hH h2;have h9 := hid (h8.out.below s);have q7 := zbt q6 s;have hh := hf.bl s;have he := hd.bl s;clear n0 n1 o0 o1 o2;obtain ⟨n0, n1⟩ := zk2 hh;obtain ⟨o0, o1, o2⟩ := zk3 he;clear s hf hd h8 q6;go_wp2_with fail;refine zR (k2V h9.out (hg.below q7)) fun w8 hb8 => ?_;have z7 := hid (h9.out.below hb8);have q8 := zbt q7 hb8;have hE := hh.bl hb8;have hC := he.bl hb8;clear n0 n1 o0 o1 o2;obtain ⟨n0, n1⟩ := zk2 hE;obtain ⟨o0, o1, o2⟩ := zk3 hC;replace y3 := (zcq hb8 n y3 :);replace y4 := (zcq hb8 n y4 :);replace y5 := (zcq hb8 n y5 :);have B : bl < w8.heap.size := Nat.lt_of_lt_of_le n hb8.size;have hJ := hE.lt;have hi := hC.lt;clear hb8 hh he h9 q7 n;go_upto_region 6 with fail;have HS : Hid (∀ w', Below w8.heap.size w8 w' -> (w'.cell? ⟨s1, 0, none⟩ = some (.slice pp 4 cp) /\ w'.cell? ⟨s1, 1, none⟩ = some (.slice pt 2 ct)) /\ w'.cell? ⟨K.heap.size + 1, 0, none⟩ = some (.slice p0 4 c0) /\ w'.cell? ⟨K.heap.size + 1, 1, none⟩ = some (.slice (some ⟨z2, 0, none⟩) 3 3) /\ w'.cell? ⟨K.heap.size + 1, 2, none⟩ = some (.slice (some ⟨K.heap.size, 0, none⟩) 2 2)) := fun w' M =>
  ⟨⟨(zcq M hJ n0 :), (zcq M hJ n1 :)⟩, (zcq M hi o0 :), (zcq M hi o1 :), (zcq M hi o2 :)⟩
 have hB : Hid (∀ (w' : World) (px : Option Addr) (cx : Nat), Below w8.heap.size w8 w' -> RdQ w' (.slice px 4 cx) [1, 1, 1, 1] -> _) := fun w' px cx M hr => k2I (z7.out.below M) hr (hg.below ((zbt q8 M)));have q0 : Below w8.heap.size w8 w8.drew := bdN w8 1;go_cut [10, 11] (fun s10 s11 wx => ∃ N v1 v2 v3, s10 = .pointer (some ⟨N, 0, none⟩) /\ s11 = .int .i64 0 /\ w8.heap.size <= N /\ BoxN wx N 45 [v1, v2, v3] /\ DepR wx v1 v2 v3 (([0, 0, 0, 0] : List Rat).map RS) [⟨#[97]⟩, ⟨#[100]⟩, ⟨#[98]⟩, ⟨#[99]⟩] (([[2, 2, 2, 2], [3, 3, 3, 3], [6, 6, 6, 6]] : List (List Rat)).map fun F => F.map RS) /\ Below w8.heap.size w8 wx)
 case first =>
  go_region_held3 (fun w' => (w'.cell? ⟨s1, 0, none⟩ = some (.slice pp 4 cp) /\ w'.cell? ⟨s1, 1, none⟩ = some (.slice pt 2 ct)) /\ w'.cell? ⟨K.heap.size + 1, 0, none⟩ = some (.slice p0 4 c0) /\ w'.cell? ⟨K.heap.size + 1, 1, none⟩ = some (.slice (some ⟨z2, 0, none⟩) 3 3) /\ w'.cell? ⟨K.heap.size + 1, 2, none⟩ = some (.slice (some ⟨K.heap.size, 0, none⟩) 2 2))
   ((refine HS.out _ ?_; repeat (first | with_reducible exact q2 | with_reducible exact q1 | with_reducible exact q0 | with_reducible exact Below.refl _ _ | with_reducible refine Below.drew ?_ | ((with_reducible refine Below.setCell ?_ ?_ _); rotate_left; (first | omega | (simp <;> omega))) | ((with_reducible refine Below.alloc ?_ ?_ _); rotate_left; (first | exact Nat.le_refl _ | omega | (simp <;> omega))))))
   (first
     | ((with_reducible refine Calls.mono (hB.out _ _ _ ?_ ?_) ?_)
        (focus repeat (first | with_reducible exact q1 | with_reducible exact q0 | with_reducible exact Below.refl _ _ | with_reducible refine Below.drew ?_ | ((with_reducible refine Below.alloc ?_ ?_ _); rotate_left; (first | exact Nat.le_refl _ | omega | (simp <;> omega)))))
        (focus (first | exact hL.out | exact RdC.alloc hL.out _))
        (rintro e hW ⟨_, rfl, ⟨v1, v2, v3, rfl, hD⟩, hm⟩
         have q2 : Below w8.heap.size w8 hW := (by refine Below.trans ?_ (hm.mono ?_); rotate_left; (first | exact Nat.le_refl _ | omega | (simp <;> omega)); repeat (first | with_reducible exact q1 | with_reducible exact q0 | with_reducible exact Below.refl _ _ | with_reducible refine Below.drew ?_ | ((with_reducible refine Below.alloc ?_ ?_ _); rotate_left; (first | exact Nat.le_refl _ | omega | (simp <;> omega)))));have zP := q2.size;have H : Below z1.heap.size z1 hW := (by refine Below.trans ?_ (hm.mono ?_); rotate_left; (first | exact Nat.le_refl _ | omega | (simp <;> omega)); repeat (first | with_reducible exact Below.refl _ _ | with_reducible refine Below.drew ?_ | ((with_reducible refine Below.alloc ?_ ?_ _); rotate_left; (first | exact Nat.le_refl _ | omega | (simp <;> omega)))));have h7 := hid hD;obtain ⟨i1, j1, i2, j2, i3, j3, rfl, rfl, rfl⟩ := hD.open;clear hD
         (first | (have H8 := hid (E8.out.below H E8.out.lt)) | skip)
         (first | (have D8 := hid (zc3 hm)) | skip)
         (first | (have hZ := BoxC.of H8.out; obtain ⟨u1, u2, u3, u4, u5, u6, u7⟩ := hZ) | skip)
         (first | (have hY := BoxC.of D8.out; obtain ⟨zQ, zS, zT, zU, zV, zW, zX⟩ := hY) | skip)))
     | ((with_reducible refine Calls.mono (hu.out _) ?_)
        rintro e z1 ⟨_, rfl, ⟨p7, c7, rfl, h6⟩, hQ⟩;have q1 : Below w8.heap.size w8 z1 := (by refine Below.trans ?_ (hQ.mono ?_); rotate_left; (first | exact Nat.le_refl _ | omega | (simp <;> omega)); repeat (first | with_reducible exact q0 | with_reducible exact Below.refl _ _ | with_reducible refine Below.drew ?_ | ((with_reducible refine Below.alloc ?_ ?_ _); rotate_left; (first | exact Nat.le_refl _ | omega | (simp <;> omega)))));have sz1 := q1.size;have hL := hid h6;clear h6
        (first | (have E8 := hid (zc3d hQ)) | skip)))
  all_goals
   go_wp2_with fail;go_meet;refine ⟨_, .slice i1 4 j1, .slice i2 4 j2, .slice i3 3 j3, rfl, rfl, ?_, ?_, ?_, ?_⟩
   ·first | exact Nat.le_refl _ | omega | (simp; omega) | (simp)
   ·repeat (first | with_reducible exact H8.out | with_reducible exact D8.out | with_reducible refine BoxN.drew ?_ | with_reducible refine b3s ?_ | ((with_reducible refine b3n _ _ _ _ _ _ ?_); (first | rfl | (simp <;> omega))) | with_reducible refine BoxN.alloc ?_ _)
   ·first
     | exact h7.out.alloc _
     | exact DepR.set3 h7.out D8.out ke0
     | exact DepR.set3 h7.out H8.out ke0
   ·repeat (first | with_reducible exact q2 | with_reducible exact q1 | with_reducible exact q0 | with_reducible exact Below.refl _ _ | with_reducible refine Below.drew ?_ | ((with_reducible refine Below.setCell ?_ ?_ _); rotate_left; (first | omega | (simp <;> omega))) | ((with_reducible refine Below.alloc ?_ ?_ _); rotate_left; (first | exact Nat.le_refl _ | omega | (simp <;> omega))))
 case rest =>
 obtain ⟨N, v1, v2, v3, rfl, rfl, zL, bx, hR, y⟩ := hcut;have HR := hid hR;obtain ⟨i1, j1, i2, j2, i3, j3, rfl, rfl, rfl⟩ := hR.open;have m : bl < wc.heap.size := Nat.lt_of_lt_of_le B y.size;have x3 := zcq y B y3;have x4 := zcq y B y4;have x5 := zcq y B y5;have hk := bx.lt;have z6 : Hid (∀ X, Below wc.heap.size wc X -> X.cell? ⟨bl, d + 3, none⟩ = some (.string ⟨#[98]⟩) /\ X.cell? ⟨bl, d + 3 + 1, none⟩ = some (.string ⟨#[49]⟩) /\ X.cell? ⟨bl, d + 3 + 2, none⟩ = some (.string ⟨#[52]⟩) /\ X.cell? ⟨N, 0, none⟩ = some (.slice i1 4 j1) /\ X.cell? ⟨N, 1, none⟩ = some (.slice i2 4 j2) /\ X.cell? ⟨N, 2, none⟩ = some (.slice i3 3 j3)) := fun X M =>
  ⟨(zcq M m x3 :), (zcq M m x4 :), (zcq M m x5 :), (M.cell (p := ⟨N, 0, none⟩) hk).trans (bx.cell 0 rfl), (M.cell (p := ⟨N, 1, none⟩) hk).trans (bx.cell 1 rfl), (M.cell (p := ⟨N, 2, none⟩) hk).trans (bx.cell 2 rfl)⟩
 clear x3 x4 x5 y3 y4 y5 n0 n1 o0 o1 o2 HS hB q0 hR;go_upto_region 7 with fail;refine wrm (fun i X v => match i with
  | 0 => v = .int .i64 0 | 1 => v = .bool true | 2 => v = .bool true | 3 => v = .string ⟨#[98]⟩ | 4 => v = .bool true | 5 => v = .bool true | 6 => v = .bool true | 7 => v = .int .i64 0 | 8 => v = .bool true | 9 => v = .bool true | 10 => v = .bool true | 11 => v = .slice (some ⟨bl, d, none⟩) 3 cl | 12 => v = .int .i64 3 | 13 => v = .bool true | 14 => v = .bool true | 15 => v = .bool true | 16 => v = .slice (some ⟨bl, d, none⟩) 3 cl | 17 => v = .pointer (some ⟨bl, d + 3, none⟩) | 18 => v = .agg #[.string ⟨#[98]⟩, .string ⟨#[49]⟩, .string ⟨#[52]⟩] | 19 => v = .agg #[.string ⟨#[98]⟩, .string ⟨#[49]⟩, .string ⟨#[52]⟩] | 20 => v = .bool true | 21 => v = .bool true | 22 => v = .bool true | 23 => v = .int .i64 0 | 24 => v = .bool true | 25 => v = .bool true | 26 => v = .bool true | 27 => v = .string ⟨#[52, 56]⟩ | 28 => v = .bool true | 29 => v = .bool true | 30 => v = .bool true | 31 => v = .int .i64 0 | 32 => v = .bool true | 33 => v = .bool true | 34 => v = .bool true | 35 => v = .agg #[.slice i1 4 j1, .slice i2 4 j2, .slice i3 3 j3] | 36 => ∃ p c, v = .slice p 4 c /\ RdQ X v [0, 0, 0, 0] | 37 => ∃ p c, v = .slice p 4 c /\ RdS X v [⟨#[97]⟩, ⟨#[100]⟩, ⟨#[98]⟩, ⟨#[99]⟩] | 38 => ∃ p c, v = .slice p 4 c /\ RdQ X v [2, 2, 2, 2] | 39 => ∃ p c, v = .slice p 4 c /\ RdQ X v [3, 3, 3, 3] | 40 => ∃ p c, v = .slice p 4 c /\ RdQ X v [6, 6, 6, 6] | 41 => ∃ p c, v = .slice p 3 c /\ RdF X v [[2, 2, 2, 2], [3, 3, 3, 3], [6, 6, 6, 6]] | 42 => ∃ p1 c1 H c2 t x, v = .agg #[.slice p1 4 c1, .slice H 4 c2, .slice t 3 x] /\ DepR X (.slice p1 4 c1) (.slice H 4 c2) (.slice t 3 x) (([0, 0, 0, 0] : List Rat).map RS) [⟨#[97]⟩, ⟨#[100]⟩, ⟨#[98]⟩, ⟨#[99]⟩] (([[2, 2, 2, 2], [3, 3, 3, 3], [6, 6, 6, 6]] : List (List Rat)).map fun F => F.map RS) | 43 => v = .bool true | 44 => v = .bool true | 45 => v = .bool true | _ => True) ?_ (by kernel_rfl) (by kernel_rfl) ?_ ?_
 ·intro i X X' v h M
  rcases i with _|_|_|_|_|_|_|_|_|_|_|_|_|_|_|_|_|_|_|_|_|_|_|_|_|_|_|_|_|_|_|_|_|_|_|_|_|_|_|_|_|_|_|_|_|_|i
  ·exact h
  ·exact h
  ·exact h
  ·exact h
  ·exact h
  ·exact h
  ·exact h
  ·exact h
  ·exact h
  ·exact h
  ·exact h
  ·exact h
  ·exact h
  ·exact h
  ·exact h
  ·exact h
  ·exact h
  ·exact h
  ·exact h
  ·exact h
  ·exact h
  ·exact h
  ·exact h
  ·exact h
  ·exact h
  ·exact h
  ·exact h
  ·exact h
  ·exact h
  ·exact h
  ·exact h
  ·exact h
  ·exact h
  ·exact h
  ·exact h
  ·exact h
  ·obtain ⟨p, c, rfl, h⟩ := h; exact ⟨p, c, rfl, RdC.below h M⟩
  ·obtain ⟨p, c, rfl, h⟩ := h; exact ⟨p, c, rfl, RdC.below h M⟩
  ·obtain ⟨p, c, rfl, h⟩ := h; exact ⟨p, c, rfl, RdC.below h M⟩
  ·obtain ⟨p, c, rfl, h⟩ := h; exact ⟨p, c, rfl, RdC.below h M⟩
  ·obtain ⟨p, c, rfl, h⟩ := h; exact ⟨p, c, rfl, RdC.below h M⟩
  ·obtain ⟨p, c, rfl, h⟩ := h; exact ⟨p, c, rfl, RdF.below h M⟩
  ·obtain ⟨p1, c1, H, c2, t, x, rfl, h⟩ := h; exact ⟨p1, c1, H, c2, t, x, rfl, h.below M⟩
  ·exact h
  ·exact h
  ·exact h
  ·trivial
 ·intro h4 V X i o U Z S
  have hX := S.below;obtain ⟨z0, z1, z2, z3, z4, z5⟩ := z6.out X hX;have o3 : V.eval (.tmp 3) = .string ⟨#[98]⟩ := S.old 3 (by intro j oj O; rcases j with _|_|_|_|_|_|_|_|_|_|_|_|_|_|_|_|_|_|_|_|_|_|_|_|_|_|_|_|_|_|_|_|_|_|_|_|_|_|_|_|_|_|_|_|_|_|j <;> first | (injection O with O; subst O; simp) | exact absurd O (by simp));have o5 : V.eval (.tmp 5) = .int .i64 0 := S.old 5 (by intro j oj O; rcases j with _|_|_|_|_|_|_|_|_|_|_|_|_|_|_|_|_|_|_|_|_|_|_|_|_|_|_|_|_|_|_|_|_|_|_|_|_|_|_|_|_|_|_|_|_|_|j <;> first | (injection O with O; subst O; simp) | exact absurd O (by simp));have o6 : V.eval (.tmp 6) = .slice (some ⟨bl, d, none⟩) 3 cl := S.old 6 (by intro j oj O; rcases j with _|_|_|_|_|_|_|_|_|_|_|_|_|_|_|_|_|_|_|_|_|_|_|_|_|_|_|_|_|_|_|_|_|_|_|_|_|_|_|_|_|_|_|_|_|_|j <;> first | (injection O with O; subst O; simp) | exact absurd O (by simp));have o7 : V.eval (.tmp 7) = .int .i64 0 := S.old 7 (by intro j oj O; rcases j with _|_|_|_|_|_|_|_|_|_|_|_|_|_|_|_|_|_|_|_|_|_|_|_|_|_|_|_|_|_|_|_|_|_|_|_|_|_|_|_|_|_|_|_|_|_|j <;> first | (injection O with O; subst O; simp) | exact absurd O (by simp));have o8 : V.eval (.tmp 8) = .string ⟨#[52, 56]⟩ := S.old 8 (by intro j oj O; rcases j with _|_|_|_|_|_|_|_|_|_|_|_|_|_|_|_|_|_|_|_|_|_|_|_|_|_|_|_|_|_|_|_|_|_|_|_|_|_|_|_|_|_|_|_|_|_|j <;> first | (injection O with O; subst O; simp) | exact absurd O (by simp));have o9 : V.eval (.tmp 9) = .int .i64 0 := S.old 9 (by intro j oj O; rcases j with _|_|_|_|_|_|_|_|_|_|_|_|_|_|_|_|_|_|_|_|_|_|_|_|_|_|_|_|_|_|_|_|_|_|_|_|_|_|_|_|_|_|_|_|_|_|j <;> first | (injection O with O; subst O; simp) | exact absurd O (by simp));have zN : V.eval (.tmp 10) = .pointer (some ⟨N, 0, none⟩) := S.old 10 (by intro j oj O; rcases j with _|_|_|_|_|_|_|_|_|_|_|_|_|_|_|_|_|_|_|_|_|_|_|_|_|_|_|_|_|_|_|_|_|_|_|_|_|_|_|_|_|_|_|_|_|_|j <;> first | (injection O with O; subst O; simp) | exact absurd O (by simp));have zO : V.eval (.tmp 11) = .int .i64 0 := S.old 11 (by intro j oj O; rcases j with _|_|_|_|_|_|_|_|_|_|_|_|_|_|_|_|_|_|_|_|_|_|_|_|_|_|_|_|_|_|_|_|_|_|_|_|_|_|_|_|_|_|_|_|_|_|j <;> first | (injection O with O; subst O; simp) | exact absurd O (by simp));rcases i with _|_|_|_|_|_|_|_|_|_|_|_|_|_|_|_|_|_|_|_|_|_|_|_|_|_|_|_|_|_|_|_|_|_|_|_|_|_|_|_|_|_|_|_|_|_|i
  ·injection U with U; subst U
   refine ⟨rfl, wIv (w' := X) (by intro c Y; cases Y) (by intro c Y; cases Y) ?_ ⟨_, Below.refl _ _, (fun _ h => by cases h; rfl), rfl⟩⟩;clear Z S;generalize V.eval = ρ at *;simp [execOp, go_sem, *]
  ·injection U with U; subst U
   have e0 : V.eval (.tmp 49) = .int .i64 0 := S.has 0 _ 49 rfl rfl (Z ⟨0, .data⟩ (by simp) rfl);refine ⟨rfl, wIv (w' := X) (by intro c Y; cases Y) (by intro c Y; cases Y) ?_ ⟨_, Below.refl _ _, (fun _ h => by cases h; rfl), rfl⟩⟩;clear Z S;have R : ∀ v, V.eval (.const v) = v := fun _ => rfl;generalize V.eval = ρ at *;simp [execOp, go_sem, *]
  ·injection U with U; subst U
   have e1 : V.eval (.tmp 50) = .bool true := S.has 1 _ 50 rfl rfl (Z ⟨1, .data⟩ (by simp) rfl);refine ⟨rfl, wIv (w' := X) (by intro c Y; cases Y) (by intro c Y; cases Y) ?_ ⟨_, Below.refl _ _, (fun _ h => by cases h; rfl), rfl⟩⟩;clear Z S;generalize V.eval = ρ at *;simp [execOp, go_sem, *]
  ·injection U with U; subst U
   have Q : V.eval (.tmp 51) = .bool true := S.has 2 _ 51 rfl rfl (Z ⟨2, .guard⟩ (by simp) rfl);refine ⟨wof rfl rfl rfl Q, wIv (w' := X) (by intro c Y; cases Y) (by intro c Y; cases Y) ?_ ⟨_, Below.refl _ _, (fun _ h => by cases h; rfl), rfl⟩⟩;clear Z S;generalize V.eval = ρ at *;simp [execOp, go_sem, *]
  ·injection U with U; subst U
   have e3 : V.eval (.tmp 52) = .string ⟨#[98]⟩ := S.has 3 _ 52 rfl rfl (Z ⟨3, .data⟩ (by simp) rfl);have Q : V.eval (.tmp 51) = .bool true := S.has 2 _ 51 rfl rfl (Z ⟨2, .guard⟩ (by simp) rfl);refine ⟨wof rfl rfl rfl Q, wIv (w' := X) (by intro c Y; cases Y) (by intro c Y; cases Y) ?_ ⟨_, Below.refl _ _, (fun _ h => by cases h; rfl), rfl⟩⟩;clear Z S;have R : ∀ v, V.eval (.const v) = v := fun _ => rfl;generalize V.eval = ρ at *;simp [execOp, go_sem, *]
  ·injection U with U; subst U
   have e2 : V.eval (.tmp 51) = .bool true := S.has 2 _ 51 rfl rfl (Z ⟨2, .data⟩ (by simp) rfl);have e4 : V.eval (.tmp 53) = .bool true := S.has 4 _ 53 rfl rfl (Z ⟨4, .data⟩ (by simp) rfl);refine ⟨rfl, wIv (w' := X) (by intro c Y; cases Y) (by intro c Y; cases Y) ?_ ⟨_, Below.refl _ _, (fun _ h => by cases h; rfl), rfl⟩⟩;clear Z S;have R : ∀ v, V.eval (.const v) = v := fun _ => rfl;generalize V.eval = ρ at *;simp [execOp, go_sem, *]
  ·injection U with U; subst U
   have e5 : V.eval (.tmp 54) = .bool true := S.has 5 _ 54 rfl rfl (Z ⟨5, .data⟩ (by simp) rfl);refine ⟨rfl, wIv (w' := X) (by intro c Y; cases Y) (by intro c Y; cases Y) ?_ ⟨_, Below.refl _ _, (fun _ h => by cases h; rfl), rfl⟩⟩;clear Z S;generalize V.eval = ρ at *;simp [execOp, go_sem, *]
  ·injection U with U; subst U
   have Q : V.eval (.tmp 55) = .bool true := S.has 6 _ 55 rfl rfl (Z ⟨6, .guard⟩ (by simp) rfl);refine ⟨wof rfl rfl rfl Q, wIv (w' := X) (by intro c Y; cases Y) (by intro c Y; cases Y) ?_ ⟨_, Below.refl _ _, (fun _ h => by cases h; rfl), rfl⟩⟩;clear Z S;generalize V.eval = ρ at *;simp [execOp, go_sem, *]
  ·injection U with U; subst U
   have e7 : V.eval (.tmp 56) = .int .i64 0 := S.has 7 _ 56 rfl rfl (Z ⟨7, .data⟩ (by simp) rfl);have Q : V.eval (.tmp 55) = .bool true := S.has 6 _ 55 rfl rfl (Z ⟨6, .guard⟩ (by simp) rfl);refine ⟨wof rfl rfl rfl Q, wIv (w' := X) (by intro c Y; cases Y) (by intro c Y; cases Y) ?_ ⟨_, Below.refl _ _, (fun _ h => by cases h; rfl), rfl⟩⟩;clear Z S;have R : ∀ v, V.eval (.const v) = v := fun _ => rfl;generalize V.eval = ρ at *;simp [execOp, go_sem, *]
  ·injection U with U; subst U
   have e6 : V.eval (.tmp 55) = .bool true := S.has 6 _ 55 rfl rfl (Z ⟨6, .data⟩ (by simp) rfl);have e8 : V.eval (.tmp 57) = .bool true := S.has 8 _ 57 rfl rfl (Z ⟨8, .data⟩ (by simp) rfl);refine ⟨rfl, wIv (w' := X) (by intro c Y; cases Y) (by intro c Y; cases Y) ?_ ⟨_, Below.refl _ _, (fun _ h => by cases h; rfl), rfl⟩⟩;clear Z S;have R : ∀ v, V.eval (.const v) = v := fun _ => rfl;generalize V.eval = ρ at *;simp [execOp, go_sem, *]
  ·injection U with U; subst U
   have e9 : V.eval (.tmp 58) = .bool true := S.has 9 _ 58 rfl rfl (Z ⟨9, .data⟩ (by simp) rfl);refine ⟨rfl, wIv (w' := X) (by intro c Y; cases Y) (by intro c Y; cases Y) ?_ ⟨_, Below.refl _ _, (fun _ h => by cases h; rfl), rfl⟩⟩;clear Z S;generalize V.eval = ρ at *;simp [execOp, go_sem, *]
  ·injection U with U; subst U
   have Q : V.eval (.tmp 59) = .bool true := S.has 10 _ 59 rfl rfl (Z ⟨10, .guard⟩ (by simp) rfl);refine ⟨wof rfl rfl rfl Q, wIv (w' := X) (by intro c Y; cases Y) (by intro c Y; cases Y) ?_ ⟨_, Below.refl _ _, (fun _ h => by cases h; rfl), rfl⟩⟩;clear Z S;generalize V.eval = ρ at *;simp [execOp, go_sem, *]
  ·injection U with U; subst U
   have zk : V.eval (.tmp 60) = .slice (some ⟨bl, d, none⟩) 3 cl := S.has 11 _ 60 rfl rfl (Z ⟨11, .data⟩ (by simp) rfl);have Q : V.eval (.tmp 59) = .bool true := S.has 10 _ 59 rfl rfl (Z ⟨10, .guard⟩ (by simp) rfl);refine ⟨wof rfl rfl rfl Q, wd0 (w' := X)  (by intro c Y; cases Y) ?_ ⟨_, Below.refl _ _, (fun _ h => by cases h; rfl), rfl⟩⟩;clear Z S;generalize V.eval = ρ at *;simp [execOp, go_sem, *]
  ·injection U with U; subst U
   have zl : V.eval (.tmp 61) = .int .i64 3 := S.has 12 _ 61 rfl rfl (Z ⟨12, .data⟩ (by simp) rfl);have Q : V.eval (.tmp 59) = .bool true := S.has 10 _ 59 rfl rfl (Z ⟨10, .guard⟩ (by simp) rfl);refine ⟨wof rfl rfl rfl Q, wIv (w' := X) (by intro c Y; cases Y) (by intro c Y; cases Y) ?_ ⟨_, Below.refl _ _, (fun _ h => by cases h; rfl), rfl⟩⟩;clear Z S;have R : ∀ v, V.eval (.const v) = v := fun _ => rfl;generalize V.eval = ρ at *;simp [execOp, go_sem, *]
  ·injection U with U; subst U
   have zj : V.eval (.tmp 59) = .bool true := S.has 10 _ 59 rfl rfl (Z ⟨10, .data⟩ (by simp) rfl);have zm : V.eval (.tmp 62) = .bool true := S.has 13 _ 62 rfl rfl (Z ⟨13, .data⟩ (by simp) rfl);refine ⟨rfl, wIv (w' := X) (by intro c Y; cases Y) (by intro c Y; cases Y) ?_ ⟨_, Below.refl _ _, (fun _ h => by cases h; rfl), rfl⟩⟩;clear Z S;have R : ∀ v, V.eval (.const v) = v := fun _ => rfl;generalize V.eval = ρ at *;simp [execOp, go_sem, *]
  ·injection U with U; subst U
   have zn : V.eval (.tmp 63) = .bool true := S.has 14 _ 63 rfl rfl (Z ⟨14, .data⟩ (by simp) rfl);refine ⟨rfl, wIv (w' := X) (by intro c Y; cases Y) (by intro c Y; cases Y) ?_ ⟨_, Below.refl _ _, (fun _ h => by cases h; rfl), rfl⟩⟩;clear Z S;generalize V.eval = ρ at *;simp [execOp, go_sem, *]
  ·injection U with U; subst U
   have Q : V.eval (.tmp 64) = .bool true := S.has 15 _ 64 rfl rfl (Z ⟨15, .guard⟩ (by simp) rfl);refine ⟨wof rfl rfl rfl Q, wIv (w' := X) (by intro c Y; cases Y) (by intro c Y; cases Y) ?_ ⟨_, Below.refl _ _, (fun _ h => by cases h; rfl), rfl⟩⟩;clear Z S;generalize V.eval = ρ at *;simp [execOp, go_sem, *]
  ·injection U with U; subst U
   have zp : V.eval (.tmp 65) = .slice (some ⟨bl, d, none⟩) 3 cl := S.has 16 _ 65 rfl rfl (Z ⟨16, .data⟩ (by simp) rfl);have Q : V.eval (.tmp 64) = .bool true := S.has 15 _ 64 rfl rfl (Z ⟨15, .guard⟩ (by simp) rfl);refine ⟨wof rfl rfl rfl Q, wIv (w' := X) (by intro c Y; cases Y) (by intro c Y; cases Y) ?_ ⟨_, Below.refl _ _, (fun _ h => by cases h; rfl), rfl⟩⟩;clear Z S;have R : ∀ v, V.eval (.const v) = v := fun _ => rfl;generalize V.eval = ρ at *;simp [execOp, go_sem, *]
  ·injection U with U; subst U
   have zq : V.eval (.tmp 66) = .pointer (some ⟨bl, d + 3, none⟩) := S.has 17 _ 66 rfl rfl (Z ⟨17, .data⟩ (by simp) rfl);have Q : V.eval (.tmp 64) = .bool true := S.has 15 _ 64 rfl rfl (Z ⟨15, .guard⟩ (by simp) rfl);refine ⟨wof rfl rfl rfl Q, wIv (w' := X) (by intro c Y; cases Y) (by intro c Y; cases Y) ?_ ⟨_, Below.refl _ _, (fun _ h => by cases h; rfl), rfl⟩⟩;clear Z S;generalize V.eval = ρ at *;simp [execOp, go_sem, *]
  ·injection U with U; subst U
   have Q : V.eval (.tmp 64) = .bool true := S.has 15 _ 64 rfl rfl (Z ⟨15, .guard⟩ (by simp) rfl);refine ⟨wof rfl rfl rfl Q, wIv (w' := X) (by intro c Y; cases Y) (by intro c Y; cases Y) ?_ ⟨_, Below.refl _ _, (fun _ h => by cases h; rfl), rfl⟩⟩;clear Z S;have R : ∀ v, V.eval (.const v) = v := fun _ => rfl;generalize V.eval = ρ at *;simp [execOp, go_sem, *]
  ·injection U with U; subst U
   have zr : V.eval (.tmp 67) = .agg #[.string ⟨#[98]⟩, .string ⟨#[49]⟩, .string ⟨#[52]⟩] := S.has 18 _ 67 rfl rfl (Z ⟨18, .data⟩ (by simp) rfl);have zs : V.eval (.tmp 68) = .agg #[.string ⟨#[98]⟩, .string ⟨#[49]⟩, .string ⟨#[52]⟩] := S.has 19 _ 68 rfl rfl (Z ⟨19, .data⟩ (by simp) rfl);have Q : V.eval (.tmp 64) = .bool true := S.has 15 _ 64 rfl rfl (Z ⟨15, .guard⟩ (by simp) rfl);refine ⟨wof rfl rfl rfl Q, wIv (w' := X) (by intro c Y; cases Y) (by intro c Y; cases Y) ?_ ⟨_, Below.refl _ _, (fun _ h => by cases h; rfl), rfl⟩⟩;clear Z S;generalize V.eval = ρ at *;simp [execOp, go_sem, *]
  ·injection U with U; subst U
   have zo : V.eval (.tmp 64) = .bool true := S.has 15 _ 64 rfl rfl (Z ⟨15, .data⟩ (by simp) rfl);have zt : V.eval (.tmp 69) = .bool true := S.has 20 _ 69 rfl rfl (Z ⟨20, .data⟩ (by simp) rfl);refine ⟨rfl, wIv (w' := X) (by intro c Y; cases Y) (by intro c Y; cases Y) ?_ ⟨_, Below.refl _ _, (fun _ h => by cases h; rfl), rfl⟩⟩;clear Z S;have R : ∀ v, V.eval (.const v) = v := fun _ => rfl;generalize V.eval = ρ at *;simp [execOp, go_sem, *]
  ·injection U with U; subst U
   have zu : V.eval (.tmp 70) = .bool true := S.has 21 _ 70 rfl rfl (Z ⟨21, .data⟩ (by simp) rfl);refine ⟨rfl, wIv (w' := X) (by intro c Y; cases Y) (by intro c Y; cases Y) ?_ ⟨_, Below.refl _ _, (fun _ h => by cases h; rfl), rfl⟩⟩;clear Z S;generalize V.eval = ρ at *;simp [execOp, go_sem, *]
  ·injection U with U; subst U
   have Q : V.eval (.tmp 71) = .bool true := S.has 22 _ 71 rfl rfl (Z ⟨22, .guard⟩ (by simp) rfl);refine ⟨wof rfl rfl rfl Q, wIv (w' := X) (by intro c Y; cases Y) (by intro c Y; cases Y) ?_ ⟨_, Below.refl _ _, (fun _ h => by cases h; rfl), rfl⟩⟩;clear Z S;generalize V.eval = ρ at *;simp [execOp, go_sem, *]
  ·injection U with U; subst U
   have zw : V.eval (.tmp 72) = .int .i64 0 := S.has 23 _ 72 rfl rfl (Z ⟨23, .data⟩ (by simp) rfl);have Q : V.eval (.tmp 71) = .bool true := S.has 22 _ 71 rfl rfl (Z ⟨22, .guard⟩ (by simp) rfl);refine ⟨wof rfl rfl rfl Q, wIv (w' := X) (by intro c Y; cases Y) (by intro c Y; cases Y) ?_ ⟨_, Below.refl _ _, (fun _ h => by cases h; rfl), rfl⟩⟩;clear Z S;have R : ∀ v, V.eval (.const v) = v := fun _ => rfl;generalize V.eval = ρ at *;simp [execOp, go_sem, *]
  ·injection U with U; subst U
   have zv : V.eval (.tmp 71) = .bool true := S.has 22 _ 71 rfl rfl (Z ⟨22, .data⟩ (by simp) rfl);have zx : V.eval (.tmp 73) = .bool true := S.has 24 _ 73 rfl rfl (Z ⟨24, .data⟩ (by simp) rfl);refine ⟨rfl, wIv (w' := X) (by intro c Y; cases Y) (by intro c Y; cases Y) ?_ ⟨_, Below.refl _ _, (fun _ h => by cases h; rfl), rfl⟩⟩;clear Z S;have R : ∀ v, V.eval (.const v) = v := fun _ => rfl;generalize V.eval = ρ at *;simp [execOp, go_sem, *]
  ·injection U with U; subst U
   have zy : V.eval (.tmp 74) = .bool true := S.has 25 _ 74 rfl rfl (Z ⟨25, .data⟩ (by simp) rfl);refine ⟨rfl, wIv (w' := X) (by intro c Y; cases Y) (by intro c Y; cases Y) ?_ ⟨_, Below.refl _ _, (fun _ h => by cases h; rfl), rfl⟩⟩;clear Z S;generalize V.eval = ρ at *;simp [execOp, go_sem, *]
  ·injection U with U; subst U
   have Q : V.eval (.tmp 75) = .bool true := S.has 26 _ 75 rfl rfl (Z ⟨26, .guard⟩ (by simp) rfl);refine ⟨wof rfl rfl rfl Q, wIv (w' := X) (by intro c Y; cases Y) (by intro c Y; cases Y) ?_ ⟨_, Below.refl _ _, (fun _ h => by cases h; rfl), rfl⟩⟩;clear Z S;generalize V.eval = ρ at *;simp [execOp, go_sem, *]
  ·injection U with U; subst U
   have zA : V.eval (.tmp 76) = .string ⟨#[52, 56]⟩ := S.has 27 _ 76 rfl rfl (Z ⟨27, .data⟩ (by simp) rfl);have Q : V.eval (.tmp 75) = .bool true := S.has 26 _ 75 rfl rfl (Z ⟨26, .guard⟩ (by simp) rfl);refine ⟨wof rfl rfl rfl Q, wIv (w' := X) (by intro c Y; cases Y) (by intro c Y; cases Y) ?_ ⟨_, Below.refl _ _, (fun _ h => by cases h; rfl), rfl⟩⟩;clear Z S;have R : ∀ v, V.eval (.const v) = v := fun _ => rfl;generalize V.eval = ρ at *;simp [execOp, go_sem, *]
  ·injection U with U; subst U
   have zz : V.eval (.tmp 75) = .bool true := S.has 26 _ 75 rfl rfl (Z ⟨26, .data⟩ (by simp) rfl);have zB : V.eval (.tmp 77) = .bool true := S.has 28 _ 77 rfl rfl (Z ⟨28, .data⟩ (by simp) rfl);refine ⟨rfl, wIv (w' := X) (by intro c Y; cases Y) (by intro c Y; cases Y) ?_ ⟨_, Below.refl _ _, (fun _ h => by cases h; rfl), rfl⟩⟩;clear Z S;have R : ∀ v, V.eval (.const v) = v := fun _ => rfl;generalize V.eval = ρ at *;simp [execOp, go_sem, *]
  ·injection U with U; subst U
   have zC : V.eval (.tmp 78) = .bool true := S.has 29 _ 78 rfl rfl (Z ⟨29, .data⟩ (by simp) rfl);refine ⟨rfl, wIv (w' := X) (by intro c Y; cases Y) (by intro c Y; cases Y) ?_ ⟨_, Below.refl _ _, (fun _ h => by cases h; rfl), rfl⟩⟩;clear Z S;generalize V.eval = ρ at *;simp [execOp, go_sem, *]
  ·injection U with U; subst U
   have Q : V.eval (.tmp 79) = .bool true := S.has 30 _ 79 rfl rfl (Z ⟨30, .guard⟩ (by simp) rfl);refine ⟨wof rfl rfl rfl Q, wIv (w' := X) (by intro c Y; cases Y) (by intro c Y; cases Y) ?_ ⟨_, Below.refl _ _, (fun _ h => by cases h; rfl), rfl⟩⟩;clear Z S;generalize V.eval = ρ at *;simp [execOp, go_sem, *]
  ·injection U with U; subst U
   have zE : V.eval (.tmp 80) = .int .i64 0 := S.has 31 _ 80 rfl rfl (Z ⟨31, .data⟩ (by simp) rfl);have Q : V.eval (.tmp 79) = .bool true := S.has 30 _ 79 rfl rfl (Z ⟨30, .guard⟩ (by simp) rfl);refine ⟨wof rfl rfl rfl Q, wIv (w' := X) (by intro c Y; cases Y) (by intro c Y; cases Y) ?_ ⟨_, Below.refl _ _, (fun _ h => by cases h; rfl), rfl⟩⟩;clear Z S;have R : ∀ v, V.eval (.const v) = v := fun _ => rfl;generalize V.eval = ρ at *;simp [execOp, go_sem, *]
  ·injection U with U; subst U
   have zD : V.eval (.tmp 79) = .bool true := S.has 30 _ 79 rfl rfl (Z ⟨30, .data⟩ (by simp) rfl);have zF : V.eval (.tmp 81) = .bool true := S.has 32 _ 81 rfl rfl (Z ⟨32, .data⟩ (by simp) rfl);refine ⟨rfl, wIv (w' := X) (by intro c Y; cases Y) (by intro c Y; cases Y) ?_ ⟨_, Below.refl _ _, (fun _ h => by cases h; rfl), rfl⟩⟩;clear Z S;have R : ∀ v, V.eval (.const v) = v := fun _ => rfl;generalize V.eval = ρ at *;simp [execOp, go_sem, *]
  ·injection U with U; subst U
   have zG : V.eval (.tmp 82) = .bool true := S.has 33 _ 82 rfl rfl (Z ⟨33, .data⟩ (by simp) rfl);refine ⟨rfl, wIv (w' := X) (by intro c Y; cases Y) (by intro c Y; cases Y) ?_ ⟨_, Below.refl _ _, (fun _ h => by cases h; rfl), rfl⟩⟩;clear Z S;generalize V.eval = ρ at *;simp [execOp, go_sem, *]
  ·injection U with U; subst U
   have Q : V.eval (.tmp 83) = .bool true := S.has 34 _ 83 rfl rfl (Z ⟨34, .guard⟩ (by simp) rfl);refine ⟨wof rfl rfl rfl Q, wIv (w' := X) (by intro c Y; cases Y) (by intro c Y; cases Y) ?_ ⟨_, Below.refl _ _, (fun _ h => by cases h; rfl), rfl⟩⟩;clear Z S;generalize V.eval = ρ at *;simp [execOp, go_sem, *]
  ·injection U with U; subst U
   have Q : V.eval (.tmp 83) = .bool true := S.has 34 _ 83 rfl rfl (Z ⟨34, .guard⟩ (by simp) rfl);refine ⟨wof rfl rfl rfl Q, ?_⟩;refine wIc (f := 36) (args := #[.string ⟨#[48]⟩]) (w' := X) (by intro c Y; cases Y) (fun _ _ => trivial) ?_ ⟨fun h => by simp [Fence.wide] at h, ?_⟩
   ·have ef : V.eval (.func 36) = .func (.func 36) #[] #[] := rfl
    have R : ∀ v, V.eval (.const v) = v := fun _ => rfl;clear Z S;generalize V.eval = ρ at *;simp [execOp, go_sem, *]
   ·refine CallsIn.mono (callsIn_wide.2 (hz.out X)) ?_
    rintro e X2 ⟨_, rfl, ⟨p, c, rfl, hr⟩, J⟩;exact ⟨_, rfl, _, J, (fun _ h => by cases h; exact ⟨p, c, rfl, hr⟩), rfl⟩
  ·injection U with U; subst U
   have Q : V.eval (.tmp 83) = .bool true := S.has 34 _ 83 rfl rfl (Z ⟨34, .guard⟩ (by simp) rfl);refine ⟨wof rfl rfl rfl Q, ?_⟩;refine wIv (v := .slice (some ⟨X.heap.size, 0, none⟩) 4 4) (w' := X.alloc (.cells #[.string ⟨#[97]⟩, .string ⟨#[100]⟩, .string ⟨#[98]⟩, .string ⟨#[99]⟩] 9)) (by intro c Y; cases Y) (by intro c Y; cases Y) ?_ ⟨_, (Below.refl _ _).alloc (Nat.le_refl _) _, (fun _ h => by cases h; exact ⟨_, _, rfl, RdS.fresh X [⟨#[97]⟩, ⟨#[100]⟩, ⟨#[98]⟩, ⟨#[99]⟩] _ #[.string ⟨#[97]⟩, .string ⟨#[100]⟩, .string ⟨#[98]⟩, .string ⟨#[99]⟩] rfl (by decide) 4 rfl _ rfl⟩), rfl⟩;clear Z S;have R : ∀ v, V.eval (.const v) = v := fun _ => rfl;generalize V.eval = ρ at *;simp [execOp, go_sem, *]
  ·injection U with U; subst U
   have Q : V.eval (.tmp 83) = .bool true := S.has 34 _ 83 rfl rfl (Z ⟨34, .guard⟩ (by simp) rfl);refine ⟨wof rfl rfl rfl Q, ?_⟩;refine wIc (f := 36) (args := #[.string ⟨#[50]⟩]) (w' := X) (by intro c Y; cases Y) (fun _ _ => trivial) ?_ ⟨fun h => by simp [Fence.wide] at h, ?_⟩
   ·have ef : V.eval (.func 36) = .func (.func 36) #[] #[] := rfl
    have R : ∀ v, V.eval (.const v) = v := fun _ => rfl;clear Z S;generalize V.eval = ρ at *;simp [execOp, go_sem, *]
   ·refine CallsIn.mono (callsIn_wide.2 (hA.out X)) ?_
    rintro e X2 ⟨_, rfl, ⟨p, c, rfl, hr⟩, J⟩;exact ⟨_, rfl, _, J, (fun _ h => by cases h; exact ⟨p, c, rfl, hr⟩), rfl⟩
  ·injection U with U; subst U
   have Q : V.eval (.tmp 83) = .bool true := S.has 34 _ 83 rfl rfl (Z ⟨34, .guard⟩ (by simp) rfl);refine ⟨wof rfl rfl rfl Q, ?_⟩;refine wIc (f := 36) (args := #[.string ⟨#[51]⟩]) (w' := X) (by intro c Y; cases Y) (fun _ _ => trivial) ?_ ⟨fun h => by simp [Fence.wide] at h, ?_⟩
   ·have ef : V.eval (.func 36) = .func (.func 36) #[] #[] := rfl
    have R : ∀ v, V.eval (.const v) = v := fun _ => rfl;clear Z S;generalize V.eval = ρ at *;simp [execOp, go_sem, *]
   ·refine CallsIn.mono (callsIn_wide.2 (hw.out X)) ?_
    rintro e X2 ⟨_, rfl, ⟨p, c, rfl, hr⟩, J⟩;exact ⟨_, rfl, _, J, (fun _ h => by cases h; exact ⟨p, c, rfl, hr⟩), rfl⟩
  ·injection U with U; subst U
   have Q : V.eval (.tmp 83) = .bool true := S.has 34 _ 83 rfl rfl (Z ⟨34, .guard⟩ (by simp) rfl);refine ⟨wof rfl rfl rfl Q, ?_⟩;refine wIc (f := 36) (args := #[.string ⟨#[54]⟩]) (w' := X) (by intro c Y; cases Y) (fun _ _ => trivial) ?_ ⟨fun h => by simp [Fence.wide] at h, ?_⟩
   ·have ef : V.eval (.func 36) = .func (.func 36) #[] #[] := rfl
    have R : ∀ v, V.eval (.const v) = v := fun _ => rfl;clear Z S;generalize V.eval = ρ at *;simp [execOp, go_sem, *]
   ·refine CallsIn.mono (callsIn_wide.2 (hy.out X)) ?_
    rintro e X2 ⟨_, rfl, ⟨p, c, rfl, hr⟩, J⟩;exact ⟨_, rfl, _, J, (fun _ h => by cases h; exact ⟨p, c, rfl, hr⟩), rfl⟩
  ·injection U with U; subst U
   have za := S.has 38 _ 87 rfl rfl (Z ⟨38, .data⟩ (by simp) rfl);have zb := S.has 39 _ 88 rfl rfl (Z ⟨39, .data⟩ (by simp) rfl);have zc := S.has 40 _ 89 rfl rfl (Z ⟨40, .data⟩ (by simp) rfl);have Q : V.eval (.tmp 83) = .bool true := S.has 34 _ 83 rfl rfl (Z ⟨34, .guard⟩ (by simp) rfl);refine ⟨wof rfl rfl rfl Q, ?_⟩;obtain ⟨H, c2, e2, r2⟩ := za;obtain ⟨t, x, e3, r3⟩ := zb;obtain ⟨p6, c6, e6, r6⟩ := zc;rw [e2] at r2;rw [e3] at r3;rw [e6] at r6;have l : Below X.heap.size X (X.alloc (.cells #[.slice H 4 c2, .slice t 4 x, .slice p6 4 c6] 33)) := zal _ _;have b := BoxN.new X #[.slice H 4 c2, .slice t 4 x, .slice p6 4 c6] 33 _ rfl;refine wIv (v := .slice (some ⟨X.heap.size, 0, none⟩) 3 3) (w' := X.alloc (.cells #[.slice H 4 c2, .slice t 4 x, .slice p6 4 c6] 33)) (by intro c Y; cases Y) (by intro c Y; cases Y) ?_ ⟨_, l, (fun _ h => by cases h; exact ⟨_, _, rfl, rFt (b.cell 0 rfl) (b.cell 1 rfl) (b.cell 2 rfl) (RdC.below r2 l) (RdC.below r3 l) (RdC.below r6 l) (Nat.le_refl _) (by decide)⟩), rfl⟩;clear Z S r2 r3 r6 l b;generalize V.eval = ρ at *;simp [execOp, go_sem, *]
  ·injection U with U; subst U
   have z8 := S.has 36 _ 85 rfl rfl (Z ⟨36, .data⟩ (by simp) rfl);have z9 := S.has 37 _ 86 rfl rfl (Z ⟨37, .data⟩ (by simp) rfl);have zd := S.has 41 _ 90 rfl rfl (Z ⟨41, .data⟩ (by simp) rfl);have Q : V.eval (.tmp 83) = .bool true := S.has 34 _ 83 rfl rfl (Z ⟨34, .guard⟩ (by simp) rfl);refine ⟨wof rfl rfl rfl Q, ?_⟩;obtain ⟨p1, c1, e1, r1⟩ := z8;obtain ⟨H, c2, e2, r2⟩ := z9;obtain ⟨t, x, e3, r3⟩ := zd;rw [e1] at r1;rw [e2] at r2;rw [e3] at r3;refine wIv (v := .agg #[.slice p1 4 c1, .slice H 4 c2, .slice t 3 x]) (w' := X) (by intro c Y; cases Y) (by intro c Y; cases Y) ?_ ⟨_, Below.refl _ _, (fun _ h => by cases h; exact ⟨_, _, _, _, _, _, rfl, ⟨r1.toS, r2, r3.toTx⟩⟩), rfl⟩;clear Z S r1 r2 r3;generalize V.eval = ρ at *;simp [execOp, go_sem, *]
  ·injection U with U; subst U
   have zI : V.eval (.tmp 84) = .agg #[.slice i1 4 j1, .slice i2 4 j2, .slice i3 3 j3] := S.has 35 _ 84 rfl rfl (Z ⟨35, .data⟩ (by simp) rfl);have ze := S.has 42 _ 91 rfl rfl (Z ⟨42, .data⟩ (by simp) rfl);have Q : V.eval (.tmp 83) = .bool true := S.has 34 _ 83 rfl rfl (Z ⟨34, .guard⟩ (by simp) rfl);refine ⟨wof rfl rfl rfl Q, ?_⟩;obtain ⟨p1, c1, H, c2, t, x, e1, r1⟩ := ze;refine wIc (f := 37) (args := #[.agg #[.slice i1 4 j1, .slice i2 4 j2, .slice i3 3 j3], .agg #[.slice p1 4 c1, .slice H 4 c2, .slice t 3 x]]) (w' := X) (by intro c Y; cases Y) (fun _ _ => trivial) ?_ ⟨fun h => by simp [Fence.wide] at h, ?_⟩
   ·have ef : V.eval (.func 37) = .func (.func 37) #[] #[] := rfl
    clear Z S r1;generalize V.eval = ρ at *;simp [execOp, go_sem, *]
   ·refine CallsIn.mono (callsIn_wide.2 (sEa X _ _ _ _ _ _ _ _ _ _ _ _ (HR.out.below hX) r1)) ?_
    rintro e X2 ⟨_, rfl, rfl, J⟩;exact ⟨_, rfl, _, J, (fun _ h => by cases h; exact congrArg Value.bool (decide_eq_true ⟨rfl, rfl, rfl⟩)), rfl⟩
  ·injection U with U; subst U
   have zH : V.eval (.tmp 83) = .bool true := S.has 34 _ 83 rfl rfl (Z ⟨34, .data⟩ (by simp) rfl);have zJ : V.eval (.tmp 92) = .bool true := S.has 43 _ 92 rfl rfl (Z ⟨43, .data⟩ (by simp) rfl);refine ⟨rfl, wIv (w' := X) (by intro c Y; cases Y) (by intro c Y; cases Y) ?_ ⟨_, Below.refl _ _, (fun _ h => by cases h; rfl), rfl⟩⟩;clear Z S;have R : ∀ v, V.eval (.const v) = v := fun _ => rfl;generalize V.eval = ρ at *;simp [execOp, go_sem, *]
  ·injection U with U; subst U
   have zK : V.eval (.tmp 93) = .bool true := S.has 44 _ 93 rfl rfl (Z ⟨44, .data⟩ (by simp) rfl);refine ⟨rfl, wIv (w' := X) (by intro c Y; cases Y) (by intro c Y; cases Y) ?_ ⟨_, Below.refl _ _, (fun _ h => by cases h; rfl), rfl⟩⟩;clear Z S;generalize V.eval = ρ at *;simp [execOp, go_sem, *]
  ·exact absurd U (by simp)
 ·intro h4 V X h5 S zh hF
  have e0 : V.eval (.tmp 0) = .bool true := S.has 45 _ 0 rfl rfl (h5 45 (by simp));have hX := S.below;have qX := ((zbt q8 y)).trans (hX.mono (by have := q8.size; have := y.size; omega));have hG : V.defers = [] := hF;replace e0 : V.tmps.getD 0 undef = .bool true := e0;rw [Array.getD_eq_getD_getElem?] at e0;clear S h5 hF zh;go_wp2_with fail;refine bodyPost_ret (v := .bool true) (by simp [results, Tryz.results7, go_sem, e0]) hG ⟨_, rfl, rfl, qX⟩
theorem sPt (k : Nat) : 2 <= (sPP k).length := by unfold sPP; split <;> decide
theorem hC0 (l : List ByteArray) (u : ByteArray) : hasS l u = true ↔ u ∈ l := by
 constructor
 ·intro Z
  refine Classical.byContradiction fun h2 => ?_
  rw [hSf h2] at Z;cases Z
 ·exact hK0
theorem hF0 {U : List ByteArray} {nm : ByteArray} {i : Nat} (h : i < U.length) : hasS (U.take (i + 1)) nm = (hasS (U.take i) nm || decide (U[i] = nm)) := by
 rw [Bool.eq_iff_iff, Bool.or_eq_true, hC0, hC0, decide_eq_true_iff, List.take_succ_eq_append_getElem h, List.mem_append, List.mem_singleton];exact or_congr Iff.rfl ⟨fun e => e.symm, fun e => e.symm⟩
theorem hSt {U : List ByteArray} {nm : ByteArray} {k i : Nat} (h : k <= i) (Z : hasS (U.take k) nm = true) : hasS (U.take i) nm = true := by
 rw [hC0] at Z ⊢;exact (List.take_prefix_take_left h).subset Z
theorem l2a (w : World) (vp vt vb vu vs : Value) (P : List PtQ) (T : List Tri) (KK : Nat) (b U : List ByteArray) (S : List (List ByteArray)) (h : DepT w vp vt vb vu vs P T KK b U S) (z0 : ∀ u ∈ U, u.size < 1000000000) (hg : Good w) :
 Calls Tryz.prog 28 #[.agg #[vp, vt], .agg #[vb, vu, vs]] w (Ret (fun r _ => r = .int .i64 (depE P T b U S)) w) := by
 have E := hid h;obtain ⟨pp, cp, rfl, -, -, -⟩ := h.p.open;obtain ⟨pt, ct, rfl, -, -, -⟩ := h.t.open;obtain ⟨pb, cb, rfl, -, -, -⟩ := h.base.open;obtain ⟨pu, cu, rfl, y2, zF, -⟩ := h.unit.open;obtain ⟨ps, cs, rfl, zZ, zE⟩ := h.surf.shape;unfold maxLen at zF zE;rw [sPl] at *;obtain ⟨O, o⟩ : ∃ r, r = depE P T b U S := ⟨_, rfl⟩;rw [<- o];have HR := hid o;clear o h;by_cases hT : T = []
 ·have M : Hid (O = 13) := by unfold Hid; rw [HR.out]; exact dEm hT
  have HC : Hid (∀ w', Below w.heap.size w w' -> Calls Tryz.prog 61 #[.agg #[.slice pp P.length cp, .slice pt T.length ct]] w' (Ret (fun r _ => r = .int .i64 13) w')) := fun w' hb => by
   have Y := (E.out.below hb).t;rw [hT] at Y;exact cey w' _ _ P (E.out.below hb).p (by rw [hT]; exact Y)
  clear HR E hT;go_enter Tryz.func28, Tryz.ntmps28;go_wp2_with fail;refine zR (HC.out _ (((Below.refl _ _).alloc (Nat.le_refl _) _).alloc (by simp) _)) fun w1 hb1 => ?_;have A : Below w.heap.size w w1 := (((Below.refl _ _).alloc (Nat.le_refl _) _).alloc (by simp) _).trans (hb1.mono (by simp; omega));go_wp2_with fail;go_ret;exact ⟨_, rfl, congrArg (Value.int .i64) M.out.symm, A⟩
 ·have HM := hid (E.out.m hT)
  have HC : Hid (∀ w', Below w.heap.size w w' -> Good w' -> Calls Tryz.prog 61 #[.agg #[.slice pp P.length cp, .slice pt T.length ct]] w' (Ret (fun r _ => r = .int .i64 0) w')) := fun w' hb hg' =>
   ca0 w' _ _ P T KK (E.out.below hb).p (E.out.below hb).t HM.out hg'
  have hP : Hid (∀ F ∈ b :: S, ∀ p c, ∀ w', Below w.heap.size w w' -> Good w' -> RdS w' (.slice p F.length c) F -> Calls Tryz.prog 13 #[.agg #[.slice pp P.length cp, .slice pt T.length ct], .slice p F.length c] w' (Ret (fun r _ => r = .int .i64 (errF P.length F)) w')) := fun F hF p c w' hb hg' hr =>
   fay w' _ _ _ P T KK F (E.out.below hb).p (E.out.below hb).t HM.out hr (E.out.ok F hF).1 (E.out.ok F hF).2 hg'
  have ze : Hid (∀ w', Below w.heap.size w w' -> Good w' -> Calls Tryz.prog 13 #[.agg #[.slice pp P.length cp, .slice pt T.length ct], .slice pb b.length cb] w' (Ret (fun r _ => r = .int .i64 (errF P.length b)) w')) := fun w' hb hg' => hP.out b (by simp) pb cb w' hb hg' (E.out.below hb).base
  go_enter Tryz.func28, Tryz.ntmps28;go_wp2_with fail;obtain ⟨W, hW⟩ := zex ((w.alloc (.cells #[.slice pp P.length cp, .slice pt T.length ct] 41)).alloc (.cells #[.slice pb b.length cb, .slice pu U.length cu, .slice ps S.length cs] 45));have hB : Below w.heap.size w W := by rw [hW]; exact zal2 _ _ _
  have b2 : BoxN W (w.heap.size + 1) 45 [.slice pb b.length cb, .slice pu U.length cu, .slice ps S.length cs] := by rw [hW]; exact BoxN.new _ _ _ _ (by simp)
  have b1 : BoxN W w.heap.size 41 [.slice pp P.length cp, .slice pt T.length ct] := by
   rw [hW];have Y := (BoxN.new w #[.slice pp P.length cp, .slice pt T.length ct] 41 _ rfl);exact Y.below (zal _ _) Y.lt
  rw [<- hW];clear hW;refine zR (HC.out W hB (hg.below hB)) fun w1 hb1 => ?_;have A := zbt hB hb1;replace b1 := b1.bl hb1;replace b2 := b2.bl hb1;obtain ⟨m0, m1⟩ := zk2 b1;obtain ⟨d0, d1, v⟩ := zk3 b2;clear hb1 hB;go_wp2_with fail;refine zR (ze.out w1 A (hg.below A)) fun w2 hb2 => ?_;have h4 := zbt A hb2;replace b1 := b1.bl hb2;replace b2 := b2.bl hb2;clear m0 m1 d0 d1 v hb2 A;obtain ⟨m0, m1⟩ := zk2 b1;obtain ⟨d0, d1, v⟩ := zk3 b2;by_cases hE : errF P.length b = 0
  ·have B : Hid (O = _) := HR.out.trans (dEr hT hE)
   have zs := hid hE;rw [hE];clear HR hE;by_cases hU0 : U.length = 0
   ·have M : Hid (O = 13) := by unfold Hid; rw [B.out, if_pos hU0]
    have hz : ((U.length : Int) == 0) = true := by rw [beq_iff_eq]; omega
    clear B;go_wp2_with fail;go_ret;exact ⟨_, rfl, congrArg (Value.int .i64) M.out.symm, h4⟩
   have hz : ((U.length : Int) == 0) = false := by rw [beq_eq_false_iff_ne]; omega
   by_cases hU6 : 60 < U.length
   ·have M : Hid (O = 4) := by unfold Hid; rw [B.out, if_neg hU0, if_pos hU6]
    have zH : decide ((60 : Int) < (U.length : Int)) = true := decide_eq_true (by omega);clear B;go_wp2_with fail;go_ret;exact ⟨_, rfl, congrArg (Value.int .i64) M.out.symm, h4⟩
   have zH : decide ((60 : Int) < (U.length : Int)) = false := decide_eq_false (by omega);have l : Hid (O = if fEE (uBd U) U.length ≠ 0 then fEE (uBd U) U.length else if S.length + 1 ≠ U.length then 5 else fEE (sBd P.length b S) S.length) := by unfold Hid; rw [B.out, if_neg hU0, if_neg hU6]
   clear B;go_wp2_with fail;have zq := hid z0;clear z0;go_loopw [7] (fun t7 wr => ∃ i : Nat, t7 = .int .i64 i /\ i <= U.length /\ Hid (∀ j, j < i -> uBd U j = 0) /\ Below w2.heap.size w2 wr) (fun t7 _ => U.length - (RowKit.intOf t7).toNat)
   case atStart => exact ⟨0, rfl, Nat.zero_le _, fun j h => absurd h (by omega), Below.refl _ _⟩
   case round =>
    obtain ⟨i, rfl, hi, t, I⟩ := hrel;have h8 := zbt h4 I;have c1 := b1.bl I;have c2 := b2.bl I;have e1 := c2.cell 1 rfl;have e2 := c2.cell 2 rfl;clear m0 m1 d0 d1 v;rcases Nat.lt_or_ge i U.length with Z | Z
    ·obtain ⟨bu, ou, zT, hJ, hA, zU, X⟩ := E.out.unit.cells (by omega)
     injection hJ with hv1 hv2 hv3
     clear hv2;subst hv1 hv3;have x0 := zcq h8 hA (X i Z);have hM : Hid (∀ j (hj : j < U.length), w.cell? ⟨bu, ou + j, none⟩ = some (.string U[j])) := X;have HI : Hid (∀ w', Calls Tryz.prog 12 #[.string U[i]] w' (Ret (fun r _ => r = .bool (nameQ U[i])) w')) := fun w' => lIN _ (zq.out _ (List.getElem_mem Z)) _;have H8 : Hid (nameQ U[i] = false -> O = 8) := fun h => by
      have Y := uBn Z h;have J : fEE (uBd U) U.length = 8 := by rw [fEa Z (by rw [Y]; decide) t.out, Y]
      rw [l.out, if_pos (by rw [J]; decide), J]
     have H9 : Hid (nameQ U[i] = true -> hasS (U.take i) U[i] = true -> O = 9) := fun h h' => by
      have Y := uBt Z h h';have J : fEE (uBd U) U.length = 9 := by rw [fEa Z (by rw [Y]; decide) t.out, Y]
      rw [l.out, if_pos (by rw [J]; decide), J]
     have H0 : Hid (nameQ U[i] = true -> hasS (U.take i) U[i] = false -> ∀ j, j < i + 1 -> uBd U j = 0) := fun h h' j hj => by
      rcases (by omega : j < i \/ j = i) with Y | rfl
      ·exact t.out j Y
      ·exact uBo Z h h'
     have hv : Hid (∀ k (hk : k < i), hasS (U.take (k + 1)) U[i] = (hasS (U.take k) U[i] || decide (U[k]'(by omega) = U[i]))) := fun k hk => by
      rw [hF0 (by omega : k < U.length)]
     have hq : Hid (∀ k, k <= i -> hasS (U.take k) U[i] = true -> hasS (U.take i) U[i] = true) := fun k hk h => hSt hk h;have zy : (i : Int) < (U.length : Int) := by omega
     have zW : (i : Int) <= (cu : Int) := by omega
     generalize nameQ U[i] = nb at *;clear X;go_wp2_with fail;refine zR (HI.out wr) fun w3 hb3 => ?_;have hx := zbt h8 hb3;have z5 := zbt I hb3;have c3 := c2.bl hb3;have l3 := c3.lt;clear HI x0;cases nb
     ·have M := hid (H8.out rfl)
      clear H8 H9 H0 hv hq;go_wp2_with fail;go_ret;exact ⟨_, rfl, congrArg (Value.int .i64) M.out.symm, hx⟩
     ·have hL := hid (H9.out rfl)
      have hK := hid (H0.out rfl);clear H8 H9 H0 e1 e2 c2;go_wp2_with fail;go_loopw [8] (fun t8 wq => ∃ k : Nat, t8 = .int .i64 k /\ k <= i /\ Hid (hasS (U.take k) U[i] = false) /\ Below w3.heap.size w3 wq) (fun t8 _ => i - (RowKit.intOf t8).toNat)
      case atStart => exact ⟨0, rfl, Nat.zero_le _, rfl, Below.refl _ _⟩
      case round =>
       obtain ⟨k, rfl, hk, HN, K⟩ := hrel;have L := zbt hx K;have ck := c3.below K l3;have f1 := ck.cell 1 rfl;rcases Nat.lt_or_ge k i with hG | hG
       ·have zB : (k : Int) < (i : Int) := by omega
        have he : k < U.length := by omega
        have zY : (k : Int) < (U.length : Int) := by omega
        have y0 := zcq L hA (hM.out i Z);have y1 := zcq L hA (hM.out k he);have hu := hid (hv.out k hG);have zh := hid (hq.out (k + 1) hG);have hf := bse (U[k]'he) U[i];obtain ⟨bA, hy⟩ : ∃ b, b = decide (U[k]'he = U[i]) := ⟨_, rfl⟩;have hm := hid hy;rw [<- hy] at hu;clear hy;have hw := hid hf;clear hf;obtain ⟨ui, zc⟩ : ∃ x, x = U[i] := ⟨_, rfl⟩;obtain ⟨uk, zd⟩ : ∃ x, x = U[k]'he := ⟨_, rfl⟩;rw [<- zc] at y0 hm hw;rw [<- zd] at y1 hm hw;clear zc zd;have zw : Below w3.heap.size w3 wr.drew := K.trans ((bdN wr 1).mono K.size);go_upto_region 19 with fail;go_cut [62] (fun s wx => s = .bool bA /\ Below w3.heap.size w3 wx)
        case first =>
             have hf := hw.out;go_region;all_goals
              go_wp2_with fail;go_meet;refine ⟨?_, zw⟩;rw [hm.out];rcases hf with ⟨rfl, _⟩ | ⟨h5, h6, h7⟩
              ·simp
              ·simp [h5, h7]
        case rest =>
        obtain ⟨rfl, z8⟩ := hcut;cases bA
        ·have zi : Hid (hasS (U.take (k + 1)) U[i] = false) := by unfold Hid; rw [hu.out, HN.out]; rfl
         go_wp2_with fail;go_roundw
         case rel => exact ⟨k + 1, by go_num, by omega, zi, z8⟩
         case measure =>
          show i - ((k : Int) + 1).toNat < i - (k : Int).toNat;omega
        ·have M := hid (hL.out (zh.out (by rw [hu.out, Bool.or_true])))
         go_wp2_with fail;go_ret;exact ⟨_, rfl, congrArg (Value.int .i64) M.out.symm, (zbt hx z8)⟩
       ·obtain rfl : k = i := by omega
        have M := hid (hK.out HN.out);have z4 := zbt z5 K;clear hK hL hv hq;go_wp2_with fail;go_roundw
        case rel => exact ⟨k + 1, by go_num, Z, M, z4⟩
        case measure =>
             show U.length - ((k : Int) + 1).toNat < U.length - (k : Int).toNat;omega
    ·obtain rfl : i = U.length := by omega
     have h0 : fEE (uBd U) U.length = 0 := fEn t.out;have g : Hid (O = if S.length + 1 ≠ U.length then 5 else fEE (sBd P.length b S) S.length) := by unfold Hid; rw [l.out, if_neg (by rw [h0]; simp)]
     clear l h0 t;obtain ⟨wa, zG⟩ : ∃ x, x = wr := ⟨_, rfl⟩;subst zG;by_cases hSU : S.length + 1 = U.length
     ·have ht : Hid (O = fEE (sBd P.length b S) S.length) := by unfold Hid; rw [g.out, if_neg (by omega)]
      have zC : ((S.length : Int) != (U.length : Int) - 1) = false := by rw [bne_eq_false_iff_eq]; omega
      clear g;have e0 := c2.cell 0 rfl;go_wp2_with fail;have zb : RdS w (.slice pb b.length cb) (fldT b S 0) := E.out.base;have hU : Hid (RdS w (.slice pb (fldT b S 0).length cb) (fldT b S 0)) := zb;have zN : (fldT b S 0).length = b.length := rfl;have c0 := c1;have zO := c2;have l1 := c1.lt;have l2 := c2.lt;go_loopw [9, 10] (fun t9 t10 wr => ∃ (i : Nat) (pf : Option Addr) (cf : Nat), t10 = .int .i64 i /\ i <= S.length /\ t9 = .slice pf (fldT b S i).length cf /\ Hid (RdS w (.slice pf (fldT b S i).length cf) (fldT b S i)) /\ Hid (∀ j, j < i -> sBd P.length b S j = 0) /\ Below wa.heap.size wa wr) (fun _ t10 _ => S.length - (RowKit.intOf t10).toNat)
      case atStart => exact ⟨0, _, _, rfl, Nat.zero_le _, rfl, hU, fun j h => absurd h (by omega), Below.refl _ _⟩
      case round =>
       obtain ⟨i, pf, cf, rfl, hi, rfl, zo, t, I⟩ := hrel;have N := zbt h8 I;replace c1 := c1.below I l1;replace c2 := c2.below I l2;clear e1 e2;obtain ⟨m0, m1⟩ := zk2 c1;have v := c2.cell 2 rfl;have zz := c1.lt;have zA := c2.lt;rcases Nat.lt_or_ge i S.length with Z | Z
       ·obtain ⟨d, os, zS, hJ, h9, X⟩ := E.out.surf.cells (by omega)
        injection hJ with hv1 hv2 hv3
        clear hv2;subst hv1 hv3;obtain ⟨pg, a, D, n⟩ := X i Z;have x0 := zcq N h9 D;have C : S[i] ∈ b :: S := List.mem_cons_of_mem _ (List.getElem_mem Z);have hS : Hid (∀ w', Below w.heap.size w w' -> Good w' -> Calls Tryz.prog 13 #[.agg #[.slice pp P.length cp, .slice pt T.length ct], .slice pg S[i].length a] w' (Ret (fun r _ => r = .int .i64 (errF P.length S[i])) w')) := fun w' hb hg' => hP.out S[i] C pg a w' hb hg' (RdC.below n hb);have zy : (i : Int) < (S.length : Int) := by omega
        have H : Good wr.drew := (hg.below N).drewN 1;have z1 : Below w.heap.size w wr.drew := N.trans ((bdN wr 1).mono N.size);have z7 : d < wr.heap.size := Nat.lt_of_lt_of_le h9 N.size;have hN : Hid (w.cell? ⟨d, os + i, none⟩ = some (.slice pg S[i].length a)) := D;clear X D;go_upto_region 27 with fail;go_region_held3 (fun w' => w'.cell? ⟨w.heap.size, 0, none⟩ = some (.slice pp P.length cp) /\ w'.cell? ⟨w.heap.size, 1, none⟩ = some (.slice pt T.length ct) /\ w'.cell? ⟨w.heap.size + 1, 2, none⟩ = some (.slice (some ⟨d, os, none⟩) S.length cs) /\ w'.cell? ⟨d, os + i, none⟩ = some (.slice pg S[i].length a))
         (first | exact ⟨m0, m1, v, x0⟩ | exact ⟨p_1_0, p_1_1, p_1_2, p_1_3⟩)
         (first
         | (go_at_call 13; refine (hS.out _ z1 H).mono ?_; rintro e hl ⟨_, rfl, rfl, G⟩
            have p_1_0 := zct G m0;have p_1_1 := zct G m1;have p_1_2 := zct G v;have p_1_3 := zct G x0;have zK : wr.heap.size <= hl.heap.size := G.size;have zJ := H.below G))
        have pB : Below wr.heap.size wr hl := zbt (bdN wr 1) G;have z6 := zbt I pB;have hV := N.trans (pB.mono N.size);replace c2 := c2.below pB zA;replace c1 := c1.below pB zz;clear m0 m1 v x0 H z1 z7 G zK zJ p_1_0 p_1_1 p_1_2 p_1_3 hS;by_cases hE : errF P.length S[i] = 0
        ·have hX : errF P.length (fldT b S i) = 0 := by
          rcases Nat.eq_zero_or_pos i with h0 | h0
          ·subst h0; exact zs.out
          ·have Y := t.out (i - 1) (by omega)
           unfold sBd at Y;rw [show i - 1 + 1 = i by omega] at Y;by_cases J : errF P.length (fldT b S i) = 0
           ·exact J
           ·rw [if_pos J] at Y; exact absurd Y J
         obtain ⟨R, hR, y, hZ⟩ := E.out.num (fldT b S i) (fe0 b S hi) hX;obtain ⟨Q, hQ, z, hY⟩ := E.out.num S[i] C hE;have hH : sBd P.length b S i = if belowB R Q then 0 else 6 := by
          unfold sBd;rw [fTn b S Z, if_neg (by rw [hE]; decide), hR, hQ, nTm, nTm]
         have H6 : Hid (∀ k (Y : k < R.length) (J : k < Q.length), Q[k] < R[k] -> O = 6) := fun k Y J h => by
          have h0 : belowB R Q = false := by
                   rw [<- Bool.not_eq_true, bBi R Q (by rw [y, z])];exact fun hh => absurd (hh k Y J) (Rat.not_le.2 h)
          have Y : sBd P.length b S i = 6 := by rw [hH, h0]; rfl
          rw [ht.out, fEa Z (by rw [Y]; decide) t.out, Y]
         have H0 : Hid ((∀ k (Y : k < R.length) (J : k < Q.length), R[k] <= Q[k]) -> ∀ j, j < i + 1 -> sBd P.length b S j = 0) := fun h j hj => by
          rcases (by omega : j < i \/ j = i) with Y | rfl
          ·exact t.out j Y
          ·rw [hH, (bBi R Q (by rw [y, z])).2 h]; rfl
         have q1 : RdQ w (.slice pf P.length cf) R := by
          have h5 := zo.out;rw [hR, List.length_map, y] at h5;exact rSt h5
         have q2 : RdQ w (.slice pg P.length a) Q := by
          have h5 := n;rw [hQ, List.length_map, z] at h5;exact rSt h5
         have hD : S[i].length = P.length := by rw [hQ, List.length_map, z]
         have z9 : (fldT b S i).length = P.length := by rw [hR, List.length_map, y]
         have zk : Hid (RdS w (.slice pg (fldT b S (i + 1)).length a) (fldT b S (i + 1))) := by unfold Hid; rw [fTn b S Z]; exact n
         have za : (fldT b S (i + 1)).length = P.length := by rw [fTn b S Z, hD]
         have zj := hid za;have zV : (errF P.length S[i] != 0) = false := by rw [bne_eq_false_iff_eq]; exact hE
         rw [hE] at *;rw [z9];rw [hD] at hN;have zl := hid q1;have zm := hid q2;have f := hid y;have hs := hid z;have zp := hid hZ;have zn := hid hY;have zf := hid HM.out.kpos;have zg := hid HM.out.klim2;clear hH hZ hY hR hQ y z n hX hE C q1 q2 hD z9 za;have zI := c2.lt;have zD := HM.out.plen;go_wp2_with fail;go_loopw [12] (fun t12 wq => ∃ k : Nat, t12 = .int .i64 k /\ k <= P.length /\ Hid (∀ j (Y : j < R.length) (J : j < Q.length), j < k -> R[j] <= Q[j]) /\ Below hl.heap.size hl wq) (fun t12 _ => P.length - (RowKit.intOf t12).toNat)
         case atStart => exact ⟨0, rfl, Nat.zero_le _, fun j _ _ h => absurd h (by omega), Below.refl _ _⟩
         case round =>
          obtain ⟨k, rfl, zX, hp, K⟩ := hrel;have L := zbt hV K;have ck := c2.below K zI;have v := ck.cell 2 rfl;have x0 := zcq L h9 hN.out;rcases Nat.lt_or_ge k P.length with q | q
          ·obtain ⟨bf, of, zP, ef, z2, hC⟩ := zl.out.cells (by rw [f.out]; omega)
           obtain ⟨bg, og, zQ, eg, z3, D⟩ := zm.out.cells (by rw [hs.out]; omega);rw [f.out] at ef hC;rw [hs.out] at eg D;injection ef with e1 e2 e3
           clear e2;subst e1 e3;injection eg with e1 e2 e3
           clear e2;subst e1 e3;have xf := zcq L z2 (hC k q);have xg := zcq L z3 (D k q);have hd : k < R.length := by rw [f.out]; exact q
           have ha : k < Q.length := by rw [hs.out]; exact q
           have s1 : Sz KK (hI R k) := by rw [hh0 R k hd]; exact zp.out _ (List.getElem_mem hd)
           have s2 : Sz KK (hI Q k) := by rw [hh0 Q k ha]; exact zn.out _ (List.getElem_mem ha)
           have hO := hid fun w hg => rCa (hI R k) (hI Q k) KK zf.out (Nat.le_trans zg.out (by omega)) s1 s2 w hg
           have ho : Hid (0 < cmpQ (hI R k) (hI Q k) -> O = 6) := fun hc => by
                rw [cQp, hh0 R k hd, hh0 Q k ha] at hc;exact H6.out k hd ha hc
           have hn : Hid (¬ 0 < cmpQ (hI R k) (hI Q k) -> ∀ j (Y : j < R.length) (J : j < Q.length), j < k + 1 -> R[j] <= Q[j]) := fun hc j Y J hj => by
                rcases (by omega : j < k \/ j = k) with h3 | rfl
                ·exact hp.out j Y J h3
                ·rw [cQp, hh0 R j Y, hh0 Q j J] at hc
                 exact Rat.not_lt.1 hc
           generalize cmpQ (hI R (k : Int)) (hI Q (k : Int)) = cz at *;generalize hI R (k : Int) = rk at *;generalize hI Q (k : Int) = qk at *;have zB : (k : Int) < (P.length : Int) := by omega
           have H : Good wr.drew := (hg.below L).drewN 1;have l1 : w.heap.size + 1 < wr.heap.size := ck.lt;have l2 : d < wr.heap.size := Nat.lt_of_lt_of_le h9 L.size;have l3 : bf < wr.heap.size := Nat.lt_of_lt_of_le z2 L.size;have l4 : bg < wr.heap.size := Nat.lt_of_lt_of_le z3 L.size;clear s1 s2 hC D H6;by_cases hc : 0 < cz
           ·have M := hid (ho.out hc)
            clear ho hn;go_upto_region 33 with fail;go_region_held3 (fun w' => w'.cell? ⟨w.heap.size + 1, 2, none⟩ = some (.slice (some ⟨d, os, none⟩) S.length cs) /\ w'.cell? ⟨d, os + i, none⟩ = some (.slice (some ⟨bg, og, none⟩) P.length a) /\ w'.cell? ⟨bf, of + k, none⟩ = some (.string (RS rk)) /\ w'.cell? ⟨bg, og + k, none⟩ = some (.string (RS qk)))
             (first | exact ⟨v, x0, xf, xg⟩ | exact ⟨q_1_0, q_1_1, q_1_2, q_1_3⟩)
             (first
             | (go_at_call 62; refine (hO.out _ H).mono ?_; rintro e m ⟨_, rfl, rfl, V⟩
                have q_1_0 := zct V v;have q_1_1 := zct V x0;have q_1_2 := zct V xf;have q_1_3 := zct V xg;have zM : wr.heap.size <= m.heap.size := V.size;have zL := H.below V))
            have qB : Below wr.heap.size wr m := zbt (bdN wr 1) V;have zr := zbt L qB;go_wp2_with fail;go_ret;exact ⟨_, rfl, congrArg (Value.int .i64) M.out.symm, zr⟩
           ·have M := hid (hn.out hc)
            clear ho hn;go_upto_region 33 with fail;go_region_held3 (fun w' => w'.cell? ⟨w.heap.size + 1, 2, none⟩ = some (.slice (some ⟨d, os, none⟩) S.length cs) /\ w'.cell? ⟨d, os + i, none⟩ = some (.slice (some ⟨bg, og, none⟩) P.length a) /\ w'.cell? ⟨bf, of + k, none⟩ = some (.string (RS rk)) /\ w'.cell? ⟨bg, og + k, none⟩ = some (.string (RS qk)))
             (first | exact ⟨v, x0, xf, xg⟩ | exact ⟨q_1_0, q_1_1, q_1_2, q_1_3⟩)
             (first
             | (go_at_call 62; refine (hO.out _ H).mono ?_; rintro e m ⟨_, rfl, rfl, V⟩
                have q_1_0 := zct V v;have q_1_1 := zct V x0;have q_1_2 := zct V xf;have q_1_3 := zct V xg;have zM : wr.heap.size <= m.heap.size := V.size;have zL := H.below V))
            have qB : Below wr.heap.size wr m := zbt (bdN wr 1) V;have zu := zbt K qB;go_wp2_with fail;go_roundw
            case rel => exact ⟨k + 1, by go_num, by omega, M, zu⟩
            case measure =>
             show P.length - ((k : Int) + 1).toNat < P.length - (k : Int).toNat;omega
          ·obtain rfl : k = P.length := by omega
           have zx : ¬ (P.length : Int) < (P.length : Int) := by omega
           have M := hid (H0.out fun j Y J => hp.out j Y J (by rw [<- f.out]; exact Y));have zv := zbt z6 K;clear H6 H0 hp;go_wp2_with fail;go_roundw
           case rel => exact ⟨i + 1, pg, a, by go_num, Z, by rw [zj.out], zk, M, zv⟩
           case measure =>
                show S.length - ((i : Int) + 1).toNat < S.length - (i : Int).toNat;omega
        ·have M : Hid (O = errF P.length S[i]) := by
          have Y : sBd P.length b S i = errF P.length S[i] := by unfold sBd; rw [fTn b S Z, if_pos hE]
          unfold Hid;rw [ht.out, fEa Z (by rw [Y]; exact hE) t.out, Y]
         have zt : (errF P.length S[i] != 0) = true := by rw [bne_iff_ne]; exact hE
         generalize errF P.length S[i] = ez at *;clear n C;go_wp2_with fail;go_ret;exact ⟨_, rfl, congrArg (Value.int .i64) M.out.symm, hV⟩
       ·obtain rfl : i = S.length := by omega
        have M : Hid (O = 0) := by unfold Hid; rw [ht.out]; exact fEn t.out
        have zx : ¬ (S.length : Int) < (S.length : Int) := by omega
        go_wp2_with fail;go_ret;exact ⟨_, rfl, congrArg (Value.int .i64) M.out.symm, N⟩
     ·have M : Hid (O = 5) := by unfold Hid; rw [g.out, if_pos (by omega)]
      have zC : ((S.length : Int) != (U.length : Int) - 1) = true := by rw [bne_iff_ne]; omega
      clear g;go_wp2_with fail;go_ret;exact ⟨_, rfl, congrArg (Value.int .i64) M.out.symm, h8⟩
  ·have M : Hid (O = errF P.length b) := HR.out.trans (dEb hT hE)
   have zt : (errF P.length b != 0) = true := by rw [bne_iff_ne]; exact hE
   clear HR;generalize errF P.length b = ez at *;go_wp2_with fail;go_ret;exact ⟨_, rfl, congrArg (Value.int .i64) M.out.symm, h4⟩
end Go.Proofs.YtmcbeajdloaliaaGreatDoor
