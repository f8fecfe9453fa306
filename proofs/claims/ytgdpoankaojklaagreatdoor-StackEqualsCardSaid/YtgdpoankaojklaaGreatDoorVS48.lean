import Derived.Test.YtgdpoankaojklaaGreatDoorVS47
/- klippelaw28.known. -/
set_option maxHeartbeats 16000000
set_option maxRecDepth 100000
namespace Go.Proofs.YtgdpoankaojklaaGreatDoor
open Go.RowKit Go.Lib Go.Shelf
theorem rdF_two {w : World} {b cap : Nat} {v1 v2 : Value} {F G : List Rat} (h1 : w.cell? ⟨b, 0, none⟩ = some v1) (h2 : w.cell? ⟨b, 1, none⟩ = some v2) (r1 : RdQ w v1 F) (r2 : RdQ w v2 G) (hc : 2 <= cap) (hm : cap <= maxLen) : RdF w (.slice (some ⟨b, 0, none⟩) 2 cap) [F, G] := by
 refine ⟨[v1, v2], ⟨_, cap, rfl, hc, hm, rfl, fun _ => ⟨b, 0, rfl, fun i x hx => ?_⟩⟩, fun i u H a c => ?_⟩
 ·match i, hx with
  | 0, hx => cases hx; exact h1
  | 1, hx => cases hx; exact h2
 ·match i, a, c with
  | 0, a, c => cases a; cases c; exact r1
  | 1, a, c => cases a; cases c; exact r2
theorem rdF_three {w : World} {b cap : Nat} {v1 v2 v3 : Value} {F G K : List Rat} (h1 : w.cell? ⟨b, 0, none⟩ = some v1) (h2 : w.cell? ⟨b, 1, none⟩ = some v2) (h3 : w.cell? ⟨b, 2, none⟩ = some v3) (r1 : RdQ w v1 F) (r2 : RdQ w v2 G) (r3 : RdQ w v3 K) (hc : 3 <= cap) (hm : cap <= maxLen) : RdF w (.slice (some ⟨b, 0, none⟩) 3 cap) [F, G, K] := by
 refine ⟨[v1, v2, v3], ⟨_, cap, rfl, hc, hm, rfl, fun _ => ⟨b, 0, rfl, fun i x hx => ?_⟩⟩, fun i u H a c => ?_⟩
 ·match i, hx with
  | 0, hx => cases hx; exact h1
  | 1, hx => cases hx; exact h2
  | 2, hx => cases hx; exact h3
 ·match i, a, c with
  | 0, a, c => cases a; cases c; exact r1
  | 1, a, c => cases a; cases c; exact r2
  | 2, a, c => cases a; cases c; exact r3
theorem RdTx.set_other {w : World} {v : Value} {S : List (List ByteArray)} (h : RdTx w v S) {a : Addr} {x : Value} (hc : w.cell? a = some (.slice none 0 0)) (hS : ∀ F ∈ S, F ≠ []) : RdTx (w.setCell a x) v S := by
 obtain ⟨us, h1, h2⟩ := h;have hl : us.length = S.length := by obtain ⟨_, _, _, _, _, h3, _⟩ := h1; omega
 refine ⟨us, RdC.set_other h1 hc (fun y hy e => ?_), fun i u F a' b' => RdC.set_other (h2 i u F a' b') hc (fun y hy e => ?_)⟩
 ·obtain ⟨i, hi, rfl⟩ := List.getElem_of_mem hy
  have h3 := h2 i us[i] S[i] (List.getElem?_eq_getElem hi) (List.getElem?_eq_getElem (by omega));obtain ⟨p, c, e1, -, -, -⟩ := h3.open;rw [e1] at e;injection e with _ e2 _
  exact hS _ (List.getElem_mem (by omega)) (List.length_eq_zero_iff.1 e2)
 ·rw [e] at hy
  obtain ⟨_, _, hq⟩ := List.mem_map.1 hy;cases hq
theorem DepR.set_other {w : World} {v1 v2 v3 : Value} {b U : List ByteArray} {S : List (List ByteArray)} (h : DepR w v1 v2 v3 b U S) {a : Addr} {x : Value} (hc : w.cell? a = some (.slice none 0 0)) (hS : ∀ F ∈ S, F ≠ []) : DepR (w.setCell a x) v1 v2 v3 b U S := by
 have hs : ∀ l : List ByteArray, ∀ y ∈ l.map (fun x => Value.string x), y ≠ Value.slice none 0 0 := fun l y hy e => by
  rw [e] at hy;obtain ⟨_, _, hq⟩ := List.mem_map.1 hy;cases hq
 exact ⟨RdC.set_other h.base hc (hs b), RdC.set_other h.unit hc (hs U), h.surf.set_other hc hS⟩
theorem DepR.set3 {w : World} {v1 v2 v3 x0 x1 x2 : Value} {b U : List ByteArray} {S : List (List ByteArray)} {g t : Nat} (h : DepR w v1 v2 v3 b U S) (hb : BoxN w g t [.slice none 0 0, .slice none 0 0, .slice none 0 0]) (hS : ∀ F ∈ S, F ≠ []) : DepR (((w.setCell ⟨g, 0, none⟩ x0).setCell ⟨g, 1, none⟩ x1).setCell ⟨g, 2, none⟩ x2) v1 v2 v3 b U S :=
 ((h.set_other (hb.cell 0 rfl) hS).set_other ((hb.set 0 x0).cell 1 rfl) hS).set_other (((hb.set 0 x0).set 1 x1).cell 2 rfl) hS
theorem DepR.alloc {w : World} {v1 v2 v3 : Value} {b U : List ByteArray} {S : List (List ByteArray)} (h : DepR w v1 v2 v3 b U S) (o : Obj) : DepR (w.alloc o) v1 v2 v3 b U S := h.below ((Below.refl _ _).alloc (Nat.le_refl _) o)
theorem flat4_any (w : World) (q : Rat) : Calls Tryz.prog 52 #[.string (RS q)] w (Ret (fun r w' => ∃ p c, r = .slice p 4 c /\ RdQ w' (.slice p 4 c) [q, q, q, q]) w) :=
 (flat_any w q).mono fun e w' ⟨v, he, hv, hb⟩ => by
   obtain ⟨p, c, e1, -, -, -⟩ := hv.open;rw [show ([q, q, q, q] : List Rat).length = 4 from rfl] at e1;subst e1;exact ⟨_, he, ⟨p, c, rfl, hv⟩, hb⟩
theorem k28_nn : ∀ F ∈ (([[2, 2, 2, 2], [3, 3, 3, 3], [6, 6, 6, 6]] : List (List Rat)).map fun F => F.map RS), F ≠ [] := by
 intro F hF e;subst e;simp at hF
theorem known28_any (w : World) (hg : Good w) :
 Calls Tryz.prog 13 #[] w (Ret (fun r _ => r = .bool true) w) := by
 have HMK := hid fun w hg => make12_any w 0 0 0 false 0 (by decide) (by omega) (by omega) (by omega) (by omega) hg
 rw [k28_P, k28_T] at HMK;have HF0 : Hid (∀ w, _) := fun w => flat_any w 0;have HF1 : Hid (∀ w, _) := fun w => flat4_any w 1;have HG0 : Hid (∀ w, _) := fun w => flat4_any w 0;have HG2 : Hid (∀ w, _) := fun w => flat4_any w 2;have HF2 : Hid (∀ w, _) := fun w => flat_any w 2;have HF5 : Hid (∀ w, _) := fun w => flat_any w 5;have HF3 : Hid (∀ w, _) := fun w => flat4_any w 3;have HF6 : Hid (∀ w, _) := fun w => flat4_any w 6;rw [k28_rs.1] at HF0 HG0;rw [k28_rs.2.1] at HF1;rw [k28_rs.2.2.1] at HF2 HG2;rw [k28_rs.2.2.2.1] at HF3;rw [k28_rs.2.2.2.2.1] at HF5;rw [k28_rs.2.2.2.2.2.1] at HF6;go_enter Tryz.func13, Tryz.ntmps13;go_wp2_with fail;refine (HMK.out w hg).mono ?_;rintro e w1 ⟨_, rfl, ⟨vp, vt, rfl, hp, ht⟩, hb1⟩;have HP := hid hp;have HT := hid ht;obtain ⟨pp, cp, rfl, -, -, -⟩ := hp.open;obtain ⟨pt, ct, rfl, -, -, -⟩ := ht.open;rw [show (strP pP28).length = 4 from rfl] at *;rw [show tT28.length = 2 from rfl] at *;clear hp ht HMK;go_wp2_with fail;obtain ⟨W1, hW1⟩ : ∃ W1, W1 = w1.alloc (.cells #[.slice pp 4 cp, .slice pt 2 ct] 37) := ⟨_, rfl⟩;have bm : BoxN W1 w1.heap.size 37 [.slice pp 4 cp, .slice pt 2 ct] := by rw [hW1]; exact BoxN.new _ #[.slice pp 4 cp, .slice pt 2 ct] _ _ rfl
 have hbW1 : Below w1.heap.size w1 W1 := by rw [hW1]; exact zal _ _
 rw [<- hW1];clear hW1;have q1 := hb1.trans (hbW1.mono hb1.size);refine (HF0.out W1).mono ?_;rintro e w2 ⟨_, rfl, hr0, hb2⟩;have q2 := q1.trans (hb2.mono q1.size);have r12 := hbW1.trans (hb2.mono hbW1.size);replace bm := bm.below hb2 bm.lt;obtain ⟨p0, c0, rfl, -, -, -⟩ := hr0.open;rw [show ([0, 0, 0, 0] : List Rat).length = 4 from rfl] at *;go_wp2_with fail;obtain ⟨W2, hW2⟩ : ∃ W2, W2 = w2.alloc (.cells #[.string ⟨#[97]⟩, .string ⟨#[98]⟩, .string ⟨#[99]⟩] 9) := ⟨_, rfl⟩;have hru : RdS W2 (.slice (some ⟨w2.heap.size, 0, none⟩) 3 3) uU28 := by rw [hW2]; exact RdS.fresh w2 uU28 _ #[.string ⟨#[97]⟩, .string ⟨#[98]⟩, .string ⟨#[99]⟩] rfl (by decide) 3 rfl _ rfl
 have hbW2 : Below w2.heap.size w2 W2 := by rw [hW2]; exact zal _ _
 rw [<- hW2];clear hW2;replace hr0 := RdC.below hr0 hbW2;have q2' := q2.trans (hbW2.mono q2.size);have r12' := r12.trans (hbW2.mono r12.size);replace bm := bm.below hbW2 bm.lt;refine (HF2.out W2).mono ?_;rintro e w3 ⟨_, rfl, hr2, hb3⟩;have q3 := q2'.trans (hb3.mono q2'.size);have r13 := r12'.trans (hb3.mono r12'.size);replace bm := bm.below hb3 bm.lt;replace hr0 := RdC.below hr0 hb3;replace hru := RdC.below hru hb3;obtain ⟨p2, c2, rfl, -, -, -⟩ := hr2.open;rw [show ([2, 2, 2, 2] : List Rat).length = 4 from rfl] at *;clear hb2 hb3 hbW2 hbW1 q1 q2 r12 q2' r12';go_wp2_with fail;refine (HF5.out w3).mono ?_;rintro e w4 ⟨_, rfl, hr5, hb4⟩;have q4 := q3.trans (hb4.mono q3.size);have r14 := r13.trans (hb4.mono r13.size);replace bm := bm.below hb4 bm.lt;replace hr0 := RdC.below hr0 hb4;replace hru := RdC.below hru hb4;replace hr2 := RdC.below hr2 hb4;obtain ⟨p5, c5, rfl, -, -, -⟩ := hr5.open;rw [show ([5, 5, 5, 5] : List Rat).length = 4 from rfl] at *;obtain ⟨z2, hz2⟩ : ∃ z2, z2 = w2.heap.size := ⟨_, rfl⟩;rw [<- hz2] at hru ⊢;obtain ⟨W5, hW5⟩ : ∃ W5, W5 = (w4.alloc (.cells #[.slice p2 4 c2, .slice p5 4 c5] 39)).alloc (.cells #[.slice p0 4 c0, .slice (some ⟨z2, 0, none⟩) 3 3, .slice (some ⟨w4.heap.size, 0, none⟩) 2 2] 43) := ⟨_, rfl⟩;have hbW5 : Below w4.heap.size w4 W5 := by rw [hW5]; exact zal2 _ _ _
 have bs : BoxN W5 w4.heap.size 39 [.slice p2 4 c2, .slice p5 4 c5] := by rw [hW5]; exact (BoxN.new w4 #[.slice p2 4 c2, .slice p5 4 c5] _ _ rfl).alloc _
 have bd : BoxN W5 (w4.heap.size + 1) 43 [.slice p0 4 c0, .slice (some ⟨z2, 0, none⟩) 3 3, .slice (some ⟨w4.heap.size, 0, none⟩) 2 2] := by rw [hW5]; exact BoxN.new _ #[.slice p0 4 c0, .slice (some ⟨z2, 0, none⟩) 3 3, .slice (some ⟨w4.heap.size, 0, none⟩) 2 2] _ _ (by simp)
 have q5 := q4.trans (hbW5.mono q4.size);have r15 := r14.trans (hbW5.mono r14.size);replace bm := bm.below hbW5 bm.lt;have hrs : RdF W5 (.slice (some ⟨w4.heap.size, 0, none⟩) 2 2) [[2, 2, 2, 2], [5, 5, 5, 5]] := rdF_two (bs.cell 0 rfl) (bs.cell 1 rfl) (RdC.below hr2 hbW5) (RdC.below hr5 hbW5) (Nat.le_refl _) (by decide);have HK : Hid (K28 W5 pp pt p0 (some ⟨z2, 0, none⟩) (some ⟨w4.heap.size, 0, none⟩) cp ct c0 3 2) := ⟨k28_n (RdC.below HP.out r15) (RdC.below HT.out r15) (RdC.below hr0 hbW5) (RdC.below hru hbW5) hrs⟩;obtain ⟨s1, hs1⟩ : ∃ s1, s1 = w1.heap.size := ⟨_, rfl⟩;have hs15 : s1 < W5.heap.size := by rw [hs1]; exact bm.lt
 have hs45 : w4.heap.size + 1 < W5.heap.size := bd.lt;rw [<- hs1] at bm;have n0 := bm.cell 0 rfl;have n1 := bm.cell 1 rfl;have o0 := bd.cell 0 rfl;have o1 := bd.cell 1 rfl;have o2 := bd.cell 2 rfl;clear hb4 hr0 hru hr2 hr5 q3 r13 q4 r14 bs hrs hz2 r15;rw [hW5] at n0 n1 o0 o1 o2;rw [<- hs1];clear hs1;go_wp2_with fail;rw [<- hW5];clear hW5 n0 n1 o0 o1 o2;refine (k28_At HK.out (hg.below q5)).mono ?_;rintro e w6 ⟨_, rfl, rfl, hb6⟩;have HK6 := hid (HK.out.below hb6);have q6 := q5.trans (hb6.mono q5.size);have bm6 := bm.below hb6 bm.lt;have bd6 := bd.below hb6 bd.lt;have n0 := bm6.cell 0 rfl;have n1 := bm6.cell 1 rfl;have o0 := bd6.cell 0 rfl;have o1 := bd6.cell 1 rfl;have o2 := bd6.cell 2 rfl;clear hb6 bm bd HK q5 hs15 hs45;go_wp2_with fail;refine (k28_Log HK6.out (hg.below q6)).mono ?_;rintro e w7 ⟨_, rfl, ⟨vl, rfl, hol⟩, hb7⟩;obtain ⟨pl, cl, hvl, hl1, hl2, -, hlc⟩ := RdC.of_owns hol;obtain ⟨bl, ol, rfl, hl9⟩ := hlc (by simp [cellsIv, cellIv]);subst hvl;have y3 := hl9 3 _ rfl;have y4 := hl9 4 _ rfl;have y5 := hl9 5 _ rfl;rw [k28_rs.2.1] at y4;rw [k28_rs.2.2.2.2.2.2.1] at y5;have hbl : bl < w7.heap.size := World.block_lt_of_cell? w7 _ y3;unfold maxLen at hl2;clear hol hlc hl9;have HK7 := hid (HK6.out.below hb7);have q7 := q6.trans (hb7.mono q6.size);have bm7 := bm6.below hb7 bm6.lt;have bd7 := bd6.below hb7 bd6.lt;clear n0 n1 o0 o1 o2;have n0 := bm7.cell 0 rfl;have n1 := bm7.cell 1 rfl;have o0 := bd7.cell 0 rfl;have o1 := bd7.cell 1 rfl;have o2 := bd7.cell 2 rfl;clear hb7 bm6 bd6 HK6 q6;go_wp2_with fail;refine (k28_Vol HK7.out (hg.below q7)).mono ?_;rintro e w8 ⟨_, rfl, rfl, hb8⟩;have HK8 := hid (HK7.out.below hb8);have q8 := q7.trans (hb8.mono q7.size);have bm8 := bm7.below hb8 bm7.lt;have bd8 := bd7.below hb8 bd7.lt;clear n0 n1 o0 o1 o2;have n0 := bm8.cell 0 rfl;have n1 := bm8.cell 1 rfl;have o0 := bd8.cell 0 rfl;have o1 := bd8.cell 1 rfl;have o2 := bd8.cell 2 rfl;replace y3 := (zcq hb8 hbl y3 :);replace y4 := (zcq hb8 hbl y4 :);replace y5 := (zcq hb8 hbl y5 :);have hbl8 : bl < w8.heap.size := Nat.lt_of_lt_of_le hbl hb8.size;have hlm := bm8.lt;have hld := bd8.lt;clear hb8 bm7 bd7 HK7 q7 hbl;go_upto_region 6 with fail;have HS : Hid (∀ w', Below w8.heap.size w8 w' -> (w'.cell? ⟨s1, 0, none⟩ = some (.slice pp 4 cp) /\ w'.cell? ⟨s1, 1, none⟩ = some (.slice pt 2 ct)) /\ w'.cell? ⟨w4.heap.size + 1, 0, none⟩ = some (.slice p0 4 c0) /\ w'.cell? ⟨w4.heap.size + 1, 1, none⟩ = some (.slice (some ⟨z2, 0, none⟩) 3 3) /\ w'.cell? ⟨w4.heap.size + 1, 2, none⟩ = some (.slice (some ⟨w4.heap.size, 0, none⟩) 2 2)) := fun w' hb =>
  ⟨⟨(zcq hb hlm n0 :), (zcq hb hlm n1 :)⟩, (zcq hb hld o0 :), (zcq hb hld o1 :), (zcq hb hld o2 :)⟩
 have HXI : Hid (∀ (w' : World) (px : Option Addr) (cx : Nat), Below w8.heap.size w8 w' -> RdQ w' (.slice px 4 cx) [1, 1, 1, 1] -> _) := fun w' px cx hb hr => k28_Ins (HK8.out.below hb) hr (hg.below (q8.trans (hb.mono q8.size)));have q0 : Below w8.heap.size w8 w8.drew := below_drewN w8 1;go_cut [10, 11] (fun s10 s11 wx => ∃ b10 v1 v2 v3, s10 = .pointer (some ⟨b10, 0, none⟩) /\ s11 = .int .i64 0 /\ w8.heap.size <= b10 /\ BoxN wx b10 43 [v1, v2, v3] /\ DepR wx v1 v2 v3 (([0, 0, 0, 0] : List Rat).map RS) [⟨#[97]⟩, ⟨#[100]⟩, ⟨#[98]⟩, ⟨#[99]⟩] (([[2, 2, 2, 2], [3, 3, 3, 3], [6, 6, 6, 6]] : List (List Rat)).map fun F => F.map RS) /\ Below w8.heap.size w8 wx)
 case first =>
  go_region_held3 (fun w' => (w'.cell? ⟨s1, 0, none⟩ = some (.slice pp 4 cp) /\ w'.cell? ⟨s1, 1, none⟩ = some (.slice pt 2 ct)) /\ w'.cell? ⟨w4.heap.size + 1, 0, none⟩ = some (.slice p0 4 c0) /\ w'.cell? ⟨w4.heap.size + 1, 1, none⟩ = some (.slice (some ⟨z2, 0, none⟩) 3 3) /\ w'.cell? ⟨w4.heap.size + 1, 2, none⟩ = some (.slice (some ⟨w4.heap.size, 0, none⟩) 2 2))
   ((refine HS.out _ ?_; repeat (first | with_reducible exact q2 | with_reducible exact q1 | with_reducible exact q0 | with_reducible exact Below.refl _ _ | with_reducible refine Below.drew ?_ | ((with_reducible refine Below.setCell ?_ ?_ _); rotate_left; (first | omega | (simp <;> omega))) | ((with_reducible refine Below.alloc ?_ ?_ _); rotate_left; (first | exact Nat.le_refl _ | omega | (simp <;> omega))))))
   (first
     | ((with_reducible refine Calls.mono (HXI.out _ _ _ ?_ ?_) ?_)
        (focus repeat (first | with_reducible exact q1 | with_reducible exact q0 | with_reducible exact Below.refl _ _ | with_reducible refine Below.drew ?_ | ((with_reducible refine Below.alloc ?_ ?_ _); rotate_left; (first | exact Nat.le_refl _ | omega | (simp <;> omega)))))
        (focus (first | exact hr1.out | exact RdC.alloc hr1.out _))
        (rintro e z2' ⟨_, rfl, ⟨v1, v2, v3, rfl, hD⟩, hy2⟩
         have q2 : Below w8.heap.size w8 z2' := (by refine Below.trans ?_ (hy2.mono ?_); rotate_left; (first | exact Nat.le_refl _ | omega | (simp <;> omega)); repeat (first | with_reducible exact q1 | with_reducible exact q0 | with_reducible exact Below.refl _ _ | with_reducible refine Below.drew ?_ | ((with_reducible refine Below.alloc ?_ ?_ _); rotate_left; (first | exact Nat.le_refl _ | omega | (simp <;> omega)))));have sz2 := q2.size;have p2 : Below z1.heap.size z1 z2' := (by refine Below.trans ?_ (hy2.mono ?_); rotate_left; (first | exact Nat.le_refl _ | omega | (simp <;> omega)); repeat (first | with_reducible exact Below.refl _ _ | with_reducible refine Below.drew ?_ | ((with_reducible refine Below.alloc ?_ ?_ _); rotate_left; (first | exact Nat.le_refl _ | omega | (simp <;> omega)))));have HDR := hid hD;obtain ⟨i1, j1, i2, j2, i3, j3, rfl, rfl, rfl⟩ := hD.open;clear hD
         (first | (have H8 := hid (E8.out.below p2 E8.out.lt)) | skip)
         (first | (have D8 := hid (zc3 hy2)) | skip)
         (first | (have H8f := BoxC.of H8.out; obtain ⟨u1, u2, u3, u4, u5, u6, u7⟩ := H8f) | skip)
         (first | (have D8f := BoxC.of D8.out; obtain ⟨v1', v2', v3', v4', v5', v6', v7'⟩ := D8f) | skip)))
     | ((with_reducible refine Calls.mono (HF1.out _) ?_)
        rintro e z1 ⟨_, rfl, ⟨p7, c7, rfl, hr1'⟩, hy1⟩;have q1 : Below w8.heap.size w8 z1 := (by refine Below.trans ?_ (hy1.mono ?_); rotate_left; (first | exact Nat.le_refl _ | omega | (simp <;> omega)); repeat (first | with_reducible exact q0 | with_reducible exact Below.refl _ _ | with_reducible refine Below.drew ?_ | ((with_reducible refine Below.alloc ?_ ?_ _); rotate_left; (first | exact Nat.le_refl _ | omega | (simp <;> omega)))));have sz1 := q1.size;have hr1 := hid hr1';clear hr1'
        (first | (have E8 := hid (zc3d hy1)) | skip)))
  all_goals
   go_wp2_with fail;go_meet;refine ⟨_, .slice i1 4 j1, .slice i2 4 j2, .slice i3 3 j3, rfl, rfl, ?_, ?_, ?_, ?_⟩
   ·first | exact Nat.le_refl _ | omega | (simp; omega) | (simp)
   ·repeat (first | with_reducible exact H8.out | with_reducible exact D8.out | with_reducible refine BoxN.drew ?_ | with_reducible refine box3_set ?_ | ((with_reducible refine box3_new _ _ _ _ _ _ ?_); (first | rfl | (simp <;> omega))) | with_reducible refine BoxN.alloc ?_ _)
   ·first
     | exact HDR.out.alloc _
     | exact DepR.set3 HDR.out D8.out k28_nn
     | exact DepR.set3 HDR.out H8.out k28_nn
   ·repeat (first | with_reducible exact q2 | with_reducible exact q1 | with_reducible exact q0 | with_reducible exact Below.refl _ _ | with_reducible refine Below.drew ?_ | ((with_reducible refine Below.setCell ?_ ?_ _); rotate_left; (first | omega | (simp <;> omega))) | ((with_reducible refine Below.alloc ?_ ?_ _); rotate_left; (first | exact Nat.le_refl _ | omega | (simp <;> omega))))
 case rest =>
 obtain ⟨b10, v1, v2, v3, rfl, rfl, h10, bx, hR, hbW⟩ := hcut;have HR := hid hR;obtain ⟨i1, j1, i2, j2, i3, j3, rfl, rfl, rfl⟩ := hR.open;have hbl9 : bl < wc.heap.size := Nat.lt_of_lt_of_le hbl8 hbW.size;have x3 := zcq hbW hbl8 y3;have x4 := zcq hbW hbl8 y4;have x5 := zcq hbW hbl8 y5;have hlx := bx.lt;have HC7 : Hid (∀ X, Below wc.heap.size wc X -> X.cell? ⟨bl, ol + 3, none⟩ = some (.string ⟨#[98]⟩) /\ X.cell? ⟨bl, ol + 3 + 1, none⟩ = some (.string ⟨#[49]⟩) /\ X.cell? ⟨bl, ol + 3 + 2, none⟩ = some (.string ⟨#[52]⟩) /\ X.cell? ⟨b10, 0, none⟩ = some (.slice i1 4 j1) /\ X.cell? ⟨b10, 1, none⟩ = some (.slice i2 4 j2) /\ X.cell? ⟨b10, 2, none⟩ = some (.slice i3 3 j3)) := fun X hb =>
  ⟨(zcq hb hbl9 x3 :), (zcq hb hbl9 x4 :), (zcq hb hbl9 x5 :), (hb.cell (p := ⟨b10, 0, none⟩) hlx).trans (bx.cell 0 rfl), (hb.cell (p := ⟨b10, 1, none⟩) hlx).trans (bx.cell 1 rfl), (hb.cell (p := ⟨b10, 2, none⟩) hlx).trans (bx.cell 2 rfl)⟩
 clear x3 x4 x5 y3 y4 y5 n0 n1 o0 o1 o2 HS HXI q0 hR;go_upto_region 7 with fail;refine wp_region_mono (fun i X v => match i with
  | 0 => v = .int .i64 0 | 1 => v = .bool true | 2 => v = .bool true | 3 => v = .string ⟨#[98]⟩ | 4 => v = .bool true | 5 => v = .bool true | 6 => v = .bool true | 7 => v = .int .i64 0 | 8 => v = .bool true | 9 => v = .bool true | 10 => v = .bool true | 11 => v = .slice (some ⟨bl, ol, none⟩) 3 cl | 12 => v = .int .i64 3 | 13 => v = .bool true | 14 => v = .bool true | 15 => v = .bool true | 16 => v = .slice (some ⟨bl, ol, none⟩) 3 cl | 17 => v = .pointer (some ⟨bl, ol + 3, none⟩) | 18 => v = .agg #[.string ⟨#[98]⟩, .string ⟨#[49]⟩, .string ⟨#[52]⟩] | 19 => v = .agg #[.string ⟨#[98]⟩, .string ⟨#[49]⟩, .string ⟨#[52]⟩] | 20 => v = .bool true | 21 => v = .bool true | 22 => v = .bool true | 23 => v = .int .i64 0 | 24 => v = .bool true | 25 => v = .bool true | 26 => v = .bool true | 27 => v = .string ⟨#[52, 56]⟩ | 28 => v = .bool true | 29 => v = .bool true | 30 => v = .bool true | 31 => v = .int .i64 0 | 32 => v = .bool true | 33 => v = .bool true | 34 => v = .bool true | 35 => v = .agg #[.slice i1 4 j1, .slice i2 4 j2, .slice i3 3 j3] | 36 => ∃ p c, v = .slice p 4 c /\ RdQ X v [0, 0, 0, 0] | 37 => ∃ p c, v = .slice p 4 c /\ RdS X v [⟨#[97]⟩, ⟨#[100]⟩, ⟨#[98]⟩, ⟨#[99]⟩] | 38 => ∃ p c, v = .slice p 4 c /\ RdQ X v [2, 2, 2, 2] | 39 => ∃ p c, v = .slice p 4 c /\ RdQ X v [3, 3, 3, 3] | 40 => ∃ p c, v = .slice p 4 c /\ RdQ X v [6, 6, 6, 6] | 41 => ∃ p c, v = .slice p 3 c /\ RdF X v [[2, 2, 2, 2], [3, 3, 3, 3], [6, 6, 6, 6]] | 42 => ∃ p1 c1 p2 c2 p3 c3, v = .agg #[.slice p1 4 c1, .slice p2 4 c2, .slice p3 3 c3] /\ DepR X (.slice p1 4 c1) (.slice p2 4 c2) (.slice p3 3 c3) (([0, 0, 0, 0] : List Rat).map RS) [⟨#[97]⟩, ⟨#[100]⟩, ⟨#[98]⟩, ⟨#[99]⟩] (([[2, 2, 2, 2], [3, 3, 3, 3], [6, 6, 6, 6]] : List (List Rat)).map fun F => F.map RS) | 43 => v = .bool true | 44 => v = .bool true | 45 => v = .bool true | _ => True) ?_ (by kernel_rfl) (by kernel_rfl) ?_ ?_
 ·intro i X X' v h hb
  rcases i with _|_|_|_|_|_|_|_|_|_|_|_|_|_|_|_|_|_|_|_|_|_|_|_|_|_|_|_|_|_|_|_|_|_|_|_|_|_|_|_|_|_|_|_|_|_|i
  ·exact h
  ·exact h
  ·exact h
  ·exact h
  ·exact h
  ·exact h
  ·exact h
  ·exact h
  ·exact h
  ·exact h
  ·exact h
  ·exact h
  ·exact h
  ·exact h
  ·exact h
  ·exact h
  ·exact h
  ·exact h
  ·exact h
  ·exact h
  ·exact h
  ·exact h
  ·exact h
  ·exact h
  ·exact h
  ·exact h
  ·exact h
  ·exact h
  ·exact h
  ·exact h
  ·exact h
  ·exact h
  ·exact h
  ·exact h
  ·exact h
  ·exact h
  ·obtain ⟨p, c, rfl, h⟩ := h; exact ⟨p, c, rfl, RdC.below h hb⟩
  ·obtain ⟨p, c, rfl, h⟩ := h; exact ⟨p, c, rfl, RdC.below h hb⟩
  ·obtain ⟨p, c, rfl, h⟩ := h; exact ⟨p, c, rfl, RdC.below h hb⟩
  ·obtain ⟨p, c, rfl, h⟩ := h; exact ⟨p, c, rfl, RdC.below h hb⟩
  ·obtain ⟨p, c, rfl, h⟩ := h; exact ⟨p, c, rfl, RdC.below h hb⟩
  ·obtain ⟨p, c, rfl, h⟩ := h; exact ⟨p, c, rfl, RdF.below h hb⟩
  ·obtain ⟨p1, c1, p2, c2, p3, c3, rfl, h⟩ := h; exact ⟨p1, c1, p2, c2, p3, c3, rfl, h.below hb⟩
  ·exact h
  ·exact h
  ·exact h
  ·trivial
 ·intro listed a' X i o ho hdep hM
  have hX := hM.below;obtain ⟨z0, z1, z2, z3, z4, z5⟩ := HC7.out X hX;have o3 : a'.eval (.tmp 3) = .string ⟨#[98]⟩ := hM.old 3 (by intro j oj hj; rcases j with _|_|_|_|_|_|_|_|_|_|_|_|_|_|_|_|_|_|_|_|_|_|_|_|_|_|_|_|_|_|_|_|_|_|_|_|_|_|_|_|_|_|_|_|_|_|j <;> first | (injection hj with hj; subst hj; simp) | exact absurd hj (by simp));have o5 : a'.eval (.tmp 5) = .int .i64 0 := hM.old 5 (by intro j oj hj; rcases j with _|_|_|_|_|_|_|_|_|_|_|_|_|_|_|_|_|_|_|_|_|_|_|_|_|_|_|_|_|_|_|_|_|_|_|_|_|_|_|_|_|_|_|_|_|_|j <;> first | (injection hj with hj; subst hj; simp) | exact absurd hj (by simp));have o6 : a'.eval (.tmp 6) = .slice (some ⟨bl, ol, none⟩) 3 cl := hM.old 6 (by intro j oj hj; rcases j with _|_|_|_|_|_|_|_|_|_|_|_|_|_|_|_|_|_|_|_|_|_|_|_|_|_|_|_|_|_|_|_|_|_|_|_|_|_|_|_|_|_|_|_|_|_|j <;> first | (injection hj with hj; subst hj; simp) | exact absurd hj (by simp));have o7 : a'.eval (.tmp 7) = .int .i64 0 := hM.old 7 (by intro j oj hj; rcases j with _|_|_|_|_|_|_|_|_|_|_|_|_|_|_|_|_|_|_|_|_|_|_|_|_|_|_|_|_|_|_|_|_|_|_|_|_|_|_|_|_|_|_|_|_|_|j <;> first | (injection hj with hj; subst hj; simp) | exact absurd hj (by simp));have o8 : a'.eval (.tmp 8) = .string ⟨#[52, 56]⟩ := hM.old 8 (by intro j oj hj; rcases j with _|_|_|_|_|_|_|_|_|_|_|_|_|_|_|_|_|_|_|_|_|_|_|_|_|_|_|_|_|_|_|_|_|_|_|_|_|_|_|_|_|_|_|_|_|_|j <;> first | (injection hj with hj; subst hj; simp) | exact absurd hj (by simp));have o9 : a'.eval (.tmp 9) = .int .i64 0 := hM.old 9 (by intro j oj hj; rcases j with _|_|_|_|_|_|_|_|_|_|_|_|_|_|_|_|_|_|_|_|_|_|_|_|_|_|_|_|_|_|_|_|_|_|_|_|_|_|_|_|_|_|_|_|_|_|j <;> first | (injection hj with hj; subst hj; simp) | exact absurd hj (by simp));have o10 : a'.eval (.tmp 10) = .pointer (some ⟨b10, 0, none⟩) := hM.old 10 (by intro j oj hj; rcases j with _|_|_|_|_|_|_|_|_|_|_|_|_|_|_|_|_|_|_|_|_|_|_|_|_|_|_|_|_|_|_|_|_|_|_|_|_|_|_|_|_|_|_|_|_|_|j <;> first | (injection hj with hj; subst hj; simp) | exact absurd hj (by simp));have o11 : a'.eval (.tmp 11) = .int .i64 0 := hM.old 11 (by intro j oj hj; rcases j with _|_|_|_|_|_|_|_|_|_|_|_|_|_|_|_|_|_|_|_|_|_|_|_|_|_|_|_|_|_|_|_|_|_|_|_|_|_|_|_|_|_|_|_|_|_|j <;> first | (injection hj with hj; subst hj; simp) | exact absurd hj (by simp));rcases i with _|_|_|_|_|_|_|_|_|_|_|_|_|_|_|_|_|_|_|_|_|_|_|_|_|_|_|_|_|_|_|_|_|_|_|_|_|_|_|_|_|_|_|_|_|_|i
  ·injection ho with ho; subst ho
   refine ⟨rfl, wpIn_value (w' := X) (by intro c hc; cases hc) (by intro c hc; cases hc) ?_ ⟨_, Below.refl _ _, (fun _ h => by cases h; rfl), rfl⟩⟩;clear hdep hM;generalize a'.eval = ρ at *;simp [execOp, go_sem, *]
  ·injection ho with ho; subst ho
   have e0 : a'.eval (.tmp 49) = .int .i64 0 := hM.has 0 _ 49 rfl rfl (hdep ⟨0, .data⟩ (by simp) rfl);refine ⟨rfl, wpIn_value (w' := X) (by intro c hc; cases hc) (by intro c hc; cases hc) ?_ ⟨_, Below.refl _ _, (fun _ h => by cases h; rfl), rfl⟩⟩;clear hdep hM;have hcst : ∀ v, a'.eval (.const v) = v := fun _ => rfl;generalize a'.eval = ρ at *;simp [execOp, go_sem, *]
  ·injection ho with ho; subst ho
   have e1 : a'.eval (.tmp 50) = .bool true := hM.has 1 _ 50 rfl rfl (hdep ⟨1, .data⟩ (by simp) rfl);refine ⟨rfl, wpIn_value (w' := X) (by intro c hc; cases hc) (by intro c hc; cases hc) ?_ ⟨_, Below.refl _ _, (fun _ h => by cases h; rfl), rfl⟩⟩;clear hdep hM;generalize a'.eval = ρ at *;simp [execOp, go_sem, *]
  ·injection ho with ho; subst ho
   have eg : a'.eval (.tmp 51) = .bool true := hM.has 2 _ 51 rfl rfl (hdep ⟨2, .guard⟩ (by simp) rfl);refine ⟨wanted_of rfl rfl rfl eg, wpIn_value (w' := X) (by intro c hc; cases hc) (by intro c hc; cases hc) ?_ ⟨_, Below.refl _ _, (fun _ h => by cases h; rfl), rfl⟩⟩;clear hdep hM;generalize a'.eval = ρ at *;simp [execOp, go_sem, *]
  ·injection ho with ho; subst ho
   have e3 : a'.eval (.tmp 52) = .string ⟨#[98]⟩ := hM.has 3 _ 52 rfl rfl (hdep ⟨3, .data⟩ (by simp) rfl);have eg : a'.eval (.tmp 51) = .bool true := hM.has 2 _ 51 rfl rfl (hdep ⟨2, .guard⟩ (by simp) rfl);refine ⟨wanted_of rfl rfl rfl eg, wpIn_value (w' := X) (by intro c hc; cases hc) (by intro c hc; cases hc) ?_ ⟨_, Below.refl _ _, (fun _ h => by cases h; rfl), rfl⟩⟩;clear hdep hM;have hcst : ∀ v, a'.eval (.const v) = v := fun _ => rfl;generalize a'.eval = ρ at *;simp [execOp, go_sem, *]
  ·injection ho with ho; subst ho
   have e2 : a'.eval (.tmp 51) = .bool true := hM.has 2 _ 51 rfl rfl (hdep ⟨2, .data⟩ (by simp) rfl);have e4 : a'.eval (.tmp 53) = .bool true := hM.has 4 _ 53 rfl rfl (hdep ⟨4, .data⟩ (by simp) rfl);refine ⟨rfl, wpIn_value (w' := X) (by intro c hc; cases hc) (by intro c hc; cases hc) ?_ ⟨_, Below.refl _ _, (fun _ h => by cases h; rfl), rfl⟩⟩;clear hdep hM;have hcst : ∀ v, a'.eval (.const v) = v := fun _ => rfl;generalize a'.eval = ρ at *;simp [execOp, go_sem, *]
  ·injection ho with ho; subst ho
   have e5 : a'.eval (.tmp 54) = .bool true := hM.has 5 _ 54 rfl rfl (hdep ⟨5, .data⟩ (by simp) rfl);refine ⟨rfl, wpIn_value (w' := X) (by intro c hc; cases hc) (by intro c hc; cases hc) ?_ ⟨_, Below.refl _ _, (fun _ h => by cases h; rfl), rfl⟩⟩;clear hdep hM;generalize a'.eval = ρ at *;simp [execOp, go_sem, *]
  ·injection ho with ho; subst ho
   have eg : a'.eval (.tmp 55) = .bool true := hM.has 6 _ 55 rfl rfl (hdep ⟨6, .guard⟩ (by simp) rfl);refine ⟨wanted_of rfl rfl rfl eg, wpIn_value (w' := X) (by intro c hc; cases hc) (by intro c hc; cases hc) ?_ ⟨_, Below.refl _ _, (fun _ h => by cases h; rfl), rfl⟩⟩;clear hdep hM;generalize a'.eval = ρ at *;simp [execOp, go_sem, *]
  ·injection ho with ho; subst ho
   have e7 : a'.eval (.tmp 56) = .int .i64 0 := hM.has 7 _ 56 rfl rfl (hdep ⟨7, .data⟩ (by simp) rfl);have eg : a'.eval (.tmp 55) = .bool true := hM.has 6 _ 55 rfl rfl (hdep ⟨6, .guard⟩ (by simp) rfl);refine ⟨wanted_of rfl rfl rfl eg, wpIn_value (w' := X) (by intro c hc; cases hc) (by intro c hc; cases hc) ?_ ⟨_, Below.refl _ _, (fun _ h => by cases h; rfl), rfl⟩⟩;clear hdep hM;have hcst : ∀ v, a'.eval (.const v) = v := fun _ => rfl;generalize a'.eval = ρ at *;simp [execOp, go_sem, *]
  ·injection ho with ho; subst ho
   have e6 : a'.eval (.tmp 55) = .bool true := hM.has 6 _ 55 rfl rfl (hdep ⟨6, .data⟩ (by simp) rfl);have e8 : a'.eval (.tmp 57) = .bool true := hM.has 8 _ 57 rfl rfl (hdep ⟨8, .data⟩ (by simp) rfl);refine ⟨rfl, wpIn_value (w' := X) (by intro c hc; cases hc) (by intro c hc; cases hc) ?_ ⟨_, Below.refl _ _, (fun _ h => by cases h; rfl), rfl⟩⟩;clear hdep hM;have hcst : ∀ v, a'.eval (.const v) = v := fun _ => rfl;generalize a'.eval = ρ at *;simp [execOp, go_sem, *]
  ·injection ho with ho; subst ho
   have e9 : a'.eval (.tmp 58) = .bool true := hM.has 9 _ 58 rfl rfl (hdep ⟨9, .data⟩ (by simp) rfl);refine ⟨rfl, wpIn_value (w' := X) (by intro c hc; cases hc) (by intro c hc; cases hc) ?_ ⟨_, Below.refl _ _, (fun _ h => by cases h; rfl), rfl⟩⟩;clear hdep hM;generalize a'.eval = ρ at *;simp [execOp, go_sem, *]
  ·injection ho with ho; subst ho
   have eg : a'.eval (.tmp 59) = .bool true := hM.has 10 _ 59 rfl rfl (hdep ⟨10, .guard⟩ (by simp) rfl);refine ⟨wanted_of rfl rfl rfl eg, wpIn_value (w' := X) (by intro c hc; cases hc) (by intro c hc; cases hc) ?_ ⟨_, Below.refl _ _, (fun _ h => by cases h; rfl), rfl⟩⟩;clear hdep hM;generalize a'.eval = ρ at *;simp [execOp, go_sem, *]
  ·injection ho with ho; subst ho
   have e11 : a'.eval (.tmp 60) = .slice (some ⟨bl, ol, none⟩) 3 cl := hM.has 11 _ 60 rfl rfl (hdep ⟨11, .data⟩ (by simp) rfl);have eg : a'.eval (.tmp 59) = .bool true := hM.has 10 _ 59 rfl rfl (hdep ⟨10, .guard⟩ (by simp) rfl);refine ⟨wanted_of rfl rfl rfl eg, wpIn_val2 (w' := X)  (by intro c hc; cases hc) ?_ ⟨_, Below.refl _ _, (fun _ h => by cases h; rfl), rfl⟩⟩;clear hdep hM;generalize a'.eval = ρ at *;simp [execOp, go_sem, *]
  ·injection ho with ho; subst ho
   have e12 : a'.eval (.tmp 61) = .int .i64 3 := hM.has 12 _ 61 rfl rfl (hdep ⟨12, .data⟩ (by simp) rfl);have eg : a'.eval (.tmp 59) = .bool true := hM.has 10 _ 59 rfl rfl (hdep ⟨10, .guard⟩ (by simp) rfl);refine ⟨wanted_of rfl rfl rfl eg, wpIn_value (w' := X) (by intro c hc; cases hc) (by intro c hc; cases hc) ?_ ⟨_, Below.refl _ _, (fun _ h => by cases h; rfl), rfl⟩⟩;clear hdep hM;have hcst : ∀ v, a'.eval (.const v) = v := fun _ => rfl;generalize a'.eval = ρ at *;simp [execOp, go_sem, *]
  ·injection ho with ho; subst ho
   have e10 : a'.eval (.tmp 59) = .bool true := hM.has 10 _ 59 rfl rfl (hdep ⟨10, .data⟩ (by simp) rfl);have e13 : a'.eval (.tmp 62) = .bool true := hM.has 13 _ 62 rfl rfl (hdep ⟨13, .data⟩ (by simp) rfl);refine ⟨rfl, wpIn_value (w' := X) (by intro c hc; cases hc) (by intro c hc; cases hc) ?_ ⟨_, Below.refl _ _, (fun _ h => by cases h; rfl), rfl⟩⟩;clear hdep hM;have hcst : ∀ v, a'.eval (.const v) = v := fun _ => rfl;generalize a'.eval = ρ at *;simp [execOp, go_sem, *]
  ·injection ho with ho; subst ho
   have e14 : a'.eval (.tmp 63) = .bool true := hM.has 14 _ 63 rfl rfl (hdep ⟨14, .data⟩ (by simp) rfl);refine ⟨rfl, wpIn_value (w' := X) (by intro c hc; cases hc) (by intro c hc; cases hc) ?_ ⟨_, Below.refl _ _, (fun _ h => by cases h; rfl), rfl⟩⟩;clear hdep hM;generalize a'.eval = ρ at *;simp [execOp, go_sem, *]
  ·injection ho with ho; subst ho
   have eg : a'.eval (.tmp 64) = .bool true := hM.has 15 _ 64 rfl rfl (hdep ⟨15, .guard⟩ (by simp) rfl);refine ⟨wanted_of rfl rfl rfl eg, wpIn_value (w' := X) (by intro c hc; cases hc) (by intro c hc; cases hc) ?_ ⟨_, Below.refl _ _, (fun _ h => by cases h; rfl), rfl⟩⟩;clear hdep hM;generalize a'.eval = ρ at *;simp [execOp, go_sem, *]
  ·injection ho with ho; subst ho
   have e16 : a'.eval (.tmp 65) = .slice (some ⟨bl, ol, none⟩) 3 cl := hM.has 16 _ 65 rfl rfl (hdep ⟨16, .data⟩ (by simp) rfl);have eg : a'.eval (.tmp 64) = .bool true := hM.has 15 _ 64 rfl rfl (hdep ⟨15, .guard⟩ (by simp) rfl);refine ⟨wanted_of rfl rfl rfl eg, wpIn_value (w' := X) (by intro c hc; cases hc) (by intro c hc; cases hc) ?_ ⟨_, Below.refl _ _, (fun _ h => by cases h; rfl), rfl⟩⟩;clear hdep hM;have hcst : ∀ v, a'.eval (.const v) = v := fun _ => rfl;generalize a'.eval = ρ at *;simp [execOp, go_sem, *]
  ·injection ho with ho; subst ho
   have e17 : a'.eval (.tmp 66) = .pointer (some ⟨bl, ol + 3, none⟩) := hM.has 17 _ 66 rfl rfl (hdep ⟨17, .data⟩ (by simp) rfl);have eg : a'.eval (.tmp 64) = .bool true := hM.has 15 _ 64 rfl rfl (hdep ⟨15, .guard⟩ (by simp) rfl);refine ⟨wanted_of rfl rfl rfl eg, wpIn_value (w' := X) (by intro c hc; cases hc) (by intro c hc; cases hc) ?_ ⟨_, Below.refl _ _, (fun _ h => by cases h; rfl), rfl⟩⟩;clear hdep hM;generalize a'.eval = ρ at *;simp [execOp, go_sem, *]
  ·injection ho with ho; subst ho
   have eg : a'.eval (.tmp 64) = .bool true := hM.has 15 _ 64 rfl rfl (hdep ⟨15, .guard⟩ (by simp) rfl);refine ⟨wanted_of rfl rfl rfl eg, wpIn_value (w' := X) (by intro c hc; cases hc) (by intro c hc; cases hc) ?_ ⟨_, Below.refl _ _, (fun _ h => by cases h; rfl), rfl⟩⟩;clear hdep hM;have hcst : ∀ v, a'.eval (.const v) = v := fun _ => rfl;generalize a'.eval = ρ at *;simp [execOp, go_sem, *]
  ·injection ho with ho; subst ho
   have e18 : a'.eval (.tmp 67) = .agg #[.string ⟨#[98]⟩, .string ⟨#[49]⟩, .string ⟨#[52]⟩] := hM.has 18 _ 67 rfl rfl (hdep ⟨18, .data⟩ (by simp) rfl);have e19 : a'.eval (.tmp 68) = .agg #[.string ⟨#[98]⟩, .string ⟨#[49]⟩, .string ⟨#[52]⟩] := hM.has 19 _ 68 rfl rfl (hdep ⟨19, .data⟩ (by simp) rfl);have eg : a'.eval (.tmp 64) = .bool true := hM.has 15 _ 64 rfl rfl (hdep ⟨15, .guard⟩ (by simp) rfl);refine ⟨wanted_of rfl rfl rfl eg, wpIn_value (w' := X) (by intro c hc; cases hc) (by intro c hc; cases hc) ?_ ⟨_, Below.refl _ _, (fun _ h => by cases h; rfl), rfl⟩⟩;clear hdep hM;generalize a'.eval = ρ at *;simp [execOp, go_sem, *]
  ·injection ho with ho; subst ho
   have e15 : a'.eval (.tmp 64) = .bool true := hM.has 15 _ 64 rfl rfl (hdep ⟨15, .data⟩ (by simp) rfl);have e20 : a'.eval (.tmp 69) = .bool true := hM.has 20 _ 69 rfl rfl (hdep ⟨20, .data⟩ (by simp) rfl);refine ⟨rfl, wpIn_value (w' := X) (by intro c hc; cases hc) (by intro c hc; cases hc) ?_ ⟨_, Below.refl _ _, (fun _ h => by cases h; rfl), rfl⟩⟩;clear hdep hM;have hcst : ∀ v, a'.eval (.const v) = v := fun _ => rfl;generalize a'.eval = ρ at *;simp [execOp, go_sem, *]
  ·injection ho with ho; subst ho
   have e21 : a'.eval (.tmp 70) = .bool true := hM.has 21 _ 70 rfl rfl (hdep ⟨21, .data⟩ (by simp) rfl);refine ⟨rfl, wpIn_value (w' := X) (by intro c hc; cases hc) (by intro c hc; cases hc) ?_ ⟨_, Below.refl _ _, (fun _ h => by cases h; rfl), rfl⟩⟩;clear hdep hM;generalize a'.eval = ρ at *;simp [execOp, go_sem, *]
  ·injection ho with ho; subst ho
   have eg : a'.eval (.tmp 71) = .bool true := hM.has 22 _ 71 rfl rfl (hdep ⟨22, .guard⟩ (by simp) rfl);refine ⟨wanted_of rfl rfl rfl eg, wpIn_value (w' := X) (by intro c hc; cases hc) (by intro c hc; cases hc) ?_ ⟨_, Below.refl _ _, (fun _ h => by cases h; rfl), rfl⟩⟩;clear hdep hM;generalize a'.eval = ρ at *;simp [execOp, go_sem, *]
  ·injection ho with ho; subst ho
   have e23 : a'.eval (.tmp 72) = .int .i64 0 := hM.has 23 _ 72 rfl rfl (hdep ⟨23, .data⟩ (by simp) rfl);have eg : a'.eval (.tmp 71) = .bool true := hM.has 22 _ 71 rfl rfl (hdep ⟨22, .guard⟩ (by simp) rfl);refine ⟨wanted_of rfl rfl rfl eg, wpIn_value (w' := X) (by intro c hc; cases hc) (by intro c hc; cases hc) ?_ ⟨_, Below.refl _ _, (fun _ h => by cases h; rfl), rfl⟩⟩;clear hdep hM;have hcst : ∀ v, a'.eval (.const v) = v := fun _ => rfl;generalize a'.eval = ρ at *;simp [execOp, go_sem, *]
  ·injection ho with ho; subst ho
   have e22 : a'.eval (.tmp 71) = .bool true := hM.has 22 _ 71 rfl rfl (hdep ⟨22, .data⟩ (by simp) rfl);have e24 : a'.eval (.tmp 73) = .bool true := hM.has 24 _ 73 rfl rfl (hdep ⟨24, .data⟩ (by simp) rfl);refine ⟨rfl, wpIn_value (w' := X) (by intro c hc; cases hc) (by intro c hc; cases hc) ?_ ⟨_, Below.refl _ _, (fun _ h => by cases h; rfl), rfl⟩⟩;clear hdep hM;have hcst : ∀ v, a'.eval (.const v) = v := fun _ => rfl;generalize a'.eval = ρ at *;simp [execOp, go_sem, *]
  ·injection ho with ho; subst ho
   have e25 : a'.eval (.tmp 74) = .bool true := hM.has 25 _ 74 rfl rfl (hdep ⟨25, .data⟩ (by simp) rfl);refine ⟨rfl, wpIn_value (w' := X) (by intro c hc; cases hc) (by intro c hc; cases hc) ?_ ⟨_, Below.refl _ _, (fun _ h => by cases h; rfl), rfl⟩⟩;clear hdep hM;generalize a'.eval = ρ at *;simp [execOp, go_sem, *]
  ·injection ho with ho; subst ho
   have eg : a'.eval (.tmp 75) = .bool true := hM.has 26 _ 75 rfl rfl (hdep ⟨26, .guard⟩ (by simp) rfl);refine ⟨wanted_of rfl rfl rfl eg, wpIn_value (w' := X) (by intro c hc; cases hc) (by intro c hc; cases hc) ?_ ⟨_, Below.refl _ _, (fun _ h => by cases h; rfl), rfl⟩⟩;clear hdep hM;generalize a'.eval = ρ at *;simp [execOp, go_sem, *]
  ·injection ho with ho; subst ho
   have e27 : a'.eval (.tmp 76) = .string ⟨#[52, 56]⟩ := hM.has 27 _ 76 rfl rfl (hdep ⟨27, .data⟩ (by simp) rfl);have eg : a'.eval (.tmp 75) = .bool true := hM.has 26 _ 75 rfl rfl (hdep ⟨26, .guard⟩ (by simp) rfl);refine ⟨wanted_of rfl rfl rfl eg, wpIn_value (w' := X) (by intro c hc; cases hc) (by intro c hc; cases hc) ?_ ⟨_, Below.refl _ _, (fun _ h => by cases h; rfl), rfl⟩⟩;clear hdep hM;have hcst : ∀ v, a'.eval (.const v) = v := fun _ => rfl;generalize a'.eval = ρ at *;simp [execOp, go_sem, *]
  ·injection ho with ho; subst ho
   have e26 : a'.eval (.tmp 75) = .bool true := hM.has 26 _ 75 rfl rfl (hdep ⟨26, .data⟩ (by simp) rfl);have e28 : a'.eval (.tmp 77) = .bool true := hM.has 28 _ 77 rfl rfl (hdep ⟨28, .data⟩ (by simp) rfl);refine ⟨rfl, wpIn_value (w' := X) (by intro c hc; cases hc) (by intro c hc; cases hc) ?_ ⟨_, Below.refl _ _, (fun _ h => by cases h; rfl), rfl⟩⟩;clear hdep hM;have hcst : ∀ v, a'.eval (.const v) = v := fun _ => rfl;generalize a'.eval = ρ at *;simp [execOp, go_sem, *]
  ·injection ho with ho; subst ho
   have e29 : a'.eval (.tmp 78) = .bool true := hM.has 29 _ 78 rfl rfl (hdep ⟨29, .data⟩ (by simp) rfl);refine ⟨rfl, wpIn_value (w' := X) (by intro c hc; cases hc) (by intro c hc; cases hc) ?_ ⟨_, Below.refl _ _, (fun _ h => by cases h; rfl), rfl⟩⟩;clear hdep hM;generalize a'.eval = ρ at *;simp [execOp, go_sem, *]
  ·injection ho with ho; subst ho
   have eg : a'.eval (.tmp 79) = .bool true := hM.has 30 _ 79 rfl rfl (hdep ⟨30, .guard⟩ (by simp) rfl);refine ⟨wanted_of rfl rfl rfl eg, wpIn_value (w' := X) (by intro c hc; cases hc) (by intro c hc; cases hc) ?_ ⟨_, Below.refl _ _, (fun _ h => by cases h; rfl), rfl⟩⟩;clear hdep hM;generalize a'.eval = ρ at *;simp [execOp, go_sem, *]
  ·injection ho with ho; subst ho
   have e31 : a'.eval (.tmp 80) = .int .i64 0 := hM.has 31 _ 80 rfl rfl (hdep ⟨31, .data⟩ (by simp) rfl);have eg : a'.eval (.tmp 79) = .bool true := hM.has 30 _ 79 rfl rfl (hdep ⟨30, .guard⟩ (by simp) rfl);refine ⟨wanted_of rfl rfl rfl eg, wpIn_value (w' := X) (by intro c hc; cases hc) (by intro c hc; cases hc) ?_ ⟨_, Below.refl _ _, (fun _ h => by cases h; rfl), rfl⟩⟩;clear hdep hM;have hcst : ∀ v, a'.eval (.const v) = v := fun _ => rfl;generalize a'.eval = ρ at *;simp [execOp, go_sem, *]
  ·injection ho with ho; subst ho
   have e30 : a'.eval (.tmp 79) = .bool true := hM.has 30 _ 79 rfl rfl (hdep ⟨30, .data⟩ (by simp) rfl);have e32 : a'.eval (.tmp 81) = .bool true := hM.has 32 _ 81 rfl rfl (hdep ⟨32, .data⟩ (by simp) rfl);refine ⟨rfl, wpIn_value (w' := X) (by intro c hc; cases hc) (by intro c hc; cases hc) ?_ ⟨_, Below.refl _ _, (fun _ h => by cases h; rfl), rfl⟩⟩;clear hdep hM;have hcst : ∀ v, a'.eval (.const v) = v := fun _ => rfl;generalize a'.eval = ρ at *;simp [execOp, go_sem, *]
  ·injection ho with ho; subst ho
   have e33 : a'.eval (.tmp 82) = .bool true := hM.has 33 _ 82 rfl rfl (hdep ⟨33, .data⟩ (by simp) rfl);refine ⟨rfl, wpIn_value (w' := X) (by intro c hc; cases hc) (by intro c hc; cases hc) ?_ ⟨_, Below.refl _ _, (fun _ h => by cases h; rfl), rfl⟩⟩;clear hdep hM;generalize a'.eval = ρ at *;simp [execOp, go_sem, *]
  ·injection ho with ho; subst ho
   have eg : a'.eval (.tmp 83) = .bool true := hM.has 34 _ 83 rfl rfl (hdep ⟨34, .guard⟩ (by simp) rfl);refine ⟨wanted_of rfl rfl rfl eg, wpIn_value (w' := X) (by intro c hc; cases hc) (by intro c hc; cases hc) ?_ ⟨_, Below.refl _ _, (fun _ h => by cases h; rfl), rfl⟩⟩;clear hdep hM;generalize a'.eval = ρ at *;simp [execOp, go_sem, *]
  ·injection ho with ho; subst ho
   have eg : a'.eval (.tmp 83) = .bool true := hM.has 34 _ 83 rfl rfl (hdep ⟨34, .guard⟩ (by simp) rfl);refine ⟨wanted_of rfl rfl rfl eg, ?_⟩;refine wpIn_call (f := 52) (args := #[.string ⟨#[48]⟩]) (w' := X) (by intro c hc; cases hc) (fun _ _ => trivial) ?_ ⟨fun h => by simp [Fence.wide] at h, ?_⟩
   ·have ef : a'.eval (.func 52) = .func (.func 52) #[] #[] := rfl
    have hcst : ∀ v, a'.eval (.const v) = v := fun _ => rfl;clear hdep hM;generalize a'.eval = ρ at *;simp [execOp, go_sem, *]
   ·refine CallsIn.mono (callsIn_wide.2 (HG0.out X)) ?_
    rintro e X2 ⟨_, rfl, ⟨p, c, rfl, hr⟩, hbX⟩;exact ⟨_, rfl, _, hbX, (fun _ h => by cases h; exact ⟨p, c, rfl, hr⟩), rfl⟩
  ·injection ho with ho; subst ho
   have eg : a'.eval (.tmp 83) = .bool true := hM.has 34 _ 83 rfl rfl (hdep ⟨34, .guard⟩ (by simp) rfl);refine ⟨wanted_of rfl rfl rfl eg, ?_⟩;refine wpIn_value (v := .slice (some ⟨X.heap.size, 0, none⟩) 4 4) (w' := X.alloc (.cells #[.string ⟨#[97]⟩, .string ⟨#[100]⟩, .string ⟨#[98]⟩, .string ⟨#[99]⟩] 9)) (by intro c hc; cases hc) (by intro c hc; cases hc) ?_ ⟨_, (Below.refl _ _).alloc (Nat.le_refl _) _, (fun _ h => by cases h; exact ⟨_, _, rfl, RdS.fresh X [⟨#[97]⟩, ⟨#[100]⟩, ⟨#[98]⟩, ⟨#[99]⟩] _ #[.string ⟨#[97]⟩, .string ⟨#[100]⟩, .string ⟨#[98]⟩, .string ⟨#[99]⟩] rfl (by decide) 4 rfl _ rfl⟩), rfl⟩;clear hdep hM;have hcst : ∀ v, a'.eval (.const v) = v := fun _ => rfl;generalize a'.eval = ρ at *;simp [execOp, go_sem, *]
  ·injection ho with ho; subst ho
   have eg : a'.eval (.tmp 83) = .bool true := hM.has 34 _ 83 rfl rfl (hdep ⟨34, .guard⟩ (by simp) rfl);refine ⟨wanted_of rfl rfl rfl eg, ?_⟩;refine wpIn_call (f := 52) (args := #[.string ⟨#[50]⟩]) (w' := X) (by intro c hc; cases hc) (fun _ _ => trivial) ?_ ⟨fun h => by simp [Fence.wide] at h, ?_⟩
   ·have ef : a'.eval (.func 52) = .func (.func 52) #[] #[] := rfl
    have hcst : ∀ v, a'.eval (.const v) = v := fun _ => rfl;clear hdep hM;generalize a'.eval = ρ at *;simp [execOp, go_sem, *]
   ·refine CallsIn.mono (callsIn_wide.2 (HG2.out X)) ?_
    rintro e X2 ⟨_, rfl, ⟨p, c, rfl, hr⟩, hbX⟩;exact ⟨_, rfl, _, hbX, (fun _ h => by cases h; exact ⟨p, c, rfl, hr⟩), rfl⟩
  ·injection ho with ho; subst ho
   have eg : a'.eval (.tmp 83) = .bool true := hM.has 34 _ 83 rfl rfl (hdep ⟨34, .guard⟩ (by simp) rfl);refine ⟨wanted_of rfl rfl rfl eg, ?_⟩;refine wpIn_call (f := 52) (args := #[.string ⟨#[51]⟩]) (w' := X) (by intro c hc; cases hc) (fun _ _ => trivial) ?_ ⟨fun h => by simp [Fence.wide] at h, ?_⟩
   ·have ef : a'.eval (.func 52) = .func (.func 52) #[] #[] := rfl
    have hcst : ∀ v, a'.eval (.const v) = v := fun _ => rfl;clear hdep hM;generalize a'.eval = ρ at *;simp [execOp, go_sem, *]
   ·refine CallsIn.mono (callsIn_wide.2 (HF3.out X)) ?_
    rintro e X2 ⟨_, rfl, ⟨p, c, rfl, hr⟩, hbX⟩;exact ⟨_, rfl, _, hbX, (fun _ h => by cases h; exact ⟨p, c, rfl, hr⟩), rfl⟩
  ·injection ho with ho; subst ho
   have eg : a'.eval (.tmp 83) = .bool true := hM.has 34 _ 83 rfl rfl (hdep ⟨34, .guard⟩ (by simp) rfl);refine ⟨wanted_of rfl rfl rfl eg, ?_⟩;refine wpIn_call (f := 52) (args := #[.string ⟨#[54]⟩]) (w' := X) (by intro c hc; cases hc) (fun _ _ => trivial) ?_ ⟨fun h => by simp [Fence.wide] at h, ?_⟩
   ·have ef : a'.eval (.func 52) = .func (.func 52) #[] #[] := rfl
    have hcst : ∀ v, a'.eval (.const v) = v := fun _ => rfl;clear hdep hM;generalize a'.eval = ρ at *;simp [execOp, go_sem, *]
   ·refine CallsIn.mono (callsIn_wide.2 (HF6.out X)) ?_
    rintro e X2 ⟨_, rfl, ⟨p, c, rfl, hr⟩, hbX⟩;exact ⟨_, rfl, _, hbX, (fun _ h => by cases h; exact ⟨p, c, rfl, hr⟩), rfl⟩
  ·injection ho with ho; subst ho
   have d38 := hM.has 38 _ 87 rfl rfl (hdep ⟨38, .data⟩ (by simp) rfl);have d39 := hM.has 39 _ 88 rfl rfl (hdep ⟨39, .data⟩ (by simp) rfl);have d40 := hM.has 40 _ 89 rfl rfl (hdep ⟨40, .data⟩ (by simp) rfl);have eg : a'.eval (.tmp 83) = .bool true := hM.has 34 _ 83 rfl rfl (hdep ⟨34, .guard⟩ (by simp) rfl);refine ⟨wanted_of rfl rfl rfl eg, ?_⟩;obtain ⟨p2, c2, e2, r2⟩ := d38;obtain ⟨p3, c3, e3, r3⟩ := d39;obtain ⟨p6, c6, e6, r6⟩ := d40;rw [e2] at r2;rw [e3] at r3;rw [e6] at r6;have hbx : Below X.heap.size X (X.alloc (.cells #[.slice p2 4 c2, .slice p3 4 c3, .slice p6 4 c6] 39)) := zal _ _;have bx3 := BoxN.new X #[.slice p2 4 c2, .slice p3 4 c3, .slice p6 4 c6] 39 _ rfl;refine wpIn_value (v := .slice (some ⟨X.heap.size, 0, none⟩) 3 3) (w' := X.alloc (.cells #[.slice p2 4 c2, .slice p3 4 c3, .slice p6 4 c6] 39)) (by intro c hc; cases hc) (by intro c hc; cases hc) ?_ ⟨_, hbx, (fun _ h => by cases h; exact ⟨_, _, rfl, rdF_three (bx3.cell 0 rfl) (bx3.cell 1 rfl) (bx3.cell 2 rfl) (RdC.below r2 hbx) (RdC.below r3 hbx) (RdC.below r6 hbx) (Nat.le_refl _) (by decide)⟩), rfl⟩;clear hdep hM r2 r3 r6 hbx bx3;generalize a'.eval = ρ at *;simp [execOp, go_sem, *]
  ·injection ho with ho; subst ho
   have d36 := hM.has 36 _ 85 rfl rfl (hdep ⟨36, .data⟩ (by simp) rfl);have d37 := hM.has 37 _ 86 rfl rfl (hdep ⟨37, .data⟩ (by simp) rfl);have d41 := hM.has 41 _ 90 rfl rfl (hdep ⟨41, .data⟩ (by simp) rfl);have eg : a'.eval (.tmp 83) = .bool true := hM.has 34 _ 83 rfl rfl (hdep ⟨34, .guard⟩ (by simp) rfl);refine ⟨wanted_of rfl rfl rfl eg, ?_⟩;obtain ⟨p1, c1, e1, r1⟩ := d36;obtain ⟨p2, c2, e2, r2⟩ := d37;obtain ⟨p3, c3, e3, r3⟩ := d41;rw [e1] at r1;rw [e2] at r2;rw [e3] at r3;refine wpIn_value (v := .agg #[.slice p1 4 c1, .slice p2 4 c2, .slice p3 3 c3]) (w' := X) (by intro c hc; cases hc) (by intro c hc; cases hc) ?_ ⟨_, Below.refl _ _, (fun _ h => by cases h; exact ⟨_, _, _, _, _, _, rfl, ⟨r1.toS, r2, r3.toTx⟩⟩), rfl⟩;clear hdep hM r1 r2 r3;generalize a'.eval = ρ at *;simp [execOp, go_sem, *]
  ·injection ho with ho; subst ho
   have e35 : a'.eval (.tmp 84) = .agg #[.slice i1 4 j1, .slice i2 4 j2, .slice i3 3 j3] := hM.has 35 _ 84 rfl rfl (hdep ⟨35, .data⟩ (by simp) rfl);have d42 := hM.has 42 _ 91 rfl rfl (hdep ⟨42, .data⟩ (by simp) rfl);have eg : a'.eval (.tmp 83) = .bool true := hM.has 34 _ 83 rfl rfl (hdep ⟨34, .guard⟩ (by simp) rfl);refine ⟨wanted_of rfl rfl rfl eg, ?_⟩;obtain ⟨p1, c1, p2, c2, p3, c3, e1, r1⟩ := d42;refine wpIn_call (f := 16) (args := #[.agg #[.slice i1 4 j1, .slice i2 4 j2, .slice i3 3 j3], .agg #[.slice p1 4 c1, .slice p2 4 c2, .slice p3 3 c3]]) (w' := X) (by intro c hc; cases hc) (fun _ _ => trivial) ?_ ⟨fun h => by simp [Fence.wide] at h, ?_⟩
   ·have ef : a'.eval (.func 16) = .func (.func 16) #[] #[] := rfl
    clear hdep hM r1;generalize a'.eval = ρ at *;simp [execOp, go_sem, *]
   ·refine CallsIn.mono (callsIn_wide.2 (sEqual_any X _ _ _ _ _ _ _ _ _ _ _ _ (HR.out.below hX) r1)) ?_
    rintro e X2 ⟨_, rfl, rfl, hbX⟩;exact ⟨_, rfl, _, hbX, (fun _ h => by cases h; exact congrArg Value.bool (decide_eq_true ⟨rfl, rfl, rfl⟩)), rfl⟩
  ·injection ho with ho; subst ho
   have e34 : a'.eval (.tmp 83) = .bool true := hM.has 34 _ 83 rfl rfl (hdep ⟨34, .data⟩ (by simp) rfl);have e43 : a'.eval (.tmp 92) = .bool true := hM.has 43 _ 92 rfl rfl (hdep ⟨43, .data⟩ (by simp) rfl);refine ⟨rfl, wpIn_value (w' := X) (by intro c hc; cases hc) (by intro c hc; cases hc) ?_ ⟨_, Below.refl _ _, (fun _ h => by cases h; rfl), rfl⟩⟩;clear hdep hM;have hcst : ∀ v, a'.eval (.const v) = v := fun _ => rfl;generalize a'.eval = ρ at *;simp [execOp, go_sem, *]
  ·injection ho with ho; subst ho
   have e44 : a'.eval (.tmp 93) = .bool true := hM.has 44 _ 93 rfl rfl (hdep ⟨44, .data⟩ (by simp) rfl);refine ⟨rfl, wpIn_value (w' := X) (by intro c hc; cases hc) (by intro c hc; cases hc) ?_ ⟨_, Below.refl _ _, (fun _ h => by cases h; rfl), rfl⟩⟩;clear hdep hM;generalize a'.eval = ρ at *;simp [execOp, go_sem, *]
  ·exact absurd ho (by simp)
 ·intro listed a' X hall hM hsz hdf
  have e0 : a'.eval (.tmp 0) = .bool true := hM.has 45 _ 0 rfl rfl (hall 45 (by simp));have hX := hM.below;have qX := (q8.trans (hbW.mono q8.size)).trans (hX.mono (by have := q8.size; have := hbW.size; omega));have hdf2 : a'.defers = [] := hdf;replace e0 : a'.tmps.getD 0 undef = .bool true := e0;rw [Array.getD_eq_getD_getElem?] at e0;clear hM hall hdf hsz;go_wp2_with fail;refine bodyPost_ret (v := .bool true) (by simp [results, Tryz.results13, go_sem, e0]) hdf2 ⟨_, rfl, rfl, qX⟩
end Go.Proofs.YtgdpoankaojklaaGreatDoor
