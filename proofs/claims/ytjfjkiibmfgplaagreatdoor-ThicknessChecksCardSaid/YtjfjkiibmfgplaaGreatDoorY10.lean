/- The walk over klippelaw38.ThicknessChecks. -/
import Derived.Test.YtjfjkiibmfgplaaGreatDoorY9
import Derived.Deep.CutBlock
namespace Go.Proofs.YtjfjkiibmfgplaaGreatDoor
open Go.RowKit Go.Lib

theorem ownsRow_lift {w : World} {b b' e s n : Nat} {v : Value} {xs : List Value} (h : w.ownsRow b e s v n xs) (hb : b' ≤ b) : w.ownsRow b' e s v n xs := by
  obtain ⟨h1, h2⟩ := h
  refine ⟨h1, ?_⟩
  rcases h2 with h2 | ⟨g, cap, cur, hv, hg, hr⟩
  · exact .inl h2
  · exact .inr ⟨g, cap, cur, hv, Nat.le_trans hb hg, hr⟩
theorem own_at {w : World} {b e n : Nat} {v : Value} {xs : List Value} (h : w.ownsRow b e 1 v n xs) (hn : 0 < n) : ∃ g c, v = .slice (some ⟨g, 0, none⟩) n c ∧ b ≤ g ∧ g < w.heap.size := by
  rcases h.2 with ⟨_, h0⟩ | ⟨g, cap, cur, rfl, hb, hg, _⟩
  · omega
  · exact ⟨g, cap, rfl, hb, (Array.getElem?_eq_some_iff.1 hg).1⟩

theorem own_rds {w : World} {b e : Nat} {v : Value} {l : List ByteArray} (h : w.ownsRow b e 1 v l.length (l.map fun x => Value.string x)) : RdS w v l := RdC.of_owns h
theorem rds_set {w : World} {g n c i : Nat} {l : List ByteArray} {s : ByteArray} (h : RdS w (.slice (some ⟨g, 0, none⟩) n c) l) (hi : i < l.length) : RdS (w.setCell ⟨g, i, none⟩ (.string s)) (.slice (some ⟨g, 0, none⟩) n c) (l.set i s) := by
  obtain ⟨p, c', hv, h1, h2, h3, h4⟩ := h
  obtain ⟨b', off, hp, hc⟩ := h4 (by intro e; rw [List.map_eq_nil_iff] at e; rw [e] at hi; simp at hi)
  injection hv with e1 e2 e3
  rw [hp] at e1
  injection e1 with e1
  injection e1 with e1 e4 _
  subst e1 e4 e3
  refine ⟨p, c, by rw [hp, List.length_set, e2], by rw [List.length_set]; exact h1, h2, by rw [List.length_map, Nat.mul_one], fun _ => ⟨g, 0, hp, fun j x hx => ?_⟩⟩
  rw [Nat.zero_add]
  rw [List.getElem?_map, List.getElem?_set] at hx
  by_cases hj : i = j
  · subst hj
    rw [if_pos rfl, if_pos hi] at hx
    injection hx with hx
    subst hx
    have := hc i (.string l[i]) (by rw [List.getElem?_map, List.getElem?_eq_getElem hi]; rfl)
    rw [Nat.zero_add] at this
    exact World.cell?_setCell_same' _ _ _ (by rw [this]; rfl)
  · rw [if_neg hj] at hx
    have := hc j x (by rw [List.getElem?_map]; exact hx)
    rw [Nat.zero_add] at this
    rw [World.cell?_setCell_other _ _ _ _ (by intro e; injection e with _ e2 _; omega)]
    exact this
theorem RdS.tail {w : World} {b o c n : Nat} {l : List ByteArray} (h : RdS w (.slice (some ⟨b, o, none⟩) n c) l) (hne : l ≠ []) {p : Option Addr} (hp : p = if c = 1 then some ⟨b, o, none⟩ else some ⟨b, o + 1, none⟩) : RdS w (.slice p (n - 1) (c - 1)) l.tail := by
  obtain ⟨q, c', hv, h1, h2, h3, h4⟩ := h
  injection hv with e1 e2 e3
  subst e3
  have hl := List.length_pos_iff.2 hne
  refine ⟨p, c - 1, by rw [List.length_tail, e2], by rw [List.length_tail]; omega, by omega, by rw [List.length_map, Nat.mul_one], fun hn => ?_⟩
  have hT2 : l.length ≠ 1 := fun e => by
    apply hn
    have : l.tail = [] := List.length_eq_zero_iff.1 (by rw [List.length_tail, e])
    rw [this]; rfl
  obtain ⟨b', off, hq, hc⟩ := h4 (fun e => by rw [List.map_eq_nil_iff] at e; exact hne e)
  rw [hq] at e1
  injection e1 with e1
  injection e1 with e1 e4 _
  subst e1 e4
  rw [if_neg (by omega)] at hp
  refine ⟨b, o + 1, hp, fun i x hx => ?_⟩
  have := hc (1 + i) x (by rw [List.getElem?_map] at hx ⊢; rw [List.getElem?_tail] at hx; rw [Nat.add_comm 1 i]; exact hx)
  rw [← Nat.add_assoc] at this
  exact this
theorem RdC.set_far {sz : Nat} {w : World} {v : Value} {n b i : Nat} {x : Value} {cs : List Value} (h : RdC sz w v n cs) (hne : ∀ g o m c, v = .slice (some ⟨g, o, none⟩) m c → b ≠ g) : RdC sz (w.setCell ⟨b, i, none⟩ x) v n cs := by
  obtain ⟨p, c', hv, h1, h2, h3, h4⟩ := h
  refine ⟨p, c', hv, h1, h2, h3, fun hn => ?_⟩
  obtain ⟨b', off, hp, hc⟩ := h4 hn
  have hb := hne b' off n c' (by rw [hv, hp])
  refine ⟨b', off, hp, fun j y hy => ?_⟩
  rw [World.cell?_setCell_far _ _ _ _ (by show b ≠ b'; exact hb)]
  exact hc j y hy
theorem slice_ne {b g' o' n' c' : Nat} (h : b ≠ g') : ∀ g o m c, Value.slice (some ⟨g', o', none⟩) n' c' = .slice (some ⟨g, o, none⟩) m c → b ≠ g := by
  intro g o m c e
  injection e with e1 _ _
  injection e1 with e1
  injection e1 with e1 _ _
  omega
theorem addr_add0 (g j : Nat) : (⟨g, 0, none⟩ : Addr).add j = ⟨g, j, none⟩ := by unfold Addr.add; split <;> simp_all
theorem txt_set {l : List ByteArray} (h : TxtOK l) (i : Nat) {s : ByteArray} (hs : s.size < 1000000000) : TxtOK (l.set i s) :=
  ⟨fun x hx => by rcases List.mem_or_eq_of_mem_set hx with h1 | rfl; exact h.1 x h1; exact hs, by rw [List.length_set]; exact h.2⟩
theorem txt_tail {l : List ByteArray} (h : TxtOK l) : TxtOK l.tail := ⟨fun x hx => h.1 x (List.mem_of_mem_tail hx), by rw [List.length_tail]; have := h.2; omega⟩

set_option maxHeartbeats 8000000 in
set_option maxRecDepth 100000 in
theorem checks_walk (w : World) (kz s0 s1 : Int) (half : Bool) (a0 a1 a2 a3 a4 a5 : Int) (ah : Bool) (b0 b1 b2 b3 b4 b5 : Int) (bh even : Bool) (add : Int) (kd az : Int) (P : List PtQ) (T : List Tri) (L U : List Rat) (hLne : L ≠ []) (hLl : L.length ≤ 1000000) (hUne : U ≠ []) (hUl : U.length ≤ 1000000) (hTne : T ≠ []) (hLt : TxtOK (L.map RS)) (hUt : TxtOK (U.map RS)) (hL9 : L.length ≤ 400) (hkd : 0 ≤ kd ∧ kd ≤ 255) (haz : 0 ≤ az ∧ az ≤ 255) (HPR : Hid (∀ T' : List Tri, (T' = T ∨ T' = T.tail) → T' ≠ [] → MeshPre P T' 2))
    (HMK : Hid (∀ w, Good w → Calls Tryz.prog 11 #[.agg #[.int .u8 kz, .int .i8 s0, .int .i8 s1, .bool half, .int .i8 a0, .int .i8 a1, .int .i8 a2, .int .i8 a3, .int .i8 a4, .int .i8 a5, .bool ah, .int .i8 b0, .int .i8 b1, .int .i8 b2, .int .i8 b3, .int .i8 b4, .int .i8 b5, .bool bh, .bool even, .int .i8 add]] w (Ret (fun r w' => ∃ vp vt vl vu, r = .agg #[vp, vt, vl, vu] ∧ PairIn w' vp vt vl vu P T 2 L U) w))) (hg : Good w) :
    Calls Tryz.prog 9 #[.agg #[.int .u8 kz, .int .i8 s0, .int .i8 s1, .bool half, .int .i8 a0, .int .i8 a1, .int .i8 a2, .int .i8 a3, .int .i8 a4, .int .i8 a5, .bool ah, .int .i8 b0, .int .i8 b1, .int .i8 b2, .int .i8 b3, .int .i8 b4, .int .i8 b5, .bool bh, .bool even, .int .i8 add], .int .u8 kd, .int .u8 az] w (Ret (fun r _ => r = .bool true) w) := by
  have HCL : Hid (∀ w vl, RdQ w vl L → _) := fun w vl h => clone_any w vl L h hLne hLl
  have HCU : Hid (∀ w vu, RdQ w vu U → _) := fun w vu h => clone_any w vu U h hUne hUl
  have hL0 : 0 < L.length := List.length_pos_iff.2 hLne
  have hU0 : 0 < U.length := List.length_pos_iff.2 hUne
  have HTN := Lib.hid hTne
  clear hTne hLne hUne
  go_enter Tryz.func9, Tryz.ntmps9
  go_wp2_with fail
  obtain ⟨W, hW⟩ : ∃ W, W = w.alloc (.cells #[.int .u8 kz, .int .i8 s0, .int .i8 s1, .bool half, .int .i8 a0, .int .i8 a1, .int .i8 a2, .int .i8 a3, .int .i8 a4, .int .i8 a5, .bool ah, .int .i8 b0, .int .i8 b1, .int .i8 b2, .int .i8 b3, .int .i8 b4, .int .i8 b5, .bool bh, .bool even, .int .i8 add] 32) := ⟨_, rfl⟩
  have hB : Below w.heap.size w W := by rw [hW]; exact (Below.refl _ _).alloc (Nat.le_refl _) _
  have v3 : BoxN W w.heap.size 32 [.int .u8 kz, .int .i8 s0, .int .i8 s1, .bool half, .int .i8 a0, .int .i8 a1, .int .i8 a2, .int .i8 a3, .int .i8 a4, .int .i8 a5, .bool ah, .int .i8 b0, .int .i8 b1, .int .i8 b2, .int .i8 b3, .int .i8 b4, .int .i8 b5, .bool bh, .bool even, .int .i8 add] := by rw [hW]; exact BoxN.new _ _ _ _ rfl
  rw [← hW]
  clear hW
  refine (known_any W (hg.below hB)).mono ?_
  rintro e' w1 ⟨_, rfl, rfl, hb1⟩
  have hB1 := hB.trans (hb1.mono hB.size)
  have v31 := v3.below hb1 v3.lt
  have hrange : w1.rangeAt w.heap.size 0 [.int .u8 kz, .int .i8 s0, .int .i8 s1, .bool half, .int .i8 a0, .int .i8 a1, .int .i8 a2, .int .i8 a3, .int .i8 a4, .int .i8 a5, .bool ah, .int .i8 b0, .int .i8 b1, .int .i8 b2, .int .i8 b3, .int .i8 b4, .int .i8 b5, .bool bh, .bool even, .int .i8 add] := fun j v hv => by rw [Nat.zero_add]; exact v31.cell j hv
  clear hb1 hB v3
  go_upto_region 3 with fail
  go_wp2_with (refine wpList_load_mid (by rfl) 32 (.tmp 3) (by rfl) w.heap.size 0 (by rfl) [.int .u8 kz, .int .i8 s0, .int .i8 s1, .bool half, .int .i8 a0, .int .i8 a1, .int .i8 a2, .int .i8 a3, .int .i8 a4, .int .i8 a5, .bool ah, .int .i8 b0, .int .i8 b1, .int .i8 b2, .int .i8 b3, .int .i8 b4, .int .i8 b5, .bool bh, .bool even, .int .i8 add] _ hrange Tryz.underlying32 (by rfl) (by kernel_rfl) ?_)
  refine (HMK.out w1 (hg.below hB1)).mono ?_
  rintro e' w2 ⟨_, rfl, ⟨vp, vt, vl, vu, rfl, hPI⟩, hb2⟩
  obtain ⟨pp, cp, pt, ct, pl, cl, pu, cu, rfl, rfl, rfl, rfl⟩ := hPI.open
  obtain ⟨pt', ct', hvt, hct1, hct2, htr⟩ := hPI.l.t.open
  injection hvt with e1 e2' e3
  subst e1 e3
  obtain ⟨bt, ot, rfl, hbt, -⟩ := htr HTN.out
  have hB2 := hB1.trans (hb2.mono hB1.size)
  have HPI := Lib.hid hPI
  have hT0 : 0 < T.length := List.length_pos_iff.2 HTN.out
  have hB2z := hB2.size
  clear hrange v31 hb2 hB1 htr e2'
  go_upto_region 4 with fail
  obtain ⟨W3, hW3⟩ : ∃ W, W = w2.alloc (.cells #[.slice pp P.length cp, .slice (some ⟨bt, ot, none⟩) T.length ct, .slice pl L.length cl, .slice pu U.length cu] 44) := ⟨_, rfl⟩
  have hb3 : Below w2.heap.size w2 W3 := by rw [hW3]; exact (Below.refl _ _).alloc (Nat.le_refl _) _
  have v7 : BoxN W3 w2.heap.size 44 [.slice pp P.length cp, .slice (some ⟨bt, ot, none⟩) T.length ct, .slice pl L.length cl, .slice pu U.length cu] := by rw [hW3]; exact BoxN.new _ _ _ _ rfl
  rw [← hW3]
  clear hW3
  have hP3 := hPI.below hb3
  have d2 := v7.cell 2 rfl
  have d3 := v7.cell 3 rfl
  have hl7 := v7.lt
  have hle1 : w2.heap.size + 1 ≤ W3.heap.size := hl7
  have hle0 : w2.heap.size ≤ W3.heap.size := hb3.size
  have HV : Hid (∀ w', Below W3.heap.size W3 w' → BoxN w' w2.heap.size 44 [.slice pp P.length cp, .slice (some ⟨bt, ot, none⟩) T.length ct, .slice pl L.length cl, .slice pu U.length cu] ∧ RdQ w' (.slice pl L.length cl) L ∧ RdQ w' (.slice pu U.length cu) U) := fun w' hb => ⟨v7.below hb hl7, (hP3.below hb).l.f, (hP3.below hb).u.f⟩
  have HTR : Hid (∀ w' w'', Below W3.heap.size W3 w' → Below w'.heap.size w' w'' → Below W3.heap.size W3 w'') := fun w' w'' h1 h2 => h1.trans (h2.mono h1.size)
  have h0 : Below W3.heap.size W3 W3.drew := below_drewN W3 1
  clear hPI hP3 v7
  go_cut [] (fun wx => ∃ (gl c8 gu c9 : Nat), BoxN wx w2.heap.size 44 [.slice pp P.length cp, .slice (some ⟨bt, ot, none⟩) T.length ct, .slice (some ⟨gl, 0, none⟩) L.length c8, .slice (some ⟨gu, 0, none⟩) U.length c9] ∧
    wx.ownsRow (w2.heap.size + 1) 33 1 (.slice (some ⟨gl, 0, none⟩) L.length c8) L.length (L.map fun q => Value.string (RS q)) ∧ wx.ownsRow (w2.heap.size + 1) 33 1 (.slice (some ⟨gu, 0, none⟩) U.length c9) U.length (U.map fun q => Value.string (RS q)) ∧ gl ≠ gu ∧ Below w2.heap.size w2 wx)
  case first =>
    as_aux_lemma =>
      rw [show Op.load 42 (.tmp 30) = id (Op.load 42 (.tmp 30)) from rfl, show Op.load 42 (.tmp 33) = id (Op.load 42 (.tmp 33)) from rfl]
      go_region_held3 (fun _ => True)
        (trivial)
        (first
          | (go_at_call 38; (with_reducible refine (HCL.out _ (.slice pl L.length cl) (HV.out _ h0).2.1).mono ?_); rintro e' w4 ⟨v8, rfl, hown8, hb4⟩
             have h4 := HTR.out _ _ h0 hb4
             obtain ⟨gl, c8, rfl, hgl1, hgl2⟩ := own_at hown8 hL0
             obtain ⟨q7, q8, q9⟩ := HV.out _ h4
             have d2' := q7.cell 2 rfl
             have d3' := q7.cell 3 rfl
             have hs4 := h4.size)
          | (go_at_call 38; (with_reducible refine (HCU.out _ (.slice pu U.length cu) q9).mono ?_); rintro e' w5 ⟨v9, rfl, hown9, hb5⟩
             have h5 := HTR.out _ _ h4 hb5
             obtain ⟨gu, c9, rfl, hgu1, hgu2⟩ := own_at hown9 hU0
             have hown8' := World.ownsRow.belowAll hown8 hb5
             obtain ⟨r7, r8, r9⟩ := HV.out _ h5
             have t2 := r7.cell 2 rfl
             have t3 := r7.cell 3 rfl
             have t2f := r7.frozen 2
             have t3f := r7.frozen 3
             have hs5 := h5.size))
      all_goals
        go_wp2_with fail
        go_meet
        exact ⟨gl, c8, gu, c9, (r7.set 2 _).set 3 _, ownsRow_setCell_below (ownsRow_setCell_below (ownsRow_lift hown8' hle1) (by show w2.heap.size < w2.heap.size + 1; omega) _) (by show w2.heap.size < w2.heap.size + 1; omega) _, ownsRow_setCell_below (ownsRow_setCell_below (ownsRow_lift hown9 (Nat.le_trans hle1 hs4)) (by show w2.heap.size < w2.heap.size + 1; omega) _) (by show w2.heap.size < w2.heap.size + 1; omega) _, (fun e => by rw [e] at hgl2; exact absurd (Nat.lt_of_lt_of_le hgl2 hgu1) (Nat.lt_irrefl _)),
          ((hb3.trans (h5.mono hle0)).setCell (p := ⟨w2.heap.size, 2, none⟩) (Nat.le_refl _) _).setCell (p := ⟨w2.heap.size, 3, none⟩) (Nat.le_refl _) _⟩
  case rest =>
    obtain ⟨gl, c8, gu, c9, v7, hol, hou, hgne, hbc⟩ := hcut
    obtain ⟨wi, hwi⟩ : ∃ wi : World, wi = wc := ⟨_, rfl⟩
    subst hwi
    clear HV HTR h0 d2 d3 hl7 hb3 hle1 hle0
    go_upto_block 0 with fail
    go_cut [39] (fun _ wx => ∃ (T' : List Tri) (l' u' : List ByteArray) (pt' pl' pu' : Option Addr) (nt ct' nl cl' nu cu' : Nat), BoxN wx w2.heap.size 44 [.slice pp P.length cp, .slice pt' nt ct', .slice pl' nl cl', .slice pu' nu cu'] ∧
      PairAny wx (.slice pp P.length cp) (.slice pt' nt ct') (.slice pl' nl cl') (.slice pu' nu cu') P T' l' u' ∧ (T' = T ∨ T' = T.tail) ∧ TxtOK l' ∧ TxtOK u' ∧ Below w2.heap.size w2 wx)
    case first =>
      have hll : (L.map RS).length = L.length := List.length_map ..
      have hlu : (U.map RS).length = U.length := List.length_map ..
      have hol2 : wi.ownsRow (w2.heap.size + 1) 33 1 (.slice (some ⟨gl, 0, none⟩) L.length c8) (L.map RS).length ((L.map RS).map fun x => Value.string x) := by rw [hll, List.map_map]; exact hol
      have hou2 : wi.ownsRow (w2.heap.size + 1) 33 1 (.slice (some ⟨gu, 0, none⟩) U.length c9) (U.map RS).length ((U.map RS).map fun x => Value.string x) := by rw [hlu, List.map_map]; exact hou
      have hrl := own_rds hol2
      have hru := own_rds hou2
      have hP := HPI.out.below hbc
      have hgl := hol2.lt gl rfl
      have hgu := hou2.lt gu rfl
      have hz1 := haz.1
      have hz2 := haz.2
      have hrr : kd % 6 = 0 ∨ kd % 6 = 1 ∨ kd % 6 = 2 ∨ kd % 6 = 3 ∨ kd % 6 = 4 ∨ kd % 6 = 5 := by omega
      have htm : kd.tmod 6 = kd % 6 := Int.tmod_eq_emod_of_nonneg hkd.1
      have hk1 := hkd.1
      have hk2 := hkd.2
      clear hol hou hkd haz HMK HCL HCU HPR
      rcases hrr with h6 | h6 | h6 | h6 | h6 | h6
      · as_aux_lemma =>
          -- nothing is changed
          rw [h6] at htm
          go_wp2_with fail
          go_meet
          exact ⟨T, L.map RS, U.map RS, _, _, _, _, _, _, _, _, _, v7, ⟨hP.l.p, hP.l.t, hrl, hru⟩, .inl rfl, hLt, hUt, hbc⟩
      · as_aux_lemma =>
          -- a number is changed
          rw [h6] at htm
          obtain ⟨i, hi, hiL⟩ : ∃ i : Nat, az.tmod (L.length : Int) = (i : Int) ∧ i < L.length := ⟨(az.tmod (L.length : Int)).toNat, by have := Int.tmod_nonneg (L.length : Int) hz1; omega, by have := Int.tmod_lt_of_pos az (show (0 : Int) < (L.length : Int) by omega); have := Int.tmod_nonneg (L.length : Int) hz1; omega⟩
          obtain ⟨jm, hjm, hjm3⟩ : ∃ j : Nat, az.tmod 3 = (j : Int) ∧ j < 3 := ⟨(az.tmod 3).toNat, by have := Int.tmod_nonneg 3 hz1; omega, by have := Int.tmod_lt_of_pos az (show (0 : Int) < 3 by omega); have := Int.tmod_nonneg 3 hz1; omega⟩
          have k0 : wi.cell? ⟨gl, i, none⟩ = some (.string ((L.map RS)[i]'(by rw [hll]; exact hiL))) := by
            have h1 := World.ownsRow.cells hol2 (g := gl) rfl i (.string ((L.map RS)[i]'(by rw [hll]; exact hiL))) (by rw [List.getElem?_map, List.getElem?_eq_getElem (by rw [hll]; exact hiL)]; rfl)
            rw [addr_add0] at h1
            exact h1
          generalize (L.map RS)[i]'_ = olds at *
          have k0f : wi.frozen? ⟨gl, i, none⟩ = false := by
            rcases hol2.2 with ⟨_, h0⟩ | ⟨g, cap, cur, hv, _, hgg, _⟩
            · rw [hll] at h0; omega
            · injection hv with h1 _ _
              injection h1 with h1
              injection h1 with h1 _ _
              subst h1
              simp [World.frozen?, hgg]
          have hw1 : IntKind.i64.wrap (i : Int) = (i : Int) := IntWalk.i64_in _ (by omega)
          have hw2 : IntKind.i64.wrap az = az := IntWalk.i64_in _ (by omega)
          have hiz : (i : Int) < (L.length : Int) := by omega
          have hN0 : (0 : Int) < (L.length : Int) := by omega
          have hN1 : ¬ L.length = 0 := by omega
          have hN2 : ((L.length : Int) == 0) = false := by rw [beq_eq_false_iff_ne]; omega
          have hN3 : ¬ (L.length : Int) = 0 := by omega
          have hN4 : ¬ L = [] := by intro e; rw [e] at hN1; simp at hN1
          have x2 := v7.cell 2 rfl
          have x2_1 := fun o => cell_alloc_l o x2
          have k0_1 := fun o => cell_alloc_l o k0
          have k0f_1 := fun o => frozen_alloc_l o k0 k0f
          have hgb : gl ≠ w2.heap.size := by omega
          have HSM : Hid (∀ (s : ByteArray) (o : Obj), s.size < 1000000000 → ∃ (T' : List Tri) (l' u' : List ByteArray) (pt' pl' pu' : Option Addr) (nt ct' nl cl' nu cu' : Nat), BoxN (((wi.setCell ⟨gl, i, none⟩ (.string s)).alloc o).drew) w2.heap.size 44 [.slice pp P.length cp, .slice pt' nt ct', .slice pl' nl cl', .slice pu' nu cu'] ∧
            PairAny (((wi.setCell ⟨gl, i, none⟩ (.string s)).alloc o).drew) (.slice pp P.length cp) (.slice pt' nt ct') (.slice pl' nl cl') (.slice pu' nu cu') P T' l' u' ∧ (T' = T ∨ T' = T.tail) ∧ TxtOK l' ∧ TxtOK u' ∧ Below w2.heap.size w2 (((wi.setCell ⟨gl, i, none⟩ (.string s)).alloc o).drew)) := fun s o hs => by
            have hbY : Below w2.heap.size w2 (wi.setCell ⟨gl, i, none⟩ (.string s)) := hbc.setCell (p := ⟨gl, i, none⟩) (by show w2.heap.size ≤ gl; omega) _
            have hb7 : BoxN (wi.setCell ⟨gl, i, none⟩ (.string s)) w2.heap.size 44 [.slice pp P.length cp, .slice (some ⟨bt, ot, none⟩) T.length ct, .slice (some ⟨gl, 0, none⟩) L.length c8, .slice (some ⟨gu, 0, none⟩) U.length c9] := (Below.heap_setCell _ _ _ _ (fun e => hgb e.symm)).trans v7
            have hPA : PairAny (wi.setCell ⟨gl, i, none⟩ (.string s)) (.slice pp P.length cp) (.slice (some ⟨bt, ot, none⟩) T.length ct) (.slice (some ⟨gl, 0, none⟩) L.length c8) (.slice (some ⟨gu, 0, none⟩) U.length c9) P (T) ((L.map RS).set i s) (U.map RS) := ⟨(HPI.out.below hbY).l.p, (HPI.out.below hbY).l.t, rds_set hrl (by rw [hll]; exact hiL), RdC.set_far hru (slice_ne hgne)⟩
            have hY : Below (wi.setCell ⟨gl, i, none⟩ (.string s)).heap.size (wi.setCell ⟨gl, i, none⟩ (.string s)) (((wi.setCell ⟨gl, i, none⟩ (.string s)).alloc o).drew) := ((Below.refl _ _).alloc (Nat.le_refl _) _).trans ((below_drewN _ 1).mono (by simp))
            exact ⟨T, (L.map RS).set i s, U.map RS, _, _, _, _, _, _, _, _, _, hb7.below hY hb7.lt, hPA.below hY, .inl rfl, txt_set hLt i hs, hUt, hbY.trans (hY.mono hbY.size)⟩
          clear hol2 hou2 hrl hru hP
          obtain rfl | rfl | rfl : jm = 0 ∨ jm = 1 ∨ jm = 2 := by omega
          all_goals
            go_upto_region 7 with fail
            go_region
            all_goals
              go_wp2_with fail
              go_meet
              exact HSM.out _ _ (by decide)
      · as_aux_lemma =>
          -- a number is changed
          rw [h6] at htm
          obtain ⟨i, hi, hiL⟩ : ∃ i : Nat, az.tmod (U.length : Int) = (i : Int) ∧ i < U.length := ⟨(az.tmod (U.length : Int)).toNat, by have := Int.tmod_nonneg (U.length : Int) hz1; omega, by have := Int.tmod_lt_of_pos az (show (0 : Int) < (U.length : Int) by omega); have := Int.tmod_nonneg (U.length : Int) hz1; omega⟩
          obtain ⟨jm, hjm, hjm3⟩ : ∃ j : Nat, az.tmod 3 = (j : Int) ∧ j < 3 := ⟨(az.tmod 3).toNat, by have := Int.tmod_nonneg 3 hz1; omega, by have := Int.tmod_lt_of_pos az (show (0 : Int) < 3 by omega); have := Int.tmod_nonneg 3 hz1; omega⟩
          have k0 : wi.cell? ⟨gu, i, none⟩ = some (.string ((U.map RS)[i]'(by rw [hlu]; exact hiL))) := by
            have h1 := World.ownsRow.cells hou2 (g := gu) rfl i (.string ((U.map RS)[i]'(by rw [hlu]; exact hiL))) (by rw [List.getElem?_map, List.getElem?_eq_getElem (by rw [hlu]; exact hiL)]; rfl)
            rw [addr_add0] at h1
            exact h1
          generalize (U.map RS)[i]'_ = olds at *
          have k0f : wi.frozen? ⟨gu, i, none⟩ = false := by
            rcases hou2.2 with ⟨_, h0⟩ | ⟨g, cap, cur, hv, _, hgg, _⟩
            · rw [hlu] at h0; omega
            · injection hv with h1 _ _
              injection h1 with h1
              injection h1 with h1 _ _
              subst h1
              simp [World.frozen?, hgg]
          have hw1 : IntKind.i64.wrap (i : Int) = (i : Int) := IntWalk.i64_in _ (by omega)
          have hw2 : IntKind.i64.wrap az = az := IntWalk.i64_in _ (by omega)
          have hiz : (i : Int) < (U.length : Int) := by omega
          have hN0 : (0 : Int) < (U.length : Int) := by omega
          have hN1 : ¬ U.length = 0 := by omega
          have hN2 : ((U.length : Int) == 0) = false := by rw [beq_eq_false_iff_ne]; omega
          have hN3 : ¬ (U.length : Int) = 0 := by omega
          have hN4 : ¬ U = [] := by intro e; rw [e] at hN1; simp at hN1
          have x2 := v7.cell 3 rfl
          have x2_1 := fun o => cell_alloc_l o x2
          have k0_1 := fun o => cell_alloc_l o k0
          have k0f_1 := fun o => frozen_alloc_l o k0 k0f
          have hgb : gu ≠ w2.heap.size := by omega
          have HSM : Hid (∀ (s : ByteArray) (o : Obj), s.size < 1000000000 → ∃ (T' : List Tri) (l' u' : List ByteArray) (pt' pl' pu' : Option Addr) (nt ct' nl cl' nu cu' : Nat), BoxN (((wi.setCell ⟨gu, i, none⟩ (.string s)).alloc o).drew) w2.heap.size 44 [.slice pp P.length cp, .slice pt' nt ct', .slice pl' nl cl', .slice pu' nu cu'] ∧
            PairAny (((wi.setCell ⟨gu, i, none⟩ (.string s)).alloc o).drew) (.slice pp P.length cp) (.slice pt' nt ct') (.slice pl' nl cl') (.slice pu' nu cu') P T' l' u' ∧ (T' = T ∨ T' = T.tail) ∧ TxtOK l' ∧ TxtOK u' ∧ Below w2.heap.size w2 (((wi.setCell ⟨gu, i, none⟩ (.string s)).alloc o).drew)) := fun s o hs => by
            have hbY : Below w2.heap.size w2 (wi.setCell ⟨gu, i, none⟩ (.string s)) := hbc.setCell (p := ⟨gu, i, none⟩) (by show w2.heap.size ≤ gu; omega) _
            have hb7 : BoxN (wi.setCell ⟨gu, i, none⟩ (.string s)) w2.heap.size 44 [.slice pp P.length cp, .slice (some ⟨bt, ot, none⟩) T.length ct, .slice (some ⟨gl, 0, none⟩) L.length c8, .slice (some ⟨gu, 0, none⟩) U.length c9] := (Below.heap_setCell _ _ _ _ (fun e => hgb e.symm)).trans v7
            have hPA : PairAny (wi.setCell ⟨gu, i, none⟩ (.string s)) (.slice pp P.length cp) (.slice (some ⟨bt, ot, none⟩) T.length ct) (.slice (some ⟨gl, 0, none⟩) L.length c8) (.slice (some ⟨gu, 0, none⟩) U.length c9) P (T) (L.map RS) ((U.map RS).set i s) := ⟨(HPI.out.below hbY).l.p, (HPI.out.below hbY).l.t, RdC.set_far hrl (slice_ne (fun e => hgne e.symm)), rds_set hru (by rw [hlu]; exact hiL)⟩
            have hY : Below (wi.setCell ⟨gu, i, none⟩ (.string s)).heap.size (wi.setCell ⟨gu, i, none⟩ (.string s)) (((wi.setCell ⟨gu, i, none⟩ (.string s)).alloc o).drew) := ((Below.refl _ _).alloc (Nat.le_refl _) _).trans ((below_drewN _ 1).mono (by simp))
            exact ⟨T, L.map RS, (U.map RS).set i s, _, _, _, _, _, _, _, _, _, hb7.below hY hb7.lt, hPA.below hY, .inl rfl, hLt, txt_set hUt i hs, hbY.trans (hY.mono hbY.size)⟩
          clear hol2 hou2 hrl hru hP
          obtain rfl | rfl | rfl : jm = 0 ∨ jm = 1 ∨ jm = 2 := by omega
          all_goals
            go_upto_region 9 with fail
            go_region
            all_goals
              go_wp2_with fail
              go_meet
              exact HSM.out _ _ (by decide)
      · as_aux_lemma =>
          -- the upper surface without its first number
          rw [h6] at htm
          have x3 := v7.cell 3 rfl
          have x3f := v7.frozen 3
          have hU1 : (1 : Int) ≤ (U.length : Int) := by omega
          have hc9 : U.length ≤ c9 ∧ c9 ≤ maxLen := by
            obtain ⟨p', c', hv, h1, h2, _⟩ := RdC.of_owns hou2
            injection hv with _ _ h3
            subst h3
            rw [hlu] at h1
            exact ⟨h1, h2⟩
          have hc9z : (1 : Int) ≤ (c9 : Int) := by omega
          have hUN : U.map RS ≠ [] := by intro e; rw [List.map_eq_nil_iff] at e; rw [e] at hU0; simp at hU0
          have HUN := Lib.hid hUN
          have HC9 := Lib.hid hc9
          clear hUN hc9
          have hXX := fun v => hbc.setCell (p := ⟨w2.heap.size, 3, none⟩) (Nat.le_refl _) v
          have HXX := Lib.hid hXX
          clear hXX
          by_cases hc1 : c9 = 1
          · subst hc1
            go_wp2_with fail
            go_meet
            exact ⟨T, L.map RS, (U.map RS).tail, _, _, _, _, _, _, _, _, _, v7.set 3 _, ⟨(HPI.out.below (HXX.out _)).l.p, (HPI.out.below (HXX.out _)).l.t, RdC.set_far hrl (slice_ne (by omega)), RdC.set_far (RdS.tail hru HUN.out (p := some ⟨gu, 0, none⟩) (by rw [if_pos rfl])) (slice_ne (by omega))⟩, .inl rfl, hLt, txt_tail hUt, HXX.out _⟩
          · go_wp2_with fail
            go_meet
            exact ⟨T, L.map RS, (U.map RS).tail, _, _, _, _, _, _, _, _, _, v7.set 3 _, ⟨(HPI.out.below (HXX.out _)).l.p, (HPI.out.below (HXX.out _)).l.t, RdC.set_far hrl (slice_ne (by omega)), RdC.set_far (RdS.tail hru HUN.out (p := some ⟨gu, 1, none⟩) (by rw [if_neg hc1])) (slice_ne (by omega))⟩, .inl rfl, hLt, txt_tail hUt, HXX.out _⟩
      · as_aux_lemma =>
          -- the mesh without its first triangle
          rw [h6] at htm
          have x1 := v7.cell 1 rfl
          have x1f := v7.frozen 1
          have hT1 : (1 : Int) ≤ (T.length : Int) := by omega
          have hctz : (1 : Int) ≤ (ct : Int) := by omega
          have hXX := fun v => hbc.setCell (p := ⟨w2.heap.size, 1, none⟩) (Nat.le_refl _) v
          have HXX := Lib.hid hXX
          clear hXX
          by_cases hc1 : ct = 1
          · subst hc1
            have hTe : T.tail = [] := List.length_eq_zero_iff.1 (by rw [List.length_tail]; omega)
            go_wp2_with fail
            go_meet
            exact ⟨T.tail, L.map RS, U.map RS, _, _, _, _, _, _, _, _, _, v7.set 1 _, ⟨(HPI.out.below (HXX.out _)).l.p, (by rw [hTe]; exact RdC.nil 3 _ 0 (by decide) _), RdC.set_far hrl (slice_ne (by omega)), RdC.set_far hru (slice_ne (by omega))⟩, .inr rfl, hLt, hUt, HXX.out _⟩
          · go_wp2_with fail
            go_meet
            exact ⟨T.tail, L.map RS, U.map RS, _, _, _, _, _, _, _, _, _, v7.set 1 _, ⟨(HPI.out.below (HXX.out _)).l.p, RdT.tail (HPI.out.below (HXX.out _)).l.t HTN.out (p := some ⟨bt, ot + 3, none⟩) (by rw [if_neg hc1]), RdC.set_far hrl (slice_ne (by omega)), RdC.set_far hru (slice_ne (by omega))⟩, .inr rfl, hLt, hUt, HXX.out _⟩
      · as_aux_lemma =>
          -- one number more
          rw [h6] at htm
          have x2 := v7.cell 2 rfl
          have hbz := hbc.size
          have HOL := Lib.hid hol2
          have hLm : L.length + 1 ≤ 401 := by omega
          obtain ⟨i0, hi, hz0, hz1', hz2'⟩ := info_parts info_str
          rw [hll] at hol2
          go_wp2_with (at_builtin; refine wpList_append_own _ rfl _ _ 42 rfl (w2.heap.size + 1) 33 i0 (.string ⟨#[]⟩) 1 16 Tryz.underlying42 hi hz0 hz1' hz2' rfl (by decide) _ _ _ rfl (hol2.alloc _) ⟨wi.heap.size, 0, none⟩ 1 1 [.string ⟨#[48]⟩] rfl rfl (cell_one_str _ _ _) (one_cell_str _) (by unfold maxLen; omega) (by omega) (by simp; omega) ?_
                       intro v9 w9 hown9 hgrow9 _
                       obtain ⟨g9, c9', rfl, hg91, hg92⟩ := own_at hown9 (by omega)
                       have hX : Below w2.heap.size w2 w9 := (hbc.alloc hbz _).grown hgrow9 (by simp; omega) (fun j hj => by have := (hol2.lt j hj).1; omega)
                       have v79' := v7.below ((Below.refl _ _).alloc (Nat.le_refl _) (.cells #[.string ⟨#[48]⟩] 33)) v7.lt
                       have v79 : BoxN w9 w2.heap.size 44 [.slice pp P.length cp, .slice (some ⟨bt, ot, none⟩) T.length ct, .slice (some ⟨gl, 0, none⟩) L.length c8, .slice (some ⟨gu, 0, none⟩) U.length c9] := (hgrow9.block _ v79'.lt (fun e => by have h1 := hol2.lt _ e.symm; omega)).trans v79'
                       have hou9 := World.ownsRow.kept (hou2.alloc (.cells #[.string ⟨#[48]⟩] 33)) hgrow9 (.inr (fun e => hgne (Option.some.inj (show some gu = some gl from e)).symm))
                       have x29 := v79.cell 2 rfl
                       have x29f := v79.frozen 2
                       clear hgrow9 v79')
          go_wp2_with fail
          go_meet
          have hrl9 : RdS w9 (.slice (some ⟨g9, 0, none⟩) (L.length + 1) c9') (L.map RS ++ [⟨#[48]⟩]) := by
            have h1 := RdC.of_owns hown9
            unfold RdS
            rw [List.length_append, hll, List.map_append]
            exact h1
          have hXX := hX.setCell (p := ⟨w2.heap.size, 2, none⟩) (Nat.le_refl _) (.slice (some ⟨g9, 0, none⟩) (L.length + 1) c9')
          have hPA : PairAny (w9.setCell ⟨w2.heap.size, 2, none⟩ (.slice (some ⟨g9, 0, none⟩) (L.length + 1) c9')) (.slice pp P.length cp) (.slice (some ⟨bt, ot, none⟩) T.length ct) (.slice (some ⟨g9, 0, none⟩) (L.length + 1) c9') (.slice (some ⟨gu, 0, none⟩) U.length c9) P T (L.map RS ++ [(⟨#[48]⟩ : ByteArray)]) (U.map RS) :=
            ⟨(HPI.out.below hXX).l.p, (HPI.out.below hXX).l.t, RdC.set_far hrl9 (slice_ne (by omega)), RdC.set_far (own_rds hou9) (slice_ne (by omega))⟩
          have hTX : TxtOK (L.map RS ++ [(⟨#[48]⟩ : ByteArray)]) := ⟨fun x hx => by
            rcases List.mem_append.1 hx with h | h
            · exact hLt.1 x h
            · rw [List.mem_singleton] at h
              subst h
              decide, by rw [List.length_append, hll, List.length_singleton]; omega⟩
          exact ⟨T, L.map RS ++ [(⟨#[48]⟩ : ByteArray)], U.map RS, _, _, _, _, _, _, _, _, _, v79.set 2 _, hPA, .inl rfl, hTX, hUt, hXX⟩
    case rest =>
      as_aux_lemma =>
        obtain ⟨T', l', u', pt', pl', pu', nt, ct', nl, cl', nu, cu', v71, hPA, hTT, hlo, huo, hbx⟩ := hcut
        obtain ⟨wj, hwj⟩ : ∃ wj : World, wj = wc := ⟨_, rfl⟩
        subst hwj
        clear v7 hol hou hbc
        have hpre : T' ≠ [] → MeshPre P T' 2 := HPR.out T' hTT
        have HPA := Lib.hid hPA
        have HBX := Lib.hid hbx
        have hBj : Below w.heap.size w wj := hB2.trans (hbx.mono hB2.size)
        have HCH : Hid (∀ w', Below wj.heap.size wj w' → Good w' → _) := fun w' hb hg' => check38_gen w' _ _ _ _ P T' l' u' (HPA.out.below hb) hpre hlo huo hg'
        have HTC : Hid (∀ w', Below wj.heap.size wj w' → Good w' → _) := fun w' hb hg' => tcheck_gen w' _ _ _ _ P T' l' u' (HPA.out.below hb) hpre hlo huo hg'
        obtain ⟨e, he⟩ : ∃ e, e = pairE P T' l' u' := ⟨_, rfl⟩
        rw [← he] at HCH HTC
        generalize P.length = np at *
        clear he hPA hTT hlo huo hpre hbx HPR HPI
        have hgj := hg.below hBj
        obtain ⟨X0, hX0⟩ : ∃ X, X = wj := ⟨_, rfl⟩
        have hj0 : Below wj.heap.size wj X0 := by rw [hX0]; exact Below.refl _ _
        have v7_0 : BoxN X0 w2.heap.size 44 [.slice pp np cp, .slice pt' nt ct', .slice pl' nl cl', .slice pu' nu cu'] := by rw [hX0]; exact v71
        rw [← hX0]
        clear hX0 v71
        have d0 := v7_0.cell 0 rfl
        have d1 := v7_0.cell 1 rfl
        have d2 := v7_0.cell 2 rfl
        have d3 := v7_0.cell 3 rfl
        go_wp2_with fail
        refine (HCH.out X0 hj0 (hgj.below hj0)).mono ?_
        rintro x X1 ⟨_, rfl, rfl, hb⟩
        have hj1 := hj0.trans (hb.mono hj0.size)
        have v7_1 := v7_0.below hb v7_0.lt
        clear hb d0 d1 d2 d3 v7_0 hj0
        have d0 := v7_1.cell 0 rfl
        have d1 := v7_1.cell 1 rfl
        have d2 := v7_1.cell 2 rfl
        have d3 := v7_1.cell 3 rfl
        go_wp2_with fail
        refine (HTC.out X1 hj1 (hgj.below hj1)).mono ?_
        rintro x X2 ⟨_, rfl, rfl, hb⟩
        have hj2 := hj1.trans (hb.mono hj1.size)
        have v7_2 := v7_1.below hb v7_1.lt
        clear hb d0 d1 d2 d3 v7_1 hj1
        by_cases he0 : e = 0
        · subst he0
          go_wp2_with fail
          go_ret
          exact ⟨_, rfl, rfl, hBj.trans (hj2.mono hBj.size)⟩
        have HCK : Hid (∀ w', Below wj.heap.size wj w' → ∀ w'', Below w'.heap.size w' w'' → Good w'' → _) := fun w' hb w'' hb' hg'' => HTC.out w'' (hb.trans (hb'.mono hb.size)) hg''
        have G1 : Hid (∀ w', Below wj.heap.size wj w' → Good w' → _) := fun w' hb hg' => vertical_err w' pp pt' pl' pu' np cp nt ct' nl cl' nu cu' e he0 (HCK.out w' hb) hg'
        have G2 : Hid (∀ w', Below wj.heap.size wj w' → Good w' → _) := fun w' hb hg' => at_err9 w' pp pt' pl' pu' np cp nt ct' nl cl' nu cu' e he0 ⟨#[48]⟩ ⟨#[48]⟩ (HCK.out w' hb) hg'
        have G3 : Hid (∀ w', Below wj.heap.size wj w' → Good w' → _) := fun w' hb hg' => extremes_err w' pp pt' pl' pu' np cp nt ct' nl cl' nu cu' e he0 (HCK.out w' hb) hg'
        have G4 : Hid (∀ w', Below wj.heap.size wj w' → Good w' → _) := fun w' hb hg' => mean_err w' pp pt' pl' pu' np cp nt ct' nl cl' nu cu' e he0 (HCK.out w' hb) hg'
        have G5 : Hid (∀ w', Below wj.heap.size wj w' → Good w' → _) := fun w' hb hg' => parallel_err9 w' pp pt' pl' pu' np cp nt ct' nl cl' nu cu' e he0 0 (HCK.out w' hb) hg'
        have G6 : Hid (∀ w', Below wj.heap.size wj w' → Good w' → _) := fun w' hb hg' => squared_err9 w' pp pt' pl' pu' np cp nt ct' nl cl' nu cu' e he0 0 (HCK.out w' hb) hg'
        have G7 : Hid (∀ w', Below wj.heap.size wj w' → Good w' → _) := fun w' hb hg' => toward_err9 w' pp pt' pl' pu' np cp nt ct' nl cl' nu cu' e he0 0 ⟨#[48]⟩ ⟨#[48]⟩ ⟨#[49]⟩ (HCK.out w' hb) hg'
        have G8 : Hid (∀ w', Below wj.heap.size wj w' → Good w' → _) := fun w' hb hg' => isopach_err w' pp pt' pl' pu' np cp nt ct' nl cl' nu cu' e he0 ⟨#[48]⟩ (HCK.out w' hb) hg'
        clear HCK HCH HTC
        have d0 := v7_2.cell 0 rfl
        have d1 := v7_2.cell 1 rfl
        have d2 := v7_2.cell 2 rfl
        have d3 := v7_2.cell 3 rfl
        go_wp2_with fail
        refine (G1.out X2 hj2 (hgj.below hj2)).mono ?_
        rintro x X3 ⟨_, rfl, rfl, hb⟩
        have hj3 := hj2.trans (hb.mono hj2.size)
        have v7_3 := v7_2.below hb v7_2.lt
        clear hb d0 d1 d2 d3 v7_2 hj2
        have d0 := v7_3.cell 0 rfl
        have d1 := v7_3.cell 1 rfl
        have d2 := v7_3.cell 2 rfl
        have d3 := v7_3.cell 3 rfl
        go_wp2_with fail
        refine (G2.out X3 hj3 (hgj.below hj3)).mono ?_
        rintro x X4 ⟨_, rfl, rfl, hb⟩
        have hj4 := hj3.trans (hb.mono hj3.size)
        have v7_4 := v7_3.below hb v7_3.lt
        clear hb d0 d1 d2 d3 v7_3 hj3
        have d0 := v7_4.cell 0 rfl
        have d1 := v7_4.cell 1 rfl
        have d2 := v7_4.cell 2 rfl
        have d3 := v7_4.cell 3 rfl
        go_wp2_with fail
        refine (G3.out X4 hj4 (hgj.below hj4)).mono ?_
        rintro x X5 ⟨_, rfl, rfl, hb⟩
        have hj5 := hj4.trans (hb.mono hj4.size)
        have v7_5 := v7_4.below hb v7_4.lt
        clear hb d0 d1 d2 d3 v7_4 hj4
        have d0 := v7_5.cell 0 rfl
        have d1 := v7_5.cell 1 rfl
        have d2 := v7_5.cell 2 rfl
        have d3 := v7_5.cell 3 rfl
        go_wp2_with fail
        refine (G4.out X5 hj5 (hgj.below hj5)).mono ?_
        rintro x X6 ⟨_, rfl, rfl, hb⟩
        have hj6 := hj5.trans (hb.mono hj5.size)
        have v7_6 := v7_5.below hb v7_5.lt
        clear hb d0 d1 d2 d3 v7_5 hj5
        have d0 := v7_6.cell 0 rfl
        have d1 := v7_6.cell 1 rfl
        have d2 := v7_6.cell 2 rfl
        have d3 := v7_6.cell 3 rfl
        go_wp2_with fail
        refine (G5.out X6 hj6 (hgj.below hj6)).mono ?_
        rintro x X7 ⟨_, rfl, rfl, hb⟩
        have hj7 := hj6.trans (hb.mono hj6.size)
        have v7_7 := v7_6.below hb v7_6.lt
        clear hb d0 d1 d2 d3 v7_6 hj6
        have d0 := v7_7.cell 0 rfl
        have d1 := v7_7.cell 1 rfl
        have d2 := v7_7.cell 2 rfl
        have d3 := v7_7.cell 3 rfl
        go_wp2_with fail
        refine (G6.out X7 hj7 (hgj.below hj7)).mono ?_
        rintro x X8 ⟨_, rfl, rfl, hb⟩
        have hj8 := hj7.trans (hb.mono hj7.size)
        have v7_8 := v7_7.below hb v7_7.lt
        clear hb d0 d1 d2 d3 v7_7 hj7
        have d0 := v7_8.cell 0 rfl
        have d1 := v7_8.cell 1 rfl
        have d2 := v7_8.cell 2 rfl
        have d3 := v7_8.cell 3 rfl
        go_wp2_with fail
        refine (G7.out X8 hj8 (hgj.below hj8)).mono ?_
        rintro x X9 ⟨_, rfl, rfl, hb⟩
        have hj9 := hj8.trans (hb.mono hj8.size)
        have v7_9 := v7_8.below hb v7_8.lt
        clear hb d0 d1 d2 d3 v7_8 hj8
        have d0 := v7_9.cell 0 rfl
        have d1 := v7_9.cell 1 rfl
        have d2 := v7_9.cell 2 rfl
        have d3 := v7_9.cell 3 rfl
        go_wp2_with fail
        refine (G8.out X9 hj9 (hgj.below hj9)).mono ?_
        rintro x X10 ⟨_, rfl, rfl, hb⟩
        have hj10 := hj9.trans (hb.mono hj9.size)
        have v7_10 := v7_9.below hb v7_9.lt
        clear hb d0 d1 d2 d3 v7_9 hj9
        go_wp2_with fail
        go_ret
        exact ⟨_, rfl, rfl, hBj.trans (hj10.mono hBj.size)⟩

end Go.Proofs.YtjfjkiibmfgplaaGreatDoor
