/- The walk over klippelaw38.ThicknessFields. -/
import Derived.Test.YtjfjkiibmfgplaaGreatDoorY6
import Derived.Test.YtjfjkiibmfgplaaGreatDoorZ3
import Derived.Deep.MidRow
import Derived.Deep.DeepCutAuto
namespace Go.Proofs.YtjfjkiibmfgplaaGreatDoor
open Go.RowKit Go.Lib

def lessT (b : Bool) (T : List Tri) : List Tri := if b then T.tail else T
theorem RdC.set_blk {sz : Nat} {w : World} {g n c b i : Nat} {x : Value} {cs : List Value} (h : RdC sz w (.slice (some ⟨g, 0, none⟩) n c) n cs) (hne : b ≠ g) : RdC sz (w.setCell ⟨b, i, none⟩ x) (.slice (some ⟨g, 0, none⟩) n c) n cs := by
  obtain ⟨p, c', hv, h1, h2, h3, h4⟩ := h
  refine ⟨p, c', hv, h1, h2, h3, fun hn => ?_⟩
  obtain ⟨b', off, hp, hc⟩ := h4 hn
  injection hv with e1 _ _
  rw [hp] at e1
  injection e1 with e1
  injection e1 with e1 _ _
  refine ⟨b', off, hp, fun j y hy => ?_⟩
  rw [World.cell?_setCell_far _ _ _ _ (by show b ≠ b'; omega)]
  exact hc j y hy

theorem cellsT_len (T : List Tri) : (cellsT T).length = T.length * 3 := by
  unfold cellsT
  induction T with
  | nil => rfl
  | cons a T ih => rw [List.flatMap_cons, List.length_append, ih, List.length_cons]; simp; omega
theorem RdT.tail {w : World} {b o c : Nat} {T : List Tri} (h : RdT w (.slice (some ⟨b, o, none⟩) T.length c) T) (hne : T ≠ []) {p : Option Addr} (hp : p = if c = 1 then some ⟨b, o, none⟩ else some ⟨b, o + 3, none⟩) : RdT w (.slice p (T.length - 1) (c - 1)) T.tail := by
  obtain ⟨q, c', hv, h1, h2, h3, h4⟩ := h
  injection hv with e1 _ e3
  subst e3
  have hl := List.length_pos_iff.2 hne
  refine ⟨p, c - 1, by rw [List.length_tail], by rw [List.length_tail]; omega, by omega, cellsT_len _, fun hn => ?_⟩
  have hT2 : T.length ≠ 1 := fun e => by
    apply hn
    have : T.tail = [] := List.length_eq_zero_iff.1 (by rw [List.length_tail, e])
    rw [this]; rfl
  obtain ⟨b', off, hq, hc⟩ := h4 (fun e => by have := cellsT_len T; rw [e] at this; simp at this; omega)
  rw [hq] at e1
  injection e1 with e1
  injection e1 with e1 e4 _
  subst e1 e4
  rw [if_neg (by omega)] at hp
  refine ⟨b, o + 3, hp, fun i x hx => ?_⟩
  have hx2 : (cellsT T)[3 + i]? = some x := by
    cases T with
    | nil => exact absurd rfl hne
    | cons a T =>
      show ([Value.int .i64 a.1, .int .i64 a.2.1, .int .i64 a.2.2] ++ cellsT T)[3 + i]? = some x
      rw [List.getElem?_append_right (by simp), show 3 + i - [Value.int .i64 a.1, .int .i64 a.2.1, .int .i64 a.2.2].length = i by simp]
      exact hx
  have := hc (3 + i) x hx2
  rw [← Nat.add_assoc] at this
  exact this

set_option maxHeartbeats 8000000 in
set_option maxRecDepth 100000 in
/-- A text that is too long: the examples alone. -/
theorem fields_long (w : World) (kz s0 s1 : Int) (half : Bool) (a0 a1 a2 a3 a4 a5 : Int) (ah : Bool) (b0 b1 b2 b3 b4 b5 : Int) (bh even : Bool) (add : Int) (s : ByteArray) (less : Bool) (hs : 20 < s.size) (hg : Good w) :
    Calls Tryz.prog 7 #[.agg #[.int .u8 kz, .int .i8 s0, .int .i8 s1, .bool half, .int .i8 a0, .int .i8 a1, .int .i8 a2, .int .i8 a3, .int .i8 a4, .int .i8 a5, .bool ah, .int .i8 b0, .int .i8 b1, .int .i8 b2, .int .i8 b3, .int .i8 b4, .int .i8 b5, .bool bh, .bool even, .int .i8 add], .string s, .bool less] w (Ret (fun r _ => r = .bool true) w) := by
  have hx : (20 : Int) < (s.size : Int) := by omega
  go_enter Tryz.func7, Tryz.ntmps7
  go_wp2_with fail
  obtain ⟨W, hW⟩ : ∃ W, W = w.alloc (.cells #[.int .u8 kz, .int .i8 s0, .int .i8 s1, .bool half, .int .i8 a0, .int .i8 a1, .int .i8 a2, .int .i8 a3, .int .i8 a4, .int .i8 a5, .bool ah, .int .i8 b0, .int .i8 b1, .int .i8 b2, .int .i8 b3, .int .i8 b4, .int .i8 b5, .bool bh, .bool even, .int .i8 add] 32) := ⟨_, rfl⟩
  have hB : Below w.heap.size w W := by rw [hW]; exact (Below.refl _ _).alloc (Nat.le_refl _) _
  rw [← hW]
  clear hW
  refine (known_any W (hg.below hB)).mono ?_
  rintro e w1 ⟨_, rfl, rfl, hb1⟩
  have hB1 := hB.trans (hb1.mono hB.size)
  clear hb1 hB
  go_wp2_with fail
  refine (known_any w1 (hg.below hB1)).mono ?_
  rintro e w2 ⟨_, rfl, rfl, hb2⟩
  go_wp2_with fail
  go_ret
  exact ⟨_, rfl, rfl, hB1.trans (hb2.mono hB1.size)⟩

set_option maxHeartbeats 8000000 in
set_option maxRecDepth 100000 in
theorem fields_ok (w : World) (kz s0 s1 : Int) (half : Bool) (a0 a1 a2 a3 a4 a5 : Int) (ah : Bool) (b0 b1 b2 b3 b4 b5 : Int) (bh even : Bool) (add : Int) (s : ByteArray) (less : Bool) (P : List PtQ) (T : List Tri) (L U : List Rat) (hs : s.size ≤ 20) (hLne : L ≠ []) (hLl : L.length ≤ 1000000) (hTne : T ≠ [])
    (HMK : Hid (∀ w, Good w → Calls Tryz.prog 11 #[.agg #[.int .u8 kz, .int .i8 s0, .int .i8 s1, .bool half, .int .i8 a0, .int .i8 a1, .int .i8 a2, .int .i8 a3, .int .i8 a4, .int .i8 a5, .bool ah, .int .i8 b0, .int .i8 b1, .int .i8 b2, .int .i8 b3, .int .i8 b4, .int .i8 b5, .bool bh, .bool even, .int .i8 add]] w (Ret (fun r w' => ∃ vp vt vl vu, r = .agg #[vp, vt, vl, vu] ∧ PairIn w' vp vt vl vu P T 2 L U) w)))
    (HFC : Hid (∀ (w : World) (vp vt vf : Value), RdP w vp (strP P) → RdT w vt (lessT less T) → RdS w vf (s :: (L.map RS).tail) → Good w → Calls Tryz.prog 39 #[.agg #[vp, vt], vf] w (Ret (fun r _ => r = .int .i64 0) w)))
    (HMC : Hid (∀ (w : World) (vp vt : Value), RdP w vp (strP P) → RdT w vt (lessT less T) → Good w → Calls Tryz.prog 40 #[.agg #[vp, vt]] w (Ret (fun r _ => r = .int .i64 0) w))) (hg : Good w) :
    Calls Tryz.prog 7 #[.agg #[.int .u8 kz, .int .i8 s0, .int .i8 s1, .bool half, .int .i8 a0, .int .i8 a1, .int .i8 a2, .int .i8 a3, .int .i8 a4, .int .i8 a5, .bool ah, .int .i8 b0, .int .i8 b1, .int .i8 b2, .int .i8 b3, .int .i8 b4, .int .i8 b5, .bool bh, .bool even, .int .i8 add], .string s, .bool less] w (Ret (fun r _ => r = .bool true) w) := by
  have hs' : (s.size : Int) ≤ 20 := by omega
  obtain ⟨l, hl⟩ : ∃ l, l = s :: (L.map RS).tail := ⟨_, rfl⟩
  rw [← hl] at HFC
  have HLD := Lib.hid hl
  have hL0 : 0 < L.length := List.length_pos_iff.2 hLne
  have hlen : l.length = L.length := by rw [hl, List.length_cons, List.length_tail, List.length_map]; omega
  have HLN := Lib.hid hlen
  have HCL : Hid (∀ w vl, RdQ w vl L → _) := fun w vl h => clone_any w vl L h hLne hLl
  have HTN := Lib.hid hTne
  clear hl hlen hLne hTne
  go_enter Tryz.func7, Tryz.ntmps7
  go_wp2_with fail
  obtain ⟨W, hW⟩ : ∃ W, W = w.alloc (.cells #[.int .u8 kz, .int .i8 s0, .int .i8 s1, .bool half, .int .i8 a0, .int .i8 a1, .int .i8 a2, .int .i8 a3, .int .i8 a4, .int .i8 a5, .bool ah, .int .i8 b0, .int .i8 b1, .int .i8 b2, .int .i8 b3, .int .i8 b4, .int .i8 b5, .bool bh, .bool even, .int .i8 add] 32) := ⟨_, rfl⟩
  have hB : Below w.heap.size w W := by rw [hW]; exact (Below.refl _ _).alloc (Nat.le_refl _) _
  have v3 : BoxN W w.heap.size 32 [.int .u8 kz, .int .i8 s0, .int .i8 s1, .bool half, .int .i8 a0, .int .i8 a1, .int .i8 a2, .int .i8 a3, .int .i8 a4, .int .i8 a5, .bool ah, .int .i8 b0, .int .i8 b1, .int .i8 b2, .int .i8 b3, .int .i8 b4, .int .i8 b5, .bool bh, .bool even, .int .i8 add] := by rw [hW]; exact BoxN.new _ _ _ _ rfl
  rw [← hW]
  clear hW
  refine (known_any W (hg.below hB)).mono ?_
  rintro e' w1 ⟨_, rfl, rfl, hb1⟩
  have hB1 := hB.trans (hb1.mono hB.size)
  have v31 := v3.below hb1 v3.lt
  have hrange : w1.rangeAt w.heap.size 0 [.int .u8 kz, .int .i8 s0, .int .i8 s1, .bool half, .int .i8 a0, .int .i8 a1, .int .i8 a2, .int .i8 a3, .int .i8 a4, .int .i8 a5, .bool ah, .int .i8 b0, .int .i8 b1, .int .i8 b2, .int .i8 b3, .int .i8 b4, .int .i8 b5, .bool bh, .bool even, .int .i8 add] := fun j v hv => by rw [Nat.zero_add]; exact v31.cell j hv
  clear hb1 hB v3
  go_upto_region 3 with fail
  go_wp2_with (refine wpList_load_mid (by rfl) 32 (.tmp 3) (by rfl) w.heap.size 0 (by rfl) [.int .u8 kz, .int .i8 s0, .int .i8 s1, .bool half, .int .i8 a0, .int .i8 a1, .int .i8 a2, .int .i8 a3, .int .i8 a4, .int .i8 a5, .bool ah, .int .i8 b0, .int .i8 b1, .int .i8 b2, .int .i8 b3, .int .i8 b4, .int .i8 b5, .bool bh, .bool even, .int .i8 add] _ hrange Tryz.underlying32 (by rfl) (by kernel_rfl) ?_)
  refine (HMK.out w1 (hg.below hB1)).mono ?_
  rintro e' w2 ⟨_, rfl, ⟨vp, vt, vl, vu, rfl, hPI⟩, hb2⟩
  obtain ⟨pp, cp, pt, ct, pl, cl, pu, cu, rfl, rfl, rfl, rfl⟩ := hPI.open
  obtain ⟨pt', ct', hvt, hct1, hct2, htr⟩ := hPI.l.t.open
  injection hvt with e1 e2' e3
  subst e1 e3
  obtain ⟨bt, ot, rfl, hbt, -⟩ := htr HTN.out
  have hB2 := hB1.trans (hb2.mono hB1.size)
  have HPI := Lib.hid hPI
  have hT0 : 0 < T.length := List.length_pos_iff.2 HTN.out
  have hB2z := hB2.size
  clear hrange v31 hb2 hB1 htr e2'
  go_upto_region 4 with fail
  obtain ⟨W3, hW3⟩ : ∃ W, W = w2.alloc (.cells #[.slice pp P.length cp, .slice (some ⟨bt, ot, none⟩) T.length ct, .slice pl L.length cl, .slice pu U.length cu] 44) := ⟨_, rfl⟩
  have hb3 : Below w2.heap.size w2 W3 := by rw [hW3]; exact (Below.refl _ _).alloc (Nat.le_refl _) _
  have v7 : BoxN W3 w2.heap.size 44 [.slice pp P.length cp, .slice (some ⟨bt, ot, none⟩) T.length ct, .slice pl L.length cl, .slice pu U.length cu] := by rw [hW3]; exact BoxN.new _ _ _ _ rfl
  rw [← hW3]
  clear hW3
  have hB3 := hB2.trans (hb3.mono hB2.size)
  have hP3 := hPI.below hb3
  have hb23 := hb3
  have d2 := v7.cell 2 rfl
  have hl7 := v7.lt
  clear hPI hb3
  go_wp2_with fail
  refine (HCL.out W3 _ hP3.l.f).mono ?_
  rintro e' w4 ⟨v8, rfl, hown, hb4⟩
  obtain ⟨g8, c8, rfl⟩ : ∃ g c, v8 = .slice (some ⟨g, 0, none⟩) L.length c := by
    rcases hown.2 with ⟨_, h0⟩ | ⟨g, cap, cur, rfl, _⟩
    · omega
    · exact ⟨g, cap, rfl⟩
  have hg8 := hown.lt g8 rfl
  have hB4 := hB3.trans (hb4.mono hB3.size)
  have hfc := World.ownsRow.cells hown (g := g8) rfl
  have hrow : ∃ cur, w4.heap[g8]? = some (.cells cur 33 (0, 0)) := by
    rcases hown.2 with ⟨_, h0⟩ | ⟨g, cap, cur, hv, _, hgg, _⟩
    · omega
    · injection hv with h1 _ _
      injection h1 with h1
      injection h1 with h1 _ _
      subst h1
      exact ⟨cur, hgg⟩
  obtain ⟨cur8, hcur8⟩ := hrow
  have hadd : ∀ j, (⟨g8, 0, none⟩ : Addr).add j = ⟨g8, j, none⟩ := fun j => by unfold Addr.add; split <;> simp_all
  have hfc' : ∀ (j : Nat) (hj : j < L.length), w4.cell? ⟨g8, j, none⟩ = some (.string (RS L[j])) := fun j hj => by
    have := hfc j (.string (RS L[j])) (by rw [List.getElem?_map, List.getElem?_eq_getElem hj]; rfl)
    rw [hadd] at this
    exact this
  have k0 := hfc' 0 hL0
  have k0f : w4.frozen? ⟨g8, 0, none⟩ = false := by simp [World.frozen?, hcur8]
  have HFC' := Lib.hid hfc'
  have hL0z : (0 : Int) < (L.length : Int) := by omega
  have hcap : L.length ≤ c8 ∧ c8 ≤ maxLen := by
    obtain ⟨p', c', hv, h1, h2, _⟩ := RdC.of_owns hown
    injection hv with _ _ h3
    subst h3
    exact ⟨h1, h2⟩
  clear d2 hfc hadd hown hcur8 cur8
  go_upto_region 6 with fail
  obtain ⟨W5, hW5⟩ : ∃ X, X = w4.setCell ⟨g8, 0, none⟩ (.string s) := ⟨_, rfl⟩
  have hfar : ∀ k, k ≠ g8 → W5.heap[k]? = w4.heap[k]? := fun k hk => by rw [hW5]; exact Below.heap_setCell _ _ _ k hk
  have hB5 : Below w.heap.size w W5 := by rw [hW5]; exact hB4.setCell (p := ⟨g8, 0, none⟩) (by show w.heap.size ≤ g8; have := hB3.size; omega) _
  have hb35 : Below W3.heap.size W3 W5 := by rw [hW5]; exact hb4.setCell (p := ⟨g8, 0, none⟩) hg8.1 _
  have hcell0 : W5.cell? ⟨g8, 0, none⟩ = some (.string s) := by rw [hW5]; exact World.cell?_setCell_same' _ _ _ (by rw [k0]; rfl)
  have hcellj : ∀ (j : Nat) (hj : j < L.length), 0 < j → W5.cell? ⟨g8, j, none⟩ = some (.string (RS L[j])) := fun j hj h0 => by
    rw [hW5, World.cell?_setCell_other _ _ _ _ (by intro e; injection e with _ e2 _; omega)]
    exact HFC'.out j hj
  have hrf : RdS W5 (.slice (some ⟨g8, 0, none⟩) L.length c8) l := by
    unfold RdS
    rw [HLN.out]
    refine ⟨_, c8, rfl, hcap.1, hcap.2, by rw [List.length_map, HLN.out, Nat.mul_one], fun _ => ⟨g8, 0, rfl, fun j x hx => ?_⟩⟩
    rw [Nat.zero_add]
    rw [HLD.out, List.map_cons] at hx
    cases j with
    | zero => simp at hx; subst hx; exact hcell0
    | succ j =>
      rw [List.getElem?_cons_succ, List.getElem?_map, List.getElem?_tail, List.getElem?_map] at hx
      have hj : j + 1 < L.length := by
        rcases Nat.lt_or_ge (j + 1) L.length with h | h
        · exact h
        · rw [List.getElem?_eq_none h] at hx; simp at hx
      rw [List.getElem?_eq_getElem hj] at hx
      simp at hx
      subst hx
      exact hcellj (j + 1) hj (by omega)
  have v75 := v7.below hb35 hl7
  have hb25 : Below w2.heap.size w2 W5 := hb23.trans (hb35.mono (by have := hb23.size; omega))
  rw [← hW5]
  clear hW5 hfar hcell0 hcellj k0 k0f v7 hb35 hB4 hb4 hP3 hB3
  cases less
  · have hrp : RdP W5 (.slice pp P.length cp) (strP P) := (HPI.out.below hb25).l.p
    have hrt : RdT W5 (.slice (some ⟨bt, ot, none⟩) T.length ct) (lessT false T) := (HPI.out.below hb25).l.t
    have x0 := v75.cell 0 rfl
    have x1 := v75.cell 1 rfl
    have hBX := hB5
    have vX := v75
    go_wp2_with fail
    refine (HFC.out W5 _ _ _ hrp hrt hrf (hg.below hBX)).mono ?_
    clear x0 x1
    rintro e' w6 ⟨_, rfl, rfl, hb6⟩
    have hB6 := hBX.trans (hb6.mono hBX.size)
    have v76 := vX.below hb6 vX.lt
    have hrp6 := RdC.below hrp hb6
    have hrt6 := RdC.below hrt hb6
    have hrf6 := RdC.below hrf hb6
    have x0 := v76.cell 0 rfl
    have x1 := v76.cell 1 rfl
    clear hrp hrt hrf hb6 hBX vX
    go_wp2_with fail
    refine (HMC.out w6 _ _ hrp6 hrt6 (hg.below hB6)).mono ?_
    rintro e' w7 ⟨_, rfl, rfl, hb7⟩
    have hB7 := hB6.trans (hb7.mono hB6.size)
    go_wp2_with fail
    go_ret
    exact ⟨_, rfl, rfl, hB7⟩
  · have HRT := Lib.hid (HPI.out.below hb25).l.t
    have x1 := v75.cell 1 rfl
    have x1f := v75.frozen 1
    have hT0z : (1 : Int) ≤ (T.length : Int) := by omega
    have hctz : (1 : Int) ≤ (ct : Int) := by omega
    go_upto_region 8 with fail
    obtain ⟨pT, hpT⟩ : ∃ p : Option Addr, p = if ct = 1 then some ⟨bt, ot, none⟩ else some ⟨bt, ot + 3, none⟩ := ⟨_, rfl⟩
    rw [← hpT]
    have hrt0 : RdT w2 (.slice pT (T.length - 1) (ct - 1)) (lessT true T) := RdT.tail HPI.out.l.t HTN.out hpT
    obtain ⟨W6, hW6⟩ : ∃ X, X = W5.setCell ⟨w2.heap.size, 1, none⟩ (.slice pT (T.length - 1) (ct - 1)) := ⟨_, rfl⟩
    have hBX : Below w.heap.size w W6 := by rw [hW6]; exact hB5.setCell (p := ⟨w2.heap.size, 1, none⟩) (by show w.heap.size ≤ w2.heap.size; exact hB2z) _
    have hb26 : Below w2.heap.size w2 W6 := by rw [hW6]; exact hb25.setCell (p := ⟨w2.heap.size, 1, none⟩) (Nat.le_refl _) _
    have vX : BoxN W6 w2.heap.size 44 [.slice pp P.length cp, .slice pT (T.length - 1) (ct - 1), .slice pl L.length cl, .slice pu U.length cu] := by rw [hW6]; exact v75.set 1 _
    have hrf6' : RdS W6 (.slice (some ⟨g8, 0, none⟩) L.length c8) l := by
      rw [hW6]
      have h1 : RdC 1 W5 (.slice (some ⟨g8, 0, none⟩) L.length c8) l.length (l.map fun x => Value.string x) := hrf
      unfold RdS
      rw [HLN.out] at h1 ⊢
      exact RdC.set_blk h1 (by omega)
    rw [← hW6]
    clear hW6 hrf x1 x1f v75 hpT HRT hT0z hctz
    have hrf := hrf6'
    have hrp : RdP W6 (.slice pp P.length cp) (strP P) := (HPI.out.below hb26).l.p
    have hrt : RdT W6 (.slice pT (T.length - 1) (ct - 1)) (lessT true T) := RdC.below hrt0 hb26
    have x0 := vX.cell 0 rfl
    have x1 := vX.cell 1 rfl
    clear hrt0 hrf6' hb26
    go_wp2_with fail
    refine (HFC.out W6 _ _ _ hrp hrt hrf (hg.below hBX)).mono ?_
    clear x0 x1
    rintro e' w6 ⟨_, rfl, rfl, hb6⟩
    have hB6 := hBX.trans (hb6.mono hBX.size)
    have v76 := vX.below hb6 vX.lt
    have hrp6 := RdC.below hrp hb6
    have hrt6 := RdC.below hrt hb6
    have hrf6 := RdC.below hrf hb6
    have x0 := v76.cell 0 rfl
    have x1 := v76.cell 1 rfl
    clear hrp hrt hrf hb6 hBX vX
    go_wp2_with fail
    refine (HMC.out w6 _ _ hrp6 hrt6 (hg.below hB6)).mono ?_
    rintro e' w7 ⟨_, rfl, rfl, hb7⟩
    have hB7 := hB6.trans (hb7.mono hB6.size)
    go_wp2_with fail
    go_ret
    exact ⟨_, rfl, rfl, hB7⟩

set_option maxHeartbeats 8000000 in
set_option maxRecDepth 100000 in
theorem fields_bad (w : World) (kz s0 s1 : Int) (half : Bool) (a0 a1 a2 a3 a4 a5 : Int) (ah : Bool) (b0 b1 b2 b3 b4 b5 : Int) (bh even : Bool) (add : Int) (s : ByteArray) (less : Bool) (e : Int) (he : e ≠ 0) (P : List PtQ) (T : List Tri) (L U : List Rat) (hs : s.size ≤ 20) (hLne : L ≠ []) (hLl : L.length ≤ 1000000) (hTne : T ≠ [])
    (HMK : Hid (∀ w, Good w → Calls Tryz.prog 11 #[.agg #[.int .u8 kz, .int .i8 s0, .int .i8 s1, .bool half, .int .i8 a0, .int .i8 a1, .int .i8 a2, .int .i8 a3, .int .i8 a4, .int .i8 a5, .bool ah, .int .i8 b0, .int .i8 b1, .int .i8 b2, .int .i8 b3, .int .i8 b4, .int .i8 b5, .bool bh, .bool even, .int .i8 add]] w (Ret (fun r w' => ∃ vp vt vl vu, r = .agg #[vp, vt, vl, vu] ∧ PairIn w' vp vt vl vu P T 2 L U) w)))
    (HFC : Hid (∀ (w : World) (vp vt vf : Value), RdP w vp (strP P) → RdT w vt (lessT less T) → RdS w vf (s :: (L.map RS).tail) → Good w → Calls Tryz.prog 39 #[.agg #[vp, vt], vf] w (Ret (fun r _ => r = .int .i64 e) w)))
    (HCT : Hid (∀ (w : World) (vp vt vf : Value), RdP w vp (strP P) → RdT w vt (lessT less T) → RdS w vf (s :: (L.map RS).tail) → Good w → Calls Tryz.prog 41 #[.agg #[vp, vt], vf, .agg #[.string ⟨#[48]⟩, .string ⟨#[49]⟩, .int .i64 1]] w (Ret (fun r _ => r = .tuple #[.slice none 0 0, .int .i64 e]) w)))
    (HDP : Hid (∀ (w : World) (vp vt vf : Value), RdP w vp (strP P) → RdT w vt (lessT less T) → RdS w vf (s :: (L.map RS).tail) → Good w → Calls Tryz.prog 42 #[.agg #[vp, vt], vf] w (Ret (fun r _ => r = .tuple #[.slice none 0 0, .int .i64 e]) w))) (hg : Good w) :
    Calls Tryz.prog 7 #[.agg #[.int .u8 kz, .int .i8 s0, .int .i8 s1, .bool half, .int .i8 a0, .int .i8 a1, .int .i8 a2, .int .i8 a3, .int .i8 a4, .int .i8 a5, .bool ah, .int .i8 b0, .int .i8 b1, .int .i8 b2, .int .i8 b3, .int .i8 b4, .int .i8 b5, .bool bh, .bool even, .int .i8 add], .string s, .bool less] w (Ret (fun r _ => r = .bool true) w) := by
  have hs' : (s.size : Int) ≤ 20 := by omega
  obtain ⟨l, hl⟩ : ∃ l, l = s :: (L.map RS).tail := ⟨_, rfl⟩
  rw [← hl] at HFC HCT HDP
  have HLD := Lib.hid hl
  have hL0 : 0 < L.length := List.length_pos_iff.2 hLne
  have hlen : l.length = L.length := by rw [hl, List.length_cons, List.length_tail, List.length_map]; omega
  have HLN := Lib.hid hlen
  have HCL : Hid (∀ w vl, RdQ w vl L → _) := fun w vl h => clone_any w vl L h hLne hLl
  have HTN := Lib.hid hTne
  clear hl hlen hLne hTne
  go_enter Tryz.func7, Tryz.ntmps7
  go_wp2_with fail
  obtain ⟨W, hW⟩ : ∃ W, W = w.alloc (.cells #[.int .u8 kz, .int .i8 s0, .int .i8 s1, .bool half, .int .i8 a0, .int .i8 a1, .int .i8 a2, .int .i8 a3, .int .i8 a4, .int .i8 a5, .bool ah, .int .i8 b0, .int .i8 b1, .int .i8 b2, .int .i8 b3, .int .i8 b4, .int .i8 b5, .bool bh, .bool even, .int .i8 add] 32) := ⟨_, rfl⟩
  have hB : Below w.heap.size w W := by rw [hW]; exact (Below.refl _ _).alloc (Nat.le_refl _) _
  have v3 : BoxN W w.heap.size 32 [.int .u8 kz, .int .i8 s0, .int .i8 s1, .bool half, .int .i8 a0, .int .i8 a1, .int .i8 a2, .int .i8 a3, .int .i8 a4, .int .i8 a5, .bool ah, .int .i8 b0, .int .i8 b1, .int .i8 b2, .int .i8 b3, .int .i8 b4, .int .i8 b5, .bool bh, .bool even, .int .i8 add] := by rw [hW]; exact BoxN.new _ _ _ _ rfl
  rw [← hW]
  clear hW
  refine (known_any W (hg.below hB)).mono ?_
  rintro e' w1 ⟨_, rfl, rfl, hb1⟩
  have hB1 := hB.trans (hb1.mono hB.size)
  have v31 := v3.below hb1 v3.lt
  have hrange : w1.rangeAt w.heap.size 0 [.int .u8 kz, .int .i8 s0, .int .i8 s1, .bool half, .int .i8 a0, .int .i8 a1, .int .i8 a2, .int .i8 a3, .int .i8 a4, .int .i8 a5, .bool ah, .int .i8 b0, .int .i8 b1, .int .i8 b2, .int .i8 b3, .int .i8 b4, .int .i8 b5, .bool bh, .bool even, .int .i8 add] := fun j v hv => by rw [Nat.zero_add]; exact v31.cell j hv
  clear hb1 hB v3
  go_upto_region 3 with fail
  go_wp2_with (refine wpList_load_mid (by rfl) 32 (.tmp 3) (by rfl) w.heap.size 0 (by rfl) [.int .u8 kz, .int .i8 s0, .int .i8 s1, .bool half, .int .i8 a0, .int .i8 a1, .int .i8 a2, .int .i8 a3, .int .i8 a4, .int .i8 a5, .bool ah, .int .i8 b0, .int .i8 b1, .int .i8 b2, .int .i8 b3, .int .i8 b4, .int .i8 b5, .bool bh, .bool even, .int .i8 add] _ hrange Tryz.underlying32 (by rfl) (by kernel_rfl) ?_)
  refine (HMK.out w1 (hg.below hB1)).mono ?_
  rintro e' w2 ⟨_, rfl, ⟨vp, vt, vl, vu, rfl, hPI⟩, hb2⟩
  obtain ⟨pp, cp, pt, ct, pl, cl, pu, cu, rfl, rfl, rfl, rfl⟩ := hPI.open
  obtain ⟨pt', ct', hvt, hct1, hct2, htr⟩ := hPI.l.t.open
  injection hvt with e1 e2' e3
  subst e1 e3
  obtain ⟨bt, ot, rfl, hbt, -⟩ := htr HTN.out
  have hB2 := hB1.trans (hb2.mono hB1.size)
  have HPI := Lib.hid hPI
  have hT0 : 0 < T.length := List.length_pos_iff.2 HTN.out
  have hB2z := hB2.size
  clear hrange v31 hb2 hB1 htr e2'
  go_upto_region 4 with fail
  obtain ⟨W3, hW3⟩ : ∃ W, W = w2.alloc (.cells #[.slice pp P.length cp, .slice (some ⟨bt, ot, none⟩) T.length ct, .slice pl L.length cl, .slice pu U.length cu] 44) := ⟨_, rfl⟩
  have hb3 : Below w2.heap.size w2 W3 := by rw [hW3]; exact (Below.refl _ _).alloc (Nat.le_refl _) _
  have v7 : BoxN W3 w2.heap.size 44 [.slice pp P.length cp, .slice (some ⟨bt, ot, none⟩) T.length ct, .slice pl L.length cl, .slice pu U.length cu] := by rw [hW3]; exact BoxN.new _ _ _ _ rfl
  rw [← hW3]
  clear hW3
  have hB3 := hB2.trans (hb3.mono hB2.size)
  have hP3 := hPI.below hb3
  have hb23 := hb3
  have d2 := v7.cell 2 rfl
  have hl7 := v7.lt
  clear hPI hb3
  go_wp2_with fail
  refine (HCL.out W3 _ hP3.l.f).mono ?_
  rintro e' w4 ⟨v8, rfl, hown, hb4⟩
  obtain ⟨g8, c8, rfl⟩ : ∃ g c, v8 = .slice (some ⟨g, 0, none⟩) L.length c := by
    rcases hown.2 with ⟨_, h0⟩ | ⟨g, cap, cur, rfl, _⟩
    · omega
    · exact ⟨g, cap, rfl⟩
  have hg8 := hown.lt g8 rfl
  have hB4 := hB3.trans (hb4.mono hB3.size)
  have hfc := World.ownsRow.cells hown (g := g8) rfl
  have hrow : ∃ cur, w4.heap[g8]? = some (.cells cur 33 (0, 0)) := by
    rcases hown.2 with ⟨_, h0⟩ | ⟨g, cap, cur, hv, _, hgg, _⟩
    · omega
    · injection hv with h1 _ _
      injection h1 with h1
      injection h1 with h1 _ _
      subst h1
      exact ⟨cur, hgg⟩
  obtain ⟨cur8, hcur8⟩ := hrow
  have hadd : ∀ j, (⟨g8, 0, none⟩ : Addr).add j = ⟨g8, j, none⟩ := fun j => by unfold Addr.add; split <;> simp_all
  have hfc' : ∀ (j : Nat) (hj : j < L.length), w4.cell? ⟨g8, j, none⟩ = some (.string (RS L[j])) := fun j hj => by
    have := hfc j (.string (RS L[j])) (by rw [List.getElem?_map, List.getElem?_eq_getElem hj]; rfl)
    rw [hadd] at this
    exact this
  have k0 := hfc' 0 hL0
  have k0f : w4.frozen? ⟨g8, 0, none⟩ = false := by simp [World.frozen?, hcur8]
  have HFC' := Lib.hid hfc'
  have hL0z : (0 : Int) < (L.length : Int) := by omega
  have hcap : L.length ≤ c8 ∧ c8 ≤ maxLen := by
    obtain ⟨p', c', hv, h1, h2, _⟩ := RdC.of_owns hown
    injection hv with _ _ h3
    subst h3
    exact ⟨h1, h2⟩
  clear d2 hfc hadd hown hcur8 cur8
  go_upto_region 6 with fail
  obtain ⟨W5, hW5⟩ : ∃ X, X = w4.setCell ⟨g8, 0, none⟩ (.string s) := ⟨_, rfl⟩
  have hfar : ∀ k, k ≠ g8 → W5.heap[k]? = w4.heap[k]? := fun k hk => by rw [hW5]; exact Below.heap_setCell _ _ _ k hk
  have hB5 : Below w.heap.size w W5 := by rw [hW5]; exact hB4.setCell (p := ⟨g8, 0, none⟩) (by show w.heap.size ≤ g8; have := hB3.size; omega) _
  have hb35 : Below W3.heap.size W3 W5 := by rw [hW5]; exact hb4.setCell (p := ⟨g8, 0, none⟩) hg8.1 _
  have hcell0 : W5.cell? ⟨g8, 0, none⟩ = some (.string s) := by rw [hW5]; exact World.cell?_setCell_same' _ _ _ (by rw [k0]; rfl)
  have hcellj : ∀ (j : Nat) (hj : j < L.length), 0 < j → W5.cell? ⟨g8, j, none⟩ = some (.string (RS L[j])) := fun j hj h0 => by
    rw [hW5, World.cell?_setCell_other _ _ _ _ (by intro e; injection e with _ e2 _; omega)]
    exact HFC'.out j hj
  have hrf : RdS W5 (.slice (some ⟨g8, 0, none⟩) L.length c8) l := by
    unfold RdS
    rw [HLN.out]
    refine ⟨_, c8, rfl, hcap.1, hcap.2, by rw [List.length_map, HLN.out, Nat.mul_one], fun _ => ⟨g8, 0, rfl, fun j x hx => ?_⟩⟩
    rw [Nat.zero_add]
    rw [HLD.out, List.map_cons] at hx
    cases j with
    | zero => simp at hx; subst hx; exact hcell0
    | succ j =>
      rw [List.getElem?_cons_succ, List.getElem?_map, List.getElem?_tail, List.getElem?_map] at hx
      have hj : j + 1 < L.length := by
        rcases Nat.lt_or_ge (j + 1) L.length with h | h
        · exact h
        · rw [List.getElem?_eq_none h] at hx; simp at hx
      rw [List.getElem?_eq_getElem hj] at hx
      simp at hx
      subst hx
      exact hcellj (j + 1) hj (by omega)
  have v75 := v7.below hb35 hl7
  have hb25 : Below w2.heap.size w2 W5 := hb23.trans (hb35.mono (by have := hb23.size; omega))
  rw [← hW5]
  clear hW5 hfar hcell0 hcellj k0 k0f v7 hb35 hB4 hb4 hP3 hB3
  cases less
  · have hrp : RdP W5 (.slice pp P.length cp) (strP P) := (HPI.out.below hb25).l.p
    have hrt : RdT W5 (.slice (some ⟨bt, ot, none⟩) T.length ct) (lessT false T) := (HPI.out.below hb25).l.t
    have x0 := v75.cell 0 rfl
    have x1 := v75.cell 1 rfl
    have hBX := hB5
    have vX := v75
    go_wp2_with fail
    refine (HFC.out W5 _ _ _ hrp hrt hrf (hg.below hBX)).mono ?_
    clear x0 x1
    rintro e' w6 ⟨_, rfl, rfl, hb6⟩
    have hB6 := hBX.trans (hb6.mono hBX.size)
    have v76 := vX.below hb6 vX.lt
    have hrp6 := RdC.below hrp hb6
    have hrt6 := RdC.below hrt hb6
    have hrf6 := RdC.below hrf hb6
    have x0 := v76.cell 0 rfl
    have x1 := v76.cell 1 rfl
    clear hrp hrt hrf hb6 hBX vX
    go_wp2_with fail
    refine (HCT.out w6 _ _ _ hrp6 hrt6 hrf6 (hg.below hB6)).mono ?_
    rintro e' w7 ⟨_, rfl, rfl, hb7⟩
    have hB7 := hB6.trans (hb7.mono hB6.size)
    have v77 := v76.below hb7 v76.lt
    have hrp7 := RdC.below hrp6 hb7
    have hrt7 := RdC.below hrt6 hb7
    have hrf7 := RdC.below hrf6 hb7
    clear x0 x1 hrp6 hrt6 hrf6 hb7 hB6 v76
    have x0 := v77.cell 0 rfl
    have x1 := v77.cell 1 rfl
    go_wp2_with fail
    refine (HDP.out w7 _ _ _ hrp7 hrt7 hrf7 (hg.below hB7)).mono ?_
    rintro e' w8 ⟨_, rfl, rfl, hb8⟩
    have hB8 := hB7.trans (hb8.mono hB7.size)
    go_wp2_with fail
    go_ret
    exact ⟨_, rfl, rfl, hB8⟩
  · have HRT := Lib.hid (HPI.out.below hb25).l.t
    have x1 := v75.cell 1 rfl
    have x1f := v75.frozen 1
    have hT0z : (1 : Int) ≤ (T.length : Int) := by omega
    have hctz : (1 : Int) ≤ (ct : Int) := by omega
    go_upto_region 8 with fail
    obtain ⟨pT, hpT⟩ : ∃ p : Option Addr, p = if ct = 1 then some ⟨bt, ot, none⟩ else some ⟨bt, ot + 3, none⟩ := ⟨_, rfl⟩
    rw [← hpT]
    have hrt0 : RdT w2 (.slice pT (T.length - 1) (ct - 1)) (lessT true T) := RdT.tail HPI.out.l.t HTN.out hpT
    obtain ⟨W6, hW6⟩ : ∃ X, X = W5.setCell ⟨w2.heap.size, 1, none⟩ (.slice pT (T.length - 1) (ct - 1)) := ⟨_, rfl⟩
    have hBX : Below w.heap.size w W6 := by rw [hW6]; exact hB5.setCell (p := ⟨w2.heap.size, 1, none⟩) (by show w.heap.size ≤ w2.heap.size; exact hB2z) _
    have hb26 : Below w2.heap.size w2 W6 := by rw [hW6]; exact hb25.setCell (p := ⟨w2.heap.size, 1, none⟩) (Nat.le_refl _) _
    have vX : BoxN W6 w2.heap.size 44 [.slice pp P.length cp, .slice pT (T.length - 1) (ct - 1), .slice pl L.length cl, .slice pu U.length cu] := by rw [hW6]; exact v75.set 1 _
    have hrf6' : RdS W6 (.slice (some ⟨g8, 0, none⟩) L.length c8) l := by
      rw [hW6]
      have h1 : RdC 1 W5 (.slice (some ⟨g8, 0, none⟩) L.length c8) l.length (l.map fun x => Value.string x) := hrf
      unfold RdS
      rw [HLN.out] at h1 ⊢
      exact RdC.set_blk h1 (by omega)
    rw [← hW6]
    clear hW6 hrf x1 x1f v75 hpT HRT hT0z hctz
    have hrf := hrf6'
    have hrp : RdP W6 (.slice pp P.length cp) (strP P) := (HPI.out.below hb26).l.p
    have hrt : RdT W6 (.slice pT (T.length - 1) (ct - 1)) (lessT true T) := RdC.below hrt0 hb26
    have x0 := vX.cell 0 rfl
    have x1 := vX.cell 1 rfl
    clear hrt0 hrf6' hb26
    go_wp2_with fail
    refine (HFC.out W6 _ _ _ hrp hrt hrf (hg.below hBX)).mono ?_
    clear x0 x1
    rintro e' w6 ⟨_, rfl, rfl, hb6⟩
    have hB6 := hBX.trans (hb6.mono hBX.size)
    have v76 := vX.below hb6 vX.lt
    have hrp6 := RdC.below hrp hb6
    have hrt6 := RdC.below hrt hb6
    have hrf6 := RdC.below hrf hb6
    have x0 := v76.cell 0 rfl
    have x1 := v76.cell 1 rfl
    clear hrp hrt hrf hb6 hBX vX
    go_wp2_with fail
    refine (HCT.out w6 _ _ _ hrp6 hrt6 hrf6 (hg.below hB6)).mono ?_
    rintro e' w7 ⟨_, rfl, rfl, hb7⟩
    have hB7 := hB6.trans (hb7.mono hB6.size)
    have v77 := v76.below hb7 v76.lt
    have hrp7 := RdC.below hrp6 hb7
    have hrt7 := RdC.below hrt6 hb7
    have hrf7 := RdC.below hrf6 hb7
    clear x0 x1 hrp6 hrt6 hrf6 hb7 hB6 v76
    have x0 := v77.cell 0 rfl
    have x1 := v77.cell 1 rfl
    go_wp2_with fail
    refine (HDP.out w7 _ _ _ hrp7 hrt7 hrf7 (hg.below hB7)).mono ?_
    rintro e' w8 ⟨_, rfl, rfl, hb8⟩
    have hB8 := hB7.trans (hb8.mono hB7.size)
    go_wp2_with fail
    go_ret
    exact ⟨_, rfl, rfl, hB8⟩

end Go.Proofs.YtjfjkiibmfgplaaGreatDoor
