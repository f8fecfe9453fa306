/- mesh.Turn: of an edge that is none, of one on the border, of one between two triangles. -/
import Derived.Test.YtccngnjkehibiaaGreatDoorM22
import Derived.Test.YtccngnjkehibiaaGreatDoorN2
import Derived.BigRegion
namespace Go.Proofs.YtccngnjkehibiaaGreatDoor
open Go.RowKit Go.Lib

/-- The zero mesh with an error. -/
def noneE (e : Int) : Value := .tuple #[.agg #[.slice none 0 0, .slice none 0 0], .int .i64 e]

set_option maxHeartbeats 4000000 in
set_option maxRecDepth 100000 in
theorem mturn_none (w : World) (vp vt : Value) (P : List PtQ) (T : List Tri) (m : Nat) (hp : RdP w vp (strP P)) (ht : RdT w vt T) (hm : MeshOK P T m) (hI : ∀ t ∈ T, InI t.1 ∧ InI t.2.1 ∧ InI t.2.2) (u v : Int) (hu : -1000 ≤ u ∧ u ≤ 1000) (hv : -1000 ≤ v ∧ v ≤ 1000) (hn : v ≤ u ∨ (u < v ∧ sideI T u v < 0 ∧ sideI T v u < 0)) (hg : Good w) :
    Calls Tryz.prog 35 #[.agg #[vp, vt], .agg #[.int .i64 u, .int .i64 v]] w (Ret (fun r _ => r = noneE 11) w) := by
  have HCK : Hid (∀ w', Below w.heap.size w w' → Good w' → Calls Tryz.prog 22 #[.agg #[vp, vt]] w' (Ret (fun r _ => r = .int .i64 0) w')) := fun w' hb hg' => check_any w' vp vt P T m (RdC.below hp hb) (RdC.below ht hb) hm hg'
  have HOW : Hid (∀ w', Below w.heap.size w w' → Calls Tryz.prog 83 #[.agg #[vp, vt]] w' (Ret (OwnersP T w'.heap.size) w')) := fun w' hb => owners_any w' vp vt T (RdC.below ht hb) (by have := hm.tlen; omega) hI
  have HND : Hid (keysOf T).Nodup := by
    have := hm.whole
    unfold wholeB at this
    rw [Bool.and_eq_true] at this
    exact (of_decide_eq_true this.1 : (keysOf T).Nodup)
  have i1 : InE (u, v) := ⟨⟨by show (-9223372036854775808 : Int) ≤ u; omega, by show u ≤ (9223372036854775807 : Int); omega⟩, ⟨by show (-9223372036854775808 : Int) ≤ v; omega, by show v ≤ (9223372036854775807 : Int); omega⟩⟩
  have i2 : InE (v, u) := ⟨i1.2, i1.1⟩
  have HK1 : Hid (keyOf Tryz.prog 25 (.agg #[.int .i64 u, .int .i64 v]) = some (kE (u, v))) := keyE (s := (u, v)) i1.1 i1.2
  have HK2 : Hid (keyOf Tryz.prog 25 (.agg #[.int .i64 v, .int .i64 u]) = some (kE (v, u))) := keyE (s := (v, u)) i2.1 i2.2
  have HI1 := Lib.hid i1
  have HI2 := Lib.hid i2
  obtain ⟨pp, cp, rfl, -, -, -⟩ := hp.open
  obtain ⟨pt, ct, rfl, -, -, -⟩ := ht.open
  clear hp ht hm hI i1 i2
  go_enter Tryz.func35, Tryz.ntmps35
  go_wp2_with fail
  obtain ⟨W, hW⟩ : ∃ W, W = ((w.alloc (.cells #[.slice pp (strP P).length cp, .slice pt T.length ct] 34)).alloc (.cells #[.int .i64 u, .int .i64 v] 25)).alloc (.cells #[.slice none 0 0, .slice none 0 0] 34) := ⟨_, rfl⟩
  have hB : Below w.heap.size w W := by rw [hW]; exact (((Below.refl _ _).alloc (Nat.le_refl _) _).alloc (by simp) _).alloc (by simp; omega) _
  have b4 : BoxN W (w.heap.size + 2) 34 [.slice none 0 0, .slice none 0 0] := by rw [hW]; exact BoxN.new _ _ _ _ (by simp)
  have b3 : BoxN W (w.heap.size + 1) 25 [.int .i64 u, .int .i64 v] := by
    rw [hW]
    have h1 := (BoxN.new (w.alloc (.cells #[.slice pp (strP P).length cp, .slice pt T.length ct] 34)) #[.int .i64 u, .int .i64 v] 25 (w.heap.size + 1) (by simp))
    exact h1.below ((Below.refl _ _).alloc (Nat.le_refl _) _) h1.lt
  have b2 : BoxN W w.heap.size 34 [.slice pp (strP P).length cp, .slice pt T.length ct] := by
    rw [hW]
    have h1 := (BoxN.new w #[.slice pp (strP P).length cp, .slice pt T.length ct] 34 _ rfl)
    exact (h1.below ((Below.refl _ _).alloc (Nat.le_refl _) _) h1.lt).below ((Below.refl _ _).alloc (Nat.le_refl _) _) (by simp; omega)
  rw [← hW]
  clear hW
  refine (HCK.out W hB (hg.below hB)).mono ?_
  rintro e w1 ⟨_, rfl, rfl, hb1⟩
  have hB1 := hB.trans (hb1.mono hB.size)
  have b21 := b2.below hb1 b2.lt
  have b31 := b3.below hb1 b3.lt
  have b41 := b4.below hb1 b4.lt
  have x0 := b21.cell 0 rfl
  have x1 := b21.cell 1 rfl
  clear hb1 hB b2 b3 b4
  go_wp2_with fail
  refine (HOW.out w1 hB1).mono ?_
  rintro e w2 ⟨z, rfl, hov, hb2⟩
  rcases hov with hov | ⟨hnn, _⟩
  rotate_left
  · exact absurd HND.out hnn
  obtain ⟨_, bm, D, hbm, rfl, hM⟩ := hov
  have hB2 := hB1.trans (hb2.mono hB1.size)
  have b22 := b21.below hb2 b21.lt
  have b32 := b31.below hb2 b31.lt
  have b42 := b41.below hb2 b41.lt
  have HM := Lib.hid hM
  have hbml : bm < w2.heap.size := by
    obtain ⟨es, ck, hh, _⟩ := hM.owns
    exact (Array.getElem?_eq_some_iff.1 hh).1
  have hh1 := hM.has_iff HI1.out
  have hh2 := hM.has_iff HI2.out
  clear hb2 hB1 b21 b31 b41 x0 x1 hM
  have e0 := b32.cell 0 rfl
  have e1 := b32.cell 1 rfl
  go_upto_region 5 with fail
  go_region
  all_goals
    obtain ⟨o5, ho5⟩ : ∃ W, W = w2.drew := ⟨_, rfl⟩
    have hb5 : Below w2.heap.size w2 o5 := by rw [ho5]; exact below_drewN w2 1
    rw [← ho5]
    have hB5 := hB2.trans (hb5.mono hB2.size)
    have b25 := b22.below hb5 b22.lt
    have b35 := b32.below hb5 b32.lt
    have b45 := b42.below hb5 b42.lt
    have hM5 : MapL viewE 3 (Lit.int .i64) o5 bm (3 * T.length) D (ownL T) := HM.out.below hb5 hbml
    have hown := hM5.owns
    have HH1 : Hid ((Maps.has D (kE (u, v)) = true) ↔ 0 ≤ sideI T u v) := hh1.trans sideI_has
    have HH2 : Hid ((Maps.has D (kE (v, u)) = true) ↔ 0 ≤ sideI T v u) := hh2.trans sideI_has
    have HM5 := Lib.hid hM5
    clear ho5 hb5 hM5 hh1 hh2 e0 e1 b22 b32 b42 hB2 HM
    have y0 := b45.cell 0 rfl
    have y1 := b45.cell 1 rfl
    have f0 := b45.frozen 0
    have f1 := b45.frozen 1
    rcases hn with hn | ⟨hlt, n1, n2⟩
    · rcases hd1 : Maps.has D (kE (u, v)) with _ | _ <;> rcases hd2 : Maps.has D (kE (v, u)) with _ | _
      all_goals
        have H1 := Lib.hid hd1
        have H2 := Lib.hid hd2
        clear hd1 hd2 HH1 HH2
        have hge : decide (v ≤ u) = true := decide_eq_true hn
        go_wp2_with (first | (at_lookup; refine wpList_lookup_own_ok_int _ rfl _ _ 123 rfl 25 3 .i64 lawE und_EI und_I (zeroI _) bm (3 * T.length) D rfl hown _ _ rfl HK1.out ?_; rw [H1.out]; intro c1 hat1 _; clear hat1) | (at_lookup; refine wpList_lookup_own_ok_int _ rfl _ _ 123 rfl 25 3 .i64 lawE und_EI und_I (zeroI _) bm (3 * T.length) D rfl hown _ _ rfl HK2.out ?_; rw [H2.out]; intro c2 hat2 _; clear hat2))
        have BF := (b45.set 0 (.slice none 0 0)).set 1 (.slice none 0 0)
        have hle : w.heap.size ≤ w.heap.size + 2 := by omega
        have hBF := (hB5.setCell (p := ⟨w.heap.size + 2, 0, none⟩) hle (.slice none 0 0)).setCell (p := ⟨w.heap.size + 2, 1, none⟩) hle (.slice none 0 0)
        have g0 := BF.cell 0 rfl
        have g1 := BF.cell 1 rfl
        exact bodyPost_ret (v := noneE 11) (by simp [noneE, results, Tryz.results35, go_sem, g0, g1]) rfl ⟨_, rfl, rfl, hBF⟩
    · have H1 : Hid (Maps.has D (kE (u, v)) = false) := by
        unfold Hid
        cases hd : Maps.has D (kE (u, v)) with
        | false => rfl
        | true => exact absurd (HH1.out.1 hd) (by omega)
      have H2 : Hid (Maps.has D (kE (v, u)) = false) := by
        unfold Hid
        cases hd : Maps.has D (kE (v, u)) with
        | false => rfl
        | true => exact absurd (HH2.out.1 hd) (by omega)
      go_wp2_with (first | (at_lookup; refine wpList_lookup_own_ok_int _ rfl _ _ 123 rfl 25 3 .i64 lawE und_EI und_I (zeroI _) bm (3 * T.length) D rfl hown _ _ rfl HK1.out ?_; rw [H1.out]; intro c1 hat1 _; clear hat1) | (at_lookup; refine wpList_lookup_own_ok_int _ rfl _ _ 123 rfl 25 3 .i64 lawE und_EI und_I (zeroI _) bm (3 * T.length) D rfl hown _ _ rfl HK2.out ?_; rw [H2.out]; intro c2 hat2 _; clear hat2))
      have BF := (b45.set 0 (.slice none 0 0)).set 1 (.slice none 0 0)
      have hle : w.heap.size ≤ w.heap.size + 2 := by omega
      have hBF := (hB5.setCell (p := ⟨w.heap.size + 2, 0, none⟩) hle (.slice none 0 0)).setCell (p := ⟨w.heap.size + 2, 1, none⟩) hle (.slice none 0 0)
      have g0 := BF.cell 0 rfl
      have g1 := BF.cell 1 rfl
      exact bodyPost_ret (v := noneE 11) (by simp [noneE, results, Tryz.results35, go_sem, g0, g1]) rfl ⟨_, rfl, rfl, hBF⟩

set_option maxHeartbeats 4000000 in
set_option maxRecDepth 100000 in
theorem mturn_open (w : World) (vp vt : Value) (P : List PtQ) (T : List Tri) (m : Nat) (hp : RdP w vp (strP P)) (ht : RdT w vt T) (hm : MeshOK P T m) (hI : ∀ t ∈ T, InI t.1 ∧ InI t.2.1 ∧ InI t.2.2) (u v : Int) (hu : -1000 ≤ u ∧ u ≤ 1000) (hv : -1000 ≤ v ∧ v ≤ 1000) (hlt : u < v) (hn : (sideI T u v < 0 ∧ 0 ≤ sideI T v u) ∨ (0 ≤ sideI T u v ∧ sideI T v u < 0)) (hg : Good w) :
    Calls Tryz.prog 35 #[.agg #[vp, vt], .agg #[.int .i64 u, .int .i64 v]] w (Ret (fun r _ => r = noneE 25) w) := by
  have HCK : Hid (∀ w', Below w.heap.size w w' → Good w' → Calls Tryz.prog 22 #[.agg #[vp, vt]] w' (Ret (fun r _ => r = .int .i64 0) w')) := fun w' hb hg' => check_any w' vp vt P T m (RdC.below hp hb) (RdC.below ht hb) hm hg'
  have HOW : Hid (∀ w', Below w.heap.size w w' → Calls Tryz.prog 83 #[.agg #[vp, vt]] w' (Ret (OwnersP T w'.heap.size) w')) := fun w' hb => owners_any w' vp vt T (RdC.below ht hb) (by have := hm.tlen; omega) hI
  have HND : Hid (keysOf T).Nodup := by
    have := hm.whole
    unfold wholeB at this
    rw [Bool.and_eq_true] at this
    exact (of_decide_eq_true this.1 : (keysOf T).Nodup)
  have i1 : InE (u, v) := ⟨⟨by show (-9223372036854775808 : Int) ≤ u; omega, by show u ≤ (9223372036854775807 : Int); omega⟩, ⟨by show (-9223372036854775808 : Int) ≤ v; omega, by show v ≤ (9223372036854775807 : Int); omega⟩⟩
  have i2 : InE (v, u) := ⟨i1.2, i1.1⟩
  have HK1 : Hid (keyOf Tryz.prog 25 (.agg #[.int .i64 u, .int .i64 v]) = some (kE (u, v))) := keyE (s := (u, v)) i1.1 i1.2
  have HK2 : Hid (keyOf Tryz.prog 25 (.agg #[.int .i64 v, .int .i64 u]) = some (kE (v, u))) := keyE (s := (v, u)) i2.1 i2.2
  have HI1 := Lib.hid i1
  have HI2 := Lib.hid i2
  obtain ⟨pp, cp, rfl, -, -, -⟩ := hp.open
  obtain ⟨pt, ct, rfl, -, -, -⟩ := ht.open
  clear hp ht hm hI i1 i2
  go_enter Tryz.func35, Tryz.ntmps35
  go_wp2_with fail
  obtain ⟨W, hW⟩ : ∃ W, W = ((w.alloc (.cells #[.slice pp (strP P).length cp, .slice pt T.length ct] 34)).alloc (.cells #[.int .i64 u, .int .i64 v] 25)).alloc (.cells #[.slice none 0 0, .slice none 0 0] 34) := ⟨_, rfl⟩
  have hB : Below w.heap.size w W := by rw [hW]; exact (((Below.refl _ _).alloc (Nat.le_refl _) _).alloc (by simp) _).alloc (by simp; omega) _
  have b4 : BoxN W (w.heap.size + 2) 34 [.slice none 0 0, .slice none 0 0] := by rw [hW]; exact BoxN.new _ _ _ _ (by simp)
  have b3 : BoxN W (w.heap.size + 1) 25 [.int .i64 u, .int .i64 v] := by
    rw [hW]
    have h1 := (BoxN.new (w.alloc (.cells #[.slice pp (strP P).length cp, .slice pt T.length ct] 34)) #[.int .i64 u, .int .i64 v] 25 (w.heap.size + 1) (by simp))
    exact h1.below ((Below.refl _ _).alloc (Nat.le_refl _) _) h1.lt
  have b2 : BoxN W w.heap.size 34 [.slice pp (strP P).length cp, .slice pt T.length ct] := by
    rw [hW]
    have h1 := (BoxN.new w #[.slice pp (strP P).length cp, .slice pt T.length ct] 34 _ rfl)
    exact (h1.below ((Below.refl _ _).alloc (Nat.le_refl _) _) h1.lt).below ((Below.refl _ _).alloc (Nat.le_refl _) _) (by simp; omega)
  rw [← hW]
  clear hW
  refine (HCK.out W hB (hg.below hB)).mono ?_
  rintro e w1 ⟨_, rfl, rfl, hb1⟩
  have hB1 := hB.trans (hb1.mono hB.size)
  have b21 := b2.below hb1 b2.lt
  have b31 := b3.below hb1 b3.lt
  have b41 := b4.below hb1 b4.lt
  have x0 := b21.cell 0 rfl
  have x1 := b21.cell 1 rfl
  clear hb1 hB b2 b3 b4
  go_wp2_with fail
  refine (HOW.out w1 hB1).mono ?_
  rintro e w2 ⟨z, rfl, hov, hb2⟩
  rcases hov with hov | ⟨hnn, _⟩
  rotate_left
  · exact absurd HND.out hnn
  obtain ⟨_, bm, D, hbm, rfl, hM⟩ := hov
  have hB2 := hB1.trans (hb2.mono hB1.size)
  have b22 := b21.below hb2 b21.lt
  have b32 := b31.below hb2 b31.lt
  have b42 := b41.below hb2 b41.lt
  have HM := Lib.hid hM
  have hbml : bm < w2.heap.size := by
    obtain ⟨es, ck, hh, _⟩ := hM.owns
    exact (Array.getElem?_eq_some_iff.1 hh).1
  have hh1 := hM.has_iff HI1.out
  have hh2 := hM.has_iff HI2.out
  clear hb2 hB1 b21 b31 b41 x0 x1 hM
  have e0 := b32.cell 0 rfl
  have e1 := b32.cell 1 rfl
  go_upto_region 5 with fail
  go_region
  all_goals
    obtain ⟨o5, ho5⟩ : ∃ W, W = w2.drew := ⟨_, rfl⟩
    have hb5 : Below w2.heap.size w2 o5 := by rw [ho5]; exact below_drewN w2 1
    rw [← ho5]
    have hB5 := hB2.trans (hb5.mono hB2.size)
    have b25 := b22.below hb5 b22.lt
    have b35 := b32.below hb5 b32.lt
    have b45 := b42.below hb5 b42.lt
    have hM5 : MapL viewE 3 (Lit.int .i64) o5 bm (3 * T.length) D (ownL T) := HM.out.below hb5 hbml
    have hown := hM5.owns
    have HH1 : Hid ((Maps.has D (kE (u, v)) = true) ↔ 0 ≤ sideI T u v) := hh1.trans sideI_has
    have HH2 : Hid ((Maps.has D (kE (v, u)) = true) ↔ 0 ≤ sideI T v u) := hh2.trans sideI_has
    have HM5 := Lib.hid hM5
    clear ho5 hb5 hM5 hh1 hh2 e0 e1 b22 b32 b42 hB2 HM
    have y0 := b45.cell 0 rfl
    have y1 := b45.cell 1 rfl
    have f0 := b45.frozen 0
    have f1 := b45.frozen 1
    have hge : decide (v ≤ u) = false := decide_eq_false (by omega)
    rcases hn with ⟨n1, n2⟩ | ⟨n1, n2⟩
    · have H1 : Hid (Maps.has D (kE (u, v)) = false) := by
        unfold Hid
        cases hd : Maps.has D (kE (u, v)) with
        | false => rfl
        | true => exact absurd (HH1.out.1 hd) (by omega)
      have H2 : Hid (Maps.has D (kE (v, u)) = true) := HH2.out.2 (by omega)
      go_wp2_with (first | (at_lookup; refine wpList_lookup_own_ok_int _ rfl _ _ 123 rfl 25 3 .i64 lawE und_EI und_I (zeroI _) bm (3 * T.length) D rfl hown _ _ rfl HK1.out ?_; rw [H1.out]; intro c1 hat1 _; clear hat1) | (at_lookup; refine wpList_lookup_own_ok_int _ rfl _ _ 123 rfl 25 3 .i64 lawE und_EI und_I (zeroI _) bm (3 * T.length) D rfl hown _ _ rfl HK2.out ?_; rw [H2.out]; intro c2 hat2 _; clear hat2))
      have BF := (b45.set 0 (.slice none 0 0)).set 1 (.slice none 0 0)
      have hle : w.heap.size ≤ w.heap.size + 2 := by omega
      have hBF := (hB5.setCell (p := ⟨w.heap.size + 2, 0, none⟩) hle (.slice none 0 0)).setCell (p := ⟨w.heap.size + 2, 1, none⟩) hle (.slice none 0 0)
      have g0 := BF.cell 0 rfl
      have g1 := BF.cell 1 rfl
      exact bodyPost_ret (v := noneE 25) (by simp [noneE, results, Tryz.results35, go_sem, g0, g1]) rfl ⟨_, rfl, rfl, hBF⟩
    · have H2 : Hid (Maps.has D (kE (v, u)) = false) := by
        unfold Hid
        cases hd : Maps.has D (kE (v, u)) with
        | false => rfl
        | true => exact absurd (HH2.out.1 hd) (by omega)
      have H1 : Hid (Maps.has D (kE (u, v)) = true) := HH1.out.2 (by omega)
      go_wp2_with (first | (at_lookup; refine wpList_lookup_own_ok_int _ rfl _ _ 123 rfl 25 3 .i64 lawE und_EI und_I (zeroI _) bm (3 * T.length) D rfl hown _ _ rfl HK1.out ?_; rw [H1.out]; intro c1 hat1 _; clear hat1) | (at_lookup; refine wpList_lookup_own_ok_int _ rfl _ _ 123 rfl 25 3 .i64 lawE und_EI und_I (zeroI _) bm (3 * T.length) D rfl hown _ _ rfl HK2.out ?_; rw [H2.out]; intro c2 hat2 _; clear hat2))
      have BF := (b45.set 0 (.slice none 0 0)).set 1 (.slice none 0 0)
      have hle : w.heap.size ≤ w.heap.size + 2 := by omega
      have hBF := (hB5.setCell (p := ⟨w.heap.size + 2, 0, none⟩) hle (.slice none 0 0)).setCell (p := ⟨w.heap.size + 2, 1, none⟩) hle (.slice none 0 0)
      have g0 := BF.cell 0 rfl
      have g1 := BF.cell 1 rfl
      exact bodyPost_ret (v := noneE 25) (by simp [noneE, results, Tryz.results35, go_sem, g0, g1]) rfl ⟨_, rfl, rfl, hBF⟩

section
variable {P : Program} {ops : Array Oper} {Q : Exit → Act → World → Prop} {md : Region.Mode} {S : Array Bool → World → Prop}
/-- One of two operations comes up. -/
theorem AnyL.two {i j : Nat} {oi oj : Oper} {n : Nat} {l : Array Bool} {a : Act} {w : World} (hr : Region.ready md ops l = [i, j]) (hi : ops[i]? = some oi) (hj : ops[j]? = some oj)
    (h1 : ∀ K' : Act → World → Prop, Shut (∀ a w, S (l.setIfInBounds i true) w → (S (l.setIfInBounds i true) w → AnyL P md ops Q S n (l.setIfInBounds i true) a w) → K' a w) → if Region.wanted oi (yielded ops a.tmps) = true then Oper.wp P oi a w K' Q else K' (a.put oi.dst undef) w)
    (h2 : ∀ K' : Act → World → Prop, Shut (∀ a w, S (l.setIfInBounds j true) w → (S (l.setIfInBounds j true) w → AnyL P md ops Q S n (l.setIfInBounds j true) a w) → K' a w) → if Region.wanted oj (yielded ops a.tmps) = true then Oper.wp P oj a w K' Q else K' (a.put oj.dst undef) w) :
    AnyL P md ops Q S (n + 1) l a w := by
  refine ⟨fun h0 => (by rw [h0] at hr; cases hr), fun m hm => ?_⟩
  rw [hr] at hm
  rcases List.mem_cons.1 hm with rfl | hm
  · exact wpOp_step hi (fun K' hK => h1 K' (fun a w hS hW => hK a w ⟨hS, hW hS⟩))
  · obtain rfl : m = j := by simpa using hm
    exact wpOp_step hj (fun K' hK => h2 K' (fun a w hS hW => hK a w ⟨hS, hW hS⟩))
end

theorem ownsRow_low {w : World} {base base' e sz n : Nat} {v : Value} {xs : List Value} (h : w.ownsRow base e sz v n xs) (hb : base' ≤ base) : w.ownsRow base' e sz v n xs :=
  ⟨h.1, h.2.imp id fun ⟨g, cap, cur, h1, h2, h3⟩ => ⟨g, cap, cur, h1, Nat.le_trans hb h2, h3⟩⟩
theorem ownsRow_some {w : World} {base e sz n : Nat} {v : Value} {xs : List Value} (h : w.ownsRow base e sz v n xs) (hn : 0 < n) : ∃ g c, v = .slice (some ⟨g, 0, none⟩) n c ∧ base ≤ g ∧ g < w.heap.size := by
  rcases h.2 with ⟨_, h0⟩ | ⟨g, cap, cur, hv, hb, hg, _⟩
  · omega
  · exact ⟨g, cap, hv, hb, (Array.getElem?_eq_some_iff.1 hg).1⟩

theorem cellsT_set (T : List Tri) (j : Nat) (a b c : Int) (h : j < T.length) : cellsT (T.set j (a, b, c)) = (((cellsT T).set (j * 3) (.int .i64 a)).set (j * 3 + 1) (.int .i64 b)).set (j * 3 + 2) (.int .i64 c) := by
  induction T generalizing j with
  | nil => exact absurd h (Nat.not_lt_zero _)
  | cons t T ih =>
    have hc : ∀ (s : Tri) (L : List Tri), cellsT (s :: L) = .int .i64 s.1 :: .int .i64 s.2.1 :: .int .i64 s.2.2 :: cellsT L := fun s L => by simp [cellsT]
    cases j with
    | zero => rw [List.set_cons_zero, hc, hc]; rfl
    | succ j =>
      rw [List.set_cons_succ, hc, hc, ih j (by simpa using h)]
      rw [show (j + 1) * 3 = j * 3 + 1 + 1 + 1 by omega]
      rfl

theorem own_gb {w w' : World} {base e sz n : Nat} {v : Value} {xs : List Value} {row : Option Nat} (h : w.ownsRow base e sz v n xs) (hg : w.grownBy w' row) (hne : ∀ j, v.ownBlock = some j → some j ≠ row) : w'.ownsRow base e sz v n xs := by
  rcases h.2 with ⟨rfl, h0⟩ | ⟨g, cap, cur, rfl, hb, hh, h3⟩
  · exact ⟨h.1, .inl ⟨rfl, h0⟩⟩
  · exact ⟨h.1, .inr ⟨g, cap, cur, rfl, hb, (hg.block g (Array.getElem?_eq_some_iff.1 hh).1 (hne g rfl)).trans hh, h3⟩⟩

theorem turnT_length (T : List Tri) (i k : Nat) (u v p q : Int) : (turnT T i k u v p q).length = T.length := by
  unfold turnT; rw [List.length_set, List.length_set]
theorem turnT_min (T : List Tri) (i k : Nat) (u v p q : Int) (h : i ≠ k) (hi : i < T.length) (hk : k < T.length) : (turnT T i k u v p q)[min i k]? = some (u, q, p) := by
  unfold turnT
  rw [List.getElem?_set_ne (by omega), List.getElem?_set_self (by omega)]
theorem turnT_max (T : List Tri) (i k : Nat) (u v p q : Int) (hi : i < T.length) (hk : k < T.length) : (turnT T i k u v p q)[max i k]? = some (q, v, p) := by
  unfold turnT
  rw [List.getElem?_set_self (by rw [List.length_set]; omega)]
theorem turnT_in {P : List PtQ} {T : List Tri} {m : Nat} (hm : MeshIn P T m) (i k : Nat) (u v p q : Int) (hu : 0 ≤ u ∧ u < P.length) (hv : 0 ≤ v ∧ v < P.length) (hp : 0 ≤ p ∧ p < P.length) (hq : 0 ≤ q ∧ q < P.length) : MeshIn P (turnT T i k u v p q) m where
  kpos := hm.kpos
  klim := hm.klim
  sz := hm.sz
  plen := hm.plen
  tlen := by rw [turnT_length]; exact hm.tlen
  idx := by
    intro t ht x hx
    unfold turnT at ht
    rcases List.mem_or_eq_of_mem_set ht with ht | rfl
    · rcases List.mem_or_eq_of_mem_set ht with ht | rfl
      · exact hm.idx t ht x hx
      · simp [idxOf] at hx
        rcases hx with rfl | rfl | rfl <;> assumption
    · simp [idxOf] at hx
      rcases hx with rfl | rfl | rfl <;> assumption

theorem ptI_szP {P : List PtQ} {m : Nat} (h : ∀ p ∈ P, SzP m p) (hk : 0 < m) (z : Int) : SzP m (ptI P z) := by
  unfold ptI
  rcases Nat.lt_or_ge z.toNat P.length with h1 | h1
  · rw [List.getElem?_eq_getElem h1]; exact h _ (List.getElem_mem h1)
  · rw [List.getElem?_eq_none h1]; exact ⟨Sz.zero _ hk, Sz.zero _ hk⟩
theorem noSlP (l : List PtS) : ∀ y ∈ cellsP l, y ≠ .slice none 0 0 := by
  intro y hy
  unfold cellsP at hy
  obtain ⟨q, _, hq⟩ := List.mem_flatMap.1 hy
  simp at hq
  rcases hq with rfl | rfl <;> simp
theorem noSlT (l : List Tri) : ∀ y ∈ cellsT l, y ≠ .slice none 0 0 := by
  intro y hy
  unfold cellsT at hy
  obtain ⟨q, _, hq⟩ := List.mem_flatMap.1 hy
  simp at hq
  rcases hq with rfl | rfl | rfl <;> simp

/-- What Turn returns where both triangles are there. -/
def TurnP (P : List PtQ) (T : List Tri) (i k : Nat) (u v p q : Int) (r : Value) (w' : World) : Prop :=
  (0 < turnZ (ptI P u) (ptI P q) (ptI P p) ∧ 0 < turnZ (ptI P q) (ptI P v) (ptI P p) ∧ ∃ vp vt, r = .tuple #[.agg #[vp, vt], .int .i64 0] ∧ RdP w' vp (strP P) ∧ RdT w' vt (turnT T i k u v p q)) ∨
  ((turnZ (ptI P u) (ptI P q) (ptI P p) ≤ 0 ∨ turnZ (ptI P q) (ptI P v) (ptI P p) ≤ 0) ∧ r = noneE 7)

set_option maxHeartbeats 4000000 in
set_option maxRecDepth 100000 in
theorem mturn_both (w : World) (vp vt : Value) (P : List PtQ) (T : List Tri) (m : Nat) (hp : RdP w vp (strP P)) (ht : RdT w vt T) (hm : MeshOK P T m) (hI : ∀ t ∈ T, InI t.1 ∧ InI t.2.1 ∧ InI t.2.2) (u v : Int) (hu : -1000 ≤ u ∧ u ≤ 1000) (hv : -1000 ≤ v ∧ v ≤ 1000) (hlt : u < v) (i k : Nat) (s t : Tri) (p q : Nat) (hs : sideI T u v = (i : Int)) (ht2 : sideI T v u = (k : Int)) (hik : i ≠ k) (hsi : T[i]? = some s) (htk : T[k]? = some t) (hp3 : s.1 + s.2.1 + s.2.2 - u - v = (p : Int)) (hq3 : t.1 + t.2.1 + t.2.2 - u - v = (q : Int)) (hpl : p < P.length) (hql : q < P.length) (hg : Good w) :
    Calls Tryz.prog 35 #[.agg #[vp, vt], .agg #[.int .i64 u, .int .i64 v]] w (Ret (fun r w' => TurnP P T i k u v p q r w') w) := by
  have HCK : Hid (∀ w', Below w.heap.size w w' → Good w' → Calls Tryz.prog 22 #[.agg #[vp, vt]] w' (Ret (fun r _ => r = .int .i64 0) w')) := fun w' hb hg' => check_any w' vp vt P T m (RdC.below hp hb) (RdC.below ht hb) hm hg'
  have HOW : Hid (∀ w', Below w.heap.size w w' → Calls Tryz.prog 83 #[.agg #[vp, vt]] w' (Ret (OwnersP T w'.heap.size) w')) := fun w' hb => owners_any w' vp vt T (RdC.below ht hb) (by have := hm.tlen; omega) hI
  have HND : Hid (keysOf T).Nodup := by
    have := hm.whole
    unfold wholeB at this
    rw [Bool.and_eq_true] at this
    exact (of_decide_eq_true this.1 : (keysOf T).Nodup)
  have i1 : InE (u, v) := ⟨⟨by show (-9223372036854775808 : Int) ≤ u; omega, by show u ≤ (9223372036854775807 : Int); omega⟩, ⟨by show (-9223372036854775808 : Int) ≤ v; omega, by show v ≤ (9223372036854775807 : Int); omega⟩⟩
  have i2 : InE (v, u) := ⟨i1.2, i1.1⟩
  have HK1 : Hid (keyOf Tryz.prog 25 (.agg #[.int .i64 u, .int .i64 v]) = some (kE (u, v))) := keyE (s := (u, v)) i1.1 i1.2
  have HK2 : Hid (keyOf Tryz.prog 25 (.agg #[.int .i64 v, .int .i64 u]) = some (kE (v, u))) := keyE (s := (v, u)) i2.1 i2.2
  have HI1 := Lib.hid i1
  have HI2 := Lib.hid i2
  have hmi : MeshIn P T m := ⟨hm.kpos, hm.klim, hm.sz, hm.plen, hm.tlen, hm.idx⟩
  have hsin := sideI_in (n := (P.length : Int)) (show 0 ≤ sideI T u v by omega) hm.idx
  have hmt := turnT_in hmi i k u v p q hsin.1 hsin.2 ⟨by omega, by omega⟩ ⟨by omega, by omega⟩
  have HMT := Lib.hid hmt
  obtain ⟨hil, hsi'⟩ := List.getElem?_eq_some_iff.1 hsi
  obtain ⟨hkl, htk'⟩ := List.getElem?_eq_some_iff.1 htk
  have hpl400 := hm.plen
  have htl800 := hm.tlen
  have hsx : ∀ x ∈ idxOf s, 0 ≤ x ∧ x < (P.length : Int) := hm.idx s (by rw [← hsi']; exact List.getElem_mem hil)
  have htx : ∀ x ∈ idxOf t, 0 ≤ x ∧ x < (P.length : Int) := hm.idx t (by rw [← htk']; exact List.getElem_mem hkl)
  obtain ⟨s0, s1, s2⟩ := s
  obtain ⟨t0, t1, t2⟩ := t
  simp only [idxOf, List.mem_cons, List.not_mem_nil, or_false, forall_eq_or_imp, forall_eq] at hsx htx
  have HT1 : Hid (∀ w, Calls Tryz.prog 84 #[.agg #[.int .i64 s0, .int .i64 s1, .int .i64 s2], .agg #[.int .i64 u, .int .i64 v]] w (Ret (fun r _ => r = .int .i64 (p : Int)) w)) := fun w => by
    have h := mthird_any w s0 s1 s2 u v (by omega) (by omega) (by omega) (by omega) (by omega)
    rwa [show s0 + s1 + s2 - u - v = (p : Int) from hp3] at h
  have HT2 : Hid (∀ w, Calls Tryz.prog 84 #[.agg #[.int .i64 t0, .int .i64 t1, .int .i64 t2], .agg #[.int .i64 u, .int .i64 v]] w (Ret (fun r _ => r = .int .i64 (q : Int)) w)) := fun w => by
    have h := mthird_any w t0 t1 t2 u v (by omega) (by omega) (by omega) (by omega) (by omega)
    rwa [show t0 + t1 + t2 - u - v = (q : Int) from hq3] at h
  have HPR := Lib.hid hp
  have HTR := Lib.hid ht
  have HPN : Hid (strP P ≠ []) := fun e => by have h := strP_length P; rw [e] at h; simp at h; omega
  obtain ⟨pp, cp, rfl, -, -, -⟩ := hp.open
  obtain ⟨pt, ct, rfl, -, -, htr⟩ := ht.open
  obtain ⟨b, off, rfl, hbl, hcell⟩ := htr (List.ne_nil_of_length_pos (by omega))
  obtain ⟨q0, q1, q2⟩ := hcell i hil
  obtain ⟨r0, r1, r2⟩ := hcell k hkl
  rw [hsi'] at q0 q1 q2
  rw [htk'] at r0 r1 r2
  dsimp only at q0 q1 q2 r0 r1 r2
  have hiz : (i : Int) < (T.length : Int) := by omega
  have hkz : (k : Int) < (T.length : Int) := by omega
  have hge : decide (v ≤ u) = false := decide_eq_false (by omega)
  clear hcell htr hsi hsi' htk htk' hp3 hq3 hsx htx hmi hmt
  clear hp ht hm hI i1 i2
  go_enter Tryz.func35, Tryz.ntmps35
  go_wp2_with fail
  obtain ⟨W, hW⟩ : ∃ W, W = ((w.alloc (.cells #[.slice pp (strP P).length cp, .slice (some ⟨b, off, none⟩) T.length ct] 34)).alloc (.cells #[.int .i64 u, .int .i64 v] 25)).alloc (.cells #[.slice none 0 0, .slice none 0 0] 34) := ⟨_, rfl⟩
  have hB : Below w.heap.size w W := by rw [hW]; exact (((Below.refl _ _).alloc (Nat.le_refl _) _).alloc (by simp) _).alloc (by simp; omega) _
  have b4 : BoxN W (w.heap.size + 2) 34 [.slice none 0 0, .slice none 0 0] := by rw [hW]; exact BoxN.new _ _ _ _ (by simp)
  have b3 : BoxN W (w.heap.size + 1) 25 [.int .i64 u, .int .i64 v] := by
    rw [hW]
    have h1 := (BoxN.new (w.alloc (.cells #[.slice pp (strP P).length cp, .slice (some ⟨b, off, none⟩) T.length ct] 34)) #[.int .i64 u, .int .i64 v] 25 (w.heap.size + 1) (by simp))
    exact h1.below ((Below.refl _ _).alloc (Nat.le_refl _) _) h1.lt
  have b2 : BoxN W w.heap.size 34 [.slice pp (strP P).length cp, .slice (some ⟨b, off, none⟩) T.length ct] := by
    rw [hW]
    have h1 := (BoxN.new w #[.slice pp (strP P).length cp, .slice (some ⟨b, off, none⟩) T.length ct] 34 _ rfl)
    exact (h1.below ((Below.refl _ _).alloc (Nat.le_refl _) _) h1.lt).below ((Below.refl _ _).alloc (Nat.le_refl _) _) (by simp; omega)
  rw [← hW]
  clear hW
  refine (HCK.out W hB (hg.below hB)).mono ?_
  rintro e w1 ⟨_, rfl, rfl, hb1⟩
  have hB1 := hB.trans (hb1.mono hB.size)
  have b21 := b2.below hb1 b2.lt
  have b31 := b3.below hb1 b3.lt
  have b41 := b4.below hb1 b4.lt
  have x0 := b21.cell 0 rfl
  have x1 := b21.cell 1 rfl
  clear hb1 hB b2 b3 b4
  go_wp2_with fail
  refine (HOW.out w1 hB1).mono ?_
  rintro e w2 ⟨z, rfl, hov, hb2⟩
  rcases hov with hov | ⟨hnn, _⟩
  rotate_left
  · exact absurd HND.out hnn
  obtain ⟨_, bm, D, hbm, rfl, hM⟩ := hov
  have hB2 := hB1.trans (hb2.mono hB1.size)
  have b22 := b21.below hb2 b21.lt
  have b32 := b31.below hb2 b31.lt
  have b42 := b41.below hb2 b41.lt
  have HM := Lib.hid hM
  have hbml : bm < w2.heap.size := by
    obtain ⟨es, ck, hh, _⟩ := hM.owns
    exact (Array.getElem?_eq_some_iff.1 hh).1
  have hh1 := hM.has_iff HI1.out
  have hh2 := hM.has_iff HI2.out
  clear hb2 hB1 b21 b31 b41 x0 x1 hM
  have e0 := b32.cell 0 rfl
  have e1 := b32.cell 1 rfl
  go_upto_region 5 with fail
  go_region
  all_goals
    obtain ⟨o5, ho5⟩ : ∃ W, W = w2.drew := ⟨_, rfl⟩
    have hb5 : Below w2.heap.size w2 o5 := by rw [ho5]; exact below_drewN w2 1
    rw [← ho5]
    have hB5 := hB2.trans (hb5.mono hB2.size)
    have b25 := b22.below hb5 b22.lt
    have b35 := b32.below hb5 b32.lt
    have b45 := b42.below hb5 b42.lt
    have hM5 : MapL viewE 3 (Lit.int .i64) o5 bm (3 * T.length) D (ownL T) := HM.out.below hb5 hbml
    have hown := hM5.owns
    have HH1 : Hid ((Maps.has D (kE (u, v)) = true) ↔ 0 ≤ sideI T u v) := hh1.trans sideI_has
    have HH2 : Hid ((Maps.has D (kE (v, u)) = true) ↔ 0 ≤ sideI T v u) := hh2.trans sideI_has
    have HM5 := Lib.hid hM5
    clear ho5 hb5 hM5 hh1 hh2 e0 e1 b22 b32 b42 hB2 HM
    have y0 := b45.cell 0 rfl
    have y1 := b45.cell 1 rfl
    have f0 := b45.frozen 0
    have f1 := b45.frozen 1
    have H1 : Hid (Maps.has D (kE (u, v)) = true) := HH1.out.2 (by omega)
    have H2 : Hid (Maps.has D (kE (v, u)) = true) := HH2.out.2 (by omega)
    have HV1 : Hid (∀ c : Int, D.atKey (kE (u, v)) (.lit (.int .i64 0)) = .lit (.int .i64 c) → c = (i : Int)) := fun c hc => by
      have h1 := HM5.out.at (sideI_mem (sideI_has.2 (show 0 ≤ sideI T u v by omega))) (.lit (.int .i64 0))
      have h2 := hc.symm.trans h1
      injection h2 with h2; injection h2 with _ h2
      rw [h2, hs]
    have HV2 : Hid (∀ c : Int, D.atKey (kE (v, u)) (.lit (.int .i64 0)) = .lit (.int .i64 c) → c = (k : Int)) := fun c hc => by
      have h1 := HM5.out.at (sideI_mem (sideI_has.2 (show 0 ≤ sideI T v u by omega))) (.lit (.int .i64 0))
      have h2 := hc.symm.trans h1
      injection h2 with h2; injection h2 with _ h2
      rw [h2, ht2]
    have x1 := b25.cell 1 rfl
    have x0 := b25.cell 0 rfl
    have e0 := b35.cell 0 rfl
    have e1 := b35.cell 1 rfl
    have hbW : b < o5.heap.size := by have := hB5.size; omega
    have d0 := (hB5.cell (p := ⟨b, off + i * 3, none⟩) hbl).trans q0
    have d1 := (hB5.cell (p := ⟨b, off + i * 3 + 1, none⟩) hbl).trans q1
    have d2 := (hB5.cell (p := ⟨b, off + i * 3 + 2, none⟩) hbl).trans q2
    have k0 := (hB5.cell (p := ⟨b, off + k * 3, none⟩) hbl).trans r0
    have k1 := (hB5.cell (p := ⟨b, off + k * 3 + 1, none⟩) hbl).trans r1
    have k2 := (hB5.cell (p := ⟨b, off + k * 3 + 2, none⟩) hbl).trans r2
    have hl25 := b25.lt
    have hl35 := b35.lt
    have hl45 := b45.lt
    have hgd : Good o5.drew := (hg.below hB5).drewN 1
    clear q0 q1 q2 r0 r1 r2 HH1 HH2 HM5
    go_upto_region 12 with (first | (at_lookup; refine wpList_lookup_own_ok_int _ rfl _ _ 123 rfl 25 3 .i64 lawE und_EI und_I (zeroI _) bm (3 * T.length) D rfl hown _ _ rfl HK1.out ?_; rw [H1.out]; intro c1 hat1 _; obtain rfl := HV1.out _ hat1; clear hat1) | (at_lookup; refine wpList_lookup_own_ok_int _ rfl _ _ 123 rfl 25 3 .i64 lawE und_EI und_I (zeroI _) bm (3 * T.length) D rfl hown _ _ rfl HK2.out ?_; rw [H2.out]; intro c2 hat2 _; obtain rfl := HV2.out _ hat2; clear hat2))
    have HKA : Hid (∀ w', Below o5.heap.size o5 w' → w'.cell? ⟨w.heap.size, 1, none⟩ = some (.slice (some ⟨b, off, none⟩) T.length ct) ∧ w'.cell? ⟨w.heap.size + 1, 0, none⟩ = some (.int .i64 u) ∧ w'.cell? ⟨w.heap.size + 1, 1, none⟩ = some (.int .i64 v) ∧ w'.cell? ⟨b, off + i * 3, none⟩ = some (.int .i64 s0) ∧ w'.cell? ⟨b, off + i * 3 + 1, none⟩ = some (.int .i64 s1) ∧ w'.cell? ⟨b, off + i * 3 + 2, none⟩ = some (.int .i64 s2) ∧ w'.cell? ⟨b, off + k * 3, none⟩ = some (.int .i64 t0) ∧ w'.cell? ⟨b, off + k * 3 + 1, none⟩ = some (.int .i64 t1) ∧ w'.cell? ⟨b, off + k * 3 + 2, none⟩ = some (.int .i64 t2)) := fun w' hb => ⟨(hb.cell (p := ⟨w.heap.size, 1, none⟩) hl25).trans x1, (hb.cell (p := ⟨w.heap.size + 1, 0, none⟩) hl35).trans e0, (hb.cell (p := ⟨w.heap.size + 1, 1, none⟩) hl35).trans e1, (hb.cell (p := ⟨b, off + i * 3, none⟩) hbW).trans d0, (hb.cell (p := ⟨b, off + i * 3 + 1, none⟩) hbW).trans d1, (hb.cell (p := ⟨b, off + i * 3 + 2, none⟩) hbW).trans d2, (hb.cell (p := ⟨b, off + k * 3, none⟩) hbW).trans k0, (hb.cell (p := ⟨b, off + k * 3 + 1, none⟩) hbW).trans k1, (hb.cell (p := ⟨b, off + k * 3 + 2, none⟩) hbW).trans k2⟩
    clear x0 x1 e0 e1 d0 d1 d2 k0 k1 k2 y0 y1 f0 f1 H1 H2 HV1 HV2 hown
    have hb50 : Below o5.heap.size o5 o5.drew := below_drewN o5 1
    refine AnyL.region (S := Till 13 (fun w' => w'.cell? ⟨w.heap.size, 1, none⟩ = some (.slice (some ⟨b, off, none⟩) T.length ct) ∧ w'.cell? ⟨w.heap.size + 1, 0, none⟩ = some (.int .i64 u) ∧ w'.cell? ⟨w.heap.size + 1, 1, none⟩ = some (.int .i64 v) ∧ w'.cell? ⟨b, off + i * 3, none⟩ = some (.int .i64 s0) ∧ w'.cell? ⟨b, off + i * 3 + 1, none⟩ = some (.int .i64 s1) ∧ w'.cell? ⟨b, off + i * 3 + 2, none⟩ = some (.int .i64 s2) ∧ w'.cell? ⟨b, off + k * 3, none⟩ = some (.int .i64 t0) ∧ w'.cell? ⟨b, off + k * 3 + 1, none⟩ = some (.int .i64 t1) ∧ w'.cell? ⟨b, off + k * 3 + 2, none⟩ = some (.int .i64 t2)) (fun _ => True)) (by kernel_rfl) ?_
    have hHeld : Till 13 (fun w' => w'.cell? ⟨w.heap.size, 1, none⟩ = some (.slice (some ⟨b, off, none⟩) T.length ct) ∧ w'.cell? ⟨w.heap.size + 1, 0, none⟩ = some (.int .i64 u) ∧ w'.cell? ⟨w.heap.size + 1, 1, none⟩ = some (.int .i64 v) ∧ w'.cell? ⟨b, off + i * 3, none⟩ = some (.int .i64 s0) ∧ w'.cell? ⟨b, off + i * 3 + 1, none⟩ = some (.int .i64 s1) ∧ w'.cell? ⟨b, off + i * 3 + 2, none⟩ = some (.int .i64 s2) ∧ w'.cell? ⟨b, off + k * 3, none⟩ = some (.int .i64 t0) ∧ w'.cell? ⟨b, off + k * 3 + 1, none⟩ = some (.int .i64 t1) ∧ w'.cell? ⟨b, off + k * 3 + 2, none⟩ = some (.int .i64 t2)) (fun _ => True) (Array.replicate 16 false) _ := ⟨HKA.out _ hb50, fun _ => trivial⟩
    refine AnyL.take (i := 0) (oi := _) (v := ?_) rfl (by kernel_rfl) (by kernel_rfl) (by kernel_rfl) (by decide) (fun _ _ _ h => h) (Or.inl ⟨by rfl, ?_⟩) ⟨hHeld.1, fun _ => hHeld.2 (by rfl)⟩ ?_
    rotate_left
    · intro w hSw; (try dsimp only at hSw); first | (go_simp; done) | (go_simp; with_reducible rfl)
    try simp only [Act.put, List.getElem_toArray, List.getElem_cons_zero, List.setIfInBounds_toArray, List.set_cons_zero, List.set_cons_succ]
    refine AnyL.take (i := 1) (oi := _) (v := ?_) rfl (by kernel_rfl) (by kernel_rfl) (by kernel_rfl) (by decide) (fun _ _ _ h => h) (Or.inl ⟨by rfl, ?_⟩) ⟨hHeld.1, fun _ => hHeld.2 (by rfl)⟩ ?_
    rotate_left
    · intro w hSw; (try dsimp only at hSw); first | (go_simp; done) | (go_simp; with_reducible rfl)
    try simp only [Act.put, List.getElem_toArray, List.getElem_cons_zero, List.getElem_cons_succ, List.setIfInBounds_toArray, List.set_cons_zero, List.set_cons_succ]
    refine AnyL.take (i := 2) (oi := _) (v := ?_) rfl (by kernel_rfl) (by kernel_rfl) (by kernel_rfl) (by decide) (fun _ _ _ h => h) (Or.inl ⟨by rfl, ?_⟩) ⟨hHeld.1, fun _ => hHeld.2 (by rfl)⟩ ?_
    rotate_left
    · intro w hSw; (try dsimp only at hSw); first | (go_simp; done) | (go_simp; with_reducible rfl)
    try simp only [Act.put, List.getElem_toArray, List.getElem_cons_zero, List.getElem_cons_succ, List.setIfInBounds_toArray, List.set_cons_zero, List.set_cons_succ]
    refine AnyL.take (i := 3) (oi := _) (v := ?_) rfl (by kernel_rfl) (by kernel_rfl) (by kernel_rfl) (by decide) (fun _ _ _ h => h) (Or.inl ⟨by rfl, ?_⟩) ⟨hHeld.1, fun _ => hHeld.2 (by rfl)⟩ ?_
    rotate_left
    · intro w hSw; (try dsimp only at hSw); first | (go_simp; done) | (go_simp; with_reducible rfl)
    try simp only [Act.put, List.getElem_toArray, List.getElem_cons_zero, List.getElem_cons_succ, List.setIfInBounds_toArray, List.set_cons_zero, List.set_cons_succ]
    refine AnyL.take (i := 4) (oi := _) (v := ?_) rfl (by kernel_rfl) (by kernel_rfl) (by kernel_rfl) (by decide) (fun _ _ _ h => h) (Or.inl ⟨by rfl, ?_⟩) ⟨hHeld.1, fun _ => hHeld.2 (by rfl)⟩ ?_
    rotate_left
    · intro w hSw; (try dsimp only at hSw); first | (go_simp; done) | (go_simp; with_reducible rfl)
    try simp only [Act.put, List.getElem_toArray, List.getElem_cons_zero, List.getElem_cons_succ, List.setIfInBounds_toArray, List.set_cons_zero, List.set_cons_succ]
    refine AnyL.take (i := 5) (oi := _) (v := ?_) rfl (by kernel_rfl) (by kernel_rfl) (by kernel_rfl) (by decide) (fun _ _ _ h => h) (Or.inl ⟨by rfl, ?_⟩) ⟨hHeld.1, fun _ => hHeld.2 (by rfl)⟩ ?_
    rotate_left
    · intro w hSw; (try dsimp only at hSw); first | (go_simp; done) | (go_simp; with_reducible rfl)
    try simp only [Act.put, List.getElem_toArray, List.getElem_cons_zero, List.getElem_cons_succ, List.setIfInBounds_toArray, List.set_cons_zero, List.set_cons_succ]
    refine AnyL.take (i := 7) (oi := _) (v := ?_) rfl (by kernel_rfl) (by kernel_rfl) (by kernel_rfl) (by decide) (fun _ _ _ h => h) (Or.inl ⟨by rfl, ?_⟩) ⟨hHeld.1, fun _ => hHeld.2 (by rfl)⟩ ?_
    rotate_left
    · intro w hSw; (try dsimp only at hSw); first | (go_simp; done) | (go_simp; with_reducible rfl)
    try simp only [Act.put, List.getElem_toArray, List.getElem_cons_zero, List.getElem_cons_succ, List.setIfInBounds_toArray, List.set_cons_zero, List.set_cons_succ]
    refine AnyL.take (i := 8) (oi := _) (v := ?_) rfl (by kernel_rfl) (by kernel_rfl) (by kernel_rfl) (by decide) (fun _ _ _ h => h) (Or.inl ⟨by rfl, ?_⟩) ⟨hHeld.1, fun _ => hHeld.2 (by rfl)⟩ ?_
    rotate_left
    · intro w hSw; (try dsimp only at hSw); first | (go_simp; done) | (go_simp; with_reducible rfl)
    try simp only [Act.put, List.getElem_toArray, List.getElem_cons_zero, List.getElem_cons_succ, List.setIfInBounds_toArray, List.set_cons_zero, List.set_cons_succ]
    refine AnyL.take (i := 9) (oi := _) (v := ?_) rfl (by kernel_rfl) (by kernel_rfl) (by kernel_rfl) (by decide) (fun _ _ _ h => h) (Or.inl ⟨by rfl, ?_⟩) ⟨hHeld.1, fun _ => hHeld.2 (by rfl)⟩ ?_
    rotate_left
    · intro w hSw; (try dsimp only at hSw); first | (go_simp; done) | (go_simp; with_reducible rfl)
    try simp only [Act.put, List.getElem_toArray, List.getElem_cons_zero, List.getElem_cons_succ, List.setIfInBounds_toArray, List.set_cons_zero, List.set_cons_succ]
    refine AnyL.take (i := 10) (oi := _) (v := ?_) rfl (by kernel_rfl) (by kernel_rfl) (by kernel_rfl) (by decide) (fun _ _ _ h => h) (Or.inl ⟨by rfl, ?_⟩) ⟨hHeld.1, fun _ => hHeld.2 (by rfl)⟩ ?_
    rotate_left
    · intro w hSw; (try dsimp only at hSw); first | (go_simp; done) | (go_simp; with_reducible rfl)
    try simp only [Act.put, List.getElem_toArray, List.getElem_cons_zero, List.getElem_cons_succ, List.setIfInBounds_toArray, List.set_cons_zero, List.set_cons_succ]
    refine AnyL.take (i := 11) (oi := _) (v := ?_) rfl (by kernel_rfl) (by kernel_rfl) (by kernel_rfl) (by decide) (fun _ _ _ h => h) (Or.inl ⟨by rfl, ?_⟩) ⟨hHeld.1, fun _ => hHeld.2 (by rfl)⟩ ?_
    rotate_left
    · intro w hSw; (try dsimp only at hSw); first | (go_simp; done) | (go_simp; with_reducible rfl)
    try simp only [Act.put, List.getElem_toArray, List.getElem_cons_zero, List.getElem_cons_succ, List.setIfInBounds_toArray, List.set_cons_zero, List.set_cons_succ]
    refine AnyL.take (i := 12) (oi := _) (v := ?_) rfl (by kernel_rfl) (by kernel_rfl) (by kernel_rfl) (by decide) (fun _ _ _ h => h) (Or.inl ⟨by rfl, ?_⟩) ⟨hHeld.1, fun _ => hHeld.2 (by rfl)⟩ ?_
    rotate_left
    · intro w hSw; (try dsimp only at hSw); first | (go_simp; done) | (go_simp; with_reducible rfl)
    try simp only [Act.put, List.getElem_toArray, List.getElem_cons_zero, List.getElem_cons_succ, List.setIfInBounds_toArray, List.set_cons_zero, List.set_cons_succ]
    refine AnyL.one (i := 6) (o := _) (by kernel_rfl) rfl (fun K hK => ?_)
    go_simp
    (refine (HT1.out _).mono ?_; rintro e y1 ⟨_, rfl, rfl, hy1⟩; have hb51 := hb50.trans (hy1.mono hb50.size))
    refine hK.out _ _ ⟨HKA.out _ hb51, fun hk => trivial⟩ (fun hHeld => ?_)
    clear hK K
    try simp only [Act.put, List.getElem_toArray, List.getElem_cons_zero, List.getElem_cons_succ, List.setIfInBounds_toArray, List.set_cons_zero, List.set_cons_succ]
    refine AnyL.one (i := 13) (o := _) (by kernel_rfl) rfl (fun K hK => ?_)
    go_simp
    (refine (HT2.out _).mono ?_; rintro e y2 ⟨_, rfl, rfl, hy2⟩; have hb52 := hb51.trans (hy2.mono hb51.size))
    refine hK.out _ _ ⟨HKA.out _ hb52, fun hk => (by simp at hk)⟩ (fun hHeld => ?_)
    clear hK K
    try simp only [Act.put, List.getElem_toArray, List.getElem_cons_zero, List.getElem_cons_succ, List.setIfInBounds_toArray, List.set_cons_zero, List.set_cons_succ]
    refine AnyL.take (i := 14) (oi := _) (v := ?_) rfl (by kernel_rfl) (by kernel_rfl) (by kernel_rfl) (by decide) (fun _ _ _ h => h) (Or.inl ⟨by rfl, ?_⟩) ⟨hHeld.1, fun hk => (by simp at hk)⟩ ?_
    rotate_left
    · intro w hSw; (try dsimp only at hSw); first | (go_simp; done) | (go_simp; with_reducible rfl)
    try simp only [Act.put, List.getElem_toArray, List.getElem_cons_zero, List.getElem_cons_succ, List.setIfInBounds_toArray, List.set_cons_zero, List.set_cons_succ]
    refine AnyL.take (i := 15) (oi := _) (v := ?_) rfl (by kernel_rfl) (by kernel_rfl) (by kernel_rfl) (by decide) (fun _ _ _ h => h) (Or.inl ⟨by rfl, ?_⟩) ⟨hHeld.1, fun hk => (by simp at hk)⟩ ?_
    rotate_left
    · intro w hSw; (try dsimp only at hSw); first | (go_simp; done) | (go_simp; with_reducible rfl)
    try simp only [Act.put, List.getElem_toArray, List.getElem_cons_zero, List.getElem_cons_succ, List.setIfInBounds_toArray, List.set_cons_zero, List.set_cons_succ]
    refine AnyL.done (by kernel_rfl) ?_ _
    go_upto_region 14 with fail
    obtain ⟨W3, hW3⟩ : ∃ W3, W3 = (y2.alloc (.cells #[.int .i64 u, .int .i64 (q : Int), .int .i64 (p : Int)] 42)).alloc (.cells #[.int .i64 (q : Int), .int .i64 v, .int .i64 (p : Int)] 42) := ⟨_, rfl⟩
    have hb3 : Below y2.heap.size y2 W3 := by rw [hW3]; exact ((Below.refl _ _).alloc (Nat.le_refl _) _).alloc (by simp) _
    have b18 : BoxN W3 (y2.heap.size + 1) 42 [.int .i64 (q : Int), .int .i64 v, .int .i64 (p : Int)] := by rw [hW3]; exact BoxN.new _ _ _ _ (by simp)
    have b17 : BoxN W3 y2.heap.size 42 [.int .i64 u, .int .i64 (q : Int), .int .i64 (p : Int)] := by
      rw [hW3]
      have h1 := (BoxN.new y2 #[.int .i64 u, .int .i64 (q : Int), .int .i64 (p : Int)] 42 _ rfl)
      exact h1.below ((Below.refl _ _).alloc (Nat.le_refl _) _) h1.lt
    rw [← hW3]
    have hb53 := hb52.trans (hb3.mono hb52.size)
    clear hW3 hb3 HKA
    have x0 := b25.cell 0 rfl
    have x1 := b25.cell 1 rfl
    have HKB : Hid (∀ w', Below W3.heap.size W3 w' → w'.cell? ⟨w.heap.size, 0, none⟩ = some (.slice pp (strP P).length cp) ∧ w'.cell? ⟨w.heap.size, 1, none⟩ = some (.slice (some ⟨b, off, none⟩) T.length ct)) := fun w' hb => by
      have hb2 := hb53.trans (hb.mono hb53.size)
      exact ⟨(hb2.cell (p := ⟨w.heap.size, 0, none⟩) hl25).trans x0, (hb2.cell (p := ⟨w.heap.size, 1, none⟩) hl25).trans x1⟩
    have HCP : Hid (∀ w', Below W3.heap.size W3 w' → Calls Tryz.prog 85 #[.slice pp (strP P).length cp] w' (Ret (fun r w2 => w2.ownsRow w'.heap.size 24 2 r (strP P).length (cellsP (strP P))) w')) := fun w' hb => cloneP_any w' _ (strP P) (RdC.below HPR.out (hB5.trans ((hb53.trans (hb.mono hb53.size)).mono hB5.size))) HPN.out (by rw [strP_length]; omega)
    have HCT : Hid (∀ w', Below W3.heap.size W3 w' → Calls Tryz.prog 86 #[.slice (some ⟨b, off, none⟩) T.length ct] w' (Ret (fun r w2 => w2.ownsRow w'.heap.size 42 3 r T.length (cellsT T)) w')) := fun w' hb => cloneT_any w' _ T (RdC.below HTR.out (hB5.trans ((hb53.trans (hb.mono hb53.size)).mono hB5.size))) (List.ne_nil_of_length_pos (by omega)) (by omega)
    have b0 : Below W3.heap.size W3 W3.drew := below_drewN W3 1
    clear x0 x1
    go_cut [19] (fun s19 wx => ∃ (B g9 c9 : Nat) (v8 : Value), s19 = .pointer (some ⟨B, 0, none⟩) ∧ BoxN wx B 34 [v8, .slice (some ⟨g9, 0, none⟩) T.length c9] ∧ wx.ownsRow W3.heap.size 24 2 v8 (strP P).length (cellsP (strP P)) ∧ wx.ownsRow W3.heap.size 42 3 (.slice (some ⟨g9, 0, none⟩) T.length c9) T.length (cellsT T) ∧ Below W3.heap.size W3 wx ∧ W3.heap.size ≤ B)
    case first =>
      refine AnyL.region (S := Till 8 (fun w' => w'.cell? ⟨w.heap.size, 0, none⟩ = some (.slice pp (strP P).length cp) ∧ w'.cell? ⟨w.heap.size, 1, none⟩ = some (.slice (some ⟨b, off, none⟩) T.length ct)) (fun _ => True)) (by kernel_rfl) ?_
      have hHeld : Till 8 (fun w' => w'.cell? ⟨w.heap.size, 0, none⟩ = some (.slice pp (strP P).length cp) ∧ w'.cell? ⟨w.heap.size, 1, none⟩ = some (.slice (some ⟨b, off, none⟩) T.length ct)) (fun _ => True) (Array.replicate 9 false) _ := ⟨HKB.out _ b0, fun _ => trivial⟩
      refine AnyL.take (i := 0) (oi := _) (v := ?_) rfl (by kernel_rfl) (by kernel_rfl) (by kernel_rfl) (by decide) (fun _ _ _ h => h) (Or.inl ⟨by rfl, ?_⟩) ⟨hHeld.1, fun _ => hHeld.2 (by rfl)⟩ ?_
      rotate_left
      · intro w hSw; (try dsimp only at hSw); first | (go_simp; done) | (go_simp; with_reducible rfl)
      try simp only [Act.put, List.getElem_toArray, List.getElem_cons_zero, List.setIfInBounds_toArray, List.set_cons_zero, List.set_cons_succ]
      refine AnyL.take (i := 1) (oi := _) (v := ?_) rfl (by kernel_rfl) (by kernel_rfl) (by kernel_rfl) (by decide) (fun _ _ _ h => h) (Or.inl ⟨by rfl, ?_⟩) ⟨hHeld.1, fun _ => hHeld.2 (by rfl)⟩ ?_
      rotate_left
      · intro w hSw; (try dsimp only at hSw); first | (go_simp; done) | (go_simp; with_reducible rfl)
      try simp only [Act.put, List.getElem_toArray, List.getElem_cons_zero, List.getElem_cons_succ, List.setIfInBounds_toArray, List.set_cons_zero, List.set_cons_succ]
      refine AnyL.take (i := 3) (oi := _) (v := ?_) rfl (by kernel_rfl) (by kernel_rfl) (by kernel_rfl) (by decide) (fun _ _ _ h => h) (Or.inl ⟨by rfl, ?_⟩) ⟨hHeld.1, fun _ => hHeld.2 (by rfl)⟩ ?_
      rotate_left
      · intro w hSw; (try dsimp only at hSw); first | (go_simp; done) | (go_simp; with_reducible rfl)
      try simp only [Act.put, List.getElem_toArray, List.getElem_cons_zero, List.getElem_cons_succ, List.setIfInBounds_toArray, List.set_cons_zero, List.set_cons_succ]
      refine AnyL.take (i := 4) (oi := _) (v := ?_) rfl (by kernel_rfl) (by kernel_rfl) (by kernel_rfl) (by decide) (fun _ _ _ h => h) (Or.inl ⟨by rfl, ?_⟩) ⟨hHeld.1, fun _ => hHeld.2 (by rfl)⟩ ?_
      rotate_left
      · intro w hSw; (try dsimp only at hSw); first | (go_simp; done) | (go_simp; with_reducible rfl)
      try simp only [Act.put, List.getElem_toArray, List.getElem_cons_zero, List.getElem_cons_succ, List.setIfInBounds_toArray, List.set_cons_zero, List.set_cons_succ]
      refine AnyL.two (i := 2) (j := 7) (oi := _) (oj := _) (by kernel_rfl) rfl rfl (fun K hK => ?_) (fun K hK => ?_)
      · go_simp
        refine (HCP.out _ b0).mono ?_
        rintro e y4 ⟨v8, rfl, hown8, hy4⟩
        obtain ⟨p8, c8, rfl⟩ := ownsRow_shape hown8
        have b1 := b0.trans (hy4.mono b0.size)
        have hs4 := b1.size
        have hown8 := ownsRow_low hown8 b0.size
        refine hK.out _ _ ⟨HKB.out _ b1, fun hk => trivial⟩ (fun hHeld => ?_)
        clear hK K
        try simp only [Act.put, List.getElem_toArray, List.getElem_cons_zero, List.getElem_cons_succ, List.setIfInBounds_toArray, List.set_cons_zero, List.set_cons_succ]
        refine AnyL.two (i := 5) (j := 7) (oi := _) (oj := _) (by kernel_rfl) rfl rfl (fun K hK => ?_) (fun K hK => ?_)
        · go_simp
          refine (HCT.out _ b1).mono ?_
          rintro e y5 ⟨v9, rfl, hown9, hy5⟩
          obtain ⟨g9, c9, rfl, hg9, hg9l⟩ := ownsRow_some hown9 (by omega)
          have b2 := b1.trans (hy5.mono b1.size)
          have hs5 := b2.size
          have hown9 := ownsRow_low hown9 b1.size
          have hown8 := World.ownsRow.belowAll hown8 hy5
          refine hK.out _ _ ⟨HKB.out _ b2, fun hk => trivial⟩ (fun hHeld => ?_)
          clear hK K
          try simp only [Act.put, List.getElem_toArray, List.getElem_cons_zero, List.getElem_cons_succ, List.setIfInBounds_toArray, List.set_cons_zero, List.set_cons_succ]
          refine AnyL.take (i := 6) (oi := _) (v := ?_) rfl (by kernel_rfl) (by kernel_rfl) (by kernel_rfl) (by decide) (fun _ _ _ h => h) (Or.inl ⟨by rfl, ?_⟩) ⟨hHeld.1, fun _ => hHeld.2 (by rfl)⟩ ?_
          rotate_left
          · intro w hSw; (try dsimp only at hSw); first | (go_simp; done) | (go_simp; with_reducible rfl)
          try simp only [Act.put, List.getElem_toArray, List.getElem_cons_zero, List.getElem_cons_succ, List.setIfInBounds_toArray, List.set_cons_zero, List.set_cons_succ]
          refine AnyL.one (i := 7) (o := _) (by kernel_rfl) rfl (fun K hK => ?_)
          go_simp
          refine hK.out _ _ ⟨HKB.out _ (b2.alloc b2.size _), fun hk => trivial⟩ (fun hHeld => ?_)
          clear hK K
          try simp only [Act.put, List.getElem_toArray, List.getElem_cons_zero, List.getElem_cons_succ, List.setIfInBounds_toArray, List.set_cons_zero, List.set_cons_succ]
          refine AnyL.one (i := 8) (o := _) (by kernel_rfl) rfl (fun K hK => ?_)
          go_simp
          refine hK.out _ _ ⟨HKB.out _ (b2.alloc b2.size _), fun hk => (by simp at hk)⟩ (fun hHeld => ?_)
          clear hK K
          try simp only [Act.put, List.getElem_toArray, List.getElem_cons_zero, List.getElem_cons_succ, List.setIfInBounds_toArray, List.set_cons_zero, List.set_cons_succ]
          refine AnyL.done (by kernel_rfl) ?_ _
          go_wp2_with fail
          go_meet
          exact ⟨_, g9, c9, _, rfl, BoxN.new _ _ _ _ rfl, hown8.alloc _, hown9.alloc _, b2.alloc b2.size _, hs5⟩
        · go_simp
          refine hK.out _ _ ⟨HKB.out _ (b1.alloc b1.size _), fun hk => trivial⟩ (fun hHeld => ?_)
          clear hK K
          try simp only [Act.put, List.getElem_toArray, List.getElem_cons_zero, List.getElem_cons_succ, List.setIfInBounds_toArray, List.set_cons_zero, List.set_cons_succ]
          have bz : BoxN (y4.alloc (.cells #[.slice none 0 0, .slice none 0 0] 34)) y4.heap.size 34 [.slice none 0 0, .slice none 0 0] := BoxN.new _ _ _ _ rfl
          have b1a := b1.alloc b1.size (.cells #[.slice none 0 0, .slice none 0 0] 34)
          have hown8 := hown8.alloc (.cells #[.slice none 0 0, .slice none 0 0] 34)
          refine AnyL.one (i := 5) (o := _) (by kernel_rfl) rfl (fun K hK => ?_)
          go_simp
          refine (HCT.out _ b1a).mono ?_
          rintro e y5 ⟨v9, rfl, hown9, hy5⟩
          obtain ⟨g9, c9, rfl, hg9, hg9l⟩ := ownsRow_some hown9 (by omega)
          have b2 := b1a.trans (hy5.mono b1a.size)
          have hs5 := b2.size
          have hown9 := ownsRow_low hown9 b1a.size
          have hown8 := World.ownsRow.belowAll hown8 hy5
          have bz := bz.below hy5 bz.lt
          have q0 := bz.cell 0 rfl
          have q1 := bz.cell 1 rfl
          have e0 := bz.frozen 0
          have e1 := bz.frozen 1
          refine hK.out _ _ ⟨HKB.out _ b2, fun hk => trivial⟩ (fun hHeld => ?_)
          clear hK K
          try simp only [Act.put, List.getElem_toArray, List.getElem_cons_zero, List.getElem_cons_succ, List.setIfInBounds_toArray, List.set_cons_zero, List.set_cons_succ]
          refine AnyL.take (i := 6) (oi := _) (v := ?_) rfl (by kernel_rfl) (by kernel_rfl) (by kernel_rfl) (by decide) (fun _ _ _ h => h) (Or.inl ⟨by rfl, ?_⟩) ⟨hHeld.1, fun _ => hHeld.2 (by rfl)⟩ ?_
          rotate_left
          · intro w hSw; (try dsimp only at hSw); first | (go_simp; done) | (go_simp; with_reducible rfl)
          try simp only [Act.put, List.getElem_toArray, List.getElem_cons_zero, List.getElem_cons_succ, List.setIfInBounds_toArray, List.set_cons_zero, List.set_cons_succ]
          refine AnyL.one (i := 8) (o := _) (by kernel_rfl) rfl (fun K hK => ?_)
          go_simp
          refine hK.out _ _ ⟨HKB.out _ (((b2).setCell (p := ⟨y4.heap.size, 0, none⟩) (by first | exact Nat.le_refl _ | exact hs4) _).setCell (p := ⟨y4.heap.size, 1, none⟩) (by first | exact Nat.le_refl _ | exact hs4) _), fun hk => (by simp at hk)⟩ (fun hHeld => ?_)
          clear hK K
          try simp only [Act.put, List.getElem_toArray, List.getElem_cons_zero, List.getElem_cons_succ, List.setIfInBounds_toArray, List.set_cons_zero, List.set_cons_succ]
          refine AnyL.done (by kernel_rfl) ?_ _
          go_wp2_with fail
          go_meet
          exact ⟨_, g9, c9, _, rfl, (bz.set 0 _).set 1 _, (ownsRow_setCell_other (ownsRow_setCell_other hown8 (a := ⟨y4.heap.size, 0, none⟩) (fun e => owns_boxN hown8 bz (by decide) e.symm) _) (a := ⟨y4.heap.size, 1, none⟩) (fun e => owns_boxN hown8 bz (by decide) e.symm) _), (ownsRow_setCell_other (ownsRow_setCell_other hown9 (a := ⟨y4.heap.size, 0, none⟩) (fun e => owns_boxN hown9 bz (by decide) e.symm) _) (a := ⟨y4.heap.size, 1, none⟩) (fun e => owns_boxN hown9 bz (by decide) e.symm) _), (((b2).setCell (p := ⟨y4.heap.size, 0, none⟩) (by first | exact Nat.le_refl _ | exact hs4) _).setCell (p := ⟨y4.heap.size, 1, none⟩) (by first | exact Nat.le_refl _ | exact hs4) _), hs4⟩
      · go_simp
        refine hK.out _ _ ⟨HKB.out _ (b0.alloc b0.size _), fun hk => trivial⟩ (fun hHeld => ?_)
        clear hK K
        try simp only [Act.put, List.getElem_toArray, List.getElem_cons_zero, List.getElem_cons_succ, List.setIfInBounds_toArray, List.set_cons_zero, List.set_cons_succ]
        have bz : BoxN (W3.drew.alloc (.cells #[.slice none 0 0, .slice none 0 0] 34)) W3.heap.size 34 [.slice none 0 0, .slice none 0 0] := BoxN.new _ _ _ _ rfl
        have b0a := b0.alloc b0.size (.cells #[.slice none 0 0, .slice none 0 0] 34)
        refine AnyL.one (i := 2) (o := _) (by kernel_rfl) rfl (fun K hK => ?_)
        go_simp
        refine (HCP.out _ b0a).mono ?_
        rintro e y4 ⟨v8, rfl, hown8, hy4⟩
        obtain ⟨p8, c8, rfl⟩ := ownsRow_shape hown8
        have b1 := b0a.trans (hy4.mono b0a.size)
        have hs4 := b1.size
        have hown8 := ownsRow_low hown8 b0a.size
        have bz := bz.below hy4 bz.lt
        refine hK.out _ _ ⟨HKB.out _ b1, fun hk => trivial⟩ (fun hHeld => ?_)
        clear hK K
        try simp only [Act.put, List.getElem_toArray, List.getElem_cons_zero, List.getElem_cons_succ, List.setIfInBounds_toArray, List.set_cons_zero, List.set_cons_succ]
        refine AnyL.one (i := 5) (o := _) (by kernel_rfl) rfl (fun K hK => ?_)
        go_simp
        refine (HCT.out _ b1).mono ?_
        rintro e y5 ⟨v9, rfl, hown9, hy5⟩
        obtain ⟨g9, c9, rfl, hg9, hg9l⟩ := ownsRow_some hown9 (by omega)
        have b2 := b1.trans (hy5.mono b1.size)
        have hs5 := b2.size
        have hown9 := ownsRow_low hown9 b1.size
        have hown8 := World.ownsRow.belowAll hown8 hy5
        have bz := bz.below hy5 bz.lt
        have q0 := bz.cell 0 rfl
        have q1 := bz.cell 1 rfl
        have e0 := bz.frozen 0
        have e1 := bz.frozen 1
        refine hK.out _ _ ⟨HKB.out _ b2, fun hk => trivial⟩ (fun hHeld => ?_)
        clear hK K
        try simp only [Act.put, List.getElem_toArray, List.getElem_cons_zero, List.getElem_cons_succ, List.setIfInBounds_toArray, List.set_cons_zero, List.set_cons_succ]
        refine AnyL.take (i := 6) (oi := _) (v := ?_) rfl (by kernel_rfl) (by kernel_rfl) (by kernel_rfl) (by decide) (fun _ _ _ h => h) (Or.inl ⟨by rfl, ?_⟩) ⟨hHeld.1, fun _ => hHeld.2 (by rfl)⟩ ?_
        rotate_left
        · intro w hSw; (try dsimp only at hSw); first | (go_simp; done) | (go_simp; with_reducible rfl)
        try simp only [Act.put, List.getElem_toArray, List.getElem_cons_zero, List.getElem_cons_succ, List.setIfInBounds_toArray, List.set_cons_zero, List.set_cons_succ]
        refine AnyL.one (i := 8) (o := _) (by kernel_rfl) rfl (fun K hK => ?_)
        go_simp
        refine hK.out _ _ ⟨HKB.out _ (((b2).setCell (p := ⟨W3.heap.size, 0, none⟩) (by first | exact Nat.le_refl _ | exact hs4) _).setCell (p := ⟨W3.heap.size, 1, none⟩) (by first | exact Nat.le_refl _ | exact hs4) _), fun hk => (by simp at hk)⟩ (fun hHeld => ?_)
        clear hK K
        try simp only [Act.put, List.getElem_toArray, List.getElem_cons_zero, List.getElem_cons_succ, List.setIfInBounds_toArray, List.set_cons_zero, List.set_cons_succ]
        refine AnyL.done (by kernel_rfl) ?_ _
        go_wp2_with fail
        go_meet
        exact ⟨_, g9, c9, _, rfl, (bz.set 0 _).set 1 _, (ownsRow_setCell_other (ownsRow_setCell_other hown8 (a := ⟨W3.heap.size, 0, none⟩) (fun e => owns_boxN hown8 bz (by decide) e.symm) _) (a := ⟨W3.heap.size, 1, none⟩) (fun e => owns_boxN hown8 bz (by decide) e.symm) _), (ownsRow_setCell_other (ownsRow_setCell_other hown9 (a := ⟨W3.heap.size, 0, none⟩) (fun e => owns_boxN hown9 bz (by decide) e.symm) _) (a := ⟨W3.heap.size, 1, none⟩) (fun e => owns_boxN hown9 bz (by decide) e.symm) _), (((b2).setCell (p := ⟨W3.heap.size, 0, none⟩) (by first | exact Nat.le_refl _ | exact hs4) _).setCell (p := ⟨W3.heap.size, 1, none⟩) (by first | exact Nat.le_refl _ | exact hs4) _), Nat.le_refl _⟩
    case rest =>
      obtain ⟨B, g9, c9, v8, rfl, b19, hown8, hown9, hbx, hBle⟩ := hcut
      obtain ⟨p8, c8, rfl⟩ := ownsRow_shape hown8
      have hap := owns_apart hown8 hown9 (by decide)
      have hgB : g9 ≠ B := fun e => owns_boxN hown9 b19 (by decide) (by rw [e]; rfl)
      obtain ⟨hg9, hg9l⟩ := hown9.lt g9 rfl
      have hl17 := b17.lt
      have hl18 := b18.lt
      have b17x := b17.below hbx b17.lt
      have b18x := b18.below hbx b18.lt
      have HKC : Hid (∀ w', wc.grownBy w' (some g9) → w'.cell? ⟨B, 1, none⟩ = some (.slice (some ⟨g9, 0, none⟩) T.length c9) ∧ w'.cell? ⟨y2.heap.size, 0, none⟩ = some (.int .i64 u) ∧ w'.cell? ⟨y2.heap.size, 1, none⟩ = some (.int .i64 (q : Int)) ∧ w'.cell? ⟨y2.heap.size, 2, none⟩ = some (.int .i64 (p : Int)) ∧ w'.cell? ⟨y2.heap.size + 1, 0, none⟩ = some (.int .i64 (q : Int)) ∧ w'.cell? ⟨y2.heap.size + 1, 1, none⟩ = some (.int .i64 v) ∧ w'.cell? ⟨y2.heap.size + 1, 2, none⟩ = some (.int .i64 (p : Int))) := fun w' hb => by
        have z1 := b19.gb hb (by intro e; injection e with e; exact hgB e)
        have z2 := b17x.gb hb (by intro e; injection e with e; omega)
        have z3 := b18x.gb hb (by intro e; injection e with e; omega)
        exact ⟨z1.cell 1 rfl, z2.cell 0 rfl, z2.cell 1 rfl, z2.cell 2 rfl, z3.cell 0 rfl, z3.cell 1 rfl, z3.cell 2 rfl⟩
      obtain ⟨o8, ho8⟩ : ∃ W, W = wc.drew := ⟨_, rfl⟩
      have gb0 : wc.grownBy o8 (some g9) := by rw [ho8]; exact gb_below (gb_refl _ _) (below_drewN wc 1)
      have hown9 : o8.ownsRow W3.heap.size 42 3 (.slice (some ⟨g9, 0, none⟩) T.length c9) T.length (cellsT T) := by rw [ho8]; exact World.ownsRow.belowAll hown9 (below_drewN wc 1)
      have hcl : (cellsT T).length = T.length * 3 := hown9.1
      have HCA : Hid (∀ (w' : World) (l : List Value), w'.ownsRow W3.heap.size 42 3 (.slice (some ⟨g9, 0, none⟩) T.length c9) T.length l → ∀ j, j < T.length → (∃ x, w'.cell? ⟨g9, j * 3, none⟩ = some x) ∧ (∃ x, w'.cell? ⟨g9, j * 3 + 1, none⟩ = some x) ∧ (∃ x, w'.cell? ⟨g9, j * 3 + 2, none⟩ = some x)) := fun w' l hl j hj => by
        have hll := hl.1
        exact ⟨⟨_, (hl.cellAt (j * 3) (by omega)).trans (List.getElem?_eq_getElem (by omega))⟩, ⟨_, (hl.cellAt (j * 3 + 1) (by omega)).trans (List.getElem?_eq_getElem (by omega))⟩, ⟨_, (hl.cellAt (j * 3 + 2) (by omega)).trans (List.getElem?_eq_getElem (by omega))⟩⟩
      clear b17 b18 b17x b18x HKB HCP HCT
      go_upto_region 15 with fail
      rcases Nat.lt_or_gt_of_ne hik with hlt2 | hlt2
      · have hmn : min (i : Int) (k : Int) = (i : Int) := by omega
        have hmx : max (i : Int) (k : Int) = (k : Int) := by omega
        have hmn2 : (if (k : Int) < (i : Int) then (k : Int) else (i : Int)) = (i : Int) := by split <;> omega
        have hmn3 : (if k < i then (k : Int) else (i : Int)) = (i : Int) := by split <;> omega
        have hmx2 : (if (i : Int) < (k : Int) then (k : Int) else (i : Int)) = (k : Int) := by split <;> omega
        have hmx3 : (if i < k then (k : Int) else (i : Int)) = (k : Int) := by split <;> omega
        obtain ⟨⟨za0, a0⟩, ⟨za1, a1⟩, ⟨za2, a2⟩⟩ := HCA.out _ _ hown9 i (by omega)
        have fa0 := hown9.frozenAt (i * 3)
        have fa1 := hown9.frozenAt (i * 3 + 1)
        have fa2 := hown9.frozenAt (i * 3 + 2)
        obtain ⟨hoa, gba⟩ := hown9.stored (i * 3) (.int .i64 u)
        obtain ⟨hob, gbb⟩ := hoa.stored (i * 3 + 1) (.int .i64 (q : Int))
        obtain ⟨hoc, gbc⟩ := hob.stored (i * 3 + 2) (.int .i64 (p : Int))
        have gb1 := gb_set (gb_set (gb_set gb0 (i * 3) (.int .i64 u)) (i * 3 + 1) (.int .i64 (q : Int))) (i * 3 + 2) (.int .i64 (p : Int))
        clear hoa gba hob gbb gbc
        refine AnyL.region (S := Till 15 (fun w' => w'.cell? ⟨B, 1, none⟩ = some (.slice (some ⟨g9, 0, none⟩) T.length c9) ∧ w'.cell? ⟨y2.heap.size, 0, none⟩ = some (.int .i64 u) ∧ w'.cell? ⟨y2.heap.size, 1, none⟩ = some (.int .i64 (q : Int)) ∧ w'.cell? ⟨y2.heap.size, 2, none⟩ = some (.int .i64 (p : Int)) ∧ w'.cell? ⟨y2.heap.size + 1, 0, none⟩ = some (.int .i64 (q : Int)) ∧ w'.cell? ⟨y2.heap.size + 1, 1, none⟩ = some (.int .i64 v) ∧ w'.cell? ⟨y2.heap.size + 1, 2, none⟩ = some (.int .i64 (p : Int))) (fun _ => True)) (by kernel_rfl) ?_
        rw [← ho8]
        clear ho8
        have hHeld : Till 15 (fun w' => w'.cell? ⟨B, 1, none⟩ = some (.slice (some ⟨g9, 0, none⟩) T.length c9) ∧ w'.cell? ⟨y2.heap.size, 0, none⟩ = some (.int .i64 u) ∧ w'.cell? ⟨y2.heap.size, 1, none⟩ = some (.int .i64 (q : Int)) ∧ w'.cell? ⟨y2.heap.size, 2, none⟩ = some (.int .i64 (p : Int)) ∧ w'.cell? ⟨y2.heap.size + 1, 0, none⟩ = some (.int .i64 (q : Int)) ∧ w'.cell? ⟨y2.heap.size + 1, 1, none⟩ = some (.int .i64 v) ∧ w'.cell? ⟨y2.heap.size + 1, 2, none⟩ = some (.int .i64 (p : Int))) (fun _ => True) (Array.replicate 16 false) o8 := ⟨HKC.out _ gb0, fun _ => trivial⟩
        refine AnyL.take (i := 0) (oi := _) (v := ?_) rfl (by kernel_rfl) (by kernel_rfl) (by kernel_rfl) (by decide) (fun _ _ _ h => h) (Or.inl ⟨by rfl, ?_⟩) ⟨hHeld.1, fun _ => hHeld.2 (by rfl)⟩ ?_
        rotate_left
        · intro w hSw; (try dsimp only at hSw); first | (go_simp; done) | (go_simp; with_reducible rfl)
        try simp only [Act.put, List.getElem_toArray, List.getElem_cons_zero, List.setIfInBounds_toArray, List.set_cons_zero, List.set_cons_succ]
        refine AnyL.take (i := 1) (oi := _) (v := ?_) rfl (by kernel_rfl) (by kernel_rfl) (by kernel_rfl) (by decide) (fun _ _ _ h => h) (Or.inl ⟨by rfl, ?_⟩) ⟨hHeld.1, fun _ => hHeld.2 (by rfl)⟩ ?_
        rotate_left
        · intro w hSw; (try dsimp only at hSw); first | (go_simp; done) | (go_simp; with_reducible rfl)
        try simp only [Act.put, List.getElem_toArray, List.getElem_cons_zero, List.getElem_cons_succ, List.setIfInBounds_toArray, List.set_cons_zero, List.set_cons_succ]
        refine AnyL.take (i := 2) (oi := _) (v := ?_) rfl (by kernel_rfl) (by kernel_rfl) (by kernel_rfl) (by decide) (fun _ _ _ h => h) (Or.inl ⟨by rfl, ?_⟩) ⟨hHeld.1, fun _ => hHeld.2 (by rfl)⟩ ?_
        rotate_left
        · intro w hSw; (try dsimp only at hSw); first | (go_simp; done) | (go_simp; with_reducible rfl)
        try simp only [Act.put, List.getElem_toArray, List.getElem_cons_zero, List.getElem_cons_succ, List.setIfInBounds_toArray, List.set_cons_zero, List.set_cons_succ]
        refine AnyL.take (i := 3) (oi := _) (v := ?_) rfl (by kernel_rfl) (by kernel_rfl) (by kernel_rfl) (by decide) (fun _ _ _ h => h) (Or.inl ⟨by rfl, ?_⟩) ⟨hHeld.1, fun _ => hHeld.2 (by rfl)⟩ ?_
        rotate_left
        · intro w hSw; (try dsimp only at hSw); first | (go_simp; done) | (go_simp; with_reducible rfl)
        try simp only [Act.put, List.getElem_toArray, List.getElem_cons_zero, List.getElem_cons_succ, List.setIfInBounds_toArray, List.set_cons_zero, List.set_cons_succ]
        refine AnyL.take (i := 4) (oi := _) (v := ?_) rfl (by kernel_rfl) (by kernel_rfl) (by kernel_rfl) (by decide) (fun _ _ _ h => h) (Or.inl ⟨by rfl, ?_⟩) ⟨hHeld.1, fun _ => hHeld.2 (by rfl)⟩ ?_
        rotate_left
        · intro w hSw; (try dsimp only at hSw); first | (go_simp; done) | (go_simp; with_reducible rfl)
        try simp only [Act.put, List.getElem_toArray, List.getElem_cons_zero, List.getElem_cons_succ, List.setIfInBounds_toArray, List.set_cons_zero, List.set_cons_succ]
        try first | rw [hmn] | rw [hmn2] | rw [hmn3]
        refine AnyL.take (i := 5) (oi := _) (v := ?_) rfl (by kernel_rfl) (by kernel_rfl) (by kernel_rfl) (by decide) (fun _ _ _ h => h) (Or.inl ⟨by rfl, ?_⟩) ⟨hHeld.1, fun _ => hHeld.2 (by rfl)⟩ ?_
        rotate_left
        · intro w hSw; (try dsimp only at hSw); first | (go_simp; done) | (go_simp; with_reducible rfl)
        try simp only [Act.put, List.getElem_toArray, List.getElem_cons_zero, List.getElem_cons_succ, List.setIfInBounds_toArray, List.set_cons_zero, List.set_cons_succ]
        refine AnyL.take (i := 6) (oi := _) (v := ?_) rfl (by kernel_rfl) (by kernel_rfl) (by kernel_rfl) (by decide) (fun _ _ _ h => h) (Or.inl ⟨by rfl, ?_⟩) ⟨hHeld.1, fun _ => hHeld.2 (by rfl)⟩ ?_
        rotate_left
        · intro w hSw; (try dsimp only at hSw); first | (go_simp; done) | (go_simp; with_reducible rfl)
        try simp only [Act.put, List.getElem_toArray, List.getElem_cons_zero, List.getElem_cons_succ, List.setIfInBounds_toArray, List.set_cons_zero, List.set_cons_succ]
        refine AnyL.take (i := 7) (oi := _) (v := ?_) rfl (by kernel_rfl) (by kernel_rfl) (by kernel_rfl) (by decide) (fun _ _ _ h => h) (Or.inl ⟨by rfl, ?_⟩) ⟨hHeld.1, fun _ => hHeld.2 (by rfl)⟩ ?_
        rotate_left
        · intro w hSw; (try dsimp only at hSw); first | (go_simp; done) | (go_simp; with_reducible rfl)
        try simp only [Act.put, List.getElem_toArray, List.getElem_cons_zero, List.getElem_cons_succ, List.setIfInBounds_toArray, List.set_cons_zero, List.set_cons_succ]
        refine AnyL.take (i := 8) (oi := _) (v := ?_) rfl (by kernel_rfl) (by kernel_rfl) (by kernel_rfl) (by decide) (fun _ _ _ h => h) (Or.inl ⟨by rfl, ?_⟩) ⟨hHeld.1, fun _ => hHeld.2 (by rfl)⟩ ?_
        rotate_left
        · intro w hSw; (try dsimp only at hSw); first | (go_simp; done) | (go_simp; with_reducible rfl)
        try simp only [Act.put, List.getElem_toArray, List.getElem_cons_zero, List.getElem_cons_succ, List.setIfInBounds_toArray, List.set_cons_zero, List.set_cons_succ]
        refine AnyL.take (i := 9) (oi := _) (v := ?_) rfl (by kernel_rfl) (by kernel_rfl) (by kernel_rfl) (by decide) (fun _ _ _ h => h) (Or.inl ⟨by rfl, ?_⟩) ⟨hHeld.1, fun _ => hHeld.2 (by rfl)⟩ ?_
        rotate_left
        · intro w hSw; (try dsimp only at hSw); first | (go_simp; done) | (go_simp; with_reducible rfl)
        try simp only [Act.put, List.getElem_toArray, List.getElem_cons_zero, List.getElem_cons_succ, List.setIfInBounds_toArray, List.set_cons_zero, List.set_cons_succ]
        try first | rw [hmx] | rw [hmx2] | rw [hmx3]
        refine AnyL.take (i := 10) (oi := _) (v := ?_) rfl (by kernel_rfl) (by kernel_rfl) (by kernel_rfl) (by decide) (fun _ _ _ h => h) (Or.inl ⟨by rfl, ?_⟩) ⟨hHeld.1, fun _ => hHeld.2 (by rfl)⟩ ?_
        rotate_left
        · intro w hSw; (try dsimp only at hSw); first | (go_simp; done) | (go_simp; with_reducible rfl)
        try simp only [Act.put, List.getElem_toArray, List.getElem_cons_zero, List.getElem_cons_succ, List.setIfInBounds_toArray, List.set_cons_zero, List.set_cons_succ]
        refine AnyL.take (i := 11) (oi := _) (v := ?_) rfl (by kernel_rfl) (by kernel_rfl) (by kernel_rfl) (by decide) (fun _ _ _ h => h) (Or.inl ⟨by rfl, ?_⟩) ⟨hHeld.1, fun _ => hHeld.2 (by rfl)⟩ ?_
        rotate_left
        · intro w hSw; (try dsimp only at hSw); first | (go_simp; done) | (go_simp; with_reducible rfl)
        try simp only [Act.put, List.getElem_toArray, List.getElem_cons_zero, List.getElem_cons_succ, List.setIfInBounds_toArray, List.set_cons_zero, List.set_cons_succ]
        refine AnyL.take (i := 12) (oi := _) (v := ?_) rfl (by kernel_rfl) (by kernel_rfl) (by kernel_rfl) (by decide) (fun _ _ _ h => h) (Or.inl ⟨by rfl, ?_⟩) ⟨hHeld.1, fun _ => hHeld.2 (by rfl)⟩ ?_
        rotate_left
        · intro w hSw; (try dsimp only at hSw); first | (go_simp; done) | (go_simp; with_reducible rfl)
        try simp only [Act.put, List.getElem_toArray, List.getElem_cons_zero, List.getElem_cons_succ, List.setIfInBounds_toArray, List.set_cons_zero, List.set_cons_succ]
        refine AnyL.one (i := 13) (o := _) (by kernel_rfl) rfl (fun K hK => ?_)
        go_simp
        obtain ⟨o9, ho9⟩ : ∃ W, W = ((o8.setCell ⟨g9, i * 3, none⟩ (.int .i64 u)).setCell ⟨g9, i * 3 + 1, none⟩ (.int .i64 (q : Int))).setCell ⟨g9, i * 3 + 2, none⟩ (.int .i64 (p : Int)) := ⟨_, rfl⟩
        rw [← ho9] at gb1 hoc ⊢
        clear a0 a1 a2 fa0 fa1 fa2 ho9
        obtain ⟨⟨zb0, m0⟩, ⟨zb1, m1⟩, ⟨zb2, m2⟩⟩ := HCA.out _ _ hoc k (by omega)
        have fb0 := hoc.frozenAt (k * 3)
        have fb1 := hoc.frozenAt (k * 3 + 1)
        have fb2 := hoc.frozenAt (k * 3 + 2)
        obtain ⟨hod, gbd⟩ := hoc.stored (k * 3) (.int .i64 (q : Int))
        obtain ⟨hoe, gbe⟩ := hod.stored (k * 3 + 1) (.int .i64 v)
        obtain ⟨hof, gbf⟩ := hoe.stored (k * 3 + 2) (.int .i64 (p : Int))
        have gb2 := gb_set (gb_set (gb_set gb1 (k * 3) (.int .i64 (q : Int))) (k * 3 + 1) (.int .i64 v)) (k * 3 + 2) (.int .i64 (p : Int))
        clear hod gbd hoe gbe gbf
        refine hK.out _ _ ⟨HKC.out _ gb1, fun hk => trivial⟩ (fun hHeld => ?_)
        clear hK K
        try simp only [Act.put, List.getElem_toArray, List.getElem_cons_zero, List.getElem_cons_succ, List.setIfInBounds_toArray, List.set_cons_zero, List.set_cons_succ]
        refine AnyL.take (i := 14) (oi := _) (v := ?_) rfl (by kernel_rfl) (by kernel_rfl) (by kernel_rfl) (by decide) (fun _ _ _ h => h) (Or.inl ⟨by rfl, ?_⟩) ⟨hHeld.1, fun _ => hHeld.2 (by rfl)⟩ ?_
        rotate_left
        · intro w hSw; (try dsimp only at hSw); first | (go_simp; done) | (go_simp; with_reducible rfl)
        try simp only [Act.put, List.getElem_toArray, List.getElem_cons_zero, List.getElem_cons_succ, List.setIfInBounds_toArray, List.set_cons_zero, List.set_cons_succ]
        refine AnyL.one (i := 15) (o := _) (by kernel_rfl) rfl (fun K hK => ?_)
        go_simp
        refine hK.out _ _ ⟨HKC.out _ gb2, fun hk => (by simp at hk)⟩ (fun hHeld => ?_)
        clear hK K
        try simp only [Act.put, List.getElem_toArray, List.getElem_cons_zero, List.getElem_cons_succ, List.setIfInBounds_toArray, List.set_cons_zero, List.set_cons_succ]
        refine AnyL.done (by kernel_rfl) ?_ _
        obtain ⟨oA, hoA⟩ : ∃ W, W = ((o9.setCell ⟨g9, k * 3, none⟩ (.int .i64 (q : Int))).setCell ⟨g9, k * 3 + 1, none⟩ (.int .i64 v)).setCell ⟨g9, k * 3 + 2, none⟩ (.int .i64 (p : Int)) := ⟨_, rfl⟩
        rw [← hoA] at gb2 hof ⊢
        clear hoA hHeld m0 m1 m2 fb0 fb1 fb2 gb0 gb1 hoc hown9 HKC HCA
        have hTT : (T.set i (u, (q : Int), (p : Int))).set k ((q : Int), v, (p : Int)) = turnT T i k u v p q := by unfold turnT; rw [show min i k = i by omega, show max i k = k by omega]
        have hcs := cellsT_set (T.set i (u, (q : Int), (p : Int))) k q v p (by rw [List.length_set]; omega)
        rw [cellsT_set T i u q p (by omega), hTT] at hcs
        rw [← hcs] at hof
        have HTN : Hid (RdT oA (.slice (some ⟨g9, 0, none⟩) T.length c9) (turnT T i k u v p q)) := by
          unfold Hid RdT
          rw [turnT_length]
          exact RdC.of_owns hof
        have HPN8 : Hid (RdP oA (.slice p8 (strP P).length c8) (strP P)) := RdC.of_owns (own_gb hown8 gb2 (fun j hj e => by
          rcases hap with h | h
          · rw [hj] at h; cases h
          · exact h (by rw [hj, e]; rfl)))
        have hb5c := hb53.trans (hbx.mono hb53.size)
        have hs53 := hb53.size
        have hs5c := hbx.size
        have hB5A : Below o5.heap.size o5 oA := below_gb hb5c gb2 (by omega)
        have b4A := b45.below hB5A hl45
        have b19A := b19.gb gb2 (by intro e; injection e with e; exact hgB e)
        have hTi : (turnT T i k u v p q)[i]? = some (u, (q : Int), (p : Int)) := by
          have h := turnT_min T i k u v p q hik (by omega) (by omega)
          rwa [show min i k = i by omega] at h
        have hTk : (turnT T i k u v p q)[k]? = some ((q : Int), v, (p : Int)) := by
          have h := turnT_max T i k u v p q (by omega) (by omega)
          rwa [show max i k = k by omega] at h
        have HMC := Lib.hid (HMT.out)
        clear hTT hcs hof gb2 hown8 hap hb5c b19 hmn hmx hmn2 hmn3 hmx2 hmx3
        go_wp2_with fail
        obtain ⟨WL, hWL⟩ : ∃ W, W = oA.alloc (.cells #[.int .i64 (i : Int), .int .i64 (k : Int)] 3) := ⟨_, rfl⟩
        have hbL : Below oA.heap.size oA WL := by rw [hWL]; exact (Below.refl _ _).alloc (Nat.le_refl _) _
        have bL : BoxN WL oA.heap.size 3 [.int .i64 (i : Int), .int .i64 (k : Int)] := by rw [hWL]; exact BoxN.new _ _ _ _ rfl
        rw [← hWL]
        have hB5L := hB5A.trans (hbL.mono hB5A.size)
        have b4L := b4A.below hbL b4A.lt
        have b19L := b19A.below hbL b19A.lt
        have HTL : Hid (RdT WL (.slice (some ⟨g9, 0, none⟩) T.length c9) (turnT T i k u v p q)) := RdC.below HTN.out hbL
        have HPL : Hid (RdP WL (.slice p8 (strP P).length c8) (strP P)) := RdC.below HPN8.out hbL
        have hlL := bL.lt
        have hl4 := b4L.lt
        obtain ⟨ZA, hZA⟩ : ∃ z, z = turnZ (ptI P u) (ptI P q) (ptI P p) := ⟨_, rfl⟩
        obtain ⟨ZB, hZB⟩ : ∃ z, z = turnZ (ptI P q) (ptI P v) (ptI P p) := ⟨_, rfl⟩
        have HSG : Hid (∀ j : Nat, j < 2 → ∃ (x : Nat) (tr : Tri), (turnT T i k u v p q)[x]? = some tr ∧ WL.cell? ⟨oA.heap.size, j, none⟩ = some (.int .i64 (x : Int)) ∧ turnZ (ptI P tr.1) (ptI P tr.2.1) (ptI P tr.2.2) = if j = 0 then ZA else ZB) := fun j hj => by
          rcases (by omega : j = 0 ∨ j = 1) with rfl | rfl
          · exact ⟨i, _, hTi, bL.cell 0 rfl, by rw [hZA]; rfl⟩
          · exact ⟨k, _, hTk, bL.cell 1 rfl, by rw [hZB]; rfl⟩
        have HCC : Hid (∀ (x : Nat) (tr : Tri), (turnT T i k u v p q)[x]? = some tr → ∀ w', Below WL.heap.size WL w' → Calls Tryz.prog 69 #[.agg #[.slice p8 (strP P).length c8, .slice (some ⟨g9, 0, none⟩) T.length c9], .int .i64 (x : Int)] w' (Ret (fun r _ => r = .agg #[.string (RS (ptI P tr.1).1), .string (RS (ptI P tr.1).2), .string (RS (ptI P tr.2.1).1), .string (RS (ptI P tr.2.1).2), .string (RS (ptI P tr.2.2).1), .string (RS (ptI P tr.2.2).2)]) w')) := fun x tr hx w' hb => by
          obtain ⟨h1, h2⟩ := List.getElem?_eq_some_iff.1 hx
          exact mcorners_any w' _ _ P _ m (RdC.below HPL.out hb) (RdC.below HTL.out hb) HMC.out x _ rfl h1 tr h2.symm
        have HTU : Hid (∀ (a b c : Int) (w' : World), Good w' → Calls Tryz.prog 64 #[.agg #[.string (RS (ptI P a).1), .string (RS (ptI P a).2)], .agg #[.string (RS (ptI P b).1), .string (RS (ptI P b).2)], .agg #[.string (RS (ptI P c).1), .string (RS (ptI P c).2)]] w' (Ret (fun r _ => r = .int .i64 (turnZ (ptI P a) (ptI P b) (ptI P c))) w')) := fun a b c w' hg' => turn_any _ _ _ m HMC.out.kpos HMC.out.klim (ptI_szP HMC.out.sz HMC.out.kpos a) (ptI_szP HMC.out.sz HMC.out.kpos b) (ptI_szP HMC.out.sz HMC.out.kpos c) w' hg'
        have HBAD : Hid (ZA ≤ 0 ∨ ZB ≤ 0 → ∀ w', TurnP P T i k u v p q (noneE 7) w') := fun h w' => .inr ⟨by rw [hZA, hZB] at h; exact h, rfl⟩
        have HGOOD : Hid (0 < ZA → 0 < ZB → ∀ w' : World, RdP w' (.slice p8 (strP P).length c8) (strP P) → RdT w' (.slice (some ⟨g9, 0, none⟩) T.length c9) (turnT T i k u v p q) → TurnP P T i k u v p q (.tuple #[.agg #[.slice p8 (strP P).length c8, .slice (some ⟨g9, 0, none⟩) T.length c9], .int .i64 0]) w') := fun h1 h2 w' h3 h4 => by
          rw [hZA] at h1
          rw [hZB] at h2
          exact .inl ⟨h1, h2, _, _, rfl, h3, h4⟩
        clear hWL hbL b4A b19A bL HTN HPN8 hZA hZB hTi hTk HMC HMT hB5A b25 b35 hbx hb50 hb51 hb52 hb53
        go_loopw [122] (fun t122 wr => ∃ j : Nat, t122 = .int .i64 j ∧ j ≤ 2 ∧ Hid (0 < j → 0 < ZA) ∧ Hid (1 < j → 0 < ZB) ∧ Below WL.heap.size WL wr) (fun t122 _ => 2 - (RowKit.intOf t122).toNat)
        case atStart => exact ⟨0, rfl, by omega, fun h => absurd h (Nat.lt_irrefl _), fun h => absurd h (by omega), Below.refl _ _⟩
        case round =>
          obtain ⟨j, rfl, hj, HA, HB, hbr⟩ := hrel
          have b19r := b19L.below hbr b19L.lt
          have b4r := b4L.below hbr b4L.lt
          have x0 := b19r.cell 0 rfl
          have x1 := b19r.cell 1 rfl
          have hBr := hB5.trans ((hB5L.trans (hbr.mono hB5L.size)).mono hB5.size)
          rcases Nat.lt_or_ge j 2 with h | h
          · obtain ⟨x, tr, htr, hcx, hz⟩ := HSG.out j h
            have hjz : (j : Int) < 2 := by omega
            have d0 := (hbr.cell (p := ⟨oA.heap.size, j, none⟩) hlL).trans hcx
            have KC := Lib.hid (HCC.out x tr htr wr hbr)
            have KT : Hid (∀ w', Good w' → _) := fun w' hg' => HTU.out tr.1 tr.2.1 tr.2.2 w' hg'
            rw [hz] at KT
            have HZ : Hid ((if j = 0 then ZA else ZB) ≤ 0 → ZA ≤ 0 ∨ ZB ≤ 0) := fun hle => by
              split at hle
              · exact .inl hle
              · exact .inr hle
            have HNA : Hid (0 < (if j = 0 then ZA else ZB) → 0 < ZA ∧ (1 < j + 1 → 0 < ZB)) := fun hlt => by
              rcases (by omega : j = 0 ∨ j = 1) with rfl | rfl
              · exact ⟨hlt, fun h => absurd h (by omega)⟩
              · exact ⟨HA.out (by omega), fun _ => hlt⟩
            generalize (if j = 0 then ZA else ZB) = z at *
            generalize RS (ptI P tr.1).1 = c00 at *
            generalize RS (ptI P tr.1).2 = c01 at *
            generalize RS (ptI P tr.2.1).1 = c10 at *
            generalize RS (ptI P tr.2.1).2 = c11 at *
            generalize RS (ptI P tr.2.2).1 = c20 at *
            generalize RS (ptI P tr.2.2).2 = c21 at *
            clear hcx hz htr HCC HTU HSG
            go_wp2_with fail
            refine KC.out.mono ?_
            rintro e wa ⟨_, rfl, rfl, hba⟩
            have hra := hbr.trans (hba.mono hbr.size)
            have b4a := b4L.below hra b4L.lt
            clear x0 x1 d0 b19r b4r hba hBr
            go_upto_region 20 with fail
            obtain ⟨wb, hwb⟩ : ∃ W, W = wa.alloc (.cells #[.string c00, .string c01, .string c10, .string c11, .string c20, .string c21] 57) := ⟨_, rfl⟩
            have hbb : Below wa.heap.size wa wb := by rw [hwb]; exact (Below.refl _ _).alloc (Nat.le_refl _) _
            have bc : BoxN wb wa.heap.size 57 [.string c00, .string c01, .string c10, .string c11, .string c20, .string c21] := by rw [hwb]; exact BoxN.new _ _ _ _ rfl
            rw [← hwb]
            have hrb := hra.trans (hbb.mono hra.size)
            have b4b := b4a.below hbb b4a.lt
            have hgb := hg.below (hB5.trans ((hB5L.trans (hrb.mono hB5L.size)).mono hB5.size))
            have k0 := bc.cell 0 rfl
            have k1 := bc.cell 1 rfl
            have k2 := bc.cell 2 rfl
            have k3 := bc.cell 3 rfl
            have k4 := bc.cell 4 rfl
            have k5 := bc.cell 5 rfl
            clear hwb hbb b4a hra bc
            go_wp2_with fail
            refine (KT.out wb hgb).mono ?_
            rintro e wd ⟨_, rfl, rfl, hbd⟩
            have hrd := hrb.trans (hbd.mono hrb.size)
            have b4d := b4b.below hbd b4b.lt
            have hBd := hB5.trans ((hB5L.trans (hrd.mono hB5L.size)).mono hB5.size)
            clear k0 k1 k2 k3 k4 k5 hbd b4b hrb hgb
            by_cases hzz : z ≤ 0
            · have hzb : decide (z ≤ 0) = true := decide_eq_true hzz
              have HX := Lib.hid (HBAD.out (HZ.out hzz))
              have y0 := b4d.cell 0 rfl
              have y1 := b4d.cell 1 rfl
              have f0 := b4d.frozen 0
              have f1 := b4d.frozen 1
              clear hzz
              go_wp2_with fail
              have BF := (b4d.set 0 (.slice none 0 0)).set 1 (.slice none 0 0)
              have hle : w.heap.size ≤ w.heap.size + 2 := by omega
              have hBF := (hBd.setCell (p := ⟨w.heap.size + 2, 0, none⟩) hle (.slice none 0 0)).setCell (p := ⟨w.heap.size + 2, 1, none⟩) hle (.slice none 0 0)
              have g0 := BF.cell 0 rfl
              have g1 := BF.cell 1 rfl
              exact bodyPost_ret (v := noneE 7) (by simp [noneE, results, Tryz.results35, go_sem, g0, g1]) rfl ⟨_, rfl, HX.out _, hBF⟩
            · have hzb : decide (z ≤ 0) = false := decide_eq_false hzz
              have HX := Lib.hid (HNA.out (by omega))
              clear hzz
              go_wp2_with fail
              go_roundw
              case rel => exact ⟨j + 1, by go_num, by omega, fun _ => HX.out.1, fun h => HX.out.2 h, hrd⟩
              case measure =>
                show 2 - ((j : Int) + 1).toNat < 2 - (j : Int).toNat
                omega
          · have hjge : (2 : Int) ≤ (j : Int) := by omega
            have hp1 := HA.out (by omega)
            have hp2 := HB.out (by omega)
            have HX := Lib.hid (HGOOD.out hp1 hp2)
            have HPR2 : Hid (RdP wr (.slice p8 (strP P).length c8) (strP P)) := RdC.below HPL.out hbr
            have HTR2 : Hid (RdT wr (.slice (some ⟨g9, 0, none⟩) T.length c9) (turnT T i k u v p q)) := RdC.below HTL.out hbr
            have y0 := b4r.cell 0 rfl
            have y1 := b4r.cell 1 rfl
            have f0 := b4r.frozen 0
            have f1 := b4r.frozen 1
            clear hp1 hp2
            go_wp2_with fail
            have B1 := b4r.set 0 (.slice p8 (strP P).length c8)
            have y11 := B1.cell 1 rfl
            have BF := B1.set 1 (.slice (some ⟨g9, 0, none⟩) T.length c9)
            have hle : w.heap.size ≤ w.heap.size + 2 := by omega
            have hBF := (hBr.setCell (p := ⟨w.heap.size + 2, 0, none⟩) hle (.slice p8 (strP P).length c8)).setCell (p := ⟨w.heap.size + 2, 1, none⟩) hle (.slice (some ⟨g9, 0, none⟩) T.length c9)
            have g0 := BF.cell 0 rfl
            have g1 := BF.cell 1 rfl
            have HPF := RdC.set_other (x := .slice (some ⟨g9, 0, none⟩) T.length c9) (RdC.set_other (x := .slice p8 (strP P).length c8) HPR2.out y0 (noSlP _)) y11 (noSlP _)
            have HTF := RdC.set_other (x := .slice (some ⟨g9, 0, none⟩) T.length c9) (RdC.set_other (x := .slice p8 (strP P).length c8) HTR2.out y0 (noSlT _)) y11 (noSlT _)
            exact bodyPost_ret (v := .tuple #[.agg #[.slice p8 (strP P).length c8, .slice (some ⟨g9, 0, none⟩) T.length c9], .int .i64 0]) (by simp [results, Tryz.results35, go_sem, g0, g1]) rfl ⟨_, rfl, HX.out _ HPF HTF, hBF⟩
      · have hmn : min (i : Int) (k : Int) = (k : Int) := by omega
        have hmx : max (i : Int) (k : Int) = (i : Int) := by omega
        have hmn2 : (if (k : Int) < (i : Int) then (k : Int) else (i : Int)) = (k : Int) := by split <;> omega
        have hmn3 : (if k < i then (k : Int) else (i : Int)) = (k : Int) := by split <;> omega
        have hmx2 : (if (i : Int) < (k : Int) then (k : Int) else (i : Int)) = (i : Int) := by split <;> omega
        have hmx3 : (if i < k then (k : Int) else (i : Int)) = (i : Int) := by split <;> omega
        obtain ⟨⟨za0, a0⟩, ⟨za1, a1⟩, ⟨za2, a2⟩⟩ := HCA.out _ _ hown9 k (by omega)
        have fa0 := hown9.frozenAt (k * 3)
        have fa1 := hown9.frozenAt (k * 3 + 1)
        have fa2 := hown9.frozenAt (k * 3 + 2)
        obtain ⟨hoa, gba⟩ := hown9.stored (k * 3) (.int .i64 u)
        obtain ⟨hob, gbb⟩ := hoa.stored (k * 3 + 1) (.int .i64 (q : Int))
        obtain ⟨hoc, gbc⟩ := hob.stored (k * 3 + 2) (.int .i64 (p : Int))
        have gb1 := gb_set (gb_set (gb_set gb0 (k * 3) (.int .i64 u)) (k * 3 + 1) (.int .i64 (q : Int))) (k * 3 + 2) (.int .i64 (p : Int))
        clear hoa gba hob gbb gbc
        refine AnyL.region (S := Till 15 (fun w' => w'.cell? ⟨B, 1, none⟩ = some (.slice (some ⟨g9, 0, none⟩) T.length c9) ∧ w'.cell? ⟨y2.heap.size, 0, none⟩ = some (.int .i64 u) ∧ w'.cell? ⟨y2.heap.size, 1, none⟩ = some (.int .i64 (q : Int)) ∧ w'.cell? ⟨y2.heap.size, 2, none⟩ = some (.int .i64 (p : Int)) ∧ w'.cell? ⟨y2.heap.size + 1, 0, none⟩ = some (.int .i64 (q : Int)) ∧ w'.cell? ⟨y2.heap.size + 1, 1, none⟩ = some (.int .i64 v) ∧ w'.cell? ⟨y2.heap.size + 1, 2, none⟩ = some (.int .i64 (p : Int))) (fun _ => True)) (by kernel_rfl) ?_
        rw [← ho8]
        clear ho8
        have hHeld : Till 15 (fun w' => w'.cell? ⟨B, 1, none⟩ = some (.slice (some ⟨g9, 0, none⟩) T.length c9) ∧ w'.cell? ⟨y2.heap.size, 0, none⟩ = some (.int .i64 u) ∧ w'.cell? ⟨y2.heap.size, 1, none⟩ = some (.int .i64 (q : Int)) ∧ w'.cell? ⟨y2.heap.size, 2, none⟩ = some (.int .i64 (p : Int)) ∧ w'.cell? ⟨y2.heap.size + 1, 0, none⟩ = some (.int .i64 (q : Int)) ∧ w'.cell? ⟨y2.heap.size + 1, 1, none⟩ = some (.int .i64 v) ∧ w'.cell? ⟨y2.heap.size + 1, 2, none⟩ = some (.int .i64 (p : Int))) (fun _ => True) (Array.replicate 16 false) o8 := ⟨HKC.out _ gb0, fun _ => trivial⟩
        refine AnyL.take (i := 0) (oi := _) (v := ?_) rfl (by kernel_rfl) (by kernel_rfl) (by kernel_rfl) (by decide) (fun _ _ _ h => h) (Or.inl ⟨by rfl, ?_⟩) ⟨hHeld.1, fun _ => hHeld.2 (by rfl)⟩ ?_
        rotate_left
        · intro w hSw; (try dsimp only at hSw); first | (go_simp; done) | (go_simp; with_reducible rfl)
        try simp only [Act.put, List.getElem_toArray, List.getElem_cons_zero, List.setIfInBounds_toArray, List.set_cons_zero, List.set_cons_succ]
        refine AnyL.take (i := 1) (oi := _) (v := ?_) rfl (by kernel_rfl) (by kernel_rfl) (by kernel_rfl) (by decide) (fun _ _ _ h => h) (Or.inl ⟨by rfl, ?_⟩) ⟨hHeld.1, fun _ => hHeld.2 (by rfl)⟩ ?_
        rotate_left
        · intro w hSw; (try dsimp only at hSw); first | (go_simp; done) | (go_simp; with_reducible rfl)
        try simp only [Act.put, List.getElem_toArray, List.getElem_cons_zero, List.getElem_cons_succ, List.setIfInBounds_toArray, List.set_cons_zero, List.set_cons_succ]
        refine AnyL.take (i := 2) (oi := _) (v := ?_) rfl (by kernel_rfl) (by kernel_rfl) (by kernel_rfl) (by decide) (fun _ _ _ h => h) (Or.inl ⟨by rfl, ?_⟩) ⟨hHeld.1, fun _ => hHeld.2 (by rfl)⟩ ?_
        rotate_left
        · intro w hSw; (try dsimp only at hSw); first | (go_simp; done) | (go_simp; with_reducible rfl)
        try simp only [Act.put, List.getElem_toArray, List.getElem_cons_zero, List.getElem_cons_succ, List.setIfInBounds_toArray, List.set_cons_zero, List.set_cons_succ]
        refine AnyL.take (i := 3) (oi := _) (v := ?_) rfl (by kernel_rfl) (by kernel_rfl) (by kernel_rfl) (by decide) (fun _ _ _ h => h) (Or.inl ⟨by rfl, ?_⟩) ⟨hHeld.1, fun _ => hHeld.2 (by rfl)⟩ ?_
        rotate_left
        · intro w hSw; (try dsimp only at hSw); first | (go_simp; done) | (go_simp; with_reducible rfl)
        try simp only [Act.put, List.getElem_toArray, List.getElem_cons_zero, List.getElem_cons_succ, List.setIfInBounds_toArray, List.set_cons_zero, List.set_cons_succ]
        refine AnyL.take (i := 4) (oi := _) (v := ?_) rfl (by kernel_rfl) (by kernel_rfl) (by kernel_rfl) (by decide) (fun _ _ _ h => h) (Or.inl ⟨by rfl, ?_⟩) ⟨hHeld.1, fun _ => hHeld.2 (by rfl)⟩ ?_
        rotate_left
        · intro w hSw; (try dsimp only at hSw); first | (go_simp; done) | (go_simp; with_reducible rfl)
        try simp only [Act.put, List.getElem_toArray, List.getElem_cons_zero, List.getElem_cons_succ, List.setIfInBounds_toArray, List.set_cons_zero, List.set_cons_succ]
        try first | rw [hmn] | rw [hmn2] | rw [hmn3]
        refine AnyL.take (i := 5) (oi := _) (v := ?_) rfl (by kernel_rfl) (by kernel_rfl) (by kernel_rfl) (by decide) (fun _ _ _ h => h) (Or.inl ⟨by rfl, ?_⟩) ⟨hHeld.1, fun _ => hHeld.2 (by rfl)⟩ ?_
        rotate_left
        · intro w hSw; (try dsimp only at hSw); first | (go_simp; done) | (go_simp; with_reducible rfl)
        try simp only [Act.put, List.getElem_toArray, List.getElem_cons_zero, List.getElem_cons_succ, List.setIfInBounds_toArray, List.set_cons_zero, List.set_cons_succ]
        refine AnyL.take (i := 6) (oi := _) (v := ?_) rfl (by kernel_rfl) (by kernel_rfl) (by kernel_rfl) (by decide) (fun _ _ _ h => h) (Or.inl ⟨by rfl, ?_⟩) ⟨hHeld.1, fun _ => hHeld.2 (by rfl)⟩ ?_
        rotate_left
        · intro w hSw; (try dsimp only at hSw); first | (go_simp; done) | (go_simp; with_reducible rfl)
        try simp only [Act.put, List.getElem_toArray, List.getElem_cons_zero, List.getElem_cons_succ, List.setIfInBounds_toArray, List.set_cons_zero, List.set_cons_succ]
        refine AnyL.take (i := 7) (oi := _) (v := ?_) rfl (by kernel_rfl) (by kernel_rfl) (by kernel_rfl) (by decide) (fun _ _ _ h => h) (Or.inl ⟨by rfl, ?_⟩) ⟨hHeld.1, fun _ => hHeld.2 (by rfl)⟩ ?_
        rotate_left
        · intro w hSw; (try dsimp only at hSw); first | (go_simp; done) | (go_simp; with_reducible rfl)
        try simp only [Act.put, List.getElem_toArray, List.getElem_cons_zero, List.getElem_cons_succ, List.setIfInBounds_toArray, List.set_cons_zero, List.set_cons_succ]
        refine AnyL.take (i := 8) (oi := _) (v := ?_) rfl (by kernel_rfl) (by kernel_rfl) (by kernel_rfl) (by decide) (fun _ _ _ h => h) (Or.inl ⟨by rfl, ?_⟩) ⟨hHeld.1, fun _ => hHeld.2 (by rfl)⟩ ?_
        rotate_left
        · intro w hSw; (try dsimp only at hSw); first | (go_simp; done) | (go_simp; with_reducible rfl)
        try simp only [Act.put, List.getElem_toArray, List.getElem_cons_zero, List.getElem_cons_succ, List.setIfInBounds_toArray, List.set_cons_zero, List.set_cons_succ]
        refine AnyL.take (i := 9) (oi := _) (v := ?_) rfl (by kernel_rfl) (by kernel_rfl) (by kernel_rfl) (by decide) (fun _ _ _ h => h) (Or.inl ⟨by rfl, ?_⟩) ⟨hHeld.1, fun _ => hHeld.2 (by rfl)⟩ ?_
        rotate_left
        · intro w hSw; (try dsimp only at hSw); first | (go_simp; done) | (go_simp; with_reducible rfl)
        try simp only [Act.put, List.getElem_toArray, List.getElem_cons_zero, List.getElem_cons_succ, List.setIfInBounds_toArray, List.set_cons_zero, List.set_cons_succ]
        try first | rw [hmx] | rw [hmx2] | rw [hmx3]
        refine AnyL.take (i := 10) (oi := _) (v := ?_) rfl (by kernel_rfl) (by kernel_rfl) (by kernel_rfl) (by decide) (fun _ _ _ h => h) (Or.inl ⟨by rfl, ?_⟩) ⟨hHeld.1, fun _ => hHeld.2 (by rfl)⟩ ?_
        rotate_left
        · intro w hSw; (try dsimp only at hSw); first | (go_simp; done) | (go_simp; with_reducible rfl)
        try simp only [Act.put, List.getElem_toArray, List.getElem_cons_zero, List.getElem_cons_succ, List.setIfInBounds_toArray, List.set_cons_zero, List.set_cons_succ]
        refine AnyL.take (i := 11) (oi := _) (v := ?_) rfl (by kernel_rfl) (by kernel_rfl) (by kernel_rfl) (by decide) (fun _ _ _ h => h) (Or.inl ⟨by rfl, ?_⟩) ⟨hHeld.1, fun _ => hHeld.2 (by rfl)⟩ ?_
        rotate_left
        · intro w hSw; (try dsimp only at hSw); first | (go_simp; done) | (go_simp; with_reducible rfl)
        try simp only [Act.put, List.getElem_toArray, List.getElem_cons_zero, List.getElem_cons_succ, List.setIfInBounds_toArray, List.set_cons_zero, List.set_cons_succ]
        refine AnyL.take (i := 12) (oi := _) (v := ?_) rfl (by kernel_rfl) (by kernel_rfl) (by kernel_rfl) (by decide) (fun _ _ _ h => h) (Or.inl ⟨by rfl, ?_⟩) ⟨hHeld.1, fun _ => hHeld.2 (by rfl)⟩ ?_
        rotate_left
        · intro w hSw; (try dsimp only at hSw); first | (go_simp; done) | (go_simp; with_reducible rfl)
        try simp only [Act.put, List.getElem_toArray, List.getElem_cons_zero, List.getElem_cons_succ, List.setIfInBounds_toArray, List.set_cons_zero, List.set_cons_succ]
        refine AnyL.one (i := 13) (o := _) (by kernel_rfl) rfl (fun K hK => ?_)
        go_simp
        obtain ⟨o9, ho9⟩ : ∃ W, W = ((o8.setCell ⟨g9, k * 3, none⟩ (.int .i64 u)).setCell ⟨g9, k * 3 + 1, none⟩ (.int .i64 (q : Int))).setCell ⟨g9, k * 3 + 2, none⟩ (.int .i64 (p : Int)) := ⟨_, rfl⟩
        rw [← ho9] at gb1 hoc ⊢
        clear a0 a1 a2 fa0 fa1 fa2 ho9
        obtain ⟨⟨zb0, m0⟩, ⟨zb1, m1⟩, ⟨zb2, m2⟩⟩ := HCA.out _ _ hoc i (by omega)
        have fb0 := hoc.frozenAt (i * 3)
        have fb1 := hoc.frozenAt (i * 3 + 1)
        have fb2 := hoc.frozenAt (i * 3 + 2)
        obtain ⟨hod, gbd⟩ := hoc.stored (i * 3) (.int .i64 (q : Int))
        obtain ⟨hoe, gbe⟩ := hod.stored (i * 3 + 1) (.int .i64 v)
        obtain ⟨hof, gbf⟩ := hoe.stored (i * 3 + 2) (.int .i64 (p : Int))
        have gb2 := gb_set (gb_set (gb_set gb1 (i * 3) (.int .i64 (q : Int))) (i * 3 + 1) (.int .i64 v)) (i * 3 + 2) (.int .i64 (p : Int))
        clear hod gbd hoe gbe gbf
        refine hK.out _ _ ⟨HKC.out _ gb1, fun hk => trivial⟩ (fun hHeld => ?_)
        clear hK K
        try simp only [Act.put, List.getElem_toArray, List.getElem_cons_zero, List.getElem_cons_succ, List.setIfInBounds_toArray, List.set_cons_zero, List.set_cons_succ]
        refine AnyL.take (i := 14) (oi := _) (v := ?_) rfl (by kernel_rfl) (by kernel_rfl) (by kernel_rfl) (by decide) (fun _ _ _ h => h) (Or.inl ⟨by rfl, ?_⟩) ⟨hHeld.1, fun _ => hHeld.2 (by rfl)⟩ ?_
        rotate_left
        · intro w hSw; (try dsimp only at hSw); first | (go_simp; done) | (go_simp; with_reducible rfl)
        try simp only [Act.put, List.getElem_toArray, List.getElem_cons_zero, List.getElem_cons_succ, List.setIfInBounds_toArray, List.set_cons_zero, List.set_cons_succ]
        refine AnyL.one (i := 15) (o := _) (by kernel_rfl) rfl (fun K hK => ?_)
        go_simp
        refine hK.out _ _ ⟨HKC.out _ gb2, fun hk => (by simp at hk)⟩ (fun hHeld => ?_)
        clear hK K
        try simp only [Act.put, List.getElem_toArray, List.getElem_cons_zero, List.getElem_cons_succ, List.setIfInBounds_toArray, List.set_cons_zero, List.set_cons_succ]
        refine AnyL.done (by kernel_rfl) ?_ _
        obtain ⟨oA, hoA⟩ : ∃ W, W = ((o9.setCell ⟨g9, i * 3, none⟩ (.int .i64 (q : Int))).setCell ⟨g9, i * 3 + 1, none⟩ (.int .i64 v)).setCell ⟨g9, i * 3 + 2, none⟩ (.int .i64 (p : Int)) := ⟨_, rfl⟩
        rw [← hoA] at gb2 hof ⊢
        clear hoA hHeld m0 m1 m2 fb0 fb1 fb2 gb0 gb1 hoc hown9 HKC HCA
        have hTT : (T.set k (u, (q : Int), (p : Int))).set i ((q : Int), v, (p : Int)) = turnT T i k u v p q := by unfold turnT; rw [show min i k = k by omega, show max i k = i by omega]
        have hcs := cellsT_set (T.set k (u, (q : Int), (p : Int))) i q v p (by rw [List.length_set]; omega)
        rw [cellsT_set T k u q p (by omega), hTT] at hcs
        rw [← hcs] at hof
        have HTN : Hid (RdT oA (.slice (some ⟨g9, 0, none⟩) T.length c9) (turnT T i k u v p q)) := by
          unfold Hid RdT
          rw [turnT_length]
          exact RdC.of_owns hof
        have HPN8 : Hid (RdP oA (.slice p8 (strP P).length c8) (strP P)) := RdC.of_owns (own_gb hown8 gb2 (fun j hj e => by
          rcases hap with h | h
          · rw [hj] at h; cases h
          · exact h (by rw [hj, e]; rfl)))
        have hb5c := hb53.trans (hbx.mono hb53.size)
        have hs53 := hb53.size
        have hs5c := hbx.size
        have hB5A : Below o5.heap.size o5 oA := below_gb hb5c gb2 (by omega)
        have b4A := b45.below hB5A hl45
        have b19A := b19.gb gb2 (by intro e; injection e with e; exact hgB e)
        have hTi : (turnT T i k u v p q)[k]? = some (u, (q : Int), (p : Int)) := by
          have h := turnT_min T i k u v p q hik (by omega) (by omega)
          rwa [show min i k = k by omega] at h
        have hTk : (turnT T i k u v p q)[i]? = some ((q : Int), v, (p : Int)) := by
          have h := turnT_max T i k u v p q (by omega) (by omega)
          rwa [show max i k = i by omega] at h
        have HMC := Lib.hid (HMT.out)
        clear hTT hcs hof gb2 hown8 hap hb5c b19 hmn hmx hmn2 hmn3 hmx2 hmx3
        go_wp2_with fail
        obtain ⟨WL, hWL⟩ : ∃ W, W = oA.alloc (.cells #[.int .i64 (i : Int), .int .i64 (k : Int)] 3) := ⟨_, rfl⟩
        have hbL : Below oA.heap.size oA WL := by rw [hWL]; exact (Below.refl _ _).alloc (Nat.le_refl _) _
        have bL : BoxN WL oA.heap.size 3 [.int .i64 (i : Int), .int .i64 (k : Int)] := by rw [hWL]; exact BoxN.new _ _ _ _ rfl
        rw [← hWL]
        have hB5L := hB5A.trans (hbL.mono hB5A.size)
        have b4L := b4A.below hbL b4A.lt
        have b19L := b19A.below hbL b19A.lt
        have HTL : Hid (RdT WL (.slice (some ⟨g9, 0, none⟩) T.length c9) (turnT T i k u v p q)) := RdC.below HTN.out hbL
        have HPL : Hid (RdP WL (.slice p8 (strP P).length c8) (strP P)) := RdC.below HPN8.out hbL
        have hlL := bL.lt
        have hl4 := b4L.lt
        obtain ⟨ZA, hZA⟩ : ∃ z, z = turnZ (ptI P q) (ptI P v) (ptI P p) := ⟨_, rfl⟩
        obtain ⟨ZB, hZB⟩ : ∃ z, z = turnZ (ptI P u) (ptI P q) (ptI P p) := ⟨_, rfl⟩
        have HSG : Hid (∀ j : Nat, j < 2 → ∃ (x : Nat) (tr : Tri), (turnT T i k u v p q)[x]? = some tr ∧ WL.cell? ⟨oA.heap.size, j, none⟩ = some (.int .i64 (x : Int)) ∧ turnZ (ptI P tr.1) (ptI P tr.2.1) (ptI P tr.2.2) = if j = 0 then ZA else ZB) := fun j hj => by
          rcases (by omega : j = 0 ∨ j = 1) with rfl | rfl
          · exact ⟨i, _, hTk, bL.cell 0 rfl, by rw [hZA]; rfl⟩
          · exact ⟨k, _, hTi, bL.cell 1 rfl, by rw [hZB]; rfl⟩
        have HCC : Hid (∀ (x : Nat) (tr : Tri), (turnT T i k u v p q)[x]? = some tr → ∀ w', Below WL.heap.size WL w' → Calls Tryz.prog 69 #[.agg #[.slice p8 (strP P).length c8, .slice (some ⟨g9, 0, none⟩) T.length c9], .int .i64 (x : Int)] w' (Ret (fun r _ => r = .agg #[.string (RS (ptI P tr.1).1), .string (RS (ptI P tr.1).2), .string (RS (ptI P tr.2.1).1), .string (RS (ptI P tr.2.1).2), .string (RS (ptI P tr.2.2).1), .string (RS (ptI P tr.2.2).2)]) w')) := fun x tr hx w' hb => by
          obtain ⟨h1, h2⟩ := List.getElem?_eq_some_iff.1 hx
          exact mcorners_any w' _ _ P _ m (RdC.below HPL.out hb) (RdC.below HTL.out hb) HMC.out x _ rfl h1 tr h2.symm
        have HTU : Hid (∀ (a b c : Int) (w' : World), Good w' → Calls Tryz.prog 64 #[.agg #[.string (RS (ptI P a).1), .string (RS (ptI P a).2)], .agg #[.string (RS (ptI P b).1), .string (RS (ptI P b).2)], .agg #[.string (RS (ptI P c).1), .string (RS (ptI P c).2)]] w' (Ret (fun r _ => r = .int .i64 (turnZ (ptI P a) (ptI P b) (ptI P c))) w')) := fun a b c w' hg' => turn_any _ _ _ m HMC.out.kpos HMC.out.klim (ptI_szP HMC.out.sz HMC.out.kpos a) (ptI_szP HMC.out.sz HMC.out.kpos b) (ptI_szP HMC.out.sz HMC.out.kpos c) w' hg'
        have HBAD : Hid (ZA ≤ 0 ∨ ZB ≤ 0 → ∀ w', TurnP P T i k u v p q (noneE 7) w') := fun h w' => .inr ⟨by rw [hZA, hZB] at h; exact h.symm, rfl⟩
        have HGOOD : Hid (0 < ZA → 0 < ZB → ∀ w' : World, RdP w' (.slice p8 (strP P).length c8) (strP P) → RdT w' (.slice (some ⟨g9, 0, none⟩) T.length c9) (turnT T i k u v p q) → TurnP P T i k u v p q (.tuple #[.agg #[.slice p8 (strP P).length c8, .slice (some ⟨g9, 0, none⟩) T.length c9], .int .i64 0]) w') := fun h1 h2 w' h3 h4 => by
          rw [hZA] at h1
          rw [hZB] at h2
          exact .inl ⟨h2, h1, _, _, rfl, h3, h4⟩
        clear hWL hbL b4A b19A bL HTN HPN8 hZA hZB hTi hTk HMC HMT hB5A b25 b35 hbx hb50 hb51 hb52 hb53
        go_loopw [122] (fun t122 wr => ∃ j : Nat, t122 = .int .i64 j ∧ j ≤ 2 ∧ Hid (0 < j → 0 < ZA) ∧ Hid (1 < j → 0 < ZB) ∧ Below WL.heap.size WL wr) (fun t122 _ => 2 - (RowKit.intOf t122).toNat)
        case atStart => exact ⟨0, rfl, by omega, fun h => absurd h (Nat.lt_irrefl _), fun h => absurd h (by omega), Below.refl _ _⟩
        case round =>
          obtain ⟨j, rfl, hj, HA, HB, hbr⟩ := hrel
          have b19r := b19L.below hbr b19L.lt
          have b4r := b4L.below hbr b4L.lt
          have x0 := b19r.cell 0 rfl
          have x1 := b19r.cell 1 rfl
          have hBr := hB5.trans ((hB5L.trans (hbr.mono hB5L.size)).mono hB5.size)
          rcases Nat.lt_or_ge j 2 with h | h
          · obtain ⟨x, tr, htr, hcx, hz⟩ := HSG.out j h
            have hjz : (j : Int) < 2 := by omega
            have d0 := (hbr.cell (p := ⟨oA.heap.size, j, none⟩) hlL).trans hcx
            have KC := Lib.hid (HCC.out x tr htr wr hbr)
            have KT : Hid (∀ w', Good w' → _) := fun w' hg' => HTU.out tr.1 tr.2.1 tr.2.2 w' hg'
            rw [hz] at KT
            have HZ : Hid ((if j = 0 then ZA else ZB) ≤ 0 → ZA ≤ 0 ∨ ZB ≤ 0) := fun hle => by
              split at hle
              · exact .inl hle
              · exact .inr hle
            have HNA : Hid (0 < (if j = 0 then ZA else ZB) → 0 < ZA ∧ (1 < j + 1 → 0 < ZB)) := fun hlt => by
              rcases (by omega : j = 0 ∨ j = 1) with rfl | rfl
              · exact ⟨hlt, fun h => absurd h (by omega)⟩
              · exact ⟨HA.out (by omega), fun _ => hlt⟩
            generalize (if j = 0 then ZA else ZB) = z at *
            generalize RS (ptI P tr.1).1 = c00 at *
            generalize RS (ptI P tr.1).2 = c01 at *
            generalize RS (ptI P tr.2.1).1 = c10 at *
            generalize RS (ptI P tr.2.1).2 = c11 at *
            generalize RS (ptI P tr.2.2).1 = c20 at *
            generalize RS (ptI P tr.2.2).2 = c21 at *
            clear hcx hz htr HCC HTU HSG
            go_wp2_with fail
            refine KC.out.mono ?_
            rintro e wa ⟨_, rfl, rfl, hba⟩
            have hra := hbr.trans (hba.mono hbr.size)
            have b4a := b4L.below hra b4L.lt
            clear x0 x1 d0 b19r b4r hba hBr
            go_upto_region 20 with fail
            obtain ⟨wb, hwb⟩ : ∃ W, W = wa.alloc (.cells #[.string c00, .string c01, .string c10, .string c11, .string c20, .string c21] 57) := ⟨_, rfl⟩
            have hbb : Below wa.heap.size wa wb := by rw [hwb]; exact (Below.refl _ _).alloc (Nat.le_refl _) _
            have bc : BoxN wb wa.heap.size 57 [.string c00, .string c01, .string c10, .string c11, .string c20, .string c21] := by rw [hwb]; exact BoxN.new _ _ _ _ rfl
            rw [← hwb]
            have hrb := hra.trans (hbb.mono hra.size)
            have b4b := b4a.below hbb b4a.lt
            have hgb := hg.below (hB5.trans ((hB5L.trans (hrb.mono hB5L.size)).mono hB5.size))
            have k0 := bc.cell 0 rfl
            have k1 := bc.cell 1 rfl
            have k2 := bc.cell 2 rfl
            have k3 := bc.cell 3 rfl
            have k4 := bc.cell 4 rfl
            have k5 := bc.cell 5 rfl
            clear hwb hbb b4a hra bc
            go_wp2_with fail
            refine (KT.out wb hgb).mono ?_
            rintro e wd ⟨_, rfl, rfl, hbd⟩
            have hrd := hrb.trans (hbd.mono hrb.size)
            have b4d := b4b.below hbd b4b.lt
            have hBd := hB5.trans ((hB5L.trans (hrd.mono hB5L.size)).mono hB5.size)
            clear k0 k1 k2 k3 k4 k5 hbd b4b hrb hgb
            by_cases hzz : z ≤ 0
            · have hzb : decide (z ≤ 0) = true := decide_eq_true hzz
              have HX := Lib.hid (HBAD.out (HZ.out hzz))
              have y0 := b4d.cell 0 rfl
              have y1 := b4d.cell 1 rfl
              have f0 := b4d.frozen 0
              have f1 := b4d.frozen 1
              clear hzz
              go_wp2_with fail
              have BF := (b4d.set 0 (.slice none 0 0)).set 1 (.slice none 0 0)
              have hle : w.heap.size ≤ w.heap.size + 2 := by omega
              have hBF := (hBd.setCell (p := ⟨w.heap.size + 2, 0, none⟩) hle (.slice none 0 0)).setCell (p := ⟨w.heap.size + 2, 1, none⟩) hle (.slice none 0 0)
              have g0 := BF.cell 0 rfl
              have g1 := BF.cell 1 rfl
              exact bodyPost_ret (v := noneE 7) (by simp [noneE, results, Tryz.results35, go_sem, g0, g1]) rfl ⟨_, rfl, HX.out _, hBF⟩
            · have hzb : decide (z ≤ 0) = false := decide_eq_false hzz
              have HX := Lib.hid (HNA.out (by omega))
              clear hzz
              go_wp2_with fail
              go_roundw
              case rel => exact ⟨j + 1, by go_num, by omega, fun _ => HX.out.1, fun h => HX.out.2 h, hrd⟩
              case measure =>
                show 2 - ((j : Int) + 1).toNat < 2 - (j : Int).toNat
                omega
          · have hjge : (2 : Int) ≤ (j : Int) := by omega
            have hp1 := HA.out (by omega)
            have hp2 := HB.out (by omega)
            have HX := Lib.hid (HGOOD.out hp1 hp2)
            have HPR2 : Hid (RdP wr (.slice p8 (strP P).length c8) (strP P)) := RdC.below HPL.out hbr
            have HTR2 : Hid (RdT wr (.slice (some ⟨g9, 0, none⟩) T.length c9) (turnT T i k u v p q)) := RdC.below HTL.out hbr
            have y0 := b4r.cell 0 rfl
            have y1 := b4r.cell 1 rfl
            have f0 := b4r.frozen 0
            have f1 := b4r.frozen 1
            clear hp1 hp2
            go_wp2_with fail
            have B1 := b4r.set 0 (.slice p8 (strP P).length c8)
            have y11 := B1.cell 1 rfl
            have BF := B1.set 1 (.slice (some ⟨g9, 0, none⟩) T.length c9)
            have hle : w.heap.size ≤ w.heap.size + 2 := by omega
            have hBF := (hBr.setCell (p := ⟨w.heap.size + 2, 0, none⟩) hle (.slice p8 (strP P).length c8)).setCell (p := ⟨w.heap.size + 2, 1, none⟩) hle (.slice (some ⟨g9, 0, none⟩) T.length c9)
            have g0 := BF.cell 0 rfl
            have g1 := BF.cell 1 rfl
            have HPF := RdC.set_other (x := .slice (some ⟨g9, 0, none⟩) T.length c9) (RdC.set_other (x := .slice p8 (strP P).length c8) HPR2.out y0 (noSlP _)) y11 (noSlP _)
            have HTF := RdC.set_other (x := .slice (some ⟨g9, 0, none⟩) T.length c9) (RdC.set_other (x := .slice p8 (strP P).length c8) HTR2.out y0 (noSlT _)) y11 (noSlT _)
            exact bodyPost_ret (v := .tuple #[.agg #[.slice p8 (strP P).length c8, .slice (some ⟨g9, 0, none⟩) T.length c9], .int .i64 0]) (by simp [results, Tryz.results35, go_sem, g0, g1]) rfl ⟨_, rfl, HX.out _ HPF HTF, hBF⟩

end Go.Proofs.YtccngnjkehibiaaGreatDoor
