/- The walk over mesh.Neighbours. -/
import Derived.Test.YtdhcliekejiegaaGreatDoorE4
import Derived.Test.YtdhcliekejiegaaGreatDoorE5a
namespace Go.Proofs.YtdhcliekejiegaaGreatDoor
open Go.RowKit Go.Shelf Go.Lib

attribute [local go_sem] Oper.semAt_some

/-- What has been stored of the three. -/
def outsL (f : Fin 3 → Int) (pre : List (Fin 3)) : List Value := pre.foldl (fun l x => l.set x.val (.int .i64 (f x))) [.int .i64 0, .int .i64 0, .int .i64 0]
theorem outsL_snoc (f : Fin 3 → Int) (pre : List (Fin 3)) (x : Fin 3) : outsL f (pre ++ [x]) = (outsL f pre).set x.val (.int .i64 (f x)) := by
  unfold outsL; rw [List.foldl_append]; rfl
theorem outsL_len (f : Fin 3 → Int) (pre : List (Fin 3)) : (outsL f pre).length = 3 := by
  unfold outsL
  have : ∀ (pre : List (Fin 3)) (l : List Value), (pre.foldl (fun l x => l.set x.val (.int .i64 (f x))) l).length = l.length := by
    intro pre
    induction pre with
    | nil => intro l; rfl
    | cons x pre ih => intro l; rw [List.foldl_cons, ih, List.length_set]
  rw [this]; rfl
set_option maxHeartbeats 4000000 in
set_option maxRecDepth 100000 in
theorem neighbours_in (n : Nat) (hn : 6 ≤ n) (w : World) (vp vt : Value) (P : List PtQ) (T : List Tri) (k : Nat) (hp : RdP w vp (strP P)) (ht : RdT w vt T) (hm : MeshOK P T k) (hI : ∀ t ∈ T, InI t.1 ∧ InI t.2.1 ∧ InI t.2.2) (t : Nat) (htl : t < T.length) (tr : Tri) (htr : tr = T[t]) (hg : Good w) :
    CallsIn Fence.wide n Tryz.prog 12 #[.agg #[vp, vt], .int .i64 (t : Int)] w (Ret (fun r _ => r = .tuple #[.agg #[.int .i64 (nbI T (sideK tr 0)), .int .i64 (nbI T (sideK tr 1)), .int .i64 (nbI T (sideK tr 2))], .int .i64 0]) w) := by
  have h1 : 1 ≤ n := by omega
  have HCT : Hid (∀ w', Below w.heap.size w w' → Good w' → Calls Tryz.prog 56 #[.agg #[vp, vt], .int .i64 (t : Int)] w' (Ret (fun r _ => r = .int .i64 0) w')) := fun w' hb hg' => checkTriangle_ok w' vp vt P T k (RdC.below hp hb) (RdC.below ht hb) hm t htl hg'
  have HOW : Hid (∀ w', Below w.heap.size w w' → Calls Tryz.prog 52 #[.agg #[vp, vt]] w' (Ret (OwnersP T w'.heap.size) w')) := fun w' hb => owners_any w' vp vt T (RdC.below ht hb) (by have := hm.tlen; omega) hI
  have HND := Lib.hid hm.nodup
  have HIN : Hid (∀ x, InE (revE (sideK tr x))) := fun x => by
    obtain ⟨i1, i2, i3⟩ := hI tr (by rw [htr]; exact List.getElem_mem htl)
    rcases x with ⟨x, hx⟩
    rcases (by omega : x = 0 ∨ x = 1 ∨ x = 2) with rfl | rfl | rfl
    · exact ⟨i2, i1⟩
    · exact ⟨i3, i2⟩
    · exact ⟨i1, i3⟩
  obtain ⟨pp, cp, rfl, -, -, -⟩ := hp.open
  obtain ⟨pt, ct, rfl, htc, htm, htr'⟩ := ht.open
  obtain ⟨b, off, rfl, hbl, hcell⟩ := htr' (List.ne_nil_of_length_pos (by omega))
  obtain ⟨e0, e1, e2⟩ := hcell t htl
  rw [← htr] at e0 e1 e2
  have hltz : (t : Int) < (T.length : Int) := by omega
  clear hp ht hm hI htr' hcell htr htl htc htm
  refine callsIn_of_wp_marks Tryz.func12 rfl trivial ?_ rfl
  simp only [Tryz.ntmps12, List.size_toArray, List.length_cons, List.length_nil, Nat.reduceAdd, Nat.reduceSub, Array.replicate_succ, Array.replicate_zero, List.push_toArray, List.append_toArray, List.nil_append, List.cons_append]
  gi_wp2_with fail
  obtain ⟨W, hW⟩ : ∃ W, W = (w.alloc (.cells #[.slice pp (strP P).length cp, .slice (some ⟨b, off, none⟩) T.length ct] 30)).alloc (.cells #[.int .i64 0, .int .i64 0, .int .i64 0] 39) := ⟨_, rfl⟩
  have hB : Below w.heap.size w W := by rw [hW]; exact ((Below.refl _ _).alloc (Nat.le_refl _) _).alloc (by simp) _
  have b4 : BoxN W (w.heap.size + 1) 39 [.int .i64 0, .int .i64 0, .int .i64 0] := by rw [hW]; exact BoxN.new _ _ _ _ (by simp)
  have b2 : BoxN W w.heap.size 30 [.slice pp (strP P).length cp, .slice (some ⟨b, off, none⟩) T.length ct] := by
    rw [hW]
    have h1 := (BoxN.new w #[.slice pp (strP P).length cp, .slice (some ⟨b, off, none⟩) T.length ct] 30 _ rfl)
    exact h1.below ((Below.refl _ _).alloc (Nat.le_refl _) _) h1.lt
  rw [← hW]
  clear hW
  refine ⟨trivial, ?_⟩
  refine CallsIn.mono (callsIn_wide.2 (HCT.out W hB (hg.below hB))) ?_
  rintro e w1 ⟨_, rfl, rfl, hb1⟩
  have hB1 := hB.trans (hb1.mono hB.size)
  have b21 := b2.below hb1 b2.lt
  have b41 := b4.below hb1 b4.lt
  have x0 := b21.cell 0 rfl
  have x1 := b21.cell 1 rfl
  clear hb1 hB b2 b4
  gi_wp2_with fail
  refine ⟨trivial, ?_⟩
  refine CallsIn.mono (callsIn_wide.2 (HOW.out w1 hB1)) ?_
  rintro e w2 ⟨v, rfl, hov, hb2⟩
  rcases hov with hov | ⟨hnn, _⟩
  rotate_left
  · exact absurd HND.out hnn
  obtain ⟨_, bm, D, hbm, rfl, hM⟩ := hov
  have hB2 := hB1.trans (hb2.mono hB1.size)
  have b22 := b21.below hb2 b21.lt
  have b42 := b41.below hb2 b41.lt
  have HM := Lib.hid hM
  have hbm2 := hM.owns
  have hbml : bm < w2.heap.size := by
    obtain ⟨es, ck, hh, _⟩ := hbm2
    exact (Array.getElem?_eq_some_iff.1 hh).1
  clear hb2 hB1 b21 b41 x0 x1 hM hbm2
  have x1 := b22.cell 1 rfl
  have d0 := (hB2.cell (p := ⟨b, off + t * 3, none⟩) hbl).trans e0
  have d1 := (hB2.cell (p := ⟨b, off + t * 3 + 1, none⟩) hbl).trans e1
  have d2 := (hB2.cell (p := ⟨b, off + t * 3 + 2, none⟩) hbl).trans e2
  have hz42 := b42.lt
  have hz22 := b22.lt
  have hbl2 : b < w2.heap.size := by omega
  gi_wp2_with fail
  refine ⟨trivial, ?_⟩
  refine CallsIn.mono (callsIn_wide.2 (sides_any tr _)) ?_
  rintro e w3 ⟨rfl, rfl⟩
  obtain ⟨W1, hW1⟩ : ∃ W1, W1 = ((w2.alloc (.cells #[.map (some bm)] 113)).alloc (.cells #[.int .i64 0, .int .i64 0, .int .i64 0] 39)).alloc (.cells #[.int .i64 tr.1, .int .i64 tr.2.1, .int .i64 tr.2.2] 51) := ⟨_, rfl⟩
  have hbW1 : Below w2.heap.size w2 W1 := by rw [hW1]; exact (((Below.refl _ _).alloc (Nat.le_refl _) _).alloc (by simp) _).alloc (by simp; omega) _
  have hz1 : W1.heap.size = w2.heap.size + 3 := by rw [hW1]; simp
  have z7 : Boxed W1 w2.heap.size 113 (.map (some bm)) := by rw [hW1]; exact ((Boxed.new w2 _ _).alloc _).alloc _
  have z9 : BoxN W1 (w2.heap.size + 1) 39 [.int .i64 0, .int .i64 0, .int .i64 0] := by
    rw [hW1]
    have h1 := (BoxN.new (w2.alloc (.cells #[.map (some bm)] 113)) #[.int .i64 0, .int .i64 0, .int .i64 0] 39 (w2.heap.size + 1) (by simp))
    exact h1.below ((Below.refl _ _).alloc (Nat.le_refl _) _) h1.lt
  have s0 : W1.cell? ⟨w2.heap.size + 2, 0, none⟩ = some (.int .i64 tr.1) := by rw [hW1, World.cell?_alloc_at _ _ _ _ (by simp)]; rfl
  have s1 : W1.cell? ⟨w2.heap.size + 2, 1, none⟩ = some (.int .i64 tr.2.1) := by rw [hW1, World.cell?_alloc_at _ _ _ _ (by simp)]; rfl
  have s2 : W1.cell? ⟨w2.heap.size + 2, 2, none⟩ = some (.int .i64 tr.2.2) := by rw [hW1, World.cell?_alloc_at _ _ _ _ (by simp)]; rfl
  gi_wp2_with fail
  rw [← hW1]
  have hm1 : MapL viewE 3 (Lit.int .i64) W1 bm (3 * T.length) D (ownL T) := HM.out.below hbW1 hbml
  have z4 : BoxN W1 (w.heap.size + 1) 39 [.int .i64 0, .int .i64 0, .int .i64 0] := b42.below hbW1 hz42
  have hBW : Below w.heap.size w W1 := hB2.trans (hbW1.mono hB2.size)
  clear hW1 hbW1 HM b22 b42 x1 d0 d1 d2 e0 e1 e2 hB2
  refine wpIn_rangeFunc_ownH rfl h1 (gf := 121) (lb := #[.pointer (some ⟨w2.heap.size + 1 + 1, 0, none⟩)]) rfl trivial (enters_of Tryz.func121 (by kernel_rfl) rfl)
    (sides_stops Fence.wide (n - 1) trivial rfl (by omega) (w2.heap.size + 2) w.heap.size tr W1 (by omega) s0 s1 s2) (fun h k => KeepAt.trans h k) (keepAt_b (by omega) (by omega)) (Below.refl _ _) (fun _ => rfl)
    (fun pre W => W1.grownBy W (some (w2.heap.size + 1)) ∧ Hid (BoxN W (w2.heap.size + 1) 39 (outsL (fun x => nbI T (sideK tr x)) pre)))
    (fun _ _ _ => False)
    ?hI ?hIx ?h0 (fun x a' W => ∃ Bx, (W1.heap.size ≤ Bx ∧ W.heap[Bx]? = some (.cells #[.int .i64 (sideK tr x).1, .int .i64 (sideK tr x).2] 47)) ∧
      a' = { tmps := #[.agg #[.slice pp (strP P).length cp, .slice (some ⟨b, off, none⟩) T.length ct], .int .i64 t, .pointer (some ⟨w.heap.size, 0, none⟩), undef, .pointer (some ⟨w.heap.size + 1, 0, none⟩), .int .i64 0, .int .i64 0, .pointer (some ⟨w2.heap.size, 0, none⟩), .bool true, .pointer (some ⟨w2.heap.size + 1, 0, none⟩), .int .i64 (x.val : Int), .pointer (some ⟨Bx, 0, none⟩), undef, undef, .agg #[.slice pp (strP P).length cp, .slice (some ⟨b, off, none⟩) T.length ct], .int .i64 t, .int .i64 0, .int .i64 0, .bool false, undef, undef, .tuple #[.map (some bm), .bool true], .agg #[.slice pp (strP P).length cp, .slice (some ⟨b, off, none⟩) T.length ct], .tuple #[.map (some bm), .bool true], .map (some bm), .bool true, .pointer (some ⟨w.heap.size, 1, none⟩), .slice (some ⟨b, off, none⟩) T.length ct, .int .i64 t, .pointer (some ⟨b, off + t * 3, none⟩), .agg #[.int .i64 tr.1, .int .i64 tr.2.1, .int .i64 tr.2.2], .func (.func 121) #[] #[.pointer (some ⟨w2.heap.size + 1 + 1, 0, none⟩)], .int .i64 (x.val : Int), .agg #[.int .i64 (sideK tr x).1, .int .i64 (sideK tr x).2], undef, undef, undef, undef, undef, undef, undef, undef, undef, undef, undef, undef, undef, undef, undef, undef], defers := [] })
    ?hAx ?assign ?body ?done ?stop
  case hI =>
    rintro pre W W' row ⟨hs, ho⟩ hg hr
    have hne : some (w2.heap.size + 1) ≠ row := fun e => by have := (hr _ e.symm).1; omega
    exact ⟨⟨hg.os.trans hs.os, hg.tape.trans hs.tape, hg.output.trans hs.output, Nat.le_trans hs.size hg.size, fun j hj hjn => (hg.block j (Nat.lt_of_lt_of_le hj hs.size) (fun e => by have := (hr _ e.symm).1; omega)).trans (hs.block j hj hjn)⟩, (hg.block _ ho.out.lt hne).trans ho.out⟩
  case hIx =>
    rintro c' pre W W' row h _ _
    exact h
  case h0 => exact ⟨⟨rfl, rfl, rfl, Nat.le_refl _, fun _ _ _ => rfl⟩, z9⟩
  case hAx =>
    rintro x a' _ W W' row ⟨Bx, ⟨h1, h2⟩, h3⟩ hg hr
    refine ⟨Bx, ⟨h1, (hg.block Bx (Array.getElem?_eq_some_iff.1 h2).1 (fun e => ?_)).trans h2⟩, h3⟩
    obtain ⟨_, o, ho, hc⟩ := hr Bx e.symm
    rw [h2] at ho; cases ho; cases hc
  case assign =>
    rintro l pre x W K ⟨hs, ho⟩ hK
    dsimp only [encSide]
    gi_wp2_with fail
    have hg1 := World.grownBy_alloc W (.cells #[.int .i64 (sideK tr x).1, .int .i64 (sideK tr x).2] 47) none
    refine hK _ _ ((KeepsOthers.alloc _ _).from _) ⟨(Below.refl _ W).alloc (by have := hs.size; omega) _, Below.heap_alloc _ _ _ (by have := hs.size; omega)⟩ ⟨⟨hg1.os.trans hs.os, hg1.tape.trans hs.tape, hg1.output.trans hs.output, Nat.le_trans hs.size hg1.size, fun j hj hjn => (hg1.block j (Nat.lt_of_lt_of_le hj hs.size) (by simp)).trans (hs.block j hj hjn)⟩, (hg1.block _ ho.out.lt (by simp)).trans ho.out⟩ ⟨W.heap.size, ⟨hs.size, World.alloc_heap_new _ _⟩, rfl⟩
  case body =>
    rintro l pre x a' W hl ⟨r, hr⟩ ⟨hs, ho⟩ ⟨Bx, ⟨hBx, hbx⟩, rfl⟩ hlt'
    have q7 : Boxed W w2.heap.size 113 (.map (some bm)) := z7.kept hs (by simp)
    have c7 := q7.cell
    have hm : MapL viewE 3 (Lit.int .i64) W bm (3 * T.length) D (ownL T) := hm1.kept hs (by simp; omega)
    have cb0 : W.cell? ⟨Bx, 0, none⟩ = some (.int .i64 (sideK tr x).1) := by simp [World.cell?, hbx]
    have cb1 : W.cell? ⟨Bx, 1, none⟩ = some (.int .i64 (sideK tr x).2) := by simp [World.cell?, hbx]
    have hown := hm.owns
    have HX := HIN.out x
    have hkey : keyOf Tryz.prog 47 (.agg #[.int .i64 (sideK tr x).2, .int .i64 (sideK tr x).1]) = some (kE (revE (sideK tr x))) := keyE HX.1 HX.2
    have hlen := outsL_len (fun x => nbI T (sideK tr x)) pre
    have c9' := ho.out.cell x.val (List.getElem?_eq_getElem (by rw [hlen]; exact x.isLt))
    have c9f := ho.out.frozen x.val
    have hx3 : (x.val : Int) < 3 := by have := x.isLt; omega
    obtain ⟨v9, hv9⟩ : ∃ v9, W.cell? ⟨w2.heap.size + 1, x.val, none⟩ = some v9 := ⟨_, c9'⟩
    have hhas := hm.has_iff HX
    have HSET : Hid (∀ y : Int, y = nbI T (sideK tr x) → BoxN (W.setCell ⟨w2.heap.size + 1, x.val, none⟩ (.int .i64 y)) (w2.heap.size + 1) 39 (outsL (fun x => nbI T (sideK tr x)) (pre ++ [x]))) := fun y hy => by
      rw [outsL_snoc, hy]
      exact ho.out.set x.val (.int .i64 (nbI T (sideK tr x)))
    have HGR : Hid (∀ y : Value, W1.grownBy (W.setCell ⟨w2.heap.size + 1, x.val, none⟩ y) (some (w2.heap.size + 1))) := fun y =>
      ⟨hs.os, hs.tape, hs.output, by simpa using hs.size, fun j hj hjn => (Below.heap_setCell _ _ _ j (by rintro rfl; exact hjn rfl)).trans (hs.block j hj hjn)⟩
    have HKE := Lib.hid hkey
    have HHAS := Lib.hid hhas
    have HMM := Lib.hid hm
    clear hbx hr hkey hhas q7 c9' hlen ho hm
    generalize hjx : x.val = jx at *
    have HJX := Lib.hid hjx
    clear hjx
    cases hsn : Maps.has D (viewE.lit (revE (sideK tr x)))
    · have hnk : revE (sideK tr x) ∉ (ownL T).map (·.1) := fun hmm => by
        have := HHAS.out.2 hmm
        rw [hsn] at this; cases this
      have HNK := Lib.hid (nbI_none hnk)
      have HSN := Lib.hid hsn
      clear hnk hsn
      gi_wp2_with (gi_at_lookup; refine wpListIn_lookup_own_ok_int _ rfl _ _ 113 rfl 47 3 .i64 lawE und_EI und_I (zeroI _) bm (3 * T.length) D rfl hown _ _ rfl HKE.out ?_; rw [show Maps.has D (kE (revE (sideK tr x))) = false from HSN.out]; intro cz hat hwc; clear hat hwc)
      exact ⟨(KeepsOthers.setCell _ _ _).from _, ⟨(Below.refl _ W).setCell (p := ⟨w2.heap.size + 1, jx, none⟩) (by show w.heap.size ≤ w2.heap.size + 1; omega) _, Below.heap_setCell _ _ _ _ (by show w2.heap.size + 2 ≠ w2.heap.size + 1; omega)⟩, HGR.out _, Lib.hid (HSET.out _ HNK.out.symm)⟩
    · have hnk : revE (sideK tr x) ∈ (ownL T).map (·.1) := HHAS.out.1 hsn
      have hat2 := HMM.out.at (nbI_some hnk) (.lit (.int .i64 0))
      have HAT := Lib.hid hat2
      have HSN := Lib.hid hsn
      clear hnk hsn hat2
      gi_wp2_with (gi_at_lookup; refine wpListIn_lookup_own_ok_int _ rfl _ _ 113 rfl 47 3 .i64 lawE und_EI und_I (zeroI _) bm (3 * T.length) D rfl hown _ _ rfl HKE.out ?_; rw [show Maps.has D (kE (revE (sideK tr x))) = true from HSN.out]; intro cz hat hwc; have HCZ : Hid (cz = nbI T (sideK tr x)) := (by have h1 := hat.symm.trans HAT.out; injection h1 with h1; injection h1); clear hat hwc)
      exact ⟨(KeepsOthers.setCell _ _ _).from _, ⟨(Below.refl _ W).setCell (p := ⟨w2.heap.size + 1, jx, none⟩) (by show w.heap.size ≤ w2.heap.size + 1; omega) _, Below.heap_setCell _ _ _ _ (by show w2.heap.size + 2 ≠ w2.heap.size + 1; omega)⟩, HGR.out _, Lib.hid (HSET.out _ HCZ.out)⟩
  case done =>
    rintro E ys W hE rfl ⟨hs, ho⟩ hK
    have r4 : BoxN W (w.heap.size + 1) 39 [.int .i64 0, .int .i64 0, .int .i64 0] := (hs.block _ (by omega) (by simp; omega)).trans z4
    have r9 : BoxN W (w2.heap.size + 1) 39 [.int .i64 (nbI T (sideK tr 0)), .int .i64 (nbI T (sideK tr 1)), .int .i64 (nbI T (sideK tr 2))] := ho.out
    have hBW2 : Below w.heap.size w W := hBW.grown hs hBW.size (fun j e => by cases e; omega)
    have a0 := r4.cell 0 rfl
    have a1 := r4.cell 1 rfl
    have a2 := r4.cell 2 rfl
    have f0 := r4.frozen 0
    have f1 := r4.frozen 1
    have f2 := r4.frozen 2
    have n0 := r9.cell 0 rfl
    have n1 := r9.cell 1 rfl
    have n2 := r9.cell 2 rfl
    obtain ⟨y0, hy0⟩ : ∃ y, y = nbI T (sideK tr 0) := ⟨_, rfl⟩
    obtain ⟨y1, hy1⟩ : ∃ y, y = nbI T (sideK tr 1) := ⟨_, rfl⟩
    obtain ⟨y2, hy2⟩ : ∃ y, y = nbI T (sideK tr 2) := ⟨_, rfl⟩
    rw [← hy0] at n0
    rw [← hy1] at n1
    rw [← hy2] at n2
    have HY : Hid (y0 = nbI T (sideK tr 0) ∧ y1 = nbI T (sideK tr 1) ∧ y2 = nbI T (sideK tr 2)) := ⟨hy0, hy1, hy2⟩
    have hszW := hs.size
    clear hy0 hy1 hy2
    gi_wp2_with fail
    have hne : E ≠ w.heap.size + 1 := by omega
    have hKs : ((((W.setCell ⟨w.heap.size + 1, 0, none⟩ (.int .i64 y0)).setCell ⟨w.heap.size + 1, 1, none⟩ (.int .i64 y1)).setCell ⟨w.heap.size + 1, 2, none⟩ (.int .i64 y2))).heap[E]? = some (.deferred (some [])) := by
      rw [Below.heap_setCell _ _ _ E hne, Below.heap_setCell _ _ _ E hne, Below.heap_setCell _ _ _ E hne]
      exact hK
    have hle : w.heap.size ≤ w.heap.size + 1 := by omega
    have hBs := ((hBW2.setCell (p := ⟨w.heap.size + 1, 0, none⟩) hle (.int .i64 y0)).setCell (p := ⟨w.heap.size + 1, 1, none⟩) hle (.int .i64 y1)).setCell (p := ⟨w.heap.size + 1, 2, none⟩) hle (.int .i64 y2)
    have r4s := ((r4.set 0 (.int .i64 y0)).set 1 (.int .i64 y1)).set 2 (.int .i64 y2)
    have hl4 := r4s.lt
    refine leaves_marks (B := W1.heap.size) ⟨[E], rfl, (by simp), fun D hD => by rw [List.mem_singleton] at hD; subst hD; exact ⟨hE, hKs⟩⟩ fun w' hw' => ?_
    have q4 : BoxN w' (w.heap.size + 1) 39 [.int .i64 y0, .int .i64 y1, .int .i64 y2] := (hw'.block _ (.inl (by omega)) hl4).trans r4s
    have k0 := q4.cell 0 rfl
    have k1 := q4.cell 1 rfl
    have k2 := q4.cell 2 rfl
    refine ⟨.tuple #[.agg #[.int .i64 y0, .int .i64 y1, .int .i64 y2], .int .i64 0], by simp [results, Tryz.results12, go_sem, k0, k1, k2], ?_⟩
    obtain ⟨e0, e1, e2⟩ := HY.out
    refine ⟨_, rfl, by rw [e0, e1, e2], hBs.trans ((hw'.below (by simpa using hszW)).mono (by omega))⟩
  case stop =>
    rintro E c' pre W hE hSp h hK
    exact h.elim

theorem neighbours_any (w : World) (vp vt : Value) (P : List PtQ) (T : List Tri) (k : Nat) (hp : RdP w vp (strP P)) (ht : RdT w vt T) (hm : MeshOK P T k) (t : Nat) (htl : t < T.length) (tr : Tri) (htr : tr = T[t]) (hg : Good w) :
    Calls Tryz.prog 12 #[.agg #[vp, vt], .int .i64 (t : Int)] w (Ret (fun r _ => r = .tuple #[.agg #[.int .i64 (nbI T (sideK tr 0)), .int .i64 (nbI T (sideK tr 1)), .int .i64 (nbI T (sideK tr 2))], .int .i64 0]) w) :=
  callsIn_wide.1 (neighbours_in 6 (by omega) w vp vt P T k hp ht hm (fun t ht => by
    have hpl := hm.plen
    have key : ∀ x ∈ idxOf t, InI x := fun x hx => by
      have := hm.idx t ht x hx
      unfold InI
      omega
    exact ⟨key _ (by simp [idxOf]), key _ (by simp [idxOf]), key _ (by simp [idxOf])⟩) t htl tr htr hg)

end Go.Proofs.YtdhcliekejiegaaGreatDoor
