import Derived.Test.YtbfcmipplhkkeaaGreatDoorRE3
/- The walk over mesh.Neighbours. The walks over field.level, field.Level. -/
set_option maxHeartbeats 8000000
set_option maxRecDepth 100000
namespace Go.Proofs.YtbfcmipplhkkeaaGreatDoor
open Go.RowKit Go.Shelf Go.Lib
attribute [local go_sem] Oper.semAt_some
def outsL (f : Fin 3 -> Int) (pre : List (Fin 3)) : List Value := pre.foldl (fun l x => l.set x.val (.int .i64 (f x))) [.int .i64 0, .int .i64 0, .int .i64 0]
theorem outsL_snoc (f : Fin 3 -> Int) (pre : List (Fin 3)) (x : Fin 3) : outsL f (pre ++ [x]) = (outsL f pre).set x.val (.int .i64 (f x)) := by
 unfold outsL; rw [List.foldl_append]; rfl
theorem outsL_len (f : Fin 3 -> Int) (pre : List (Fin 3)) : (outsL f pre).length = 3 := by
 unfold outsL;have : ∀ (pre : List (Fin 3)) (l : List Value), (pre.foldl (fun l x => l.set x.val (.int .i64 (f x))) l).length = l.length := by
  intro pre
  induction pre with
  | nil => intro l; rfl
  | cons x pre ih => intro l; rw [List.foldl_cons, ih, List.length_set]
 rw [this]; rfl
theorem neighbours_in (n : Nat) (hn : 6 <= n) (w : World) (vp vt : Value) (P : List PtQ) (T : List Tri) (k : Nat) (hp : RdP w vp (strP P)) (ht : RdT w vt T) (hm : MeshOK P T k) (hI : ∀ t ∈ T, InI t.1 /\ InI t.2.1 /\ InI t.2.2) (t : Nat) (htl : t < T.length) (tr : Tri) (htr : tr = T[t]) (hg : Good w) :
 CallsIn Fence.wide n Tryz.prog 31 #[.agg #[vp, vt], .int .i64 (t : Int)] w (Ret (fun r _ => r = .tuple #[.agg #[.int .i64 (nbI T (sideK tr 0)), .int .i64 (nbI T (sideK tr 1)), .int .i64 (nbI T (sideK tr 2))], .int .i64 0]) w) := by
 have h1 : 1 <= n := by omega
 have HCT : Hid (∀ w', Below w.heap.size w w' -> Good w' -> Calls Tryz.prog 71 #[.agg #[vp, vt], .int .i64 (t : Int)] w' (Ret (fun r _ => r = .int .i64 0) w')) := fun w' hb hg' => checkTriangle_ok w' vp vt P T k (RdC.below hp hb) (RdC.below ht hb) hm t htl hg';have HOW : Hid (∀ w', Below w.heap.size w w' -> Calls Tryz.prog 34 #[.agg #[vp, vt]] w' (Ret (OwnersP T w'.heap.size) w')) := fun w' hb => owners_any w' vp vt T (RdC.below ht hb) (by have := hm.tlen; omega) hI
 have HND := hid hm.nodup;have HIN : Hid (∀ x, InE (revE (sideK tr x))) := fun x => by
  obtain ⟨i1, i2, i3⟩ := hI tr (by rw [htr]; exact List.getElem_mem htl);rcases x with ⟨x, hx⟩
  rcases (by omega : x = 0 \/ x = 1 \/ x = 2) with rfl | rfl | rfl
  ·exact ⟨i2, i1⟩
  ·exact ⟨i3, i2⟩
  ·exact ⟨i1, i3⟩
 obtain ⟨pp, cp, rfl, -, -, -⟩ := hp.open;obtain ⟨pt, ct, rfl, htc, htm, htr'⟩ := ht.open;obtain ⟨b, off, rfl, hbl, hcell⟩ := htr' (List.ne_nil_of_length_pos (by omega));obtain ⟨e0, e1, e2⟩ := hcell t htl;rw [<- htr] at e0 e1 e2;have hltz : (t : Int) < (T.length : Int) := by omega
 clear hp ht hm hI htr' hcell htr htl htc htm;refine callsIn_of_wp_marks Tryz.func31 rfl trivial ?_ rfl;simp only [Tryz.ntmps31, List.size_toArray, List.length_cons, List.length_nil, Nat.reduceAdd, Nat.reduceSub, Array.replicate_succ, Array.replicate_zero, List.push_toArray, List.append_toArray, List.nil_append, List.cons_append];gi_wp2_with fail;obtain ⟨W, hW⟩ : ∃ W, W = (w.alloc (.cells #[.slice pp (strP P).length cp, .slice (some ⟨b, off, none⟩) T.length ct] 35)).alloc (.cells #[.int .i64 0, .int .i64 0, .int .i64 0] 95) := ⟨_, rfl⟩;have hB : Below w.heap.size w W := by rw [hW]; exact zal2 _ _ _
 have b4 : BoxN W (w.heap.size + 1) 95 [.int .i64 0, .int .i64 0, .int .i64 0] := by rw [hW]; exact BoxN.new _ _ _ _ (by simp)
 have b2 : BoxN W w.heap.size 35 [.slice pp (strP P).length cp, .slice (some ⟨b, off, none⟩) T.length ct] := by
  rw [hW];have h1 := (BoxN.new w #[.slice pp (strP P).length cp, .slice (some ⟨b, off, none⟩) T.length ct] 35 _ rfl);exact h1.below (zal _ _) h1.lt
 rw [<- hW];clear hW;refine ⟨trivial, ?_⟩;refine CallsIn.mono (callsIn_wide.2 (HCT.out W hB (hg.below hB))) ?_;rintro e w1 ⟨_, rfl, rfl, hb1⟩;have hB1 := hB.trans (hb1.mono hB.size);have b21 := b2.below hb1 b2.lt;have b41 := b4.below hb1 b4.lt;have x0 := b21.cell 0 rfl;have x1 := b21.cell 1 rfl;clear hb1 hB b2 b4;gi_wp2_with fail;refine ⟨trivial, ?_⟩;refine CallsIn.mono (callsIn_wide.2 (HOW.out w1 hB1)) ?_;rintro e w2 ⟨v, rfl, hov, hb2⟩;rcases hov with hov | ⟨hnn, _⟩
 rotate_left
 ·exact absurd HND.out hnn
 obtain ⟨_, bm, D, hbm, rfl, hM⟩ := hov;have hB2 := hB1.trans (hb2.mono hB1.size);have b22 := b21.below hb2 b21.lt;have b42 := b41.below hb2 b41.lt;have HM := hid hM;have hbm2 := hM.owns;have hbml : bm < w2.heap.size := by
  obtain ⟨es, ck, hh, _⟩ := hbm2;exact (Array.getElem?_eq_some_iff.1 hh).1
 clear hb2 hB1 b21 b41 x0 x1 hM hbm2;have x1 := b22.cell 1 rfl;have d0 := zcq hB2 hbl e0;have d1 := zcq hB2 hbl e1;have d2 := zcq hB2 hbl e2;have hz42 := b42.lt;have hz22 := b22.lt;have hbl2 : b < w2.heap.size := by omega
 gi_wp2_with fail;refine ⟨trivial, ?_⟩;refine CallsIn.mono (callsIn_wide.2 (sides_any tr _)) ?_;rintro e w3 ⟨rfl, rfl⟩;obtain ⟨W1, hW1⟩ : ∃ W1, W1 = ((w2.alloc (.cells #[.map (some bm)] 100)).alloc (.cells #[.int .i64 0, .int .i64 0, .int .i64 0] 95)).alloc (.cells #[.int .i64 tr.1, .int .i64 tr.2.1, .int .i64 tr.2.2] 121) := ⟨_, rfl⟩;have hbW1 : Below w2.heap.size w2 W1 := by rw [hW1]; exact (((Below.refl _ _).alloc (Nat.le_refl _) _).alloc (by simp) _).alloc (by simp; omega) _
 have hz1 : W1.heap.size = w2.heap.size + 3 := by rw [hW1]; simp
 have z7 : Boxed W1 w2.heap.size 100 (.map (some bm)) := by rw [hW1]; exact ((Boxed.new w2 _ _).alloc _).alloc _
 have z9 : BoxN W1 (w2.heap.size + 1) 95 [.int .i64 0, .int .i64 0, .int .i64 0] := by
  rw [hW1];have h1 := (BoxN.new (w2.alloc (.cells #[.map (some bm)] 100)) #[.int .i64 0, .int .i64 0, .int .i64 0] 95 (w2.heap.size + 1) (by simp));exact h1.below (zal _ _) h1.lt
 have s0 : W1.cell? ⟨w2.heap.size + 2, 0, none⟩ = some (.int .i64 tr.1) := by rw [hW1, World.cell?_alloc_at _ _ _ _ (by simp)]; rfl
 have s1 : W1.cell? ⟨w2.heap.size + 2, 1, none⟩ = some (.int .i64 tr.2.1) := by rw [hW1, World.cell?_alloc_at _ _ _ _ (by simp)]; rfl
 have s2 : W1.cell? ⟨w2.heap.size + 2, 2, none⟩ = some (.int .i64 tr.2.2) := by rw [hW1, World.cell?_alloc_at _ _ _ _ (by simp)]; rfl
 gi_wp2_with fail;rw [<- hW1];have hm1 : MapL viewE 3 (Lit.int .i64) W1 bm (3 * T.length) D (ownL T) := HM.out.below hbW1 hbml;have z4 : BoxN W1 (w.heap.size + 1) 95 [.int .i64 0, .int .i64 0, .int .i64 0] := b42.below hbW1 hz42;have hBW : Below w.heap.size w W1 := hB2.trans (hbW1.mono hB2.size);clear hW1 hbW1 HM b22 b42 x1 d0 d1 d2 e0 e1 e2 hB2;refine wpIn_rangeFunc_ownH rfl h1 (gf := 125) (lb := #[.pointer (some ⟨w2.heap.size + 1 + 1, 0, none⟩)]) rfl trivial (enters_of Tryz.func125 (by kernel_rfl) rfl)
  (sides_stops Fence.wide (n - 1) trivial rfl (by omega) (w2.heap.size + 2) w.heap.size tr W1 (by omega) s0 s1 s2) (fun h k => KeepAt.trans h k) (keepAt_b (by omega) (by omega)) (Below.refl _ _) (fun _ => rfl)
  (fun pre W => W1.grownBy W (some (w2.heap.size + 1)) /\ Hid (BoxN W (w2.heap.size + 1) 95 (outsL (fun x => nbI T (sideK tr x)) pre)))
  (fun _ _ _ => False)
  ?hI ?hIx ?h0 (fun x a' W => ∃ Bx, (W1.heap.size <= Bx /\ W.heap[Bx]? = some (.cells #[.int .i64 (sideK tr x).1, .int .i64 (sideK tr x).2] 83)) /\
   a' = { tmps := #[.agg #[.slice pp (strP P).length cp, .slice (some ⟨b, off, none⟩) T.length ct], .int .i64 t, .pointer (some ⟨w.heap.size, 0, none⟩), undef, .pointer (some ⟨w.heap.size + 1, 0, none⟩), .int .i64 0, .int .i64 0, .pointer (some ⟨w2.heap.size, 0, none⟩), .bool true, .pointer (some ⟨w2.heap.size + 1, 0, none⟩), .int .i64 (x.val : Int), .pointer (some ⟨Bx, 0, none⟩), undef, undef, .agg #[.slice pp (strP P).length cp, .slice (some ⟨b, off, none⟩) T.length ct], .int .i64 t, .int .i64 0, .int .i64 0, .bool false, undef, undef, .tuple #[.map (some bm), .bool true], .agg #[.slice pp (strP P).length cp, .slice (some ⟨b, off, none⟩) T.length ct], .tuple #[.map (some bm), .bool true], .map (some bm), .bool true, .pointer (some ⟨w.heap.size, 1, none⟩), .slice (some ⟨b, off, none⟩) T.length ct, .int .i64 t, .pointer (some ⟨b, off + t * 3, none⟩), .agg #[.int .i64 tr.1, .int .i64 tr.2.1, .int .i64 tr.2.2], .func (.func 125) #[] #[.pointer (some ⟨w2.heap.size + 1 + 1, 0, none⟩)], .int .i64 (x.val : Int), .agg #[.int .i64 (sideK tr x).1, .int .i64 (sideK tr x).2], undef, undef, undef, undef, undef, undef, undef, undef, undef, undef, undef, undef, undef, undef, undef, undef], defers := [] })
  ?hAx ?assign ?body ?done ?stop
 case hI =>
  rintro pre W W' row ⟨hs, ho⟩ hg hr;have hne : some (w2.heap.size + 1) ≠ row := fun e => by have := (hr _ e.symm).1; omega
  exact ⟨⟨hg.os.trans hs.os, hg.tape.trans hs.tape, hg.output.trans hs.output, Nat.le_trans hs.size hg.size, fun j hj hjn => (hg.block j (Nat.lt_of_lt_of_le hj hs.size) (fun e => by have := (hr _ e.symm).1; omega)).trans (hs.block j hj hjn)⟩, (hg.block _ ho.out.lt hne).trans ho.out⟩
 case hIx =>
  rintro c' pre W W' row h _ _;exact h
 case h0 => exact ⟨⟨rfl, rfl, rfl, Nat.le_refl _, fun _ _ _ => rfl⟩, z9⟩
 case hAx =>
  rintro x a' _ W W' row ⟨Bx, ⟨h1, h2⟩, h3⟩ hg hr;refine ⟨Bx, ⟨h1, (hg.block Bx (Array.getElem?_eq_some_iff.1 h2).1 (fun e => ?_)).trans h2⟩, h3⟩;obtain ⟨_, o, ho, hc⟩ := hr Bx e.symm;rw [h2] at ho; cases ho; cases hc
 case assign =>
  rintro l pre x W K ⟨hs, ho⟩ hK;dsimp only [encSide];gi_wp2_with fail;have hg1 := World.grownBy_alloc W (.cells #[.int .i64 (sideK tr x).1, .int .i64 (sideK tr x).2] 83) none;refine hK _ _ ((KeepsOthers.alloc _ _).from _) ⟨(Below.refl _ W).alloc (by have := hs.size; omega) _, Below.heap_alloc _ _ _ (by have := hs.size; omega)⟩ ⟨⟨hg1.os.trans hs.os, hg1.tape.trans hs.tape, hg1.output.trans hs.output, Nat.le_trans hs.size hg1.size, fun j hj hjn => (hg1.block j (Nat.lt_of_lt_of_le hj hs.size) (by simp)).trans (hs.block j hj hjn)⟩, (hg1.block _ ho.out.lt (by simp)).trans ho.out⟩ ⟨W.heap.size, ⟨hs.size, World.alloc_heap_new _ _⟩, rfl⟩
 case body =>
  rintro l pre x a' W hl ⟨r, hr⟩ ⟨hs, ho⟩ ⟨Bx, ⟨hBx, hbx⟩, rfl⟩ hlt';have q7 : Boxed W w2.heap.size 100 (.map (some bm)) := z7.kept hs (by simp);have c7 := q7.cell;have hm : MapL viewE 3 (Lit.int .i64) W bm (3 * T.length) D (ownL T) := hm1.kept hs (by simp; omega);have cb0 : W.cell? ⟨Bx, 0, none⟩ = some (.int .i64 (sideK tr x).1) := by simp [World.cell?, hbx]
  have cb1 : W.cell? ⟨Bx, 1, none⟩ = some (.int .i64 (sideK tr x).2) := by simp [World.cell?, hbx]
  have hown := hm.owns;have HX := HIN.out x;have hkey : keyOf Tryz.prog 83 (.agg #[.int .i64 (sideK tr x).2, .int .i64 (sideK tr x).1]) = some (kE (revE (sideK tr x))) := keyE HX.1 HX.2;have hlen := outsL_len (fun x => nbI T (sideK tr x)) pre;have c9' := ho.out.cell x.val (List.getElem?_eq_getElem (by rw [hlen]; exact x.isLt));have c9f := ho.out.frozen x.val;have hx3 : (x.val : Int) < 3 := by have := x.isLt; omega
  obtain ⟨v9, hv9⟩ : ∃ v9, W.cell? ⟨w2.heap.size + 1, x.val, none⟩ = some v9 := ⟨_, c9'⟩;have hhas := hm.has_iff HX;have HSET : Hid (∀ y : Int, y = nbI T (sideK tr x) -> BoxN (W.setCell ⟨w2.heap.size + 1, x.val, none⟩ (.int .i64 y)) (w2.heap.size + 1) 95 (outsL (fun x => nbI T (sideK tr x)) (pre ++ [x]))) := fun y hy => by
   rw [outsL_snoc, hy];exact ho.out.set x.val (.int .i64 (nbI T (sideK tr x)))
  have HGR : Hid (∀ y : Value, W1.grownBy (W.setCell ⟨w2.heap.size + 1, x.val, none⟩ y) (some (w2.heap.size + 1))) := fun y =>
   ⟨hs.os, hs.tape, hs.output, by simpa using hs.size, fun j hj hjn => (Below.heap_setCell _ _ _ j (by rintro rfl; exact hjn rfl)).trans (hs.block j hj hjn)⟩
  have HKE := hid hkey;have HHAS := hid hhas;have HMM := hid hm;clear hbx hr hkey hhas q7 c9' hlen ho hm;generalize hjx : x.val = jx at *;have HJX := hid hjx;clear hjx;cases hsn : Maps.has D (viewE.lit (revE (sideK tr x)))
  ·have hnk : revE (sideK tr x) ∉ (ownL T).map (·.1) := fun hmm => by
    have := HHAS.out.2 hmm;rw [hsn] at this; cases this
   have HNK := hid (nbI_none hnk);have HSN := hid hsn;clear hnk hsn;gi_wp2_with (gi_at_lookup; refine wpListIn_lookup_own_ok_int _ rfl _ _ 100 rfl 83 3 .i64 lawE und_EI und_I (zeroI _) bm (3 * T.length) D rfl hown _ _ rfl HKE.out ?_; rw [show Maps.has D (kE (revE (sideK tr x))) = false from HSN.out]; intro cz hat hwc; clear hat hwc);exact ⟨(KeepsOthers.setCell _ _ _).from _, ⟨(Below.refl _ W).setCell (p := ⟨w2.heap.size + 1, jx, none⟩) (by show w.heap.size <= w2.heap.size + 1; omega) _, Below.heap_setCell _ _ _ _ (by show w2.heap.size + 2 ≠ w2.heap.size + 1; omega)⟩, HGR.out _, hid (HSET.out _ HNK.out.symm)⟩
  ·have hnk : revE (sideK tr x) ∈ (ownL T).map (·.1) := HHAS.out.1 hsn
   have hat2 := HMM.out.at (nbI_some hnk) (.lit (.int .i64 0));have HAT := hid hat2;have HSN := hid hsn;clear hnk hsn hat2;gi_wp2_with (gi_at_lookup; refine wpListIn_lookup_own_ok_int _ rfl _ _ 100 rfl 83 3 .i64 lawE und_EI und_I (zeroI _) bm (3 * T.length) D rfl hown _ _ rfl HKE.out ?_; rw [show Maps.has D (kE (revE (sideK tr x))) = true from HSN.out]; intro cz hat hwc; have HCZ : Hid (cz = nbI T (sideK tr x)) := (by have h1 := hat.symm.trans HAT.out; injection h1 with h1; injection h1); clear hat hwc);exact ⟨(KeepsOthers.setCell _ _ _).from _, ⟨(Below.refl _ W).setCell (p := ⟨w2.heap.size + 1, jx, none⟩) (by show w.heap.size <= w2.heap.size + 1; omega) _, Below.heap_setCell _ _ _ _ (by show w2.heap.size + 2 ≠ w2.heap.size + 1; omega)⟩, HGR.out _, hid (HSET.out _ HCZ.out)⟩
 case done =>
  rintro E ys W hE rfl ⟨hs, ho⟩ hK;have r4 : BoxN W (w.heap.size + 1) 95 [.int .i64 0, .int .i64 0, .int .i64 0] := (hs.block _ (by omega) (by simp; omega)).trans z4;have r9 : BoxN W (w2.heap.size + 1) 95 [.int .i64 (nbI T (sideK tr 0)), .int .i64 (nbI T (sideK tr 1)), .int .i64 (nbI T (sideK tr 2))] := ho.out;have hBW2 : Below w.heap.size w W := hBW.grown hs hBW.size (fun j e => by cases e; omega);have a0 := r4.cell 0 rfl;have a1 := r4.cell 1 rfl;have a2 := r4.cell 2 rfl;have f0 := r4.frozen 0;have f1 := r4.frozen 1;have f2 := r4.frozen 2;have n0 := r9.cell 0 rfl;have n1 := r9.cell 1 rfl;have n2 := r9.cell 2 rfl;obtain ⟨y0, hy0⟩ : ∃ y, y = nbI T (sideK tr 0) := ⟨_, rfl⟩;obtain ⟨y1, hy1⟩ : ∃ y, y = nbI T (sideK tr 1) := ⟨_, rfl⟩;obtain ⟨y2, hy2⟩ : ∃ y, y = nbI T (sideK tr 2) := ⟨_, rfl⟩;rw [<- hy0] at n0;rw [<- hy1] at n1;rw [<- hy2] at n2;have HY : Hid (y0 = nbI T (sideK tr 0) /\ y1 = nbI T (sideK tr 1) /\ y2 = nbI T (sideK tr 2)) := ⟨hy0, hy1, hy2⟩;have hszW := hs.size;clear hy0 hy1 hy2;gi_wp2_with fail;have hne : E ≠ w.heap.size + 1 := by omega
  have hKs : ((((W.setCell ⟨w.heap.size + 1, 0, none⟩ (.int .i64 y0)).setCell ⟨w.heap.size + 1, 1, none⟩ (.int .i64 y1)).setCell ⟨w.heap.size + 1, 2, none⟩ (.int .i64 y2))).heap[E]? = some (.deferred (some [])) := by
   rw [Below.heap_setCell _ _ _ E hne, Below.heap_setCell _ _ _ E hne, Below.heap_setCell _ _ _ E hne];exact hK
  have hle : w.heap.size <= w.heap.size + 1 := by omega
  have hBs := ((hBW2.setCell (p := ⟨w.heap.size + 1, 0, none⟩) hle (.int .i64 y0)).setCell (p := ⟨w.heap.size + 1, 1, none⟩) hle (.int .i64 y1)).setCell (p := ⟨w.heap.size + 1, 2, none⟩) hle (.int .i64 y2);have r4s := ((r4.set 0 (.int .i64 y0)).set 1 (.int .i64 y1)).set 2 (.int .i64 y2);have hl4 := r4s.lt;refine leaves_marks (B := W1.heap.size) ⟨[E], rfl, (by simp), fun D hD => by rw [List.mem_singleton] at hD; subst hD; exact ⟨hE, hKs⟩⟩ fun w' hw' => ?_
  have q4 : BoxN w' (w.heap.size + 1) 95 [.int .i64 y0, .int .i64 y1, .int .i64 y2] := (hw'.block _ (.inl (by omega)) hl4).trans r4s;have k0 := q4.cell 0 rfl;have k1 := q4.cell 1 rfl;have k2 := q4.cell 2 rfl;refine ⟨.tuple #[.agg #[.int .i64 y0, .int .i64 y1, .int .i64 y2], .int .i64 0], by simp [results, Tryz.results31, go_sem, k0, k1, k2], ?_⟩;obtain ⟨e0, e1, e2⟩ := HY.out;refine ⟨_, rfl, by rw [e0, e1, e2], hBs.trans ((hw'.below (by simpa using hszW)).mono (by omega))⟩
 case stop =>
  rintro E c' pre W hE hSp h hK;exact h.elim
theorem neighbours_any (w : World) (vp vt : Value) (P : List PtQ) (T : List Tri) (k : Nat) (hp : RdP w vp (strP P)) (ht : RdT w vt T) (hm : MeshOK P T k) (t : Nat) (htl : t < T.length) (tr : Tri) (htr : tr = T[t]) (hg : Good w) :
 Calls Tryz.prog 31 #[.agg #[vp, vt], .int .i64 (t : Int)] w (Ret (fun r _ => r = .tuple #[.agg #[.int .i64 (nbI T (sideK tr 0)), .int .i64 (nbI T (sideK tr 1)), .int .i64 (nbI T (sideK tr 2))], .int .i64 0]) w) :=
 callsIn_wide.1 (neighbours_in 6 (by omega) w vp vt P T k hp ht hm (fun t ht => by
  have hpl := hm.plen;have key : ∀ x ∈ idxOf t, InI x := fun x hx => by
   have := hm.idx t ht x hx;unfold InI;omega
  exact ⟨key _ (by simp [idxOf]), key _ (by simp [idxOf]), key _ (by simp [idxOf])⟩) t htl tr htr hg)
end Go.Proofs.YtbfcmipplhkkeaaGreatDoor
namespace Go.Proofs.YtbfcmipplhkkeaaGreatDoor
open Go.RowKit Go.Lib
theorem flevel_ok (w : World) (vp vt vf : Value) (P : List PtQ) (T : List Tri) (k : Nat) (F : List Rat) (h : FieldIn w vp vt vf P T k F) (z : Rat) (hz : Sz 200 z) (hg : Good w) :
 Calls Tryz.prog 27 #[.agg #[vp, vt], vf, .string (RS z)] w (Ret (fun r _ => r = .int .i64 0) w) := by
 have HH := hid h;have hs := hz.size (by omega);have HE : Hid (errNum (rightQ (RS z).data.toList) = 0) := by unfold Hid; rw [RS_list, rightQ_RL hz]; rfl
 obtain ⟨pp, cp, pt, ct, pf, cf, rfl, rfl, rfl⟩ := h.open;generalize RS z = sz at *;clear h hz;go_enter Tryz.func27, Tryz.ntmps27;go_wp2_with fail;obtain ⟨W, hW⟩ : ∃ W, W = (w.alloc (.cells #[.slice pp P.length cp, .slice pt T.length ct] 35)).alloc (.cells #[.slice pf F.length cf] 38) := ⟨_, rfl⟩;have hB : Below w.heap.size w W := by rw [hW]; exact zal2 _ _ _
 have bF : BoxN W (w.heap.size + 1) 38 [.slice pf F.length cf] := by rw [hW]; exact BoxN.new _ _ _ _ (by simp)
 rw [<- hW];clear hW;refine (checks_ok (HH.out.below hB) _ (bF.cell 0 rfl) (hg.below hB)).mono ?_;rintro e w1 ⟨_, rfl, rfl, hb1⟩;have hB1 := hB.trans (hb1.mono hB.size);clear hb1 hB bF;go_wp2_with fail;refine (checkQ_any sz (by omega) _ (hg.below hB1)).mono ?_;rintro e w2 ⟨_, rfl, rfl, hb2⟩;rw [HE.out];have hB2 := hB1.trans (hb2.mono hB1.size);go_wp2_with fail;go_ret;exact ⟨_, rfl, rfl, hB2⟩
theorem info_segment : ((Tryz.prog).info? 52).map (fun i => (i.zero, i.size, i.bytes)) = some (some (.agg #[.int .i64 0, .string ⟨#[]⟩, .string ⟨#[]⟩, .string ⟨#[]⟩, .string ⟨#[]⟩]), 5, 72) := by kernel_rfl
theorem cell_five (w : World) (x y z u v : Value) (E : Nat) : ∀ (j : Nat) (r : Value), [x, y, z, u, v][j]? = some r -> (w.alloc (.cells #[x, y, z, u, v] E)).cell? ((⟨w.heap.size, 0, none⟩ : Addr).add j) = some r := World.news_of_block (cs := #[x, y, z, u, v]) (t := E) (fr := (0, 0)) (World.alloc_heap_new w _)
theorem five_one (i : Int) (x y z u : ByteArray) : ∀ r ∈ [Value.int .i64 i, .string x, .string y, .string z, .string u], r.oneCell' = true := by
 intro r hr; simp at hr; rcases hr with rfl | rfl | rfl | rfl | rfl <;> rfl
theorem row_open {w : World} {base e : Nat} {v : Value} {l : List Cor} (h : w.ownsRow base e 3 v l.length (cellsC l)) (hne : l ≠ []) : ∃ g c, v = .slice (some ⟨g, 0, none⟩) l.length c /\
 ∀ (i : Nat) (hi : i < l.length), w.cell? ⟨g, i * 3, none⟩ = some (.string (RS l[i].1.1)) /\ w.cell? ⟨g, i * 3 + 1, none⟩ = some (.string (RS l[i].1.2)) /\ w.cell? ⟨g, i * 3 + 2, none⟩ = some (.string (RS l[i].2)) := by
 have hl := List.length_pos_iff.2 hne;rcases h.2 with ⟨_, h0⟩ | ⟨g, cap, cur, rfl, _, _, _⟩
 ·omega
 ·obtain ⟨p, c, hv, _, _, hh⟩ := RdK.open (show RdK w _ l from RdC.of_owns h)
  obtain ⟨b, off, rfl, _, hc⟩ := hh hne;injection hv with h1 h2 h3
  injection h1 with h1
  injection h1 with h1 h4 _
  subst h1 h4 h3;refine ⟨g, cap, rfl, fun i hi => ?_⟩;have := hc i hi;simpa using this
def PartV (w : World) (B : Nat) (v : Value) (l : List Cor) : Prop := w.ownsRow B 89 3 v l.length (cellsC l) /\ (l = [] -> v = .slice none 0 0)
def SegV (w : World) (B : Nat) (v : Value) (l : List Seg) : Prop := w.ownsRow B 52 5 v l.length (cellsG l)
theorem part_any (P : List PtQ) (F : List Rat) (tr : Tri) (z : Rat) (k m : Nat) (hk : 0 < k) (hkm : k + m <= 300) (hs : ∀ x ∈ idxOf tr, SzP k (ptI P x) /\ Sz k (hI F x)) (hz : Sz m z) (w : World) (hg : Good w) :
 Calls Tryz.prog 29 #[.agg #[.string (RS (ptI P tr.1).1), .string (RS (ptI P tr.1).2), .string (RS (hI F tr.1)), .string (RS (ptI P tr.2.1).1), .string (RS (ptI P tr.2.1).2), .string (RS (hI F tr.2.1)), .string (RS (ptI P tr.2.2).1), .string (RS (ptI P tr.2.2).2), .string (RS (hI F tr.2.2))], .string (RS z)] w (Ret (fun r w' => PartV w' w.heap.size r (partT P F z tr)) w) := by
 have s0 := hs tr.1 (by simp [idxOf]);have s1 := hs tr.2.1 (by simp [idxOf]);have s2 := hs tr.2.2 (by simp [idxOf]);exact fcut_any (corP P F tr.1) (corP P F tr.2.1) (corP P F tr.2.2) z (k + m) (by omega) (by omega) ⟨⟨s0.1.1.mono (by omega), s0.1.2.mono (by omega)⟩, s0.2.mono (by omega)⟩ ⟨⟨s1.1.1.mono (by omega), s1.1.2.mono (by omega)⟩, s1.2.mono (by omega)⟩ ⟨⟨s2.1.1.mono (by omega), s2.1.2.mono (by omega)⟩, s2.2.mono (by omega)⟩ (hz.mono (by omega)) w hg
theorem side3_any (P : List PtQ) (F : List Rat) (tr : Tri) (a b : PtQ) (w : World) :
 Calls Tryz.prog 30 #[.agg #[.string (RS (ptI P tr.1).1), .string (RS (ptI P tr.1).2), .string (RS (hI F tr.1)), .string (RS (ptI P tr.2.1).1), .string (RS (ptI P tr.2.1).2), .string (RS (hI F tr.2.1)), .string (RS (ptI P tr.2.2).1), .string (RS (ptI P tr.2.2).2), .string (RS (hI F tr.2.2))], .agg #[.string (RS a.1), .string (RS a.2)], .agg #[.string (RS b.1), .string (RS b.2)]] w (Ret (fun r _ => r = .int .i64 (sideT P tr a b)) w) :=
 side_any (ptI P tr.1) (ptI P tr.2.1) (ptI P tr.2.2) a b (RS (hI F tr.1)) (RS (hI F tr.2.1)) (RS (hI F tr.2.2)) w
theorem cpoint_ok (p : PtQ) (h : SzP 200 p) (w : World) (hg : Good w) : Calls Tryz.prog 32 #[.agg #[.string (RS p.1), .string (RS p.2)]] w (Ret (fun r _ => r = .int .i64 0) w) := by
 have h1 := h.1.size (by omega);have h2 := h.2.size (by omega);have := checkPoint_any (RS p.1) (RS p.2) (by omega) (by omega) w hg;rw [h.right (Nat.le_refl _)] at this;exact this
theorem level_ok (w : World) (vp vt vf : Value) (P : List PtQ) (T : List Tri) (k : Nat) (F : List Rat) (h : FieldIn w vp vt vf P T k F) (z : Rat) (m : Nat) (hz : Sz m z) (hkm : 6 * k + 3 * m + 6 <= 200) (hg : Good w) :
 Calls Tryz.prog 9 #[.agg #[vp, vt], vf, .string (RS z)] w (Ret (fun r w' => ∃ v, r = .tuple #[v, .int .i64 0] /\ SegV w' w.heap.size v (levelL P T F z)) w) := by
 have HH := hid h;have hkp := h.m.kpos;have HLV : Hid (∀ w', FieldIn w' vp vt vf P T k F -> Good w' -> _) := fun w' h hg => flevel_ok w' vp vt vf P T k F h z (hz.mono (by omega)) hg
 have HSZ : Hid (∀ tr ∈ T, ∀ x ∈ idxOf tr, SzP k (ptI P x) /\ Sz k (hI F x)) := fun tr htr x hx => by
  obtain ⟨h0, h1⟩ := h.m.idx tr htr x hx;obtain ⟨q, rfl⟩ : ∃ q : Nat, x = (q : Int) := ⟨x.toNat, by omega⟩;rw [ptI_nat P q (by omega), hI_nat F q (by have := h.fl; omega)];exact ⟨h.m.sz _ (List.getElem_mem _), h.fs _ (List.getElem_mem _)⟩
 have HCO : Hid (∀ (i : Nat) (hi : i < T.length) (w' : World), FieldIn w' vp vt vf P T k F -> Good w' -> _) := fun i hi w' h' hg' => corners_any w' vp vt vf P T k F h'.p h'.t h'.m.toMeshIn h'.f h'.fl i i rfl hi (triI T i) (triI_nat T i hi) hg';have HCU : Hid (∀ (i : Nat) (hi : i < T.length) (w' : World), Good w' -> _) := fun i hi w' hg' => part_any P F (triI T i) z k m hkp (by omega) (HSZ.out (triI T i) (by rw [triI_nat T i hi]; exact List.getElem_mem hi)) hz w' hg'
 have HNB : Hid (∀ (i : Nat) (hi : i < T.length) (w' : World), FieldIn w' vp vt vf P T k F -> Good w' -> _) := fun i hi w' h' hg' => neighbours_any w' vp vt P T k h'.p h'.t h'.m i hi (triI T i) (triI_nat T i hi) hg';have HRT : Hid (∀ (i : Nat) (hi : i < T.length), ∀ c ∈ partT P F z (triI T i), SzP 200 c.1) := fun i hi c hc => by
  have s := HSZ.out (triI T i) (by rw [triI_nat T i hi]; exact List.getElem_mem hi);have := cutL_Sz (c0 := corP P F (triI T i).1) (c1 := corP P F (triI T i).2.1) (c2 := corP P F (triI T i).2.2) (s _ (by simp [idxOf])) (s _ (by simp [idxOf])) (s _ (by simp [idxOf])) hz c hc;exact ⟨this.1.mono hkm, this.2.mono hkm⟩
 obtain ⟨pp, cp, pt, ct, pf, cf, rfl, rfl, rfl⟩ := h.open;obtain ⟨i0, hi0, hzz0, hzz1, hzz2⟩ := info_parts info_segment;have hTl : T.length <= 800 := h.m.tlen;obtain ⟨sz, hsz⟩ : ∃ s, s = RS z := ⟨_, rfl⟩;rw [<- hsz] at HLV HCU ⊢;have HZS := hid hsz;clear h hz hkm hsz HSZ;go_enter Tryz.func9, Tryz.ntmps9;go_wp2_with fail;obtain ⟨W, hW⟩ : ∃ W, W = w.alloc (.cells #[.slice pp P.length cp, .slice pt T.length ct] 35) := ⟨_, rfl⟩;have hB : Below w.heap.size w W := by rw [hW]; exact zal _ _
 have b0 : BoxN W w.heap.size 35 [.slice pp P.length cp, .slice pt T.length ct] := by rw [hW]; exact BoxN.new _ _ _ _ rfl
 rw [<- hW];clear hW;refine (HLV.out W (HH.out.below hB) (hg.below hB)).mono ?_;rintro e w1 ⟨_, rfl, rfl, hb1⟩;have hB1 := hB.trans (hb1.mono hB.size);have b1 := b0.below hb1 b0.lt;have x1 := b1.cell 1 rfl;clear hb1 hB b0 HLV;go_wp2_with fail;clear x1;go_loopw [9, 29] (fun t9 t29 wr => ∃ (i n : Nat), t29 = .int .i64 i /\ i <= T.length /\ n <= 6 * i /\ Hid ((levTo P T F z i).length = n) /\ wr.ownsRow w1.heap.size 52 5 t9 n (cellsG (levTo P T F z i)) /\ Below w1.heap.size w1 wr) (fun _ t29 _ => T.length - (RowKit.intOf t29).toNat)
 case atStart => exact ⟨0, 0, rfl, Nat.zero_le _, Nat.le_refl _, rfl, World.ownsRow_nil _ _ _ _, Below.refl _ _⟩
 case round =>
  obtain ⟨i, n, rfl, hin, hni, HLN, hown, hbr⟩ := hrel;obtain ⟨p9, c9, rfl⟩ := ownsRow_shape hown;obtain ⟨wo, hwo⟩ : ∃ wo : World, wo = wr := ⟨_, rfl⟩;subst hwo;rcases Nat.lt_or_ge i T.length with h | h
  ·have hbW : Below w.heap.size w wo := hB1.trans (hbr.mono hB1.size)
   obtain ⟨tr, htr⟩ : ∃ tr, tr = triI T i := ⟨_, rfl⟩;obtain ⟨part, hpart⟩ : ∃ l, l = partT P F z tr := ⟨_, rfl⟩;obtain ⟨N, hN⟩ : ∃ N, N = part.length := ⟨_, rfl⟩;have HCOi : Hid (∀ w', Below w.heap.size w w' -> _) := fun w' hb => HCO.out i h w' (HH.out.below hb) (hg.below hb);have HCUi : Hid (∀ w', Good w' -> _) := fun w' hg' => HCU.out i h w' hg';have HNBi : Hid (∀ w', Below w.heap.size w w' -> _) := fun w' hb => HNB.out i h w' (HH.out.below hb) (hg.below hb);have HRTi : Hid (∀ c ∈ partT P F z (triI T i), SzP 200 c.1) := HRT.out i h;have HLS : Hid (levTo P T F z (i + 1) = levTo P T F z i ++ segTo P T F z i (triI T i) (partT P F z (triI T i)) (partT P F z (triI T i)).length) := rfl;have HN6 : N <= 6 := by rw [hN, hpart]; exact cutL_len _ _ _ _
   have HSD : Hid (∀ (a b : PtQ) (w : World), _) := fun a b w => side3_any P F (triI T i) a b w;rw [<- htr] at HCOi HCUi HNBi HRTi HLS HSD;rw [<- hpart] at HCUi HRTi HLS;have HTR := hid htr;have HPT := hid hpart;have HNN := hid hN;generalize RS (ptI P tr.1).1 = q0 at *;generalize RS (ptI P tr.1).2 = q1 at *;generalize RS (hI F tr.1) = q2 at *;generalize RS (ptI P tr.2.1).1 = q3 at *;generalize RS (ptI P tr.2.1).2 = q4 at *;generalize RS (hI F tr.2.1) = q5 at *;generalize RS (ptI P tr.2.2).1 = q6 at *;generalize RS (ptI P tr.2.2).2 = q7 at *;generalize RS (hI F tr.2.2) = q8 at *;have c1' := b1.below hbr b1.lt;have x0 := c1'.cell 0 rfl;have x1 := c1'.cell 1 rfl;have hiT : (i : Int) < (T.length : Int) := by omega
   have hz1 := hbr.size;clear htr hpart hN;go_wp2_with fail;refine (HCOi.out wo hbW).mono ?_;rintro e w2 ⟨_, rfl, rfl, hb2⟩;have hbr2 : Below w1.heap.size w1 w2 := hbr.trans (hb2.mono hbr.size);have hown2 := World.ownsRow.belowAll hown hb2;clear x0 x1 c1' hown hb2;go_upto_region 9 with fail;obtain ⟨W3, hW3⟩ : ∃ X, X = w2.alloc (.cells #[.string q0, .string q1, .string q2, .string q3, .string q4, .string q5, .string q6, .string q7, .string q8] 90) := ⟨_, rfl⟩;have hb3 : Below w2.heap.size w2 W3 := by rw [hW3]; exact zal _ _
   have b11 : BoxN W3 w2.heap.size 90 [.string q0, .string q1, .string q2, .string q3, .string q4, .string q5, .string q6, .string q7, .string q8] := by rw [hW3]; exact BoxN.new _ _ _ _ rfl
   rw [<- hW3];clear hW3;have hbr3 : Below w1.heap.size w1 W3 := hbr2.trans (hb3.mono hbr2.size);have hown3 := World.ownsRow.belowAll hown2 hb3;have hbW3 : Below w.heap.size w W3 := hB1.trans (hbr3.mono hB1.size);have hrange : W3.rangeAt w2.heap.size 0 [.string q0, .string q1, .string q2, .string q3, .string q4, .string q5, .string q6, .string q7, .string q8] := fun j v hv => by rw [Nat.zero_add]; exact b11.cell j hv
   clear hb3 hown2 hbr2 hbr hbW;go_wp2_with (refine wpList_load_mid (by rfl) 90 (.tmp 11) (by rfl) w2.heap.size 0 (by rfl) [.string q0, .string q1, .string q2, .string q3, .string q4, .string q5, .string q6, .string q7, .string q8] _ hrange Tryz.underlying90 (by rfl) (by kernel_rfl) ?_);refine (HCUi.out W3 (hg.below hbW3)).mono ?_;rintro e w4 ⟨v12, rfl, hpv, hb4⟩;have hbr4 : Below w1.heap.size w1 w4 := hbr3.trans (hb4.mono hbr3.size);have hown4 := World.ownsRow.belowAll hown3 hb4;have b114 := b11.below hb4 b11.lt;have hpv1 : w4.ownsRow W3.heap.size 89 3 v12 N (cellsC part) := by rw [HNN.out]; exact hpv.1
   obtain ⟨p12, c12, rfl⟩ := ownsRow_shape hpv1;clear hrange b11 hown3 hbr3 hb4 hpv hbW3;go_wp2_with fail;go_loopw [9, 41] (fun t9 t41 wr => ∃ (j n' : Nat), t41 = .int .i64 j /\ j <= N /\ n' <= n + j /\ Hid ((levTo P T F z i ++ segTo P T F z i tr part j).length = n') /\ wr.ownsRow w1.heap.size 52 5 t9 n' (cellsG (levTo P T F z i ++ segTo P T F z i tr part j)) /\ wr.ownsRow W3.heap.size 89 3 (.slice p12 N c12) N (cellsC part) /\ BoxN wr w2.heap.size 90 [.string q0, .string q1, .string q2, .string q3, .string q4, .string q5, .string q6, .string q7, .string q8] /\ Below w1.heap.size w1 wr) (fun _ t41 _ => N - (RowKit.intOf t41).toNat)
   case atStart => exact ⟨0, n, rfl, Nat.zero_le _, Nat.le_refl _, by unfold Hid; rw [show segTo P T F z i tr part 0 = [] from rfl, List.append_nil]; exact HLN.out, by rw [show segTo P T F z i tr part 0 = [] from rfl, List.append_nil]; exact hown4, hpv1, b114, hbr4⟩
   case round =>
    clear hown4 hpv1 b114 hbr4;obtain ⟨j, n', rfl, hjN, hnj, HLNj, hown, hpv, b11, hbr⟩ := hrel;obtain ⟨p9', c9', rfl⟩ := ownsRow_shape hown;have hbW : Below w.heap.size w wr := hB1.trans (hbr.mono hB1.size);rcases Nat.lt_or_ge j N with hj | hj
    ·have HSTj : Hid (levTo P T F z i ++ segTo P T F z i tr part (j + 1) = levTo P T F z i ++ segTo P T F z i tr part j ++ segA P T F z i tr part j) := by unfold Hid; rw [show segTo P T F z i tr part (j + 1) = segTo P T F z i tr part j ++ segA P T F z i tr part j from rfl, List.append_assoc]
     have hNp : N = part.length := HNN.out;obtain ⟨g12, c12', hv12, hcells⟩ := row_open (by rw [<- hNp]; exact hpv) (by intro e; rw [e] at hNp; simp at hNp; omega);injection hv12 with hp12 hn12 hc12
     subst hp12;have hj2 : (j + 1) % N < N := Nat.mod_lt _ (by omega);obtain ⟨jn, hjn⟩ : ∃ jn, jn = (j + 1) % N := ⟨_, rfl⟩;have hrem : ((j : Int) + 1).tmod (N : Int) = (jn : Int) := by
      rw [Int.tmod_eq_emod_of_nonneg (by omega), hjn];push_cast; rfl
     have hrem2 : ((j : Int) + 1) % (N : Int) = (jn : Int) := by rw [hjn]; push_cast; rfl
     rw [<- hjn] at hj2;have hja : j < part.length := by omega
     have hjb : jn < part.length := by omega
     obtain ⟨k0, k1, k2⟩ := hcells j hja;obtain ⟨l0, l1, l2⟩ := hcells jn hjb;obtain ⟨A, hA⟩ : ∃ A, A = part[j] := ⟨_, rfl⟩;obtain ⟨B, hBb⟩ : ∃ B, B = part[jn] := ⟨_, rfl⟩;rw [<- hA] at k0 k1 k2;rw [<- hBb] at l0 l1 l2;have HSA : Hid (segA P T F z i tr part j = if keepB P T F z tr A B then [((i : Int), A.1, B.1)] else []) := by
      unfold Hid segA;rw [<- hNp, <- hjn, corI_nat _ _ hja, corI_nat _ _ hjb, <- hA, <- hBb]
     have HCA := hid fun w hg => cpoint_ok A.1 (HRTi.out A (by rw [hA]; exact List.getElem_mem _)) w hg
     have HCB := hid fun w hg => cpoint_ok B.1 (HRTi.out B (by rw [hBb]; exact List.getElem_mem _)) w hg
     have HSDj : Hid (∀ (w : World), _) := fun w => HSD.out A.1 B.1 w;have HREM := hid hrem;have hN0 : (0 : Int) < (N : Int) := by omega
     have hjz : (j : Int) < (N : Int) := by omega
     have hjnz : (jn : Int) < (N : Int) := by omega
     clear hcells hA hBb hja hjb hc12 hjn hNp hn12;have hwlt : g12 < wr.heap.size := World.block_lt_of_cell? wr _ k0;obtain ⟨ax, hax⟩ : ∃ s, s = RS A.1.1 := ⟨_, rfl⟩;obtain ⟨ay, hay⟩ : ∃ s, s = RS A.1.2 := ⟨_, rfl⟩;obtain ⟨bx, hbx⟩ : ∃ s, s = RS B.1.1 := ⟨_, rfl⟩;obtain ⟨by', hby⟩ : ∃ s, s = RS B.1.2 := ⟨_, rfl⟩;obtain ⟨az, haz⟩ : ∃ s, s = RS A.2 := ⟨_, rfl⟩;obtain ⟨bz, hbz⟩ : ∃ s, s = RS B.2 := ⟨_, rfl⟩;rw [<- hax, <- hay] at HCA HSDj;rw [<- hbx, <- hby] at HCB HSDj;rw [<- hax] at k0;rw [<- hay] at k1;rw [<- haz] at k2;rw [<- hbx] at l0;rw [<- hby] at l1;rw [<- hbz] at l2;have HXY : Hid (RS A.1.1 = ax /\ RS A.1.2 = ay /\ RS B.1.1 = bx /\ RS B.1.2 = by') := ⟨hax.symm, hay.symm, hbx.symm, hby.symm⟩;have HAZ : Hid (az.toList = sz.toList ↔ A.2 = z) := by
      unfold Hid;rw [haz, HZS.out];exact ⟨fun h => RS_toList_inj h, fun h => by rw [h]⟩
     have HBZ : Hid (bz.toList = sz.toList ↔ B.2 = z) := by
      unfold Hid;rw [hbz, HZS.out];exact ⟨fun h => RS_toList_inj h, fun h => by rw [h]⟩
     obtain ⟨ks, hks⟩ : ∃ s, s = sideT P tr A.1 B.1 := ⟨_, rfl⟩;have hkc : ks = -1 \/ ks = 0 \/ ks = 1 \/ ks = 2 := by rw [hks]; exact sideL_cases _ _ _ _ _
     rw [<- hks] at HSDj;have HKS := hid hks;clear hax hay hbx hby haz hbz hks;go_upto_region 14 with fail;obtain ⟨W6, hW6⟩ : ∃ X, X = (wr.alloc (.cells #[.string ax, .string ay, .string az] 89)).alloc (.cells #[.string bx, .string by', .string bz] 89) := ⟨_, rfl⟩;have hb6 : Below wr.heap.size wr W6 := by rw [hW6]; exact zal2 _ _ _
     have b156 : BoxN W6 (wr.heap.size + 1) 89 [.string bx, .string by', .string bz] := by rw [hW6]; exact BoxN.new _ _ _ _ (by simp)
     have b146 : BoxN W6 wr.heap.size 89 [.string ax, .string ay, .string az] := by
      rw [hW6];have h1 := (BoxN.new wr #[.string ax, .string ay, .string az] 89 _ rfl);exact h1.below (zal _ _) h1.lt
     rw [<- hW6];clear hW6 k0 k1 k2 l0 l1 l2 hrem hrem2 hjnz hwlt;have hown6 := World.ownsRow.belowAll hown hb6;have hpv6 := World.ownsRow.belowAll hpv hb6;have b116 := b11.below hb6 b11.lt;have hbr6 := hbr.trans (hb6.mono hbr.size);have hbW6 := hB1.trans (hbr6.mono hB1.size);clear hown hpv b11 hbr hbW hb6;have a2 := b146.cell 2 rfl;have c2 := b156.cell 2 rfl;by_cases hAz : A.2 = z;rotate_left
     ·have ht := (not_congr HAZ.out).2 hAz
      have HKB : Hid (keepB P T F z tr A B = false) := by unfold Hid keepB; rw [decide_eq_false hAz]; rfl
      clear hAz;have HE : Hid (levTo P T F z i ++ segTo P T F z i tr part (j + 1) = levTo P T F z i ++ segTo P T F z i tr part j) := by unfold Hid; rw [HSTj.out, HSA.out, HKB.out, if_neg (by simp), List.append_nil]
      have HLN1 : Hid ((levTo P T F z i ++ segTo P T F z i tr part (j + 1)).length = n') := by unfold Hid; rw [HE.out]; exact HLNj.out
      have HOW : Hid (W6.ownsRow w1.heap.size 52 5 (.slice p9' n' c9') n' (cellsG (levTo P T F z i ++ segTo P T F z i tr part (j + 1)))) := by unfold Hid; rw [HE.out]; exact hown6
      go_wp2_with fail;go_roundw
      case rel => exact ⟨j + 1, n', by go_num, hj, by omega, HLN1, HOW.out, hpv6, b116, hbr6⟩
      case measure => simp [RowKit.intOf]; omega
     by_cases hBz : B.2 = z;rotate_left
     ·have ht := (not_congr HBZ.out).2 hBz
      have htb : (bz.toList == sz.toList) = false := by simpa using ht
      have ht2 := HAZ.out.2 hAz;have HKB : Hid (keepB P T F z tr A B = false) := by unfold Hid keepB; rw [decide_eq_false hBz, Bool.and_false]; rfl
      clear hAz hBz;have HE : Hid (levTo P T F z i ++ segTo P T F z i tr part (j + 1) = levTo P T F z i ++ segTo P T F z i tr part j) := by unfold Hid; rw [HSTj.out, HSA.out, HKB.out, if_neg (by simp), List.append_nil]
      have HLN1 : Hid ((levTo P T F z i ++ segTo P T F z i tr part (j + 1)).length = n') := by unfold Hid; rw [HE.out]; exact HLNj.out
      have HOW : Hid (W6.ownsRow w1.heap.size 52 5 (.slice p9' n' c9') n' (cellsG (levTo P T F z i ++ segTo P T F z i tr part (j + 1)))) := by unfold Hid; rw [HE.out]; exact hown6
      go_wp2_with fail;go_roundw
      case rel => exact ⟨j + 1, n', by go_num, hj, by omega, HLN1, HOW.out, hpv6, b116, hbr6⟩
      case measure => simp [RowKit.intOf]; omega
     have ht1 := HAZ.out.2 hAz;have ht2 := HBZ.out.2 hBz;have HKB : Hid (keepB P T F z tr A B = (decide (ks < 0) || (decide (0 <= nbT T tr ks) && (partT P F z (triI T (nbT T tr ks))).isEmpty))) := by unfold Hid keepB; rw [decide_eq_true hAz, decide_eq_true hBz, HKS.out]; rfl
     clear hAz hBz HAZ HBZ;have hrange6 : W6.rangeAt w2.heap.size 0 [.string q0, .string q1, .string q2, .string q3, .string q4, .string q5, .string q6, .string q7, .string q8] := fun j v hv => by rw [Nat.zero_add]; exact b116.cell j hv
     have y0 := b146.cell 0 rfl;have y1 := b146.cell 1 rfl;have z0 := b156.cell 0 rfl;have z1 := b156.cell 1 rfl;go_upto_region 15 with fail;clear ht1 ht2 a2 c2;go_wp2_with (refine wpList_load_mid (by rfl) 90 (.tmp 11) (by rfl) w2.heap.size 0 (by rfl) [.string q0, .string q1, .string q2, .string q3, .string q4, .string q5, .string q6, .string q7, .string q8] _ hrange6 Tryz.underlying90 (by rfl) (by kernel_rfl) ?_);refine (HSDj.out W6).mono ?_;rintro e w7 ⟨_, rfl, rfl, hb7⟩;have hown7 := World.ownsRow.belowAll hown6 hb7;have hpv7 := World.ownsRow.belowAll hpv6 hb7;have b117 := b116.below hb7 b116.lt;have b147 := b146.below hb7 b146.lt;have b157 := b156.below hb7 b156.lt;have hbr7 := hbr6.trans (hb7.mono hbr6.size);clear hown6 hpv6 b116 b146 b156 hbr6 hbW6 hb7 hrange6 y0 y1 z0 z1;by_cases hk0 : ks < 0
     ·have HKB1 : Hid (keepB P T F z tr A B = true) := by unfold Hid; rw [HKB.out, decide_eq_true hk0]; rfl
      have hk1 : ¬ 0 <= ks := by omega
      have HE : Hid (levTo P T F z i ++ segTo P T F z i tr part (j + 1) = levTo P T F z i ++ segTo P T F z i tr part j ++ [((i : Int), A.1, B.1)]) := by unfold Hid; rw [HSTj.out, HSA.out, HKB1.out, if_pos rfl]
      have HLN1 : Hid ((levTo P T F z i ++ segTo P T F z i tr part (j + 1)).length = n' + 1) := by unfold Hid; rw [HE.out, List.length_append, HLNj.out]; rfl
      have HBE : Hid (cellsG (levTo P T F z i ++ segTo P T F z i tr part (j + 1)) = cellsG (levTo P T F z i ++ segTo P T F z i tr part j) ++ [.int .i64 (i : Int), .string ax, .string ay, .string bx, .string by']) := by
       obtain ⟨e1, e2, e3, e4⟩ := HXY.out;unfold Hid;rw [HE.out, cellsG_snoc, e1, e2, e3, e4]
      have hbWt := hB1.trans (hbr7.mono hB1.size);have y0 := b147.cell 0 rfl;have y1 := b147.cell 1 rfl;clear HE;go_wp2_with fail;refine (HCA.out w7 (hg.below hbWt)).mono ?_;rintro e wA ⟨_, rfl, rfl, hbA⟩;have b15A := b157.below hbA b157.lt;have z0 := b15A.cell 0 rfl;have z1 := b15A.cell 1 rfl;have hbWA := hbWt.trans (hbA.mono hbWt.size);clear y0 y1;go_wp2_with fail;refine (HCB.out wA (hg.below hbWA)).mono ?_;rintro e wB ⟨_, rfl, rfl, hbB⟩;have hbAB := hbA.trans (hbB.mono hbA.size);have hownB := World.ownsRow.belowAll hown7 hbAB;have hpvB := World.ownsRow.belowAll hpv7 hbAB;have b11B := b117.below hbAB b117.lt;have b14B := b147.below hbAB b147.lt;have b15B := b157.below hbAB b157.lt;have hbrB := hbr7.trans (hbAB.mono hbr7.size);have hzB := hbrB.size;have hl11 := b11B.lt;clear hbA hbB hbAB hbWt hbWA z0 z1 b15A hown7 hpv7 b117 b147 b157 hbr7;have y0 := b14B.cell 0 rfl;have y1 := b14B.cell 1 rfl;have z0 := b15B.cell 0 rfl;have z1 := b15B.cell 1 rfl
      go_wp2_with (at_builtin; refine wpList_append_own _ rfl _ _ 42 rfl w1.heap.size 52 i0 (.agg #[.int .i64 0, .string ⟨#[]⟩, .string ⟨#[]⟩, .string ⟨#[]⟩, .string ⟨#[]⟩]) 5 72 Tryz.underlying42 hi0 hzz0 hzz1 hzz2 rfl (by decide) _ _ _ rfl (hownB.alloc _) ⟨wB.heap.size, 0, none⟩ 1 1 [.int .i64 (i : Int), .string ax, .string ay, .string bx, .string by'] rfl rfl (cell_five _ _ _ _ _ _ _) (five_one _ _ _ _ _) (by unfold maxLen; omega) (by omega) (by simp; omega) ?_
                   intro v9 w9 hown9 hgrow9 _;have hzw9 := hgrow9.size;have hbr9 : Below w1.heap.size w1 w9 := (hbrB.alloc hzB _).grown hgrow9 (by simp; omega) (fun j hj => by have := (hownB.lt j hj).1; omega);have hpv9 := World.ownsRow.kept (hpvB.alloc (.cells #[.int .i64 (i : Int), .string ax, .string ay, .string bx, .string by'] 52)) hgrow9 (owns_apart (hpvB.alloc _) (hownB.alloc (.cells #[.int .i64 (i : Int), .string ax, .string ay, .string bx, .string by'] 52)) (by decide));have b119' := b11B.below ((Below.refl _ _).alloc (Nat.le_refl _) (.cells #[.int .i64 (i : Int), .string ax, .string ay, .string bx, .string by'] 52)) hl11;have b119 := (hgrow9.block _ b119'.lt (owns_boxN (hownB.alloc (.cells #[.int .i64 (i : Int), .string ax, .string ay, .string bx, .string by'] 52)) b119' (by decide))).trans b119';clear hgrow9 b119')
      rw [<- HBE.out] at hown9;go_wp2_with fail;go_roundw
      case rel => exact ⟨j + 1, n' + 1, by go_num, hj, by omega, HLN1, hown9, hpv9, b119, hbr9⟩
      case measure => simp [RowKit.intOf]; omega
     obtain ⟨kk, hkk⟩ : ∃ kk : Nat, ks = (kk : Int) := ⟨ks.toNat, by omega⟩;subst hkk;have hk3 : (kk : Int) < 3 := by omega
     have HKB2 : Hid (keepB P T F z tr A B = (decide (0 <= nbT T tr kk) && (partT P F z (triI T (nbT T tr kk))).isEmpty)) := by unfold Hid; rw [HKB.out, decide_eq_false hk0]; rfl
     clear hk0 HKB;have hbW7 := hB1.trans (hbr7.mono hB1.size);have m7 := b1.below hbr7 b1.lt;have x0 := m7.cell 0 rfl;have x1 := m7.cell 1 rfl;go_wp2_with fail;refine (HNBi.out w7 hbW7).mono ?_;rintro e w8 ⟨_, rfl, rfl, hb8⟩;have hown8 := World.ownsRow.belowAll hown7 hb8;have hpv8 := World.ownsRow.belowAll hpv7 hb8;have b118 := b117.below hb8 b117.lt;have b148 := b147.below hb8 b147.lt;have b158 := b157.below hb8 b157.lt;have hbr8 := hbr7.trans (hb8.mono hbr7.size);clear hown7 hpv7 b117 b147 b157 hbr7 hbW7 hb8 x0 x1 m7;go_upto_region 20 with fail;have nbT_lt : ∀ k, 0 <= nbT T tr k -> ∃ j : Nat, nbT T tr k = (j : Int) /\ j < T.length := fun k h => nbI_lt h;obtain ⟨nb, hnbE⟩ : ∃ x, x = nbT T tr kk := ⟨_, rfl⟩;obtain ⟨W9, hW9⟩ : ∃ X, X = w8.alloc (.cells #[.int .i64 (nbI T (sideK tr 0)), .int .i64 (nbI T (sideK tr 1)), .int .i64 (nbI T (sideK tr 2))] 95) := ⟨_, rfl⟩;have hb9 : Below w8.heap.size w8 W9 := by rw [hW9]; exact zal _ _
     have b17 : BoxN W9 w8.heap.size 95 [.int .i64 (nbI T (sideK tr 0)), .int .i64 (nbI T (sideK tr 1)), .int .i64 (nbI T (sideK tr 2))] := by rw [hW9]; exact BoxN.new _ _ _ _ rfl
     rw [<- hW9];have kc : W9.cell? ⟨w8.heap.size, kk, none⟩ = some (.int .i64 nb) := by
      rw [hnbE];obtain rfl | rfl | rfl : kk = 0 \/ kk = 1 \/ kk = 2 := by omega
      ·exact b17.cell 0 rfl
      ·exact b17.cell 1 rfl
      ·exact b17.cell 2 rfl
     have hown9 := World.ownsRow.belowAll hown8 hb9;have hpv9 := World.ownsRow.belowAll hpv8 hb9;have b119 := b118.below hb9 b118.lt;have b149 := b148.below hb9 b148.lt;have b159 := b158.below hb9 b158.lt;have hbr9 := hbr8.trans (hb9.mono hbr8.size);have hl17 := b17.lt;rw [<- hnbE] at HKB2;clear hW9 b17 hb9 hown8 hpv8 b118 b148 b158 hbr8;by_cases hnb : nb < 0
     ·have HKB3 : Hid (keepB P T F z tr A B = false) := by unfold Hid; rw [HKB2.out, decide_eq_false (by omega)]; rfl
      have hnbd : decide (nb < 0) = true := decide_eq_true hnb;clear HKB2 hnbE nbT_lt;go_quiet (fail);obtain ⟨wC, hwC⟩ : ∃ X, X = W9.drewN nq := ⟨_, rfl⟩;have hbC : Below W9.heap.size W9 wC := by rw [hwC]; exact below_drewN W9 nq
      rw [<- hwC];clear hwC kc;have hownC := World.ownsRow.belowAll hown9 hbC;have hpvC := World.ownsRow.belowAll hpv9 hbC;have b11C := b119.below hbC b119.lt;have hbrC := hbr9.trans (hbC.mono hbr9.size);have HE : Hid (levTo P T F z i ++ segTo P T F z i tr part (j + 1) = levTo P T F z i ++ segTo P T F z i tr part j) := by unfold Hid; rw [HSTj.out, HSA.out, HKB3.out, if_neg (by simp), List.append_nil]
      have HLN1 : Hid ((levTo P T F z i ++ segTo P T F z i tr part (j + 1)).length = n') := by unfold Hid; rw [HE.out]; exact HLNj.out
      have HOW : Hid (wC.ownsRow w1.heap.size 52 5 (.slice p9' n' c9') n' (cellsG (levTo P T F z i ++ segTo P T F z i tr part (j + 1)))) := by unfold Hid; rw [HE.out]; exact hownC
      go_wp2_with fail;go_roundw
      case rel => exact ⟨j + 1, n', by go_num, hj, by omega, HLN1, HOW.out, hpvC, b11C, hbrC⟩
      case measure => simp [RowKit.intOf]; omega
     obtain ⟨jb, hjb, hjbl⟩ := nbT_lt kk (by rw [<- hnbE]; omega);rw [<- hnbE] at hjb;subst hjb;have HKB3 : Hid (keepB P T F z tr A B = (partT P F z (triI T jb)).isEmpty) := by unfold Hid; rw [HKB2.out, decide_eq_true (by omega)]; rfl
     have HCOn : Hid (∀ w', Below w.heap.size w w' -> _) := fun w' hb => HCO.out jb hjbl w' (HH.out.below hb) (hg.below hb);have HCUn : Hid (∀ w', Good w' -> _) := fun w' hg' => HCU.out jb hjbl w' hg';have hnbd : decide ((jb : Int) < 0) = false := decide_eq_false hnb;obtain ⟨pN, hpN⟩ : ∃ l, l = partT P F z (triI T jb) := ⟨_, rfl⟩;rw [<- hpN] at HKB3 HCUn;generalize RS (ptI P (triI T jb).1).1 = r0 at *;generalize RS (ptI P (triI T jb).1).2 = r1 at *;generalize RS (hI F (triI T jb).1) = r2 at *;generalize RS (ptI P (triI T jb).2.1).1 = r3 at *;generalize RS (ptI P (triI T jb).2.1).2 = r4 at *;generalize RS (hI F (triI T jb).2.1) = r5 at *;generalize RS (ptI P (triI T jb).2.2).1 = r6 at *;generalize RS (ptI P (triI T jb).2.2).2 = r7 at *;generalize RS (hI F (triI T jb).2.2) = r8 at *;have m9 := b1.below hbr9 b1.lt;have x0 := m9.cell 0 rfl;have x1 := m9.cell 1 rfl;have hbW9 := hB1.trans (hbr9.mono hB1.size);have hlm := m9.lt;have hgd : Good W9.drew := (hg.below hbW9).drewN 1;have hbd : Below w.heap.size w W9.drew := hbW9.trans ((below_drewN W9 1).mono hbW9.size);clear HKB2 hnbE nbT_lt hpN hnb m9 hbW9;by_cases hpn : pN = []
     ·have HKB4 : Hid (keepB P T F z tr A B = true) := by unfold Hid; rw [HKB3.out, hpn]; rfl
      go_region_held3 (fun w' => w'.cell? ⟨w8.heap.size, kk, none⟩ = some (.int .i64 (jb : Int)) /\ w'.cell? ⟨w.heap.size, 0, none⟩ = some (.slice pp P.length cp) /\ w'.cell? ⟨w.heap.size, 1, none⟩ = some (.slice pt T.length ct))
       (first | exact ⟨kc, x0, x1⟩ | exact ⟨p_1_0, p_1_1, p_1_2⟩ | exact ⟨p_2_0, p_2_1, p_2_2⟩)
       (first
       | (go_at_call 29; refine (HCUn.out _ pg1).mono ?_; rintro e pw2 ⟨vn, rfl, hpvn, pb2⟩
          have p_2_0 := zct pb2 p_1_0;have p_2_1 := zct pb2 p_1_1;have p_2_2 := zct pb2 p_1_2;have ps2 := pb2.size;have pg2 := pg1.below pb2;obtain rfl := hpvn.2 hpn)
       | (go_at_call 28; refine (HCOn.out _ hbd).mono ?_; rintro e pw1 ⟨_, rfl, rfl, pb1⟩
          have p_1_0 := zct pb1 kc;have p_1_1 := zct pb1 x0;have p_1_2 := zct pb1 x1;have ps1 : W9.heap.size <= pw1.heap.size := pb1.size;have pg1 := hgd.below pb1))
      have pB : Below W9.heap.size W9 pw2 := zbt (zbt (below_drewN W9 1) pb1) pb2;clear hpvn;have hownC := World.ownsRow.belowAll hown9 pB;have hpvC := World.ownsRow.belowAll hpv9 pB;have b11C := b119.below pB b119.lt;have b14C := b149.below pB b149.lt;have b15C := b159.below pB b159.lt;have hbrC := hbr9.trans (pB.mono hbr9.size);clear pB pb1 pb2 ps1 ps2 pg1 pg2 p_1_0 p_1_1 p_1_2 p_2_0 p_2_1 p_2_2 kc x0 x1 hown9 hpv9 b119 b149 b159 hbr9 hgd hbd hpn;have HE : Hid (levTo P T F z i ++ segTo P T F z i tr part (j + 1) = levTo P T F z i ++ segTo P T F z i tr part j ++ [((i : Int), A.1, B.1)]) := by unfold Hid; rw [HSTj.out, HSA.out, HKB4.out, if_pos rfl]
      have HLN1 : Hid ((levTo P T F z i ++ segTo P T F z i tr part (j + 1)).length = n' + 1) := by unfold Hid; rw [HE.out, List.length_append, HLNj.out]; rfl
      have HBE : Hid (cellsG (levTo P T F z i ++ segTo P T F z i tr part (j + 1)) = cellsG (levTo P T F z i ++ segTo P T F z i tr part j) ++ [.int .i64 (i : Int), .string ax, .string ay, .string bx, .string by']) := by
       obtain ⟨e1, e2, e3, e4⟩ := HXY.out;unfold Hid;rw [HE.out, cellsG_snoc, e1, e2, e3, e4]
      have hbWt := hB1.trans (hbrC.mono hB1.size);have y0 := b14C.cell 0 rfl;have y1 := b14C.cell 1 rfl;clear HE;go_wp2_with fail;refine (HCA.out pw2 (hg.below hbWt)).mono ?_;rintro e wA ⟨_, rfl, rfl, hbA⟩;have b15A := b15C.below hbA b15C.lt;have z0 := b15A.cell 0 rfl;have z1 := b15A.cell 1 rfl;have hbWA := hbWt.trans (hbA.mono hbWt.size);clear y0 y1;go_wp2_with fail;refine (HCB.out wA (hg.below hbWA)).mono ?_;rintro e wB ⟨_, rfl, rfl, hbB⟩;have hbAB := hbA.trans (hbB.mono hbA.size);have hownB := World.ownsRow.belowAll hownC hbAB;have hpvB := World.ownsRow.belowAll hpvC hbAB;have b11B := b11C.below hbAB b11C.lt;have b14B := b14C.below hbAB b14C.lt;have b15B := b15C.below hbAB b15C.lt;have hbrB := hbrC.trans (hbAB.mono hbrC.size);have hzB := hbrB.size;have hl11 := b11B.lt;clear hbA hbB hbAB hbWt hbWA z0 z1 b15A hownC hpvC b11C b14C b15C hbrC;have y0 := b14B.cell 0 rfl;have y1 := b14B.cell 1 rfl;have z0 := b15B.cell 0 rfl;have z1 := b15B.cell 1 rfl
      go_wp2_with (at_builtin; refine wpList_append_own _ rfl _ _ 42 rfl w1.heap.size 52 i0 (.agg #[.int .i64 0, .string ⟨#[]⟩, .string ⟨#[]⟩, .string ⟨#[]⟩, .string ⟨#[]⟩]) 5 72 Tryz.underlying42 hi0 hzz0 hzz1 hzz2 rfl (by decide) _ _ _ rfl (hownB.alloc _) ⟨wB.heap.size, 0, none⟩ 1 1 [.int .i64 (i : Int), .string ax, .string ay, .string bx, .string by'] rfl rfl (cell_five _ _ _ _ _ _ _) (five_one _ _ _ _ _) (by unfold maxLen; omega) (by omega) (by simp; omega) ?_
                   intro v9 w9 hown9 hgrow9 _;have hzw9 := hgrow9.size;have hbr9 : Below w1.heap.size w1 w9 := (hbrB.alloc hzB _).grown hgrow9 (by simp; omega) (fun j hj => by have := (hownB.lt j hj).1; omega);have hpv9 := World.ownsRow.kept (hpvB.alloc (.cells #[.int .i64 (i : Int), .string ax, .string ay, .string bx, .string by'] 52)) hgrow9 (owns_apart (hpvB.alloc _) (hownB.alloc (.cells #[.int .i64 (i : Int), .string ax, .string ay, .string bx, .string by'] 52)) (by decide));have b119' := b11B.below ((Below.refl _ _).alloc (Nat.le_refl _) (.cells #[.int .i64 (i : Int), .string ax, .string ay, .string bx, .string by'] 52)) hl11;have b119 := (hgrow9.block _ b119'.lt (owns_boxN (hownB.alloc (.cells #[.int .i64 (i : Int), .string ax, .string ay, .string bx, .string by'] 52)) b119' (by decide))).trans b119';clear hgrow9 b119')
      rw [<- HBE.out] at hown9;go_wp2_with fail;go_roundw
      case rel => exact ⟨j + 1, n' + 1, by go_num, hj, by omega, HLN1, hown9, hpv9, b119, hbr9⟩
      case measure => simp [RowKit.intOf]; omega
     ·have HKB4 : Hid (keepB P T F z tr A B = false) := by unfold Hid; rw [HKB3.out]; cases pN with | nil => exact absurd rfl hpn | cons a l => rfl
      go_region_held3 (fun w' => w'.cell? ⟨w8.heap.size, kk, none⟩ = some (.int .i64 (jb : Int)) /\ w'.cell? ⟨w.heap.size, 0, none⟩ = some (.slice pp P.length cp) /\ w'.cell? ⟨w.heap.size, 1, none⟩ = some (.slice pt T.length ct))
       (first | exact ⟨kc, x0, x1⟩ | exact ⟨p_1_0, p_1_1, p_1_2⟩ | exact ⟨p_2_0, p_2_1, p_2_2⟩)
       (first
       | (go_at_call 29; refine (HCUn.out _ pg1).mono ?_; rintro e pw2 ⟨vn, rfl, hpvn, pb2⟩
          have p_2_0 := zct pb2 p_1_0;have p_2_1 := zct pb2 p_1_1;have p_2_2 := zct pb2 p_1_2;have ps2 := pb2.size;have pg2 := pg1.below pb2;obtain ⟨gn, cn, rfl, -⟩ := row_open hpvn.1 hpn)
       | (go_at_call 28; refine (HCOn.out _ hbd).mono ?_; rintro e pw1 ⟨_, rfl, rfl, pb1⟩
          have p_1_0 := zct pb1 kc;have p_1_1 := zct pb1 x0;have p_1_2 := zct pb1 x1;have ps1 : W9.heap.size <= pw1.heap.size := pb1.size;have pg1 := hgd.below pb1))
      have pB : Below W9.heap.size W9 pw2 := zbt (zbt (below_drewN W9 1) pb1) pb2;clear hpvn;have hownC := World.ownsRow.belowAll hown9 pB;have hpvC := World.ownsRow.belowAll hpv9 pB;have b11C := b119.below pB b119.lt;have b14C := b149.below pB b149.lt;have b15C := b159.below pB b159.lt;have hbrC := hbr9.trans (pB.mono hbr9.size);clear pB pb1 pb2 ps1 ps2 pg1 pg2 p_1_0 p_1_1 p_1_2 p_2_0 p_2_1 p_2_2 kc x0 x1 hown9 hpv9 b119 b149 b159 hbr9 hgd hbd hpn;have HE : Hid (levTo P T F z i ++ segTo P T F z i tr part (j + 1) = levTo P T F z i ++ segTo P T F z i tr part j) := by unfold Hid; rw [HSTj.out, HSA.out, HKB4.out, if_neg (by simp), List.append_nil]
      have HLN1 : Hid ((levTo P T F z i ++ segTo P T F z i tr part (j + 1)).length = n') := by unfold Hid; rw [HE.out]; exact HLNj.out
      have HOW : Hid (pw2.ownsRow w1.heap.size 52 5 (.slice p9' n' c9') n' (cellsG (levTo P T F z i ++ segTo P T F z i tr part (j + 1)))) := by unfold Hid; rw [HE.out]; exact hownC
      go_wp2_with fail;go_roundw
      case rel => exact ⟨j + 1, n', by go_num, hj, by omega, HLN1, HOW.out, hpvC, b11C, hbrC⟩
      case measure => simp [RowKit.intOf]; omega
    ·obtain rfl : j = N := by omega
     have HF : Hid (levTo P T F z (i + 1) = levTo P T F z i ++ segTo P T F z i tr part j) := by unfold Hid; rw [HLS.out, <- HNN.out]
     have HLN1 : Hid ((levTo P T F z (i + 1)).length = n') := by unfold Hid; rw [HF.out]; exact HLNj.out
     rw [<- HF.out] at hown;go_wp2_with fail;go_roundw
     case rel => exact ⟨i + 1, n', by go_num, h, by omega, HLN1, hown, hbr⟩
     case measure => simp [RowKit.intOf]; omega
  ·obtain rfl : i = T.length := by omega
   have hbW : Below w.heap.size w wo := hB1.trans (hbr.mono hB1.size);have hsv : SegV wo w.heap.size (.slice p9 n c9) (levelL P T F z) := by
    unfold SegV levelL;rw [HLN.out];exact ownsRow_base hown hB1.size
   go_wp2_with fail;go_ret2;exact ⟨_, rfl, ⟨_, rfl, hsv⟩, hbW⟩
end Go.Proofs.YtbfcmipplhkkeaaGreatDoor
