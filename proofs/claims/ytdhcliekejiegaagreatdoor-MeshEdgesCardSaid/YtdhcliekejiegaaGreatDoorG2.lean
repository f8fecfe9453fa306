/- Mesh: owners. -/
import Derived.Test.YtdhcliekejiegaaGreatDoorG1
/- The walk over mesh.owners. -/
namespace Go.Proofs.YtdhcliekejiegaaGreatDoor
open Go.RowKit Go.Shelf Go.Lib

attribute [local go_sem] Oper.semAt_some

/-- The sides with their triangle. -/
def ownL (T : List Tri) : List (Edge × Int) := T.zipIdx.flatMap fun x => (sidesOf x.1).map fun s => (s, (x.2 : Int))
theorem ownL_keys (T : List Tri) : (ownL T).map (·.1) = keysOf T := by
  unfold ownL keysOf
  rw [List.map_flatMap]
  have : ∀ (T : List Tri) (k : Nat), (T.zipIdx k).flatMap (fun a => List.map (fun x => x.1) (List.map (fun s => (s, (a.2 : Int))) (sidesOf a.1))) = T.flatMap sidesOf := by
    intro T
    induction T with
    | nil => intro k; rfl
    | cons t T ih => intro k; simp only [List.zipIdx_cons, List.flatMap_cons, ih]; simp [Function.comp_def]
  exact this T 0
theorem ownL_take (T : List Tri) (k : Nat) (h : k < T.length) : ownL (T.take (k + 1)) = ownL (T.take k) ++ (sidesOf T[k]).map fun s => (s, (k : Int)) := by
  unfold ownL
  rw [List.take_succ_eq_append_getElem h, List.zipIdx_append, List.flatMap_append]
  simp [Nat.min_eq_left (Nat.le_of_lt h)]
theorem keysOf_take (T : List Tri) (k : Nat) (h : k < T.length) : keysOf (T.take (k + 1)) = keysOf (T.take k) ++ sidesOf T[k] := by
  unfold keysOf
  rw [List.take_succ_eq_append_getElem h, List.flatMap_append]
  simp

theorem sideK_list (t : Tri) : all3.map (sideK t) = sidesOf t := rfl

theorem sides_stops (F : Fence) (n : Nat) (h7 : F.fn 121) (hro : F.round = none) (hn : 1 ≤ n) (Bs n₀ : Nat) (t : Tri) (w : World) (hBs : Bs < w.heap.size)
    (h0 : w.cell? ⟨Bs, 0, none⟩ = some (.int .i64 t.1)) (h1 : w.cell? ⟨Bs, 1, none⟩ = some (.int .i64 t.2.1)) (h2 : w.cell? ⟨Bs, 2, none⟩ = some (.int .i64 t.2.2)) :
    SeqStopsK F n Tryz.prog 121 #[.pointer (some ⟨Bs, 0, none⟩)] (encSide t) (KeepAt n₀ Bs) (fun ys => ys = all3) (fun pre => pre <+: all3) 3 w := fun l J Jx W hW hJ _ hY h0' =>
  sides1_in F n h7 hro hn l Bs n₀ t J Jx (fun pre W hj => hJ pre W W.drew none hj ⟨rfl, rfl, rfl, Nat.le_refl _, fun _ _ _ => rfl⟩ (fun r e => by cases e)) hY W
    ((hW.cell (p := ⟨Bs, 0, none⟩) hBs).trans h0) ((hW.cell (p := ⟨Bs, 1, none⟩) hBs).trans h1) ((hW.cell (p := ⟨Bs, 2, none⟩) hBs).trans h2) h0'

/-- A frame's marks: blocks that hold an empty list of deferred calls. -/
def markOf (D : Nat) : Deferred := { target := .collected D, args := #[] }
def Marks (B : Nat) (ds : List Deferred) (w : World) : Prop := ∃ Ds : List Nat, ds = Ds.map markOf ∧ Ds.Nodup ∧ ∀ D ∈ Ds, B ≤ D ∧ w.heap[D]? = some (.deferred (some []))
theorem Marks.nil (B : Nat) (w : World) : Marks B [] w := ⟨[], rfl, List.nodup_nil, fun _ h => absurd h (by simp)⟩
theorem Marks.cons {B D : Nat} {ds : List Deferred} {w w' : World} (h : Marks B ds w) (hk : ∀ k : Nat, w.heap[k]? = some (.deferred (some [])) → w'.heap[k]? = some (.deferred (some []))) (hB : B ≤ D) (hD : w.heap.size ≤ D) (hn : w'.heap[D]? = some (.deferred (some []))) : Marks B (markOf D :: ds) w' := by
  obtain ⟨Ds, rfl, hd, ha⟩ := h
  refine ⟨D :: Ds, rfl, List.nodup_cons.2 ⟨fun hm => ?_, hd⟩, fun E hE => ?_⟩
  · have := (Array.getElem?_eq_some_iff.1 (ha D hm).2).1
    omega
  · rcases List.mem_cons.1 hE with rfl | hE
    · exact ⟨hB, hn⟩
    · exact ⟨(ha E hE).1, hk E (ha E hE).2⟩
theorem Marks.kept {B : Nat} {ds : List Deferred} {w w' : World} (h : Marks B ds w) (hk : ∀ k : Nat, w.heap[k]? = some (.deferred (some [])) → w'.heap[k]? = some (.deferred (some []))) : Marks B ds w' := by
  obtain ⟨Ds, rfl, hd, ha⟩ := h
  exact ⟨Ds, rfl, hd, fun E hE => ⟨(ha E hE).1, hk E (ha E hE).2⟩⟩

/-- The same but for blocks of deferred calls from B on. -/
structure Struck (B : Nat) (w w' : World) : Prop where
  os : w'.os = w.os
  tape : w'.tape = w.tape
  output : w'.output = w.output
  size : w.heap.size ≤ w'.heap.size
  block : ∀ k, (k < B ∨ ∀ l, w.heap[k]? ≠ some (.deferred l)) → k < w.heap.size → w'.heap[k]? = w.heap[k]?
theorem Struck.refl (B : Nat) (w : World) : Struck B w w := ⟨rfl, rfl, rfl, Nat.le_refl _, fun _ _ _ => rfl⟩
theorem Struck.below {B : Nat} {w w' : World} (h : Struck B w w') (hB : B ≤ w.heap.size) : Below B w w' := by
  exact ⟨h.os, h.tape, h.output, h.size, fun k hk => h.block k (.inl hk) (by omega)⟩
theorem Struck.boxed {B b t : Nat} {w w' : World} {v : Value} (h : Struck B w w') (hb : Boxed w b t v) : Boxed w' b t v :=
  (h.block b (.inr fun l e => by rw [show w.heap[b]? = _ from hb] at e; cases e) hb.lt).trans hb
theorem Struck.mapL {α β : Type} {K E : Nat} {V : KeyView α K} {ev : β → Lit} {B b n : Nat} {w w' : World} {D : DataW Unit} {L : List (α × β)} (h : Struck B w w') (hm : MapL V E ev w b n D L) : MapL V E ev w' b n D L := by
  obtain ⟨⟨es, clock, hh, F, hs, hD⟩, hr⟩ := hm
  exact ⟨⟨es, clock, (h.block b (.inr fun l e => by rw [hh] at e; cases e) (Array.getElem?_eq_some_iff.1 hh).1).trans hh, F, hs, hD⟩, hr⟩

theorem leaves_marks {F : Fence} {n : Nat} {P : Program} {fn : Func} {tmps : Array Value} {R : Ending → World → Prop} {B : Nat} : ∀ {ds : List Deferred} {w : World}, Marks B ds w → (∀ w', Struck B w w' → LeavesIn F n P fn tmps R [] .returning w') → LeavesInM F n P fn tmps R ds .returning w := by
  intro ds
  induction ds with
  | nil => intro w _ h; exact h w (Struck.refl _ _)
  | cons d ds ih =>
    rintro w ⟨Ds, hd, hnd, ha⟩ h
    cases Ds with
    | nil => simp at hd
    | cons D Ds =>
      simp only [List.map_cons, List.cons.injEq] at hd
      obtain ⟨rfl, rfl⟩ := hd
      obtain ⟨hD, hnd⟩ := List.nodup_cons.1 hnd
      have hK := (ha D (by simp)).2
      refine ⟨by simp, .inl ⟨D, _, rfl, run_takeDeferred hK, ?_⟩⟩
      refine ih (w := w.putObj D (.deferred none)) ⟨Ds, rfl, hnd, fun E hE => ⟨(ha E (by simp [hE])).1, ?_⟩⟩ (fun w' hw' => h w' ?_)
      · rw [World.putObj_heap_other (by rintro rfl; exact hD hE)]
        exact (ha E (by simp [hE])).2
      · have hp : ∀ k, k ≠ D → (w.putObj D (.deferred none)).heap[k]? = w.heap[k]? := fun k hk => World.putObj_heap_other hk
        have hg := grownBy_putObj' w D (.deferred none)
        refine ⟨hw'.os.trans hg.os, hw'.tape.trans hg.tape, hw'.output.trans hg.output, Nat.le_trans hg.size hw'.size, fun k hk hlt => ?_⟩
        have hkD : k ≠ D := by
          rintro rfl
          rcases hk with hk | hk
          · have := (ha k (by simp)).1; omega
          · exact hk _ hK
        refine (hw'.block k ?_ (Nat.lt_of_lt_of_le hlt hg.size)).trans (hp k hkD)
        rw [hp k hkD]; exact hk

/-- What owners returns. -/
def OwnersP (T : List Tri) (n : Nat) (v : Value) (w' : World) : Prop :=
  ((keysOf T).Nodup ∧ ∃ b D, n ≤ b ∧ v = .tuple #[.map (some b), .bool true] ∧ MapL viewE 3 (Lit.int .i64) w' b (3 * T.length) D (ownL T)) ∨ (¬ (keysOf T).Nodup ∧ v = .tuple #[.map none, .bool false])

set_option maxHeartbeats 4000000 in
set_option maxRecDepth 100000 in
theorem owners_in (n : Nat) (hn : 6 ≤ n) (w : World) (vp vt : Value) (T : List Tri) (hrd : RdT w vt T) (hlen : T.length ≤ 1000000) (hI : ∀ t ∈ T, InI t.1 ∧ InI t.2.1 ∧ InI t.2.2) :
    CallsIn Fence.wide n Tryz.prog 52 #[.agg #[vp, vt]] w (Ret (OwnersP T w.heap.size) w) := by
  have h1 : 1 ≤ n := by omega
  have hmm := @run_makeMap Tryz.prog
  obtain ⟨p, c, rfl, hlc, hcm, hr⟩ := hrd.open
  have HR := Lib.hid hr
  have HII := Lib.hid hI
  clear hr hI hrd
  refine callsIn_of_wp_marks Tryz.func52 rfl trivial ?_ rfl
  simp only [Tryz.ntmps52, List.size_toArray, List.length_cons, List.length_nil, Nat.reduceAdd, Nat.reduceSub, Array.replicate_succ, Array.replicate_zero, List.push_toArray, List.append_toArray, List.nil_append, List.cons_append]
  gi_wp2_with fail
  obtain ⟨W0, hW0⟩ : ∃ W0, W0 = ((((w.alloc (.cells #[vp, .slice p T.length c] 30)).alloc (.cells #[.map none] 113)).alloc (.cells #[.bool false] 4)).alloc (.map #[] 0)).alloc (.cells #[.map (some (w.heap.size + 1 + 1 + 1))] 113) := ⟨_, rfl⟩
  have hB0 : Below w.heap.size w W0 := by rw [hW0]; exact (((((Below.refl _ _).alloc (Nat.le_refl _) _).alloc (by simp) _).alloc (by simp; omega) _).alloc (by simp; omega) _).alloc (by simp; omega) _
  have hz0 : W0.heap.size = w.heap.size + 5 := by rw [hW0]; simp
  have x1 : Boxed W0 (w.heap.size + 1) 113 (.map none) := by
    rw [hW0]; refine Boxed.alloc (Boxed.alloc (Boxed.alloc ?_ _) _) _
    have := Boxed.new (w.alloc (.cells #[vp, .slice p T.length c] 30)) 113 (.map none)
    simpa using this
  have x2 : Boxed W0 (w.heap.size + 2) 4 (.bool false) := by
    rw [hW0]; refine Boxed.alloc (Boxed.alloc ?_ _) _
    have := Boxed.new ((w.alloc (.cells #[vp, .slice p T.length c] 30)).alloc (.cells #[.map none] 113)) 4 (.bool false)
    simpa using this
  have x4 : Boxed W0 (w.heap.size + 4) 113 (.map (some (w.heap.size + 3))) := by
    rw [hW0]
    have := Boxed.new ((((w.alloc (.cells #[vp, .slice p T.length c] 30)).alloc (.cells #[.map none] 113)).alloc (.cells #[.bool false] 4)).alloc (.map #[] 0)) 113 (.map (some (w.heap.size + 3)))
    simpa using this
  have hm0 : MapL viewE 3 (Lit.int .i64) W0 (w.heap.size + 3) 0 (.map []) [] := by
    rw [hW0]
    have := (MapL.made (β := Int) ((w.alloc (.cells #[vp, .slice p T.length c] 30)).alloc (.cells #[.map none] 113) |>.alloc (.cells #[.bool false] 4)) viewE 3 (Lit.int .i64)).kept (World.grownBy_alloc _ (.cells #[.map (some (w.heap.size + 1 + 1 + 1))] 113) none) (by simp)
    simpa using this
  rw [← hW0]
  have HZ := Lib.hid hz0
  clear hW0 hz0
  refine wpIn_loop (fun a wr => ∃ (k : Nat) (ds : List Deferred) (u5 u6 u7 u8 u9 u10 u16 u17 u18 u19 u20 u21 u22 u23 u24 u25 u26 u27 u28 u29 u30 u31 u32 u33 u34 : Value), (k ≤ T.length ∧ Hid ((keysOf (T.take k)).Nodup) ∧ (∃ D, Hid (MapL viewE 3 (Lit.int .i64) wr (w.heap.size + 3) (3 * k) D (ownL (T.take k)))) ∧
      (Boxed wr (w.heap.size + 1) 113 (.map none) ∧ Boxed wr (w.heap.size + 2) 4 (.bool false) ∧ Boxed wr (w.heap.size + 4) 113 (.map (some (w.heap.size + 3)))) ∧ Below w.heap.size w wr ∧ w.heap.size + 5 ≤ wr.heap.size ∧ Marks (w.heap.size + 5) ds wr) ∧
      a = { tmps := #[.agg #[vp, .slice p T.length c], .pointer (some ⟨w.heap.size, 0, none⟩), .pointer (some ⟨w.heap.size + 1, 0, none⟩), .pointer (some ⟨w.heap.size + 2, 0, none⟩), .pointer (some ⟨w.heap.size + 4, 0, none⟩), u5, u6, u7, u8, u9, u10, .map (some (w.heap.size + 3)), .pointer (some ⟨w.heap.size, 1, none⟩),
        .slice p T.length c, .int .i64 T.length, .int .i64 k, u16, u17, u18, u19, u20, u21, u22, u23, u24, u25, u26, u27, u28, u29, u30, u31, u32, u33, u34, undef], defers := ds })
    (fun a _ => T.length - (RowKit.intOf (a.tmps.getD 15 undef)).toNat) ?_ ?_
  · exact ⟨0, [], _, _, _, _, _, _, _, _, _, _, _, _, _, _, _, _, _, _, _, _, _, _, _, _, _, ⟨Nat.zero_le _, by simp [Hid, keysOf], ⟨_, Lib.hid hm0⟩, ⟨x1, x2, x4⟩, hB0, by have := HZ.out; omega, Marks.nil _ _⟩, rfl⟩
  · rintro a wr ⟨k, ds, u5, u6, u7, u8, u9, u10, u16, u17, u18, u19, u20, u21, u22, u23, u24, u25, u26, u27, u28, u29, u30, u31, u32, u33, u34, ⟨hk, HN, ⟨D, HM⟩, ⟨y1, y2, y4⟩, hB, hz, hds⟩, rfl⟩
    clear x1 x2 x4 hm0 hB0
    by_cases hlt : k < T.length
    · obtain ⟨b, off, rfl, hbl, hcell⟩ := HR.out (List.ne_nil_of_length_pos (by omega))
      obtain ⟨e0, e1, e2⟩ := hcell k hlt
      obtain ⟨t, ht⟩ : ∃ t, t = T[k] := ⟨_, rfl⟩
      rw [← ht] at e0 e1 e2
      have d0 := (hB.cell (p := ⟨b, off + k * 3, none⟩) hbl).trans e0
      have d1 := (hB.cell (p := ⟨b, off + k * 3 + 1, none⟩) hbl).trans e1
      have d2 := (hB.cell (p := ⟨b, off + k * 3 + 2, none⟩) hbl).trans e2
      have HT := Lib.hid ht
      clear hcell e0 e1 e2 ht
      have hltz : (k : Int) < (T.length : Int) := by omega
      have g4 := y4.cell
      gi_wp2_with fail
      refine ⟨trivial, ?_⟩
      refine CallsIn.mono (callsIn_wide.2 (sides_any t _)) ?_
      rintro e w3 ⟨rfl, rfl⟩
      obtain ⟨W1, hW1⟩ : ∃ W1, W1 = ((wr.alloc (.cells #[.int .i64 (k : Int)] 3)).alloc (.cells #[.int .i64 t.1, .int .i64 t.2.1, .int .i64 t.2.2] 51)).alloc (.cells #[.int .i64 t.1, .int .i64 t.2.1, .int .i64 t.2.2] 51) := ⟨_, rfl⟩
      have hbW1 : Below wr.heap.size wr W1 := by rw [hW1]; exact (((Below.refl _ _).alloc (Nat.le_refl _) _).alloc (by simp) _).alloc (by simp; omega) _
      have hz1 : W1.heap.size = wr.heap.size + 3 := by rw [hW1]; simp
      have z5 : Boxed W1 wr.heap.size 3 (.int .i64 (k : Int)) := by rw [hW1]; exact ((Boxed.new wr _ _).alloc _).alloc _
      have s0 : W1.cell? ⟨wr.heap.size + 2, 0, none⟩ = some (.int .i64 t.1) := by rw [hW1, World.cell?_alloc_at _ _ _ _ (by simp)]; rfl
      have s1 : W1.cell? ⟨wr.heap.size + 2, 1, none⟩ = some (.int .i64 t.2.1) := by rw [hW1, World.cell?_alloc_at _ _ _ _ (by simp)]; rfl
      have s2 : W1.cell? ⟨wr.heap.size + 2, 2, none⟩ = some (.int .i64 t.2.2) := by rw [hW1, World.cell?_alloc_at _ _ _ _ (by simp)]; rfl
      gi_wp2_with fail
      rw [← hW1]
      have z1 : Boxed W1 (w.heap.size + 1) 113 (.map none) := (hbW1.block _ (by omega)).trans y1
      have z2 : Boxed W1 (w.heap.size + 2) 4 (.bool false) := (hbW1.block _ (by omega)).trans y2
      have z4 : Boxed W1 (w.heap.size + 4) 113 (.map (some (w.heap.size + 3))) := (hbW1.block _ (by omega)).trans y4
      have hBW : Below w.heap.size w W1 := hB.trans (hbW1.mono hB.size)
      have hm1 : MapL viewE 3 (Lit.int .i64) W1 (w.heap.size + 3) (3 * k) D (ownL (T.take k)) := HM.out.below hbW1 (by omega)
      have hds1 : Marks (w.heap.size + 5) ds W1 := hds.kept fun j hj => (hbW1.block j (Array.getElem?_eq_some_iff.1 hj).1).trans hj
      have HIN : Hid (∀ x, InE (sideK t x)) := fun x => by
        obtain ⟨i1, i2, i3⟩ := HII.out t (by rw [HT.out]; exact List.getElem_mem hlt)
        rcases x with ⟨x, hx⟩
        rcases (by omega : x = 0 ∨ x = 1 ∨ x = 2) with rfl | rfl | rfl
        · exact ⟨i1, i2⟩
        · exact ⟨i2, i3⟩
        · exact ⟨i3, i1⟩
      clear hW1 hbW1 y1 y2 y4 g4 hds HM hB
      refine wpIn_rangeFunc_ownH rfl h1 (gf := 121) (lb := #[.pointer (some ⟨wr.heap.size + 1 + 1, 0, none⟩)]) rfl trivial (enters_of Tryz.func121 (by kernel_rfl) rfl)
        (sides_stops Fence.wide (n - 1) trivial rfl (by omega) (wr.heap.size + 2) w.heap.size t W1 (by omega) s0 s1 s2) (fun h k => KeepAt.trans h k) (keepAt_b (by omega) (by omega)) (Below.refl _ _) (fun _ => rfl)
        (fun pre W => W1.grownBy W (some (w.heap.size + 3)) ∧ ((∃ D, Hid (MapL viewE 3 (Lit.int .i64) W (w.heap.size + 3) (3 * k + pre.length) D (ownL (T.take k) ++ pre.map fun x => (sideK t x, (k : Int))))) ∧ Hid ((keysOf (T.take k) ++ pre.map (sideK t)).Nodup)))
        (fun c pre W => (c = .ret ∧ ¬ (keysOf (T.take k) ++ pre.map (sideK t)).Nodup) ∧ (Boxed W (w.heap.size + 1) 113 (.map none) ∧ Boxed W (w.heap.size + 2) 4 (.bool false) ∧ (∀ j : Nat, W1.heap[j]? = some (.deferred (some [])) → W.heap[j]? = some (.deferred (some []))) ∧ W1.heap.size ≤ W.heap.size ∧ Below w.heap.size w W))
        ?hI ?hIx ?h0 (fun x a' W => ∃ Bx, (W1.heap.size ≤ Bx ∧ W.heap[Bx]? = some (.cells #[.int .i64 (sideK t x).1, .int .i64 (sideK t x).2] 47)) ∧
          a' = { tmps := #[.agg #[vp, .slice (some ⟨b, off, none⟩) T.length c], .pointer (some ⟨w.heap.size, 0, none⟩), .pointer (some ⟨w.heap.size + 1, 0, none⟩), .pointer (some ⟨w.heap.size + 2, 0, none⟩), .pointer (some ⟨w.heap.size + 4, 0, none⟩), .pointer (some ⟨wr.heap.size, 0, none⟩), .pointer (some ⟨wr.heap.size + 1, 0, none⟩), u7, .pointer (some ⟨Bx, 0, none⟩), u9, u10,
            .map (some (w.heap.size + 3)), .pointer (some ⟨w.heap.size, 1, none⟩), .slice (some ⟨b, off, none⟩) T.length c, .int .i64 T.length, .int .i64 k, .bool true, .int .i64 k, .pointer (some ⟨b, off + k * 3, none⟩), .agg #[.int .i64 t.1, .int .i64 t.2.1, .int .i64 t.2.2], .agg #[.int .i64 t.1, .int .i64 t.2.1, .int .i64 t.2.2],
            .func (.func 121) #[] #[.pointer (some ⟨wr.heap.size + 1 + 1, 0, none⟩)], .int .i64 (x.val : Int), .agg #[.int .i64 (sideK t x).1, .int .i64 (sideK t x).2], u24, u25, u26, u27, u28, u29, u30, u31, u32, u33, u34, undef], defers := [] })
        ?hAx ?assign ?body ?done ?stop
      case hI =>
        rintro pre W W' row ⟨hs, ⟨D', hm⟩, hn⟩ hg hr
        have hne : some (w.heap.size + 3) ≠ row := fun e => by have := (hr _ e.symm).1; omega
        exact ⟨⟨hg.os.trans hs.os, hg.tape.trans hs.tape, hg.output.trans hs.output, Nat.le_trans hs.size hg.size, fun j hj hjn => (hg.block j (Nat.lt_of_lt_of_le hj hs.size) (fun e => by have := (hr _ e.symm).1; omega)).trans (hs.block j hj hjn)⟩, ⟨D', hm.out.kept hg hne⟩, hn⟩
      case hIx =>
        rintro c' pre W W' row ⟨hc, x1, x2, hk', hzz, hbb⟩ hg hr
        refine ⟨hc, x1.kept hg (fun e => by have := (hr _ e.symm).1; omega), x2.kept hg (fun e => by have := (hr _ e.symm).1; omega), fun j hj => ?_, Nat.le_trans hzz hg.size, hbb.grown hg hbb.size (fun j e => by have := (hr _ e).1; omega)⟩
        have hj1 := (Array.getElem?_eq_some_iff.1 hj).1
        have hjW := (Array.getElem?_eq_some_iff.1 (hk' j hj)).1
        exact (hg.block j hjW (fun e => by have := (hr _ e.symm).1; omega)).trans (hk' j hj)
      case h0 => exact ⟨⟨rfl, rfl, rfl, Nat.le_refl _, fun _ _ _ => rfl⟩, ⟨D, by simpa [Hid] using hm1⟩, by simpa [Hid] using HN.out⟩
      case hAx =>
        rintro x a' _ W W' row ⟨Bx, ⟨h1, h2⟩, h3⟩ hg hr
        refine ⟨Bx, ⟨h1, (hg.block Bx (Array.getElem?_eq_some_iff.1 h2).1 (fun e => ?_)).trans h2⟩, h3⟩
        obtain ⟨_, o, ho, hc⟩ := hr Bx e.symm
        rw [h2] at ho; cases ho; cases hc
      case assign =>
        rintro l pre x W K ⟨hs, ⟨D', hm⟩, hnn⟩ hK
        dsimp only [encSide]
        gi_wp2_with fail
        have hg1 := World.grownBy_alloc W (.cells #[.int .i64 (sideK t x).1, .int .i64 (sideK t x).2] 47) none
        refine hK _ _ ((KeepsOthers.alloc _ _).from _) ⟨(Below.refl _ W).alloc (by have := hs.size; omega) _, Below.heap_alloc _ _ _ (by have := hs.size; omega)⟩ ⟨⟨hg1.os.trans hs.os, hg1.tape.trans hs.tape, hg1.output.trans hs.output, Nat.le_trans hs.size hg1.size, fun j hj hjn => (hg1.block j (Nat.lt_of_lt_of_le hj hs.size) (by simp)).trans (hs.block j hj hjn)⟩, ⟨D', hm.out.kept hg1 (by simp)⟩, hnn⟩ ⟨W.heap.size, ⟨hs.size, World.alloc_heap_new _ _⟩, rfl⟩
      case body =>
        rintro l pre x a' W hl ⟨r, hr⟩ ⟨hs, ⟨D', hm⟩, hnn⟩ ⟨Bx, ⟨hBx, hbx⟩, rfl⟩ hlt'
        have q1 : Boxed W (w.heap.size + 1) 113 (.map none) := z1.kept hs (by simp)
        have q2 : Boxed W (w.heap.size + 2) 4 (.bool false) := z2.kept hs (by simp)
        have q4 : Boxed W (w.heap.size + 4) 113 (.map (some (w.heap.size + 3))) := z4.kept hs (by simp)
        have q5 : Boxed W wr.heap.size 3 (.int .i64 (k : Int)) := z5.kept hs (by simp; omega)
        have c1 := q1.cell
        have c1f := q1.frozen
        have c2 := q2.cell
        have c2f := q2.frozen
        have c4 := q4.cell
        have c5 := q5.cell
        have cb0 : W.cell? ⟨Bx, 0, none⟩ = some (.int .i64 (sideK t x).1) := by simp [World.cell?, hbx]
        have cb1 : W.cell? ⟨Bx, 1, none⟩ = some (.int .i64 (sideK t x).2) := by simp [World.cell?, hbx]
        have hown := hm.out.owns
        have HW := Lib.hid hs
        have HX := HIN.out x
        have hkey : keyOf Tryz.prog 47 (.agg #[.int .i64 (sideK t x).1, .int .i64 (sideK t x).2]) = some (kE (sideK t x)) := keyE HX.1 HX.2
        have hhas := hm.out.has_iff HX
        have hkeys : (ownL (T.take k) ++ pre.map fun x => (sideK t x, (k : Int))).map (·.1) = keysOf (T.take k) ++ pre.map (sideK t) := by
          rw [List.map_append, ownL_keys, List.map_map]; rfl
        rw [hkeys] at hhas
        have hsz := hs.size
        have HBX := Lib.hid hbx
        have HBR := Lib.hid hr
        have HK := Lib.hid hkey
        have HHAS := Lib.hid hhas
        have HKS := Lib.hid hkeys
        clear hs hbx hr hkey hhas hkeys q1 q2 q4 q5
        cases hsn : Maps.has D' (viewE.lit (sideK t x))
        · have hnk : sideK t x ∉ keysOf (T.take k) ++ pre.map (sideK t) := fun hmm => by
            have := HHAS.out.2 hmm
            rw [hsn] at this; cases this
          have HNK := Lib.hid hnk
          have HSN := Lib.hid hsn
          clear hnk hsn
          gi_wp2_with (first
            | (gi_at_lookup; refine wpListIn_lookup_own_ok_int _ rfl _ _ 113 rfl 47 3 .i64 lawE und_EI und_I (zeroI _) (w.heap.size + 3) (3 * k + pre.length) D' rfl hown _ _ rfl HK.out ?_; rw [show Maps.has D' (kE (sideK t x)) = false from HSN.out]; intro cz hat hwc; clear hat hwc)
            | (gi_at_mapUpdate; refine wpListIn_mapUpdate_own _ rfl _ _ _ 113 rfl 47 3 lawE und_EI _ (w.heap.size + 3) (3 * k + pre.length) D' rfl hown (by unfold maxLen; omega) _ _ _ rfl rfl HK.out _ [] (plainElem_int und_I (WalkArith.wf_i64 (by omega))) ?_; intro w1 hown1 hgrow1))
          have hs := HW.out
          have hne : sideK t x ∉ (ownL (T.take k) ++ pre.map fun x => (sideK t x, (k : Int))).map (·.1) := by rw [HKS.out]; exact HNK.out
          refine ⟨KeepsFrom.of_grownBy hgrow1 (fun j e => by cases e; omega), ⟨(Below.refl _ W).grown hgrow1 (by omega) (fun j e => by cases e; omega), hgrow1.block _ (by omega) (by simp; omega)⟩,
            ⟨hgrow1.os.trans hs.os, hgrow1.tape.trans hs.tape, hgrow1.output.trans hs.output, Nat.le_trans hs.size hgrow1.size, fun j hj hjn => (hgrow1.block j (Nat.lt_of_lt_of_le hj hs.size) hjn).trans (hs.block j hj hjn)⟩, ⟨D'.put (kE (sideK t x)) (.lit (.int .i64 (k : Int))), ?_⟩, ?_⟩
          · have := hm.out.put (i := (k : Int)) HX (fun j hj => absurd (List.mem_map.2 ⟨_, hj, rfl⟩) hne) hown1
            unfold Hid
            rw [List.map_append, ← List.append_assoc, List.length_append]
            exact this
          · unfold Hid
            rw [List.map_append, ← List.append_assoc]
            exact List.nodup_append.2 ⟨hnn.out, by simp, fun y hy z hz e => by
              simp at hz; subst hz; subst e; exact HNK.out hy⟩
        · have hnk : sideK t x ∈ keysOf (T.take k) ++ pre.map (sideK t) := HHAS.out.1 hsn
          have HNK := Lib.hid hnk
          have HSN := Lib.hid hsn
          clear hnk hsn
          gi_wp2_with (first
            | (gi_at_lookup; refine wpListIn_lookup_own_ok_int _ rfl _ _ 113 rfl 47 3 .i64 lawE und_EI und_I (zeroI _) (w.heap.size + 3) (3 * k + pre.length) D' rfl hown _ _ rfl HK.out ?_; rw [show Maps.has D' (kE (sideK t x)) = true from HSN.out]; intro cz hat hwc; clear hat hwc))
          have hs := HW.out
          have q1 : Boxed W (w.heap.size + 1) 113 (.map none) := z1.kept hs (by simp)
          have q2 : Boxed W (w.heap.size + 2) 4 (.bool false) := z2.kept hs (by simp)
          refine ⟨((KeepsOthers.setCell _ _ _).trans (KeepsOthers.setCell _ _ _)).from _, ⟨rfl, fun hnd => ?_⟩, (q1.set _).other (by omega) _, (q2.other (by omega) _).set _, fun j hj => ?_, by simpa using hsz, ?_⟩
          · rw [List.map_append, ← List.append_assoc] at hnd
            exact (List.nodup_append.1 hnd).2.2 _ HNK.out _ (by simp) rfl
          · have hW : W.heap[j]? = some (.deferred (some [])) := (hs.block j (Array.getElem?_eq_some_iff.1 hj).1 (fun e => by cases e; obtain ⟨es, ck, hh, _⟩ := hm1.owns; rw [hh] at hj; cases hj)).trans hj
            rw [Below.heap_setCell _ _ _ j (by rintro rfl; rw [show W.heap[w.heap.size + 2]? = _ from q2] at hW; cases hW), Below.heap_setCell _ _ _ j (by rintro rfl; rw [show W.heap[w.heap.size + 1]? = _ from q1] at hW; cases hW)]
            exact hW
          · exact ((hBW.grown hs hBW.size (fun j e => by cases e; omega)).setCell (by show w.heap.size ≤ w.heap.size + 1; omega) _).setCell (by show w.heap.size ≤ w.heap.size + 2; omega) _
      case done =>
        rintro E ys W hE rfl ⟨hs, ⟨D', hm⟩, hnn⟩ hK
        have q1 : Boxed W (w.heap.size + 1) 113 (.map none) := z1.kept hs (by simp)
        have q2 : Boxed W (w.heap.size + 2) 4 (.bool false) := z2.kept hs (by simp)
        have q4 : Boxed W (w.heap.size + 4) 113 (.map (some (w.heap.size + 3))) := z4.kept hs (by simp)
        gi_wp2_with fail
        refine ⟨⟨k + 1, _, _, _, _, _, _, _, _, _, _, _, _, _, _, _, _, _, _, _, _, _, _, _, _, _, _, ⟨hlt, ?_, ⟨D', ?_⟩, ⟨q1, q2, q4⟩, hBW.grown hs hBW.size (fun j e => by cases e; omega), by have := hs.size; omega, Marks.cons hds1 (fun j hj => ?_) (by omega) hE hK⟩, rfl⟩, ?_⟩
        · unfold Hid; rw [keysOf_take T k hlt, ← HT.out, ← sideK_list]; exact hnn.out
        · have e1 : ownL (T.take (k + 1)) = ownL (T.take k) ++ all3.map fun x => (sideK t x, (k : Int)) := by rw [ownL_take T k hlt, ← HT.out, ← sideK_list, List.map_map]; rfl
          unfold Hid; rw [e1]; exact hm.out
        · exact (hs.block j (Array.getElem?_eq_some_iff.1 hj).1 (fun e => by cases e; obtain ⟨es, ck, hh, _⟩ := hm1.owns; rw [hh] at hj; cases hj)).trans hj
        · simp [RowKit.intOf]; omega
      case stop =>
        rintro E c' pre W hE hSp ⟨⟨rfl, hnn⟩, x1, x2, hk', hzz, hbb⟩ hK
        gi_wp2_with fail
        refine leaves_marks (Marks.cons hds1 (fun j hj => hk' j hj) (by omega) hE hK) fun w' hw' => ?_
        have k1 := (hw'.boxed x1).cell
        have k2 := (hw'.boxed x2).cell
        refine ⟨.tuple #[.map none, .bool false], by simp [results, Tryz.results52, go_sem, k1, k2], ?_⟩
        refine ⟨_, rfl, .inr ⟨fun hnd => hnn ?_, rfl⟩, hbb.trans ((hw'.below (by omega)).mono (by omega))⟩
        refine List.Sublist.nodup ?_ hnd
        have e2 : keysOf T = keysOf (T.take k) ++ (sidesOf t ++ keysOf (T.drop (k + 1))) := by
          conv => lhs; rw [← List.take_append_drop k T, List.drop_eq_getElem_cons hlt]
          unfold keysOf
          rw [List.flatMap_append, List.flatMap_cons, ← HT.out]
        rw [e2, ← sideK_list]
        refine List.Sublist.append_left ?_ _
        refine List.Sublist.trans (List.Sublist.map _ hSp.sublist) (List.sublist_append_left _ _)
    · have g4 := y4.cell
      have g1 := y1.cell
      have g1f := y1.frozen
      have g2 := y2.cell
      have g2f := y2.frozen
      gi_wp2_with fail
      obtain rfl : k = T.length := by omega
      have hzb := hB.setCell (p := ⟨w.heap.size + 1, 0, none⟩) (by show w.heap.size ≤ w.heap.size + 1; omega) (.map (some (w.heap.size + 3)))
      have hzc := hzb.setCell (p := ⟨w.heap.size + 2, 0, none⟩) (by show w.heap.size ≤ w.heap.size + 2; omega) (.bool true)
      have hblk : ∀ j : Nat, j ≠ w.heap.size + 1 → j ≠ w.heap.size + 2 → ((wr.setCell ⟨w.heap.size + 1, 0, none⟩ (.map (some (w.heap.size + 3)))).setCell ⟨w.heap.size + 2, 0, none⟩ (.bool true)).heap[j]? = wr.heap[j]? := fun j h1 h2 => by
        rw [Below.heap_setCell _ _ _ j h2, Below.heap_setCell _ _ _ j h1]
      have n1 : Boxed ((wr.setCell ⟨w.heap.size + 1, 0, none⟩ (.map (some (w.heap.size + 3)))).setCell ⟨w.heap.size + 2, 0, none⟩ (.bool true)) (w.heap.size + 1) 113 (.map (some (w.heap.size + 3))) := (y1.set _).other (by omega) _
      have n2 : Boxed ((wr.setCell ⟨w.heap.size + 1, 0, none⟩ (.map (some (w.heap.size + 3)))).setCell ⟨w.heap.size + 2, 0, none⟩ (.bool true)) (w.heap.size + 2) 4 (.bool true) := (y2.other (by omega) _).set _
      have nM : MapL viewE 3 (Lit.int .i64) ((wr.setCell ⟨w.heap.size + 1, 0, none⟩ (.map (some (w.heap.size + 3)))).setCell ⟨w.heap.size + 2, 0, none⟩ (.bool true)) (w.heap.size + 3) (3 * T.length) D (ownL T) := by
        have := (HM.out.kept (grownBy_setCell' wr (w.heap.size + 1) (.map (some (w.heap.size + 3)))) (by simp)).kept (grownBy_setCell' _ (w.heap.size + 2) (.bool true)) (by simp)
        rw [List.take_length] at this
        exact this
      have HNT := HN.out
      rw [List.take_length] at HNT
      refine leaves_marks (B := w.heap.size + 5) (hds.kept (fun j hj => ?_)) fun w' hw' => ?_
      · rw [hblk j (by rintro rfl; rw [show wr.heap[w.heap.size + 1]? = _ from y1] at hj; cases hj) (by rintro rfl; rw [show wr.heap[w.heap.size + 2]? = _ from y2] at hj; cases hj)]
        exact hj
      · have k1 := (hw'.boxed n1).cell
        have k2 := (hw'.boxed n2).cell
        refine ⟨.tuple #[.map (some (w.heap.size + 3)), .bool true], by simp [results, Tryz.results52, go_sem, k1, k2], ?_⟩
        exact ⟨_, rfl, .inl ⟨HNT, w.heap.size + 3, D, by omega, rfl, hw'.mapL nM⟩, hzc.trans ((hw'.below (by simpa using hz)).mono (by omega))⟩

theorem owners_any (w : World) (vp vt : Value) (T : List Tri) (hrd : RdT w vt T) (hlen : T.length ≤ 1000000) (hI : ∀ t ∈ T, InI t.1 ∧ InI t.2.1 ∧ InI t.2.2) :
    Calls Tryz.prog 52 #[.agg #[vp, vt]] w (Ret (OwnersP T w.heap.size) w) :=
  callsIn_wide.1 (owners_in 6 (by omega) w vp vt T hrd hlen hI)

end Go.Proofs.YtdhcliekejiegaaGreatDoor
