/- Thickness: Mean; klippelaw12.shape. -/
import Derived.Test.YtdhcliekejiegaaGreatDoorK2
import Derived.Deep.RegionHeld3
import Derived.Deep.DeepCutAuto
import Derived.Deep.AppendLies
/- The walk over thickness.double. -/
namespace Go.Proofs.YtdhcliekejiegaaGreatDoor
open Go.RowKit Go.Lib

end Go.Proofs.YtdhcliekejiegaaGreatDoor

/- The walk over klippelaw12.shape. -/
namespace Go.Proofs.YtdhcliekejiegaaGreatDoor
open Go.RowKit Go.Lib

/-- Places of whole numbers. -/
def cellsN (ps : List (Int × Int)) : List Value := ps.flatMap fun p => [.int .i64 p.1, .int .i64 p.2]
def RdN (w : World) (v : Value) (ps : List (Int × Int)) : Prop := RdC 2 w v ps.length (cellsN ps)
theorem RdN.open {w : World} {v : Value} {ps : List (Int × Int)} (h : RdN w v ps) : ∃ p c, v = .slice p ps.length c ∧ ps.length ≤ c ∧ c ≤ maxLen ∧
    (ps ≠ [] → ∃ b off, p = some ⟨b, off, none⟩ ∧ b < w.heap.size ∧ ∀ (i : Nat) (hi : i < ps.length), w.cell? ⟨b, off + i * 2, none⟩ = some (.int .i64 ps[i].1) ∧ w.cell? ⟨b, off + i * 2 + 1, none⟩ = some (.int .i64 ps[i].2)) := by
  obtain ⟨p, c, hv, h1, h2, h3, h4⟩ := h
  refine ⟨p, c, hv, h1, h2, fun hne => ?_⟩
  obtain ⟨b, off, hp, hc⟩ := h4 (by
    cases ps with
    | nil => exact absurd rfl hne
    | cons a l => simp [cellsN])
  have hcell : ∀ (i : Nat) (hi : i < ps.length), w.cell? ⟨b, off + i * 2, none⟩ = some (.int .i64 ps[i].1) ∧ w.cell? ⟨b, off + i * 2 + 1, none⟩ = some (.int .i64 ps[i].2) := fun i hi => by
    have e := getElem?_flatMap_const (fun p : Int × Int => [Value.int .i64 p.1, .int .i64 p.2]) 2 (fun _ => rfl) ps i
    refine ⟨?_, ?_⟩
    · have := hc (i * 2) (.int .i64 ps[i].1) (by have := e 0 (by omega); rw [Nat.add_zero] at this; unfold cellsN; rw [this, List.getElem?_eq_getElem hi]; rfl)
      exact this
    · have := hc (i * 2 + 1) (.int .i64 ps[i].2) (by have := e 1 (by omega); unfold cellsN; rw [this, List.getElem?_eq_getElem hi]; rfl)
      rw [← Nat.add_assoc] at this
      exact this
  exact ⟨b, off, hp, World.block_lt_of_cell? w _ (hcell 0 (List.length_pos_iff.2 hne)).1, hcell⟩

theorem RdC.fresh (sz : Nat) (w : World) (cs : Array Value) (ty n : Nat) (hl : cs.size = n * sz) (hn : n ≤ 1000) (l : List Value) (hcs : cs.toList = l) (g : Nat) (hgs : g = w.heap.size) :
    RdC sz (w.alloc (.cells cs ty)) (.slice (some ⟨g, 0, none⟩) n n) n l := by
  subst hgs
  subst hcs
  refine ⟨some ⟨w.heap.size, 0, none⟩, n, rfl, Nat.le_refl _, Nat.le_trans hn (by decide), by rw [Array.length_toList]; exact hl, fun _ => ⟨w.heap.size, 0, rfl, fun i x hx => ?_⟩⟩
  rw [World.cell?_alloc_at _ _ _ _ rfl]
  simpa using hx

/-- The eight shapes. -/
def shapeP : Nat → List (Int × Int)
  | 0 => [(0, 0), (4, 0), (4, 4), (0, 4)]
  | 1 => [(0, 0), (4, 0), (4, 4), (0, 4)]
  | 2 => [(0, 0), (4, 0), (4, 4), (0, 4), (2, 1)]
  | 3 => [(0, 0), (6, 0), (0, 4)]
  | 4 => [(0, 0), (2, 0), (4, 0), (0, 2), (2, 2), (4, 2)]
  | 5 => [(1, 4), (5, 3), (4, 0), (0, 0)]
  | 6 => [(0, 0), (4, 0), (4, 4), (0, 4), (2, 0)]
  | _ => [(0, 0), (6, 0), (0, 6), (2, 2)]
def shapeT : Nat → List Tri
  | 0 => [(0, 1, 2), (0, 2, 3)]
  | 1 => [(0, 1, 3), (1, 2, 3)]
  | 2 => [(0, 1, 4), (1, 2, 4), (2, 3, 4), (3, 0, 4)]
  | 3 => [(2, 0, 1)]
  | 4 => [(0, 1, 4), (0, 4, 3), (1, 2, 5), (1, 5, 4)]
  | 5 => [(3, 2, 1), (3, 1, 0)]
  | 6 => [(0, 4, 3), (4, 2, 3), (4, 1, 2)]
  | _ => [(0, 1, 3), (1, 2, 3), (2, 0, 3)]
theorem info_pair : ((Tryz.prog).info? 47).map (fun i => (i.zero, i.size, i.bytes)) = some (some (.agg #[.int .i64 0, .int .i64 0]), 2, 16) := by kernel_rfl
theorem cell_two (w : World) (x y : Value) (E : Nat) : ∀ (j : Nat) (u : Value), [x, y][j]? = some u → (w.alloc (.cells #[x, y] E)).cell? ((⟨w.heap.size, 0, none⟩ : Addr).add j) = some u := World.news_of_block (cs := #[x, y]) (t := E) (fr := (0, 0)) (World.alloc_heap_new w _)

set_option maxHeartbeats 4000000 in
set_option maxRecDepth 100000 in
theorem shape_any (w : World) (kz : Int) (k : Nat) (hk : kz.tmod 8 = (k : Int)) (hk0 : 0 ≤ kz) (hk1 : kz ≤ 255) (_hg : Good w) :
    Calls Tryz.prog 45 #[.int .u8 kz] w (Ret (fun r w' => ∃ vp vt, r = .tuple #[vp, vt] ∧ RdN w' vp (shapeP k) ∧ RdT w' vt (shapeT k)) w) := by
  have hk7 : k ≤ 7 := by
    have h1 : kz.tmod 8 = kz % 8 := Int.tmod_eq_emod_of_nonneg hk0
    omega
  have hmod : kz % 8 = (k : Int) := by rw [← hk]; exact (Int.tmod_eq_emod_of_nonneg hk0).symm
  obtain ⟨i0, hi, hz0, hz1, hz2⟩ := info_parts info_pair
  have hw : IntKind.u8.wrap (kz.tmod 8) = (k : Int) := by rw [hk]; rcases (by omega : k = 0 ∨ k = 1 ∨ k = 2 ∨ k = 3 ∨ k = 4 ∨ k = 5 ∨ k = 6 ∨ k = 7) with rfl | rfl | rfl | rfl | rfl | rfl | rfl | rfl <;> rfl
  have HK1 := Lib.hid hk0
  have HK2 := Lib.hid hk1
  rcases (by omega : k = 0 ∨ k = 1 ∨ k = 2 ∨ k = 3 ∨ k = 4 ∨ k = 5 ∨ k = 6 ∨ k = 7) with rfl | rfl | rfl | rfl | rfl | rfl | rfl | rfl
  · go_enter Tryz.func45, Tryz.ntmps45
    go_wp2_with fail
    go_ret2
    exact ⟨_, rfl, ⟨_, _, rfl, (RdC.fresh 2 w _ _ 4 rfl (by omega) _ rfl _ rfl).alloc _, RdC.fresh 3 _ _ _ 2 rfl (by omega) _ rfl _ (by simp)⟩, ((Below.refl _ _).alloc (Nat.le_refl _) _).alloc (by simp) _⟩
  · go_enter Tryz.func45, Tryz.ntmps45
    go_wp2_with fail
    go_ret2
    exact ⟨_, rfl, ⟨_, _, rfl, (RdC.fresh 2 w _ _ 4 rfl (by omega) _ rfl _ rfl).alloc _, RdC.fresh 3 _ _ _ 2 rfl (by omega) _ rfl _ (by simp)⟩, ((Below.refl _ _).alloc (Nat.le_refl _) _).alloc (by simp) _⟩
  · go_enter Tryz.func45, Tryz.ntmps45
    have hown : ((w.alloc (.cells #[.int .i64 0, .int .i64 0, .int .i64 4, .int .i64 0, .int .i64 4, .int .i64 4, .int .i64 0, .int .i64 4] 47)).alloc (.cells #[.int .i64 2, .int .i64 1] 47)).ownsRow w.heap.size 47 2 (.slice (some ⟨w.heap.size, 0, none⟩) 4 4) 4 [.int .i64 0, .int .i64 0, .int .i64 4, .int .i64 0, .int .i64 4, .int .i64 4, .int .i64 0, .int .i64 4] := (World.ownsRow_lit w _ 4 (Nat.le_refl _) (by decide) rfl).alloc _
    go_wp2_with (at_builtin; refine wpList_append_own _ rfl _ _ 36 rfl w.heap.size 47 i0 (.agg #[.int .i64 0, .int .i64 0]) 2 16 Tryz.underlying36 hi hz0 hz1 hz2 rfl (by decide) _ _ _ rfl hown ⟨w.heap.size + 1, 0, none⟩ 1 1 [.int .i64 2, .int .i64 1] rfl rfl (by have := cell_two (w.alloc (.cells #[.int .i64 0, .int .i64 0, .int .i64 4, .int .i64 0, .int .i64 4, .int .i64 4, .int .i64 0, .int .i64 4] 47)) (.int .i64 2) (.int .i64 1) 47; simpa using this) (by intro u hu; simp at hu; rcases hu with rfl | rfl <;> rfl) (by decide) (by omega) (by simp; omega) ?_
                 intro v2 w2 hown2 hgrow2 _
                 obtain ⟨p2, c2, rfl⟩ := ownsRow_shape hown2
                 have hB2 : Below w.heap.size w w2 := (((Below.refl _ _).alloc (Nat.le_refl _) _).alloc (by simp) _).grown hgrow2 (by simp; omega) (fun j hj => by have := (hown.lt j hj).1; omega)
                 clear hgrow2)
    go_ret2
    have hsz := hB2.size
    exact ⟨_, rfl, ⟨_, _, rfl, (RdC.of_owns hown2).alloc _, RdC.fresh 3 _ _ _ 4 rfl (by omega) _ rfl _ (by simp)⟩, hB2.alloc hsz _⟩
  · go_enter Tryz.func45, Tryz.ntmps45
    go_wp2_with fail
    go_ret2
    exact ⟨_, rfl, ⟨_, _, rfl, (RdC.fresh 2 _ _ _ 3 rfl (by omega) _ rfl _ (by simp)).alloc _, RdC.fresh 3 _ _ _ 1 rfl (by omega) _ rfl _ (by simp)⟩, (((Below.refl _ _).alloc (Nat.le_refl _) _).alloc (by simp) _).alloc (by simp; omega) _⟩
  · go_enter Tryz.func45, Tryz.ntmps45
    go_wp2_with fail
    go_ret2
    exact ⟨_, rfl, ⟨_, _, rfl, (RdC.fresh 2 _ _ _ 6 rfl (by omega) _ rfl _ (by simp)).alloc _, RdC.fresh 3 _ _ _ 4 rfl (by omega) _ rfl _ (by simp)⟩, (((Below.refl _ _).alloc (Nat.le_refl _) _).alloc (by simp) _).alloc (by simp; omega) _⟩
  · go_enter Tryz.func45, Tryz.ntmps45
    go_wp2_with fail
    go_ret2
    exact ⟨_, rfl, ⟨_, _, rfl, (RdC.fresh 2 _ _ _ 4 rfl (by omega) _ rfl _ (by simp)).alloc _, RdC.fresh 3 _ _ _ 2 rfl (by omega) _ rfl _ (by simp)⟩, (((Below.refl _ _).alloc (Nat.le_refl _) _).alloc (by simp) _).alloc (by simp; omega) _⟩
  · go_enter Tryz.func45, Tryz.ntmps45
    have hown : ((w.alloc (.cells #[.int .i64 0, .int .i64 0, .int .i64 4, .int .i64 0, .int .i64 4, .int .i64 4, .int .i64 0, .int .i64 4] 47)).alloc (.cells #[.int .i64 2, .int .i64 0] 47)).ownsRow w.heap.size 47 2 (.slice (some ⟨w.heap.size, 0, none⟩) 4 4) 4 [.int .i64 0, .int .i64 0, .int .i64 4, .int .i64 0, .int .i64 4, .int .i64 4, .int .i64 0, .int .i64 4] := (World.ownsRow_lit w _ 4 (Nat.le_refl _) (by decide) rfl).alloc _
    go_wp2_with (at_builtin; refine wpList_append_own _ rfl _ _ 36 rfl w.heap.size 47 i0 (.agg #[.int .i64 0, .int .i64 0]) 2 16 Tryz.underlying36 hi hz0 hz1 hz2 rfl (by decide) _ _ _ rfl hown ⟨w.heap.size + 1, 0, none⟩ 1 1 [.int .i64 2, .int .i64 0] rfl rfl (by have := cell_two (w.alloc (.cells #[.int .i64 0, .int .i64 0, .int .i64 4, .int .i64 0, .int .i64 4, .int .i64 4, .int .i64 0, .int .i64 4] 47)) (.int .i64 2) (.int .i64 0) 47; simpa using this) (by intro u hu; simp at hu; rcases hu with rfl | rfl <;> rfl) (by decide) (by omega) (by simp; omega) ?_
                 intro v2 w2 hown2 hgrow2 _
                 obtain ⟨p2, c2, rfl⟩ := ownsRow_shape hown2
                 have hB2 : Below w.heap.size w w2 := (((Below.refl _ _).alloc (Nat.le_refl _) _).alloc (by simp) _).grown hgrow2 (by simp; omega) (fun j hj => by have := (hown.lt j hj).1; omega)
                 clear hgrow2)
    go_ret2
    have hsz := hB2.size
    exact ⟨_, rfl, ⟨_, _, rfl, (RdC.of_owns hown2).alloc _, RdC.fresh 3 _ _ _ 3 rfl (by omega) _ rfl _ (by simp)⟩, hB2.alloc hsz _⟩
  · go_enter Tryz.func45, Tryz.ntmps45
    go_wp2_with fail
    go_ret2
    exact ⟨_, rfl, ⟨_, _, rfl, (RdC.fresh 2 _ _ _ 4 rfl (by omega) _ rfl _ (by simp)).alloc _, RdC.fresh 3 _ _ _ 3 rfl (by omega) _ rfl _ (by simp)⟩, (((Below.refl _ _).alloc (Nat.le_refl _) _).alloc (by simp) _).alloc (by simp; omega) _⟩

end Go.Proofs.YtdhcliekejiegaaGreatDoor

/- The walk over thickness.Mean. -/
namespace Go.Proofs.YtdhcliekejiegaaGreatDoor
open Go.RowKit Go.Lib

theorem RdQ.fresh (w : World) (xs : List Rat) (ty : Nat) (cs : Array Value) (hcs : cs.toList = xs.map fun x => Value.string (RS x)) (hl : xs.length ≤ 1000) (n : Nat) (hn : n = xs.length) (g : Nat) (hgs : g = w.heap.size) :
    RdQ (w.alloc (Obj.cells cs ty)) (.slice (some ⟨g, 0, none⟩) n n) xs := by
  subst hn
  exact RdC.fresh 1 w cs ty _ (by rw [← Array.length_toList, hcs, List.length_map]; omega) hl _ hcs g hgs

end Go.Proofs.YtdhcliekejiegaaGreatDoor
