/- klippelaw12.MeshAlongs returns true: any sheet, any two places of halves. -/
import Derived.Test.YtccngnjkehibiaaGreatDoorM30
import Derived.Test.YtccngnjkehibiaaGreatDoorM32
import Derived.Test.YtccngnjkehibiaaGreatDoorM11
import Derived.Test.YtccngnjkehibiaaGreatDoorM10
import Derived.Test.YtccngnjkehibiaaGreatDoorN2
import Derived.BigRegion
import Derived.Laws.OwnMore
import Derived.Deep.RegionLawGrows
import Derived.Deep.CutBlock
namespace Go.Proofs.YtccngnjkehibiaaGreatDoor
open Go.RowKit Go.Lib

/-- Two places, each in a box of its own. -/
def TwoP (w : World) (b8 b9 : Nat) (a b : PtQ) : Prop := BoxN w b8 24 [.string (RS a.1), .string (RS a.2)] ∧ BoxN w b9 24 [.string (RS b.1), .string (RS b.2)]
theorem TwoP.below {w w' : World} {b8 b9 : Nat} {a b : PtQ} (h : TwoP w b8 b9 a b) (hb : Below w.heap.size w w') : TwoP w' b8 b9 a b := ⟨h.1.below hb h.1.lt, h.2.below hb h.2.lt⟩
/-- Fresh boxes of places behind a call. -/
abbrev ZL : List Value := [.string ⟨#[]⟩, .string ⟨#[]⟩]
structure BoxF (z : World) (b : Nat) : Prop where
  c0 : z.cell? ⟨b, 0, none⟩ = some (.string ⟨#[]⟩)
  c1 : z.cell? ⟨b, 1, none⟩ = some (.string ⟨#[]⟩)
  f0 : z.frozen? ⟨b, 0, none⟩ = false
  f1 : z.frozen? ⟨b, 1, none⟩ = false
  lt : b < z.heap.size
theorem BoxF.of {z : World} {b : Nat} (h : BoxN z b 24 ZL) : BoxF z b := ⟨h.cell 0 rfl, h.cell 1 rfl, h.frozen 0, h.frozen 1, h.lt⟩
theorem zb1 {x z : World} (h : Below (x.alloc (.cells #[.string ⟨#[]⟩, .string ⟨#[]⟩] 24)).heap.size (x.alloc (.cells #[.string ⟨#[]⟩, .string ⟨#[]⟩] 24)) z) : BoxN z x.heap.size 24 ZL := (BoxN.new _ _ _ _ rfl).below h (by simp)
theorem zb2 {x z : World} (h : Below ((x.alloc (.cells #[.string ⟨#[]⟩, .string ⟨#[]⟩] 24)).alloc (.cells #[.string ⟨#[]⟩, .string ⟨#[]⟩] 24)).heap.size ((x.alloc (.cells #[.string ⟨#[]⟩, .string ⟨#[]⟩] 24)).alloc (.cells #[.string ⟨#[]⟩, .string ⟨#[]⟩] 24)) z) : BoxN z x.heap.size 24 ZL ∧ BoxN z (x.heap.size + 1) 24 ZL :=
  ⟨((BoxN.new _ _ _ _ rfl).alloc _).below h (by simp; omega), (BoxN.new _ _ _ _ (by simp)).below h (by simp)⟩
theorem zb1d {x z : World} (h : Below (x.alloc (.cells #[.string ⟨#[]⟩, .string ⟨#[]⟩] 24)).drew.heap.size (x.alloc (.cells #[.string ⟨#[]⟩, .string ⟨#[]⟩] 24)).drew z) : BoxN z x.heap.size 24 ZL := (BoxN.new x _ _ _ rfl).drew.below h (by simp)
theorem zb2d {x z : World} (h : Below ((x.alloc (.cells #[.string ⟨#[]⟩, .string ⟨#[]⟩] 24)).alloc (.cells #[.string ⟨#[]⟩, .string ⟨#[]⟩] 24)).drew.heap.size ((x.alloc (.cells #[.string ⟨#[]⟩, .string ⟨#[]⟩] 24)).alloc (.cells #[.string ⟨#[]⟩, .string ⟨#[]⟩] 24)).drew z) : BoxN z x.heap.size 24 ZL ∧ BoxN z (x.heap.size + 1) 24 ZL :=
  ⟨((BoxN.new x _ _ _ rfl).alloc _).drew.below h (by simp; omega), (BoxN.new (x.alloc _) _ _ _ (by simp)).drew.below h (by simp)⟩
theorem box_set2 {w : World} {b t : Nat} {v0 v1 : Value} (h : BoxN w b t [.string ⟨#[]⟩, .string ⟨#[]⟩]) : BoxN ((w.setCell ⟨b, 0, none⟩ v0).setCell ⟨b, 1, none⟩ v1) b t [v0, v1] := (h.set 0 v0).set 1 v1
theorem box_far2 {w : World} {b c t i j : Nat} {l : List Value} {v0 v1 : Value} (h : BoxN w b t l) (hne : b ≠ c) : BoxN ((w.setCell ⟨c, i, none⟩ v0).setCell ⟨c, j, none⟩ v1) b t l := by
  unfold BoxN
  rw [Below.heap_setCell _ _ _ _ (by exact hne), Below.heap_setCell _ _ _ _ (by exact hne)]
  exact h
theorem box_newE (w : World) (v0 v1 : Value) (t n : Nat) (hn : w.heap.size = n) : BoxN (w.alloc (.cells #[v0, v1] t)) n t [v0, v1] := BoxN.new _ _ _ _ hn
theorem wantL_sub {A : List SpanQ} {s : SpanQ} (h : s ∈ wantL A) : s ∈ A := List.mem_of_find?_eq_some ((wantL_mem A s).1 h)
theorem wantL_len (A : List SpanQ) : (wantL A).length ≤ A.length := by
  refine list_snoc (P := fun A => (wantL A).length ≤ A.length) (Nat.le_refl _) (fun A s h => ?_) A
  rw [wantL_snoc, List.length_append]
  unfold wantS
  split
  · exact Nat.le_trans h (Nat.le_add_right _ _)
  · rw [putS_len]; exact Nat.succ_le_succ h
theorem hasF_succ {W : List SpanQ} {j : Nat} {s : SpanQ} {x : Rat} (h : W[j]? = some s) : hasF (W.take (j + 1)) x = (hasF (W.take j) x || decide (s.2.1 = x)) := by
  obtain ⟨hj, rfl⟩ := List.getElem?_eq_some_iff.1 h
  unfold hasF
  rw [List.take_succ_eq_append_getElem hj, List.any_append]
  simp
theorem backK_step {W : List SpanQ} {j : Nat} {s : SpanQ} {x : Rat} (h : W[j]? = some s) : backK W x (j + 1) = if x < s.2.1 then backK W x j else j + 1 := by
  conv => lhs; unfold backK
  rw [h]; rfl
theorem cmpQ_gt {p q : Rat} (h : q < p) : cmpQ p q = 1 := by
  unfold cmpQ
  rw [if_neg (fun h2 => Rat.lt_irrefl (rat_lt_trans h h2)), if_pos h]
theorem cmpQ_ngt {p q : Rat} (h : ¬ q < p) : ∃ z : Int, cmpQ p q = z ∧ z ≤ 0 := by
  refine ⟨_, rfl, ?_⟩
  unfold cmpQ
  split
  · omega
  · first | (rw [if_neg h]; omega) | omega
theorem owns_some {w : World} {base e sz n : Nat} {v : Value} {xs : List Value} (h : w.ownsRow base e sz v n xs) (hn : 0 < n) : ∃ g c, v = .slice (some ⟨g, 0, none⟩) n c ∧ base ≤ g ∧ g < w.heap.size := by
  rcases h.2 with ⟨_, h0⟩ | ⟨g, cap, cur, hv, hb, hg, _⟩
  · omega
  · exact ⟨g, cap, hv, hb, (Array.getElem?_eq_some_iff.1 hg).1⟩
theorem owns_cap {w : World} {base e sz n g c : Nat} {xs : List Value} (h : w.ownsRow base e sz (.slice (some ⟨g, 0, none⟩) n c) n xs) : n ≤ c ∧ c ≤ maxLen := by
  rcases h.2 with ⟨h', _⟩ | ⟨g', cap', cur, h', _, _, h1, h2, _⟩
  · simp at h'
  · simp only [Value.slice.injEq, Option.some.injEq, Addr.mk.injEq, and_true, true_and] at h'
    obtain ⟨_, rfl⟩ := h'
    exact ⟨h1, h2⟩
theorem step_append_any {P : Program} {ops : Array Oper} {o : Oper} {a : Act} {w : World} {K : Act → World → Prop} {Q : Exit → Act → World → Prop} {E : Prop} (hg : o.guard = none) (s x : Operand) (t : TypeId)
    (ho : o.op = .call { callee := .builtin .append, args := #[s, x], argTypes := #[t, t] })
    (base : Nat) (e : TypeId) (i : TypeInfo) (z : Value) (size bytes : Nat) (ht : P.underlying t = some (.slice e)) (hi : P.info? e = some i) (hz : i.zero = some z)
    (hsize : i.size = size) (hby : i.bytes = bytes) (hzs : z.cells.size = size) (hsz : 0 < size)
    (v : Value) (n : Nat) (xs : List Value) (hs : a.eval s = v) (hown : w.ownsRow base e size v n xs)
    (x' : Value) (m : Nat) (news : List Value) (hx : a.eval x = x') (hsrc : (x' = .slice none 0 0 ∧ m = 0 ∧ news = []) ∨ ∃ ad c, x' = .slice (some ad) m c ∧ news.length = m * size ∧ ∀ j u, news[j]? = some u → w.cell? (ad.add j) = some u)
    (h1 : ∀ u ∈ news, u.oneCell' = true) (h63 : n + m ≤ maxLen) (hbytes : (n + m) * bytes ≤ 140737488355328) (hbase : base ≤ w.heap.size)
    (h : ∀ v' w', w'.ownsRow base e size v' (n + m) (xs ++ news) → w.grownBy w' v.ownBlock → K (a.put o.dst v') w') :
    if Region.wanted o (yielded ops a.tmps) = true then Oper.wp P o a w K Q else E := by
  have hw : Region.wanted o (yielded ops a.tmps) = true := by simp [Region.wanted, hg]
  rw [if_pos hw]
  rcases hsrc with ⟨rfl, rfl, rfl⟩ | ⟨ad, c, rfl, hl, hnews⟩
  · have hrun := run_append_owned_none (P := P) (w := w) base t o.type e i size ht (by rw [hi]) v n xs hown
    unfold Oper.wp
    simp [execOp, ho, resolve, invoke, builtin, hs, hx, hrun, Result.andThen]
    exact h v w (by simpa using hown) (gb_refl _ _)
  · obtain ⟨v', w', hrun, r1, r2, _⟩ := run_append_own (P := P) w base t o.type e i z size bytes ht hi hz hsize hby hzs hsz v n xs hown ad m c news hl hnews h1 h63 hbytes hbase
    unfold Oper.wp
    simp [execOp, ho, resolve, invoke, builtin, hs, hx, hrun, Result.andThen]
    exact h v' w' r1 r2
theorem own_fresh (w : World) (cs : List Value) (t sz : Nat) (h : cs.length = sz) : ((w.alloc (.cells cs.toArray t)).drew).ownsRow w.heap.size t sz (.slice (some ⟨w.heap.size, 0, none⟩) 1 1) 1 cs :=
  ⟨by omega, .inr ⟨w.heap.size, 1, cs.toArray, rfl, Nat.le_refl _, World.alloc_heap_new w _, Nat.le_refl _, by decide, by simp [h], by simpa using List.take_of_length_le (Nat.le_of_eq h)⟩⟩
theorem src_tail {X : World} {base g n c k : Nat} {W : List SpanQ} (h : X.ownsRow base 60 3 (.slice (some ⟨g, 0, none⟩) n c) n (cellsS W)) (hk : k ≤ n) (x' : Value) (hx' : x' = .slice (if c = k then some ⟨g, 0, none⟩ else some ⟨g, k * 3, none⟩) (n - k) (c - k)) :
    (x' = .slice none 0 0 ∧ n - k = 0 ∧ (cellsS W).drop (k * 3) = []) ∨ ∃ ad c, x' = .slice (some ad) (n - k) c ∧ ((cellsS W).drop (k * 3)).length = (n - k) * 3 ∧ ∀ j u, ((cellsS W).drop (k * 3))[j]? = some u → X.cell? (ad.add j) = some u := by
  have hl := h.1
  have hc := (owns_cap h).1
  have hlen : ((cellsS W).drop (k * 3)).length = (n - k) * 3 := by rw [List.length_drop, hl]; omega
  refine .inr ?_
  by_cases e : c = k
  · rw [if_pos e] at hx'
    refine ⟨_, _, hx', hlen, fun j u hu => ?_⟩
    have := (List.getElem?_eq_some_iff.1 hu).1
    omega
  · rw [if_neg e] at hx'
    refine ⟨_, _, hx', hlen, fun j u hu => ?_⟩
    rw [List.getElem?_drop] at hu
    have := h.cells rfl (k * 3 + j) u hu
    rw [Addr.add_lit] at this ⊢
    rwa [Nat.zero_add] at this
theorem cellsS_one (W : List SpanQ) : ∀ u ∈ cellsS W, u.oneCell' = true := by
  intro u hu
  unfold cellsS at hu
  obtain ⟨s, _, hs⟩ := List.mem_flatMap.1 hu
  exact span_one _ _ _ u hs
theorem owns_low {w : World} {base base' e sz n : Nat} {v : Value} {xs : List Value} (h : w.ownsRow base e sz v n xs) (hb : base' ≤ base) : w.ownsRow base' e sz v n xs :=
  ⟨h.1, h.2.imp id fun ⟨g, cap, cur, hv, hg, r⟩ => ⟨g, cap, cur, hv, Nat.le_trans hb hg, r⟩⟩
theorem cells_ins (W : List SpanQ) (k i : Nat) (lo hi : Rat) : cellsS (W.take k ++ (i, lo, hi) :: W.drop k) = (cellsS W).take (k * 3) ++ ([.int .i64 (i : Int), .string (RS lo), .string (RS hi)] ++ (cellsS W).drop (k * 3)) := by
  have h1 : ∀ (W : List SpanQ) (k : Nat), cellsS (W.take k) = (cellsS W).take (k * 3) ∧ cellsS (W.drop k) = (cellsS W).drop (k * 3) := by
    intro W
    induction W with
    | nil => intro k; simp [cellsS]
    | cons s W ih =>
      intro k
      have hc : cellsS (s :: W) = .int .i64 (s.1 : Int) :: .string (RS s.2.1) :: .string (RS s.2.2) :: cellsS W := rfl
      cases k with
      | zero => simp [cellsS]
      | succ k =>
        rw [List.take_succ_cons, List.drop_succ_cons, show (k + 1) * 3 = k * 3 + 1 + 1 + 1 by omega, hc, List.take_succ_cons, List.take_succ_cons, List.take_succ_cons, List.drop_succ_cons, List.drop_succ_cons, List.drop_succ_cons, ← (ih k).1, ← (ih k).2]
        exact ⟨rfl, rfl⟩
  have h2 : cellsS (W.take k ++ (i, lo, hi) :: W.drop k) = cellsS (W.take k) ++ (cellS (i, lo, hi) ++ cellsS (W.drop k)) := by unfold cellsS; rw [List.flatMap_append, List.flatMap_cons]
  rw [h2, (h1 W k).1, (h1 W k).2]
  rfl
theorem ins_kept {X w' : World} {b0 g n c B : Nat} {e : Nat} {L : List Value} (h : X.ownsRow b0 e 3 (.slice (some ⟨g, 0, none⟩) n c) n L) (hg : g < B) (hgr : X.grownBy w' (Value.slice (some ⟨B, 0, none⟩) 1 1).ownBlock) : w'.ownsRow b0 e 3 (.slice (some ⟨g, 0, none⟩) n c) n L :=
  h.kept hgr (.inr (fun e => by have e2 : g = B := by simpa [Value.ownBlock] using e
                                omega))
theorem ins_below {o X w' : World} {B : Nat} (h : Below o.heap.size o X) (hB : o.heap.size ≤ B) (hgr : X.grownBy w' (Value.slice (some ⟨B, 0, none⟩) 1 1).ownBlock) : Below o.heap.size o w' :=
  h.grown hgr h.size (fun j e => by have e2 : B = j := by simpa [Value.ownBlock] using e
                                    omega)
theorem ins_olds {w' : World} {b0 g n c e k : Nat} {L : List Value} (h : w'.ownsRow b0 e 3 (.slice (some ⟨g, 0, none⟩) n c) n L) : ∀ b, some (⟨g, 0, none⟩ : Addr) = some b → ∀ j u, (L.take k)[j]? = some u → w'.cell? (b.add j) = some u := fun b e j u hj => by
  cases e
  rw [List.getElem?_take] at hj
  split at hj
  · exact h.cells rfl j u hj
  · cases hj
theorem allQ_none : errNum (allQ [⟨#[]⟩, ⟨#[48]⟩]) = 2 := by decide +kernel

set_option maxHeartbeats 8000000 in
set_option maxRecDepth 100000 in
theorem ma_diff (w : World) (kz s0 s1 : Int) (half : Bool) (x0 x1 y0 y1 : Int) (hk0 : 0 ≤ kz) (hk1 : kz ≤ 255) (hs0 : -128 ≤ s0 ∧ s0 ≤ 127) (hs1 : -128 ≤ s1 ∧ s1 ≤ 127)
    (hx0 : -128 ≤ x0 ∧ x0 ≤ 127) (hx1 : -128 ≤ x1 ∧ x1 ≤ 127) (hy0 : -128 ≤ y0 ∧ y0 ≤ 127) (hy1 : -128 ≤ y1 ∧ y1 ≤ 127) (hab0 : (placeB 2 s0 half x0, placeB 2 s1 half x1) ≠ (placeB 2 s0 half y0, placeB 2 s1 half y1)) (hg : Good w) :
    Calls Tryz.prog 4 #[.agg #[.int .u8 kz, .int .i8 s0, .int .i8 s1, .bool half], .agg #[.int .i8 x0, .int .i8 x1], .agg #[.int .i8 y0, .int .i8 y1]] w (Ret (fun r _ => r = .bool true) w) := by
  obtain ⟨k, hk⟩ : ∃ k : Nat, kz.tmod 8 = (k : Int) := ⟨(kz.tmod 8).toNat, by have := Int.tmod_nonneg 8 hk0; omega⟩
  have HMK := Lib.hid fun w hg => make12_any w kz s0 s1 half k hk hk0 hk1 hs0 hs1 hg
  have HPL := Lib.hid fun w hg => place2_any w kz s0 s1 half x0 x1 hs0 hs1 hx0 hx1 hg
  have HPM := Lib.hid fun w hg => place2_any w kz s0 s1 half y0 y1 hs0 hs1 hy0 hy1 hg
  have hM := sheet_ok k s0 s1 half
  have hT4 : (shapeT k).length ≤ 6 := by unfold shapeT; split <;> decide
  obtain ⟨a, ha⟩ : ∃ p : PtQ, p = (placeB 2 s0 half x0, placeB 2 s1 half x1) := ⟨_, rfl⟩
  obtain ⟨b, hb⟩ : ∃ p : PtQ, p = (placeB 2 s0 half y0, placeB 2 s1 half y1) := ⟨_, rfl⟩
  have za : SzP 3 a := by rw [ha]; exact ⟨placeB_Sz 2 (by omega) (by omega) _ _ _ hx0, placeB_Sz 2 (by omega) (by omega) _ _ _ hx1⟩
  have zb : SzP 3 b := by rw [hb]; exact ⟨placeB_Sz 2 (by omega) (by omega) _ _ _ hy0, placeB_Sz 2 (by omega) (by omega) _ _ _ hy1⟩
  rw [show placeB 2 s0 half x0 = a.1 by rw [ha], show placeB 2 s1 half x1 = a.2 by rw [ha]] at HPL
  rw [show placeB 2 s0 half y0 = b.1 by rw [hb], show placeB 2 s1 half y1 = b.2 by rw [hb]] at HPM
  have hab : a ≠ b := by rw [ha, hb]; exact hab0
  have HSA : Hid (alongL (sheetP k s0 s1 half) (shapeT k) a b = wantL (spansN (sheetP k s0 s1 half) (shapeT k) a b (shapeT k).length)) := sheet_along k s0 s1 half hab
  generalize sheetP k s0 s1 half = P at *
  generalize shapeT k = T at *
  have HM := Lib.hid hM
  have HZA := Lib.hid za
  have HZB := Lib.hid zb
  have HAL : Hid (∀ (w : World) (vp vt : Value), RdP w vp (strP P) → RdT w vt T → Good w → _) := fun w vp vt hp ht hg => along_ok w vp vt P T 2 3 hp ht HM.out (by omega) (by omega) hT4 a b HZA.out HZB.out hab hg
  obtain ⟨i0, hi, hz0, hz1, hz2⟩ := info_parts info_Span
  have HTP := Lib.hid ((two_pts a b).resolve_left (fun e => hab e.1)).2
  have HCO : Hid (∀ (i : Nat) (tr : Tri), T[i]? = some tr → ∀ (w : World) (vp vt : Value), RdP w vp (strP P) → RdT w vt T → Calls Tryz.prog 27 #[.agg #[vp, vt], .int .i64 (i : Int)] w (Ret (fun r _ => r = .agg #[.string (RS (ptI P tr.1).1), .string (RS (ptI P tr.1).2), .string (RS (ptI P tr.2.1).1), .string (RS (ptI P tr.2.1).2), .string (RS (ptI P tr.2.2).1), .string (RS (ptI P tr.2.2).2)]) w)) := fun i tr hti w vp vt hp ht => by
    obtain ⟨h1, h2⟩ := List.getElem?_eq_some_iff.1 hti
    exact lcorners_any w vp vt P T 2 hp ht HM.out.toMeshIn i (i : Int) rfl h1 tr h2.symm
  have HCL : Hid (∀ (i : Nat) (tr : Tri), T[i]? = some tr → ∀ w, Good w → Calls Tryz.prog 26 #[.agg #[.string (RS (ptI P tr.1).1), .string (RS (ptI P tr.1).2), .string (RS (ptI P tr.2.1).1), .string (RS (ptI P tr.2.1).2), .string (RS (ptI P tr.2.2).1), .string (RS (ptI P tr.2.2).2)], .agg #[.string (RS a.1), .string (RS a.2)], .agg #[.string (RS b.1), .string (RS b.2)]] w (Ret (fun r _ => WithinP (withinF (ptI P tr.1) (ptI P tr.2.1) (ptI P tr.2.2) a b) r) w)) := fun i tr hti w hg => by
    obtain ⟨z0, z1, z2⟩ := ptI_SzP HM.out (List.mem_of_getElem? hti)
    exact lclip_any _ _ _ a b 3 (by omega) (by omega) ⟨z0.1.mono (by omega), z0.2.mono (by omega)⟩ ⟨z1.1.mono (by omega), z1.2.mono (by omega)⟩ ⟨z2.1.mono (by omega), z2.2.mono (by omega)⟩ HZA.out HZB.out w hg
  obtain ⟨WN, hWN⟩ : ∃ WN : Nat → List SpanQ, WN = fun i => wantL (spansN P T a b i) := ⟨_, rfl⟩
  have HWZ : Hid (∀ i, ∀ s ∈ WN i, Sz 200 s.2.1 ∧ Sz 200 s.2.2) := by rw [hWN]; exact fun i s hs => spansN_Sz HM.out (by omega) (by omega) HZA.out HZB.out i s (wantL_sub hs)
  have HWL : Hid (∀ i, (WN i).length ≤ i) := by rw [hWN]; exact fun i => Nat.le_trans (wantL_len _) (spansN_le P T a b i)
  have HWE : Hid (∀ (i : Nat) (tr : Tri), T[i]? = some tr → withinF (ptI P tr.1) (ptI P tr.2.1) (ptI P tr.2.2) a b = none → WN (i + 1) = WN i) := by
    rw [hWN]
    intro i tr hti hl
    dsimp only
    rw [spansN_succ, spanAt_none hti hl, List.append_nil]
  have HWS : Hid (∀ (i : Nat) (tr : Tri), T[i]? = some tr → ∀ l, withinF (ptI P tr.1) (ptI P tr.2.1) (ptI P tr.2.2) a b = some l → WN (i + 1) = wantS (WN i) (i, l.1, l.2)) := by
    rw [hWN]
    intro i tr hti l hl
    dsimp only
    rw [spansN_succ, spanAt_some hti hl, wantL_snoc]
  have HW0 : Hid (WN 0 = []) := by rw [hWN]; rfl
  rw [HSA.out, show wantL (spansN P T a b T.length) = WN T.length by rw [hWN]] at HAL
  clear hWN HSA hab hab0
  have HAN : Hid (∀ (w : World) (vp vt : Value), RdP w vp (strP P) → RdT w vt T → Good w → _) := fun w vp vt hp ht hg => along_number w vp vt P T 2 3 hp ht HM.out (by omega) (by omega) a HZA.out ⟨#[]⟩ ⟨#[48]⟩ (by decide) (by decide) allQ_none hg
  have hn8 : T.length ≤ 6 := hT4
  clear hk hk0 hk1 hs0 hs1 hx0 hx1 hy0 hy1 hM za zb hT4 ha hb
  go_enter Tryz.func4, Tryz.ntmps4
  go_wp2_with fail
  obtain ⟨W, hW⟩ : ∃ W, W = ((w.alloc (.cells #[.int .u8 kz, .int .i8 s0, .int .i8 s1, .bool half] 49)).alloc (.cells #[.int .i8 x0, .int .i8 x1] 47)).alloc (.cells #[.int .i8 y0, .int .i8 y1] 47) := ⟨_, rfl⟩
  have hB : Below w.heap.size w W := by rw [hW]; exact (((Below.refl _ _).alloc (Nat.le_refl _) _).alloc (by simp) _).alloc (by simp; omega) _
  have b5 : BoxN W (w.heap.size + 1 + 1) 47 [.int .i8 y0, .int .i8 y1] := by rw [hW]; exact BoxN.new _ _ _ _ (by simp)
  have b4 : BoxN W (w.heap.size + 1) 47 [.int .i8 x0, .int .i8 x1] := by
    rw [hW]
    have h1 := (BoxN.new (w.alloc (.cells #[.int .u8 kz, .int .i8 s0, .int .i8 s1, .bool half] 49)) #[.int .i8 x0, .int .i8 x1] 47 (w.heap.size + 1) (by simp))
    exact h1.below ((Below.refl _ _).alloc (Nat.le_refl _) _) h1.lt
  have b3 : BoxN W w.heap.size 49 [.int .u8 kz, .int .i8 s0, .int .i8 s1, .bool half] := by
    rw [hW]
    have h1 := (BoxN.new w #[.int .u8 kz, .int .i8 s0, .int .i8 s1, .bool half] 49 _ rfl)
    exact h1.below (((Below.refl _ _).alloc (Nat.le_refl _) _).alloc (by simp) _) h1.lt
  rw [← hW]
  clear hW
  refine (known12_any W (hg.below hB)).mono ?_
  rintro e o1 ⟨_, rfl, rfl, hb1⟩
  have hB1 := hB.trans (hb1.mono hB.size)
  have b51 := b5.below hb1 b5.lt
  have b41 := b4.below hb1 b4.lt
  have b31 := b3.below hb1 b3.lt
  clear hb1 hB b5 b4 b3
  have k0 := b31.cell 0 rfl
  have k1 := b31.cell 1 rfl
  have k2 := b31.cell 2 rfl
  have k3 := b31.cell 3 rfl
  go_wp2_with fail
  refine (HMK.out o1 (hg.below hB1)).mono ?_
  rintro e o2 ⟨_, rfl, ⟨vp, vt, rfl, hp, ht⟩, hb2⟩
  have hB2 := hB1.trans (hb2.mono hB1.size)
  have b52 := b51.below hb2 b51.lt
  have b42 := b41.below hb2 b41.lt
  have b32 := b31.below hb2 b31.lt
  obtain ⟨pp, cp, rfl, -, -, -⟩ := hp.open
  obtain ⟨pt, ct, rfl, -, -, -⟩ := ht.open
  rw [strP_length] at *
  have HPP := Lib.hid hp
  have HTT := Lib.hid ht
  clear hb2 hB1 b51 b41 b31 hp ht k0 k1 k2 k3
  obtain ⟨o3, ho3⟩ : ∃ W, W = o2.alloc (.cells #[.slice pp P.length cp, .slice pt T.length ct] 34) := ⟨_, rfl⟩
  have hb3 : Below o2.heap.size o2 o3 := by rw [ho3]; exact (Below.refl _ _).alloc (Nat.le_refl _) _
  have b7 : BoxN o3 o2.heap.size 34 [.slice pp P.length cp, .slice pt T.length ct] := by rw [ho3]; exact BoxN.new _ _ _ _ rfl
  have hB3 := hB2.trans (hb3.mono hB2.size)
  have b53 := b52.below hb3 b52.lt
  have b43 := b42.below hb3 b42.lt
  have b33 := b32.below hb3 b32.lt
  go_upto_region 4 with fail
  rw [← ho3]
  clear ho3 b52 b42 b32 hB2
  have k0 := b33.cell 0 rfl
  have k1 := b33.cell 1 rfl
  have k2 := b33.cell 2 rfl
  have k3 := b33.cell 3 rfl
  have i0 := b43.cell 0 rfl
  have i1 := b43.cell 1 rfl
  have j0 := b53.cell 0 rfl
  have j1 := b53.cell 1 rfl
  have hg3 := hg.below hB3
  have hl3 := b33.lt
  have hl4 := b43.lt
  have hl5 := b53.lt
  go_cut [8, 9] (fun s8 s9 wx => ∃ b8 b9 : Nat, s8 = .pointer (some ⟨b8, 0, none⟩) ∧ s9 = .pointer (some ⟨b9, 0, none⟩) ∧ TwoP wx b8 b9 a b ∧ Below o3.heap.size o3 wx)
  case first =>
    have q0 : Below o3.heap.size o3 o3.drew := below_drewN o3 1
    have g0 : Good o3.drew := hg3.drewN 1
    have HS : Hid (∀ w', Below o3.heap.size o3 w' → (w'.cell? ⟨w.heap.size, 0, none⟩ = some (.int .u8 kz) ∧ w'.cell? ⟨w.heap.size, 1, none⟩ = some (.int .i8 s0) ∧ w'.cell? ⟨w.heap.size, 2, none⟩ = some (.int .i8 s1) ∧ w'.cell? ⟨w.heap.size, 3, none⟩ = some (.bool half)) ∧
        (w'.cell? ⟨w.heap.size + 1, 0, none⟩ = some (.int .i8 x0) ∧ w'.cell? ⟨w.heap.size + 1, 1, none⟩ = some (.int .i8 x1)) ∧ w'.cell? ⟨w.heap.size + 1 + 1, 0, none⟩ = some (.int .i8 y0) ∧ w'.cell? ⟨w.heap.size + 1 + 1, 1, none⟩ = some (.int .i8 y1)) := fun w' hb =>
      ⟨⟨(hb.cell (p := ⟨w.heap.size, 0, none⟩) hl3).trans k0, (hb.cell (p := ⟨w.heap.size, 1, none⟩) hl3).trans k1, (hb.cell (p := ⟨w.heap.size, 2, none⟩) hl3).trans k2, (hb.cell (p := ⟨w.heap.size, 3, none⟩) hl3).trans k3⟩, ⟨(hb.cell (p := ⟨w.heap.size + 1, 0, none⟩) hl4).trans i0, (hb.cell (p := ⟨w.heap.size + 1, 1, none⟩) hl4).trans i1⟩, (hb.cell (p := ⟨w.heap.size + 1 + 1, 0, none⟩) hl5).trans j0, (hb.cell (p := ⟨w.heap.size + 1 + 1, 1, none⟩) hl5).trans j1⟩
    go_region_held3 (fun w' => (w'.cell? ⟨w.heap.size, 0, none⟩ = some (.int .u8 kz) ∧ w'.cell? ⟨w.heap.size, 1, none⟩ = some (.int .i8 s0) ∧ w'.cell? ⟨w.heap.size, 2, none⟩ = some (.int .i8 s1) ∧ w'.cell? ⟨w.heap.size, 3, none⟩ = some (.bool half)) ∧
        (w'.cell? ⟨w.heap.size + 1, 0, none⟩ = some (.int .i8 x0) ∧ w'.cell? ⟨w.heap.size + 1, 1, none⟩ = some (.int .i8 x1)) ∧ w'.cell? ⟨w.heap.size + 1 + 1, 0, none⟩ = some (.int .i8 y0) ∧ w'.cell? ⟨w.heap.size + 1 + 1, 1, none⟩ = some (.int .i8 y1))
      ((refine HS.out _ ?_; repeat (first | with_reducible exact q2 | with_reducible exact q1 | with_reducible exact q0 | with_reducible exact Below.refl _ _ | with_reducible refine Below.drew ?_ | ((with_reducible refine Below.setCell ?_ ?_ _); rotate_left; (first | omega | (simp <;> omega))) | ((with_reducible refine Below.alloc ?_ ?_ _); rotate_left; (first | exact Nat.le_refl _ | omega | (simp <;> omega))))))
      (first
        | ((with_reducible refine Calls.mono (HPM.out _ ?_) ?_); (focus refine hg3.below ?_; repeat (first | with_reducible exact q2 | with_reducible exact q1 | with_reducible exact q0 | with_reducible exact Below.refl _ _ | with_reducible refine Below.drew ?_ | ((with_reducible refine Below.setCell ?_ ?_ _); rotate_left; (first | omega | (simp <;> omega))) | ((with_reducible refine Below.alloc ?_ ?_ _); rotate_left; (first | exact Nat.le_refl _ | omega | (simp <;> omega))))); rintro e z2 ⟨_, rfl, rfl, hy2⟩
           have q2 : Below o3.heap.size o3 z2 := (by refine Below.trans ?_ (hy2.mono ?_); rotate_left; (first | exact Nat.le_refl _ | omega | (simp <;> omega)); repeat (first | with_reducible exact q2 | with_reducible exact q1 | with_reducible exact q0 | with_reducible exact Below.refl _ _ | with_reducible refine Below.drew ?_ | ((with_reducible refine Below.setCell ?_ ?_ _); rotate_left; (first | omega | (simp <;> omega))) | ((with_reducible refine Below.alloc ?_ ?_ _); rotate_left; (first | exact Nat.le_refl _ | omega | (simp <;> omega)))))
           have sz2 := q2.size
           have p2 : Below z1.heap.size z1 z2 := (by refine Below.trans ?_ (hy2.mono ?_); rotate_left; (first | exact Nat.le_refl _ | omega | (simp <;> omega)); repeat (first | with_reducible exact q2 | with_reducible exact q1 | with_reducible exact q0 | with_reducible exact Below.refl _ _ | with_reducible refine Below.drew ?_ | ((with_reducible refine Below.setCell ?_ ?_ _); rotate_left; (first | omega | (simp <;> omega))) | ((with_reducible refine Below.alloc ?_ ?_ _); rotate_left; (first | exact Nat.le_refl _ | omega | (simp <;> omega)))))
           have sz12 := p2.size
           (try have H8 := Lib.hid (E8.out.below p2 E8.out.lt))
           (try have H9 := Lib.hid (E9.out.below p2 E9.out.lt))
           (first | (have D := zb2 hy2; have D8 := Lib.hid D.1; have D9 := Lib.hid D.2; clear D) | (have D8 := Lib.hid (zb1 hy2)) | skip)
           (first | (have H8f := BoxF.of H8.out; obtain ⟨u1, u2, u3, u4, u5⟩ := H8f) | skip)
           (first | (have H9f := BoxF.of H9.out; obtain ⟨u6, u7, u8, u9, u10⟩ := H9f) | skip)
           (first | (have D8f := BoxF.of D8.out; obtain ⟨v1, v2, v3, v4, v5⟩ := D8f) | skip)
           (first | (have D9f := BoxF.of D9.out; obtain ⟨v6, v7, v8, v9, v10⟩ := D9f) | skip)
           (try have n1 := Nat.ne_of_lt E8.out.lt)
           (try have n2 := n1.symm)
           (try have n3 := Nat.ne_of_lt E9.out.lt)
           (try have n4 := n3.symm)
           (try have n5 := Nat.ne_of_lt u5)
           (try have n6 := n5.symm)
           (try have n7 := Nat.ne_of_lt u10)
           (try have n8 := n7.symm)
           (try have n9 := Nat.ne_of_lt v5)
           (try have n10 := n9.symm)
           (try have n11 := Nat.ne_of_lt v10)
           (try have n12 := n11.symm))
        | ((with_reducible refine Calls.mono (HPL.out _ ?_) ?_); (focus refine hg3.below ?_; repeat (first | with_reducible exact q2 | with_reducible exact q1 | with_reducible exact q0 | with_reducible exact Below.refl _ _ | with_reducible refine Below.drew ?_ | ((with_reducible refine Below.setCell ?_ ?_ _); rotate_left; (first | omega | (simp <;> omega))) | ((with_reducible refine Below.alloc ?_ ?_ _); rotate_left; (first | exact Nat.le_refl _ | omega | (simp <;> omega))))); rintro e z1 ⟨_, rfl, rfl, hy1⟩
           have q1 : Below o3.heap.size o3 z1 := (by refine Below.trans ?_ (hy1.mono ?_); rotate_left; (first | exact Nat.le_refl _ | omega | (simp <;> omega)); repeat (first | with_reducible exact q2 | with_reducible exact q1 | with_reducible exact q0 | with_reducible exact Below.refl _ _ | with_reducible refine Below.drew ?_ | ((with_reducible refine Below.setCell ?_ ?_ _); rotate_left; (first | omega | (simp <;> omega))) | ((with_reducible refine Below.alloc ?_ ?_ _); rotate_left; (first | exact Nat.le_refl _ | omega | (simp <;> omega)))))
           have sz1 := q1.size
           (first | (have D := zb2d hy1; have E8 := Lib.hid D.1; have E9 := Lib.hid D.2; clear D) | (have E8 := Lib.hid (zb1d hy1)) | skip)))
    all_goals
      go_wp2_with fail
      go_meet
      refine ⟨_, _, rfl, rfl, ⟨?_, ?_⟩, ?_⟩
      · repeat (first | with_reducible exact H8.out | with_reducible exact H9.out | with_reducible exact D8.out | with_reducible exact D9.out | with_reducible refine box_set2 ?_ | ((with_reducible refine box_far2 ?_ ?_); rotate_left; (first | assumption | omega)) | ((with_reducible refine box_newE _ _ _ _ _ ?_); (first | rfl | (simp <;> omega))) | with_reducible refine BoxN.alloc ?_ _)
      · repeat (first | with_reducible exact H8.out | with_reducible exact H9.out | with_reducible exact D8.out | with_reducible exact D9.out | with_reducible refine box_set2 ?_ | ((with_reducible refine box_far2 ?_ ?_); rotate_left; (first | assumption | omega)) | ((with_reducible refine box_newE _ _ _ _ _ ?_); (first | rfl | (simp <;> omega))) | with_reducible refine BoxN.alloc ?_ _)
      · repeat (first | with_reducible exact q2 | with_reducible exact q1 | with_reducible exact q0 | with_reducible exact Below.refl _ _ | with_reducible refine Below.drew ?_ | ((with_reducible refine Below.setCell ?_ ?_ _); rotate_left; (first | omega | (simp <;> omega))) | ((with_reducible refine Below.alloc ?_ ?_ _); rotate_left; (first | exact Nat.le_refl _ | omega | (simp <;> omega))))
  case rest =>
    obtain ⟨b8, b9, rfl, rfl, hTW, hb4⟩ := hcut
    have hB4 := hB3.trans (hb4.mono hB3.size)
    have h24 : Below o2.heap.size o2 wc := hb3.trans (hb4.mono hb3.size)
    have b74 := b7.below hb4 b7.lt
    have m0 := b74.cell 0 rfl
    have m1 := b74.cell 1 rfl
    have p0 := hTW.1.cell 0 rfl
    have p1 := hTW.1.cell 1 rfl
    have r0 := hTW.2.cell 0 rfl
    have r1 := hTW.2.cell 1 rfl
    clear k0 k1 k2 k3 i0 i1 j0 j1 b33 b43 b53 b7 hb3 hb4 hB3 hg3 hl3 hl4 hl5 HPL HPM HMK
    go_wp2_with fail
    refine (HAL.out wc _ _ (RdC.below HPP.out h24) (RdC.below HTT.out h24) (hg.below hB4)).mono ?_
    rintro e o5 ⟨_, rfl, ⟨vl, rfl, hl⟩, hb5⟩
    have hB5 := hB4.trans (hb5.mono hB4.size)
    have h25 := h24.trans (hb5.mono h24.size)
    have b75 := b74.below hb5 b74.lt
    have hTW5 := hTW.below hb5
    have hl5 : Hid (RdSp o5 vl (WN T.length)) := hl
    clear m0 m1 p0 p1 r0 r1 b74 hTW hb5 hB4 h24 HAL hl
    have m0 := b75.cell 0 rfl
    have m1 := b75.cell 1 rfl
    have p0 := hTW5.1.cell 0 rfl
    have p1 := hTW5.1.cell 1 rfl
    go_wp2_with fail
    refine (HAN.out o5 _ _ (RdC.below HPP.out h25) (RdC.below HTT.out h25) (hg.below hB5)).mono ?_
    rintro e o6 ⟨_, rfl, rfl, hb6⟩
    have hB6 := hB5.trans (hb6.mono hB5.size)
    have h26 := h25.trans (hb6.mono h25.size)
    have b76 := b75.below hb6 b75.lt
    have hTW6 := hTW5.below hb6
    have hl6 : Hid (RdSp o6 vl (WN T.length)) := RdC.below hl5.out hb6
    clear m0 m1 p0 p1 b75 hTW5 hb6 hB5 h25 HAN hl5
    have p0 := hTW6.1.cell 0 rfl
    have p1 := hTW6.1.cell 1 rfl
    have r0 := hTW6.2.cell 0 rfl
    have r1 := hTW6.2.cell 1 rfl
    go_upto_region 9 with fail
    go_cut [55] (fun s55 wx => s55 = .bool false ∧ wx = o6)
    case first =>
      rcases HTP.out with h1 | ⟨h1, h2⟩
      all_goals
        go_wp2_with fail
        go_meet
        exact ⟨rfl, rfl⟩
    case rest =>
      obtain ⟨rfl, hwc⟩ := hcut
      rw [hwc]
      clear hwc p0 p1 r0 r1
      go_wp2_with fail
      go_loopw [14, 15] (fun t14 t15 wr => ∃ (i n : Nat), t15 = .int .i64 i ∧ i ≤ T.length ∧ Hid (n = (WN i).length) ∧ n ≤ i ∧ (n = 0 → t14 = .slice none 0 0) ∧ wr.ownsRow o6.heap.size 60 3 t14 n (cellsS (WN i)) ∧ Below o6.heap.size o6 wr) (fun _ t15 _ => T.length - (RowKit.intOf t15).toNat)
      case atStart => exact ⟨0, 0, rfl, Nat.zero_le _, (by unfold Hid; rw [HW0.out]; rfl), Nat.le_refl _, fun _ => rfl, by rw [HW0.out]; exact World.ownsRow_nil _ _ _ _, Below.refl _ _⟩
      case round =>
        obtain ⟨i, n, rfl, hiT, HN, hni, hnil, hown, hbr⟩ := hrel
        have hbW := hB6.trans (hbr.mono hB6.size)
        have hbr2 := h26.trans (hbr.mono h26.size)
        have b7r := b76.below hbr b76.lt
        have hTr := hTW6.below hbr
        rcases Nat.lt_or_ge i T.length with h | h
        · obtain ⟨tr, htr⟩ : ∃ tr, T[i]? = some tr := ⟨_, List.getElem?_eq_getElem h⟩
          have HC := Lib.hid (HCO.out i tr htr)
          have HK := Lib.hid (HCL.out i tr htr)
          have HE := Lib.hid (HWE.out i tr htr)
          have HS := Lib.hid (HWS.out i tr htr)
          generalize ptI P tr.1 = c0 at *
          generalize ptI P tr.2.1 = c1 at *
          generalize ptI P tr.2.2 = c2 at *
          generalize withinF c0 c1 c2 a b = l at *
          have hiz : (i : Int) < (T.length : Int) := by omega
          have m0 := b7r.cell 0 rfl
          have m1 := b7r.cell 1 rfl
          have p0 := hTr.1.cell 0 rfl
          have p1 := hTr.1.cell 1 rfl
          have r0 := hTr.2.cell 0 rfl
          have r1 := hTr.2.cell 1 rfl
          have hl7 := b7r.lt
          have hl8 := hTr.1.lt
          have hl9 := hTr.2.lt
          have hgd : Good wr.drew := (hg.below hbW).drewN 1
          have hbd : Below o2.heap.size o2 wr.drew := hbr2.trans ((below_drewN wr 1).mono hbr2.size)
          clear htr
          go_upto_region 15 with fail
          go_region_held3 (fun w' => w'.cell? ⟨o2.heap.size, 0, none⟩ = some (.slice pp P.length cp) ∧ w'.cell? ⟨o2.heap.size, 1, none⟩ = some (.slice pt T.length ct) ∧ w'.cell? ⟨b8, 0, none⟩ = some (.string (RS a.1)) ∧ w'.cell? ⟨b8, 1, none⟩ = some (.string (RS a.2)) ∧ w'.cell? ⟨b9, 0, none⟩ = some (.string (RS b.1)) ∧ w'.cell? ⟨b9, 1, none⟩ = some (.string (RS b.2)))
            (first | exact ⟨m0, m1, p0, p1, r0, r1⟩ | exact ⟨p_1_0, p_1_1, p_1_2, p_1_3, p_1_4, p_1_5⟩ | exact ⟨p_2_0, p_2_1, p_2_2, p_2_3, p_2_4, p_2_5⟩)
            (first
            | (go_at_call 26; refine (HK.out _ pg1).mono ?_; rintro e pw2 ⟨_, rfl, ⟨xs, ys, rfl, hwf⟩, pb2⟩
               have p_2_0 := (pb2.cell (p := ⟨o2.heap.size, 0, none⟩) (by show o2.heap.size < pw1.heap.size; omega)).trans p_1_0
               have p_2_1 := (pb2.cell (p := ⟨o2.heap.size, 1, none⟩) (by show o2.heap.size < pw1.heap.size; omega)).trans p_1_1
               have p_2_2 := (pb2.cell (p := ⟨b8, 0, none⟩) (by show b8 < pw1.heap.size; omega)).trans p_1_2
               have p_2_3 := (pb2.cell (p := ⟨b8, 1, none⟩) (by show b8 < pw1.heap.size; omega)).trans p_1_3
               have p_2_4 := (pb2.cell (p := ⟨b9, 0, none⟩) (by show b9 < pw1.heap.size; omega)).trans p_1_4
               have p_2_5 := (pb2.cell (p := ⟨b9, 1, none⟩) (by show b9 < pw1.heap.size; omega)).trans p_1_5
               have ps2 : pw1.heap.size ≤ pw2.heap.size := pb2.size
               have pg2 : Good pw2 := pg1.below pb2)
            | (go_at_call 27; refine (HC.out wr.drew _ _ (RdC.below HPP.out hbd) (RdC.below HTT.out hbd)).mono ?_; rintro e pw1 ⟨_, rfl, rfl, pb1⟩
               have p_1_0 := (pb1.cell (p := ⟨o2.heap.size, 0, none⟩) (by show o2.heap.size < wr.heap.size; omega)).trans m0
               have p_1_1 := (pb1.cell (p := ⟨o2.heap.size, 1, none⟩) (by show o2.heap.size < wr.heap.size; omega)).trans m1
               have p_1_2 := (pb1.cell (p := ⟨b8, 0, none⟩) (by show b8 < wr.heap.size; omega)).trans p0
               have p_1_3 := (pb1.cell (p := ⟨b8, 1, none⟩) (by show b8 < wr.heap.size; omega)).trans p1
               have p_1_4 := (pb1.cell (p := ⟨b9, 0, none⟩) (by show b9 < wr.heap.size; omega)).trans r0
               have p_1_5 := (pb1.cell (p := ⟨b9, 1, none⟩) (by show b9 < wr.heap.size; omega)).trans r1
               have ps1 : wr.heap.size ≤ pw1.heap.size := pb1.size
               have pg1 : Good pw1 := hgd.below pb1))
          have pB : Below wr.heap.size wr pw2 := (((below_drewN wr 1).trans (pb1.mono (by show wr.heap.size ≤ wr.heap.size; omega))).trans (pb2.mono (by show wr.heap.size ≤ pw1.heap.size; omega)))
          have hbp : Below o6.heap.size o6 pw2 := hbr.trans (pB.mono hbr.size)
          have hownp := World.ownsRow.belowAll hown pB
          have HWF := Lib.hid hwf
          clear hwf hown pB b7r m0 m1 p0 p1 r0 r1 hgd hbd hTr HC HK hbr2 hbW hbr
          rcases l with _ | ⟨lo, hi'⟩
          · have HAE1 := Lib.hid (HE.out rfl)
            clear HWF HS HE
            go_wp2_with fail
            go_roundw
            case rel => exact ⟨i + 1, n, by go_num, by omega, (by unfold Hid; rw [HAE1.out]; exact HN.out), by omega, hnil, by rw [HAE1.out]; exact hownp, hbp⟩
            case measure =>
              show T.length - ((i : Int) + 1).toNat < T.length - (i : Int).toNat
              omega
          · obtain ⟨ex, ey, zlo, zhi, hlt⟩ := HWF.out _ rfl
            dsimp only at ex ey zlo zhi
            subst ex ey
            have HAS1 := Lib.hid (HS.out _ rfl)
            have HZL := Lib.hid zlo
            clear HWF HS HE zlo zhi hlt
            obtain ⟨Wi, hWi⟩ : ∃ Wi, Wi = WN i := ⟨_, rfl⟩
            have HWI := Lib.hid hWi
            have HWZI : Hid (∀ s ∈ Wi, Sz 200 s.2.1 ∧ Sz 200 s.2.2) := by rw [hWi]; exact HWZ.out i
            rw [← hWi] at HN hownp HAS1
            clear hWi
            obtain ⟨p14, c14, rfl⟩ := ownsRow_shape hownp
            have hn6 : n ≤ 6 := by omega
            go_upto_region 19 with fail
            have hrd : RdSp pw2 (.slice p14 n c14) Wi := by
              have h := RdC.of_owns hownp
              unfold RdSp
              rw [← HN.out]
              exact h
            have HG : Hid (∀ (j : Nat) (s : SpanQ), Wi[j]? = some s → ∃ g off, p14 = some ⟨g, off, none⟩ ∧ g < pw2.heap.size ∧ pw2.cell? ⟨g, off + j * 3 + 1, none⟩ = some (.string (RS s.2.1))) := fun j s hj => by
              obtain ⟨p', c', e1, e2⟩ := hrd.cells
              injection e1 with e1 _ _
              obtain ⟨g, off, e3, e4, e5⟩ := e2 (fun e => by rw [e] at hj; cases hj)
              exact ⟨g, off, e1.trans e3, e4, (e5 j s hj).2.1⟩
            clear hrd
            go_loopw [18, 20] (fun t18 t20 wx => ∃ j : Nat, t20 = .int .i64 j ∧ j ≤ n ∧ t18 = .bool (!hasF (Wi.take j) lo) ∧ wx = pw2) (fun _ t20 _ => n - (RowKit.intOf t20).toNat)
            case atStart => exact ⟨0, rfl, Nat.zero_le _, rfl, rfl⟩
            case round =>
              obtain ⟨j, rfl, hj, rfl, hwx⟩ := hrel
              rw [hwx]
              clear hwx
              rcases Nat.lt_or_ge j n with h2 | h2
              · obtain ⟨s, hs⟩ : ∃ s, Wi[j]? = some s := ⟨_, List.getElem?_eq_getElem (by have := HN.out; omega)⟩
                obtain ⟨g, off, rfl, hgl, hcell⟩ := HG.out j s hs
                have HSC := Lib.hid (hasF_succ (x := lo) hs)
                have hjz : (j : Int) < (n : Int) := by omega
                have hw1 : IntKind.i64.wrap ((j : Int) + 1) = (j : Int) + 1 := IntWalk.i64_in _ (by omega)
                clear hs
                by_cases e : s.2.1 = lo
                · rw [decide_eq_true e, Bool.or_true] at HSC
                  rw [e] at hcell
                  clear e
                  go_wp2_with fail
                  go_roundw
                  case rel => exact ⟨j + 1, by go_num, by omega, by rw [HSC.out]; rfl, trivial⟩
                  case measure => simp [RowKit.intOf]; omega
                · rw [decide_eq_false e, Bool.or_false] at HSC
                  have hne : ¬ (RS s.2.1).toList = (RS lo).toList := fun h => e (RS_toList_inj h)
                  have hne2 : ((RS s.2.1).toList == (RS lo).toList) = false := by simpa using hne
                  clear e
                  go_wp2_with fail
                  go_roundw
                  case rel => exact ⟨j + 1, by go_num, by omega, by rw [HSC.out], trivial⟩
                  case measure => simp [RowKit.intOf]; omega
              · have hjn : ¬ (j : Int) < (n : Int) := by omega
                have HTK : Hid (Wi.take j = Wi) := List.take_of_length_le (by have := HN.out; omega)
                rw [HTK.out]
                clear HTK
                go_upto_block 4 with fail
                go_cut [19] from 97 to 111 (fun s19 wx => ∃ k : Nat, s19 = .int .i64 k ∧ k ≤ n ∧ Hid (k = backK Wi lo n) ∧ Below pw2.heap.size pw2 wx)
                case first =>
                  go_wp2_with fail
                  go_loopw [19] (fun t19 wx => ∃ k : Nat, t19 = .int .i64 k ∧ k ≤ n ∧ Hid (backK Wi lo k = backK Wi lo n) ∧ Below pw2.heap.size pw2 wx) (fun t19 _ => (RowKit.intOf t19).toNat)
                  case atStart => exact ⟨n, rfl, Nat.le_refl _, rfl, Below.refl _ _⟩
                  case round =>
                    obtain ⟨k, rfl, hk, HBK, hbx⟩ := hrel
                    rcases Nat.eq_zero_or_pos k with h3 | h3
                    · subst h3
                      go_wp2_with fail
                      go_meet
                      exact ⟨0, rfl, Nat.zero_le _, HBK.out, hbx⟩
                    · obtain ⟨k', rfl⟩ : ∃ k', k = k' + 1 := ⟨k - 1, by omega⟩
                      obtain ⟨s, hs⟩ : ∃ s, Wi[k']? = some s := ⟨_, List.getElem?_eq_getElem (by have := HN.out; omega)⟩
                      obtain ⟨g, off, rfl, hgl, hcell⟩ := HG.out k' s hs
                      have hcw := (hbx.cell (p := ⟨g, off + k' * 3 + 1, none⟩) hgl).trans hcell
                      have HZS := Lib.hid (HWZI.out s (List.mem_of_getElem? hs)).1
                      have HBS := Lib.hid (backK_step (x := lo) hs)
                      have hgx := hg.below (hB6.trans ((hbp.trans (hbx.mono hbp.size)).mono hB6.size))
                      have hkz : (0 : Int) < (k' : Int) + 1 := by omega
                      have hkw : IntKind.i64.wrap ((k' : Int) + 1 - 1) = (k' : Int) := IntWalk.i64_in _ (by omega) |>.trans (by omega)
                      have hkw2 : IntKind.i64.wrap (k' : Int) = (k' : Int) := IntWalk.i64_in _ (by omega)
                      have hkn : (k' : Int) < (n : Int) := by omega
                      clear hs hcell
                      go_wp2_with fail
                      refine (ratCompare_any s.2.1 lo 200 (by omega) (by omega) HZS.out HZL.out _ hgx).mono ?_
                      rintro e w5 ⟨_, rfl, rfl, hb5⟩
                      have hbx5 := hbx.trans (hb5.mono hbx.size)
                      by_cases hlt : lo < s.2.1
                      · have HBS2 : Hid (backK Wi lo k' = backK Wi lo n) := by
                          have h := HBS.out
                          rw [if_pos hlt] at h
                          exact h.symm.trans HBK.out
                        rw [cmpQ_gt hlt]
                        clear hlt
                        go_wp2_with fail
                        go_roundw
                        case rel => exact ⟨k', by go_num, by omega, HBS2, hbx5⟩
                        case measure => simp [RowKit.intOf]
                      · have HBS2 : Hid (k' + 1 = backK Wi lo n) := by
                          have h := HBS.out
                          rw [if_neg hlt] at h
                          exact h.symm.trans HBK.out
                        obtain ⟨z, hz, hz0⟩ := cmpQ_ngt hlt
                        rw [hz]
                        clear hlt hz
                        go_wp2_with fail
                        go_meet
                        exact ⟨k' + 1, by go_num, hk, HBS2, hbx5⟩
                case rest =>
                  obtain ⟨k, rfl, hkn, HKB, hbk⟩ := hcut
                  have hbk6 := hbp.trans (hbk.mono hbp.size)
                  have hownk := World.ownsRow.belowAll hownp hbk
                  clear hownp hbk hbp HG HZL HWZI
                  cases hF : hasF Wi lo
                  · have HNX : Hid (WN (i + 1) = Wi.take k ++ (i, lo, hi') :: Wi.drop k) := by
                      unfold Hid
                      rw [HAS1.out]
                      unfold wantS
                      rw [if_neg (by rw [hF]; decide)]
                      unfold putS
                      dsimp only
                      rw [← HN.out, ← HKB.out]
                    clear hF HAS1
                    go_upto_region 26 with fail
                    rcases Nat.eq_zero_or_pos n with hn0 | hn0
                    · subst hn0
                      obtain rfl : k = 0 := by omega
                      have e := hnil rfl
                      injection e with e1 _ e3
                      subst e1 e3
                      have HW0' : Hid (Wi = []) := List.length_eq_zero_iff.1 HN.out.symm
                      have HNEW : Hid ((wc.alloc (.cells #[.int .i64 (i : Int), .string (RS lo), .string (RS hi')] 60)).drew.ownsRow wc.heap.size 60 3 (.slice (some ⟨wc.heap.size, 0, none⟩) 1 1) 1 [.int .i64 (i : Int), .string (RS lo), .string (RS hi')]) :=
                        own_fresh wc [.int .i64 (i : Int), .string (RS lo), .string (RS hi')] _ 3 rfl
                      have HXB : Hid (Below o6.heap.size o6 (wc.alloc (.cells #[.int .i64 (i : Int), .string (RS lo), .string (RS hi')] 60)).drew) := (hbk6.alloc hbk6.size _).drew
                      have HWCS := Lib.hid hbk6.size
                      refine AnyL.region (S := Till 13 (fun w' : World => o6.heap.size ≤ w'.heap.size) (fun w' : World => o6.heap.size ≤ w'.heap.size)) (by kernel_rfl) ?_
                      have hHeld : Till 13 (fun w' : World => o6.heap.size ≤ w'.heap.size) (fun w' : World => o6.heap.size ≤ w'.heap.size) (Array.replicate 15 false) _ := ⟨(show o6.heap.size ≤ wc.drew.heap.size from hbk6.size), fun _ => (show o6.heap.size ≤ wc.drew.heap.size from hbk6.size)⟩
                      refine AnyL.take (i := 0) (oi := _) (v := ?_) rfl (by kernel_rfl) (by kernel_rfl) (by kernel_rfl) (by decide) (fun _ _ _ h => h) (Or.inl ⟨by rfl, ?_⟩) ⟨hHeld.1, fun _ => hHeld.2 (by rfl)⟩ ?_
                      rotate_left
                      · intro w hSw; (try dsimp only at hSw); first | (go_simp; done) | (go_simp; with_reducible rfl)
                      try simp only [Act.put, List.getElem_toArray, List.getElem_cons_zero, List.setIfInBounds_toArray, List.set_cons_zero, List.set_cons_succ]
                      refine AnyL.take (i := 1) (oi := _) (v := ?_) rfl (by kernel_rfl) (by kernel_rfl) (by kernel_rfl) (by decide) (fun _ _ _ h => h) (Or.inl ⟨by rfl, ?_⟩) ⟨hHeld.1, fun _ => hHeld.2 (by rfl)⟩ ?_
                      rotate_left
                      · intro w hSw; (try dsimp only at hSw); first | (go_simp; done) | (go_simp; with_reducible rfl)
                      try simp only [Act.put, List.getElem_toArray, List.getElem_cons_zero, List.getElem_cons_succ, List.setIfInBounds_toArray, List.set_cons_zero, List.set_cons_succ]
                      refine AnyL.take (i := 2) (oi := _) (v := ?_) rfl (by kernel_rfl) (by kernel_rfl) (by kernel_rfl) (by decide) (fun _ _ _ h => h) (Or.inl ⟨by rfl, ?_⟩) ⟨hHeld.1, fun _ => hHeld.2 (by rfl)⟩ ?_
                      rotate_left
                      · intro w hSw; (try dsimp only at hSw); first | (go_simp; done) | (go_simp; with_reducible rfl)
                      try simp only [Act.put, List.getElem_toArray, List.getElem_cons_zero, List.getElem_cons_succ, List.setIfInBounds_toArray, List.set_cons_zero, List.set_cons_succ]
                      refine AnyL.take (i := 3) (oi := _) (v := ?_) rfl (by kernel_rfl) (by kernel_rfl) (by kernel_rfl) (by decide) (fun _ _ _ h => h) (Or.inl ⟨by rfl, ?_⟩) ⟨hHeld.1, fun _ => hHeld.2 (by rfl)⟩ ?_
                      rotate_left
                      · intro w hSw; (try dsimp only at hSw); first | (go_simp; done) | (go_simp; with_reducible rfl)
                      try simp only [Act.put, List.getElem_toArray, List.getElem_cons_zero, List.getElem_cons_succ, List.setIfInBounds_toArray, List.set_cons_zero, List.set_cons_succ]
                      refine AnyL.take (i := 4) (oi := _) (v := ?_) rfl (by kernel_rfl) (by kernel_rfl) (by kernel_rfl) (by decide) (fun _ _ _ h => h) (Or.inl ⟨by rfl, ?_⟩) ⟨hHeld.1, fun _ => hHeld.2 (by rfl)⟩ ?_
                      rotate_left
                      · intro w hSw; (try dsimp only at hSw); first | (go_simp; done) | (go_simp; with_reducible rfl)
                      try simp only [Act.put, List.getElem_toArray, List.getElem_cons_zero, List.getElem_cons_succ, List.setIfInBounds_toArray, List.set_cons_zero, List.set_cons_succ]
                      refine AnyL.take (i := 5) (oi := _) (v := ?_) rfl (by kernel_rfl) (by kernel_rfl) (by kernel_rfl) (by decide) (fun _ _ _ h => h) (Or.inl ⟨by rfl, ?_⟩) ⟨hHeld.1, fun _ => hHeld.2 (by rfl)⟩ ?_
                      rotate_left
                      · intro w hSw; (try dsimp only at hSw); first | (go_simp; done) | (go_simp; with_reducible rfl)
                      try simp only [Act.put, List.getElem_toArray, List.getElem_cons_zero, List.getElem_cons_succ, List.setIfInBounds_toArray, List.set_cons_zero, List.set_cons_succ]
                      refine AnyL.take (i := 6) (oi := _) (v := ?_) rfl (by kernel_rfl) (by kernel_rfl) (by kernel_rfl) (by decide) (fun _ _ _ h => h) (Or.inl ⟨by rfl, ?_⟩) ⟨hHeld.1, fun _ => hHeld.2 (by rfl)⟩ ?_
                      rotate_left
                      · intro w hSw; (try dsimp only at hSw); first | (go_simp; done) | (go_simp; with_reducible rfl)
                      try simp only [Act.put, List.getElem_toArray, List.getElem_cons_zero, List.getElem_cons_succ, List.setIfInBounds_toArray, List.set_cons_zero, List.set_cons_succ]
                      refine AnyL.take (i := 7) (oi := _) (v := ?_) rfl (by kernel_rfl) (by kernel_rfl) (by kernel_rfl) (by decide) (fun _ _ _ h => h) (Or.inl ⟨by rfl, ?_⟩) ⟨hHeld.1, fun _ => hHeld.2 (by rfl)⟩ ?_
                      rotate_left
                      · intro w hSw; (try dsimp only at hSw); first | (go_simp; done) | (go_simp; with_reducible rfl)
                      try simp only [Act.put, List.getElem_toArray, List.getElem_cons_zero, List.getElem_cons_succ, List.setIfInBounds_toArray, List.set_cons_zero, List.set_cons_succ]
                      refine AnyL.take (i := 9) (oi := _) (v := ?_) rfl (by kernel_rfl) (by kernel_rfl) (by kernel_rfl) (by decide) (fun _ _ _ h => h) (Or.inl ⟨by rfl, ?_⟩) ⟨hHeld.1, fun _ => hHeld.2 (by rfl)⟩ ?_
                      rotate_left
                      · intro w hSw; (try dsimp only at hSw); first | (go_simp; done) | (go_simp; with_reducible rfl)
                      try simp only [Act.put, List.getElem_toArray, List.getElem_cons_zero, List.getElem_cons_succ, List.setIfInBounds_toArray, List.set_cons_zero, List.set_cons_succ]
                      refine AnyL.take (i := 10) (oi := _) (v := ?_) rfl (by kernel_rfl) (by kernel_rfl) (by kernel_rfl) (by decide) (fun _ _ _ h => h) (Or.inl ⟨by rfl, ?_⟩) ⟨hHeld.1, fun _ => hHeld.2 (by rfl)⟩ ?_
                      rotate_left
                      · intro w hSw; (try dsimp only at hSw); first | (go_simp; done) | (go_simp; with_reducible rfl)
                      try simp only [Act.put, List.getElem_toArray, List.getElem_cons_zero, List.getElem_cons_succ, List.setIfInBounds_toArray, List.set_cons_zero, List.set_cons_succ]
                      refine AnyL.take (i := 11) (oi := _) (v := ?_) rfl (by kernel_rfl) (by kernel_rfl) (by kernel_rfl) (by decide) (fun _ _ _ h => h) (Or.inl ⟨by rfl, ?_⟩) ⟨hHeld.1, fun _ => hHeld.2 (by rfl)⟩ ?_
                      rotate_left
                      · intro w hSw; (try dsimp only at hSw); first | (go_simp; done) | (go_simp; with_reducible rfl)
                      try simp only [Act.put, List.getElem_toArray, List.getElem_cons_zero, List.getElem_cons_succ, List.setIfInBounds_toArray, List.set_cons_zero, List.set_cons_succ]
                      refine AnyL.one (i := 8) (o := _) (by kernel_rfl) rfl (fun K hK => ?_)
                      go_simp
                      refine hK.out _ _ ⟨HXB.out.size, fun hk => HXB.out.size⟩ (fun hHeld => ?_)
                      clear hK K
                      try simp only [Act.put, List.getElem_toArray, List.getElem_cons_zero, List.getElem_cons_succ, List.setIfInBounds_toArray, List.set_cons_zero, List.set_cons_succ]
                      refine AnyL.one (i := 12) (o := _) (by kernel_rfl) rfl (fun K hK => ?_)
                      (refine step_append_any (by rfl) (.tmp 121) (.tmp 124) 52 (by rfl) wc.heap.size 60 i0 (.agg #[.int .i64 0, .string ⟨#[]⟩, .string ⟨#[]⟩]) 3 40 Tryz.underlying52 hi hz0 hz1 hz2 rfl (by decide) (.slice (some ⟨wc.heap.size, 0, none⟩) 1 1) 1 [.int .i64 (i : Int), .string (RS lo), .string (RS hi')] (by simp [Act.eval]) HNEW.out (.slice none 0 0) 0 [] (by simp [Act.eval]) (.inl ⟨rfl, rfl, rfl⟩) (fun u hu => absurd hu List.not_mem_nil) (by unfold maxLen; omega) (by omega) (by simp) ?_; intro v5 w5 h51 h52; obtain ⟨g5, c5, rfl, hg5b, hg5l⟩ := owns_some h51 (by omega); have hb5 := ins_below HXB.out HWCS.out h52; clear h52)
                      refine hK.out _ _ ⟨hb5.size, fun hk => hb5.size⟩ (fun hHeld => ?_)
                      clear hK K
                      try simp only [Act.put, List.getElem_toArray, List.getElem_cons_zero, List.getElem_cons_succ, List.setIfInBounds_toArray, List.set_cons_zero, List.set_cons_succ]
                      refine AnyL.one (i := 13) (o := _) (by kernel_rfl) rfl (fun K hK => ?_)
                      (refine step_append_grows (by rfl) (.tmp 116) (.tmp 125) 52 (by rfl) 60 i0 (.agg #[.int .i64 0, .string ⟨#[]⟩, .string ⟨#[]⟩]) 3 40 Tryz.underlying52 hi hz0 hz1 hz2 rfl (by decide) none 0 0 [] (by simp [Act.eval]) (fun _ => ⟨rfl, rfl⟩) rfl (fun b e => by cases e) ⟨g5, 0, none⟩ (1 + 0) c5 ([.int .i64 (i : Int), .string (RS lo), .string (RS hi')] ++ []) (by simp [Act.eval]) h51.1 (h51.cells rfl) (by rw [List.append_nil]; exact span_one _ _ _) (by omega) (by unfold maxLen; omega) (by omega) ?_; intro v6 w6 h61 h62; have hb6 := hb5.grown h62 hb5.size (fun j e => by cases e))
                      refine hK.out _ _ ⟨hb6.size, fun hk => (by simp at hk)⟩ (fun hHeld => ?_)
                      clear hK K
                      try simp only [Act.put, List.getElem_toArray, List.getElem_cons_zero, List.getElem_cons_succ, List.setIfInBounds_toArray, List.set_cons_zero, List.set_cons_succ]
                      refine AnyL.take (i := 14) (oi := _) (v := ?_) rfl (by kernel_rfl) (by kernel_rfl) (by kernel_rfl) (by decide) (fun _ _ _ h => h) (Or.inl ⟨by rfl, ?_⟩) ⟨hHeld.1, fun hk => (by simp at hk)⟩ ?_
                      rotate_left
                      · intro w hSw; (try dsimp only at hSw); first | (go_simp; done) | (go_simp; with_reducible rfl)
                      try simp only [Act.put, List.getElem_toArray, List.getElem_cons_zero, List.getElem_cons_succ, List.setIfInBounds_toArray, List.set_cons_zero, List.set_cons_succ]
                      refine AnyL.done (by kernel_rfl) ?_ _
                      all_goals
                        go_wp2_with fail
                        go_roundw
                        case rel => exact ⟨i + 1, 1, by go_num, by omega, (by unfold Hid; rw [HNX.out, HW0'.out]; rfl), by omega, fun e => by omega, by rw [HNX.out, HW0'.out]; exact owns_low h61 hb5.size, hb6⟩
                        case measure =>
                          show T.length - ((i : Int) + 1).toNat < T.length - (i : Int).toNat
                          omega
                    · obtain ⟨g, c, e1, hgb, hgl⟩ := owns_some hownk hn0
                      injection e1 with e1 _ e3
                      subst e1 e3
                      have hcap := owns_cap hownk
                      have hk0 : (0 : Int) ≤ (k : Int) := by omega
                      have hkn' : (k : Int) ≤ (n : Int) := by omega
                      have hkc' : (k : Int) ≤ (c14 : Int) := by omega
                      have hnc' : (n : Int) ≤ (c14 : Int) := by omega
                      have HNEW : Hid ((wc.alloc (.cells #[.int .i64 (i : Int), .string (RS lo), .string (RS hi')] 60)).drew.ownsRow wc.heap.size 60 3 (.slice (some ⟨wc.heap.size, 0, none⟩) 1 1) 1 [.int .i64 (i : Int), .string (RS lo), .string (RS hi')]) :=
                        own_fresh wc [.int .i64 (i : Int), .string (RS lo), .string (RS hi')] _ 3 rfl
                      have HOX : Hid ((wc.alloc (.cells #[.int .i64 (i : Int), .string (RS lo), .string (RS hi')] 60)).drew.ownsRow o6.heap.size 60 3 (.slice (some ⟨g, 0, none⟩) n c14) n (cellsS Wi)) := (hownk.alloc _).drew
                      have HXB : Hid (Below o6.heap.size o6 (wc.alloc (.cells #[.int .i64 (i : Int), .string (RS lo), .string (RS hi')] 60)).drew) := (hbk6.alloc hbk6.size _).drew
                      have HSRC := Lib.hid fun x' hx' => src_tail HOX.out hkn x' hx'
                      have HONE : Hid (∀ u ∈ cellsS Wi, u.oneCell' = true) := cellsS_one Wi
                      have HTL : Hid (((cellsS Wi).take (k * 3)).length = k * 3) := by
                        have h := hownk.1
                        unfold Hid
                        rw [List.length_take, h]; omega
                      have HON2 : Hid (∀ u ∈ [.int .i64 (i : Int), .string (RS lo), .string (RS hi')] ++ (cellsS Wi).drop (k * 3), u.oneCell' = true) := fun u hu => by
                        rcases List.mem_append.1 hu with h | h
                        · exact span_one _ _ _ u h
                        · exact HONE.out u (List.mem_of_mem_drop h)
                      have HWCS := Lib.hid hbk6.size
                      refine AnyL.region (S := Till 13 (fun w' : World => o6.heap.size ≤ w'.heap.size) (fun w' : World => o6.heap.size ≤ w'.heap.size)) (by kernel_rfl) ?_
                      have hHeld : Till 13 (fun w' : World => o6.heap.size ≤ w'.heap.size) (fun w' : World => o6.heap.size ≤ w'.heap.size) (Array.replicate 15 false) _ := ⟨(show o6.heap.size ≤ wc.drew.heap.size from hbk6.size), fun _ => (show o6.heap.size ≤ wc.drew.heap.size from hbk6.size)⟩
                      refine AnyL.take (i := 0) (oi := _) (v := ?_) rfl (by kernel_rfl) (by kernel_rfl) (by kernel_rfl) (by decide) (fun _ _ _ h => h) (Or.inl ⟨by rfl, ?_⟩) ⟨hHeld.1, fun _ => hHeld.2 (by rfl)⟩ ?_
                      rotate_left
                      · intro w hSw; (try dsimp only at hSw); first | (go_simp; done) | (go_simp; with_reducible rfl)
                      try simp only [Act.put, List.getElem_toArray, List.getElem_cons_zero, List.setIfInBounds_toArray, List.set_cons_zero, List.set_cons_succ]
                      refine AnyL.take (i := 1) (oi := _) (v := ?_) rfl (by kernel_rfl) (by kernel_rfl) (by kernel_rfl) (by decide) (fun _ _ _ h => h) (Or.inl ⟨by rfl, ?_⟩) ⟨hHeld.1, fun _ => hHeld.2 (by rfl)⟩ ?_
                      rotate_left
                      · intro w hSw; (try dsimp only at hSw); first | (go_simp; done) | (go_simp; with_reducible rfl)
                      try simp only [Act.put, List.getElem_toArray, List.getElem_cons_zero, List.getElem_cons_succ, List.setIfInBounds_toArray, List.set_cons_zero, List.set_cons_succ]
                      refine AnyL.take (i := 2) (oi := _) (v := ?_) rfl (by kernel_rfl) (by kernel_rfl) (by kernel_rfl) (by decide) (fun _ _ _ h => h) (Or.inl ⟨by rfl, ?_⟩) ⟨hHeld.1, fun _ => hHeld.2 (by rfl)⟩ ?_
                      rotate_left
                      · intro w hSw; (try dsimp only at hSw); first | (go_simp; done) | (go_simp; with_reducible rfl)
                      try simp only [Act.put, List.getElem_toArray, List.getElem_cons_zero, List.getElem_cons_succ, List.setIfInBounds_toArray, List.set_cons_zero, List.set_cons_succ]
                      refine AnyL.take (i := 3) (oi := _) (v := ?_) rfl (by kernel_rfl) (by kernel_rfl) (by kernel_rfl) (by decide) (fun _ _ _ h => h) (Or.inl ⟨by rfl, ?_⟩) ⟨hHeld.1, fun _ => hHeld.2 (by rfl)⟩ ?_
                      rotate_left
                      · intro w hSw; (try dsimp only at hSw); first | (go_simp; done) | (go_simp; with_reducible rfl)
                      try simp only [Act.put, List.getElem_toArray, List.getElem_cons_zero, List.getElem_cons_succ, List.setIfInBounds_toArray, List.set_cons_zero, List.set_cons_succ]
                      refine AnyL.take (i := 4) (oi := _) (v := ?_) rfl (by kernel_rfl) (by kernel_rfl) (by kernel_rfl) (by decide) (fun _ _ _ h => h) (Or.inl ⟨by rfl, ?_⟩) ⟨hHeld.1, fun _ => hHeld.2 (by rfl)⟩ ?_
                      rotate_left
                      · intro w hSw; (try dsimp only at hSw); first | (go_simp; done) | (go_simp; with_reducible rfl)
                      try simp only [Act.put, List.getElem_toArray, List.getElem_cons_zero, List.getElem_cons_succ, List.setIfInBounds_toArray, List.set_cons_zero, List.set_cons_succ]
                      refine AnyL.take (i := 5) (oi := _) (v := ?_) rfl (by kernel_rfl) (by kernel_rfl) (by kernel_rfl) (by decide) (fun _ _ _ h => h) (Or.inl ⟨by rfl, ?_⟩) ⟨hHeld.1, fun _ => hHeld.2 (by rfl)⟩ ?_
                      rotate_left
                      · intro w hSw; (try dsimp only at hSw); first | (go_simp; done) | (go_simp; with_reducible rfl)
                      try simp only [Act.put, List.getElem_toArray, List.getElem_cons_zero, List.getElem_cons_succ, List.setIfInBounds_toArray, List.set_cons_zero, List.set_cons_succ]
                      refine AnyL.take (i := 6) (oi := _) (v := ?_) rfl (by kernel_rfl) (by kernel_rfl) (by kernel_rfl) (by decide) (fun _ _ _ h => h) (Or.inl ⟨by rfl, ?_⟩) ⟨hHeld.1, fun _ => hHeld.2 (by rfl)⟩ ?_
                      rotate_left
                      · intro w hSw; (try dsimp only at hSw); first | (go_simp; done) | (go_simp; with_reducible rfl)
                      try simp only [Act.put, List.getElem_toArray, List.getElem_cons_zero, List.getElem_cons_succ, List.setIfInBounds_toArray, List.set_cons_zero, List.set_cons_succ]
                      refine AnyL.take (i := 7) (oi := _) (v := ?_) rfl (by kernel_rfl) (by kernel_rfl) (by kernel_rfl) (by decide) (fun _ _ _ h => h) (Or.inl ⟨by rfl, ?_⟩) ⟨hHeld.1, fun _ => hHeld.2 (by rfl)⟩ ?_
                      rotate_left
                      · intro w hSw; (try dsimp only at hSw); first | (go_simp; done) | (go_simp; with_reducible rfl)
                      try simp only [Act.put, List.getElem_toArray, List.getElem_cons_zero, List.getElem_cons_succ, List.setIfInBounds_toArray, List.set_cons_zero, List.set_cons_succ]
                      refine AnyL.take (i := 9) (oi := _) (v := ?_) rfl (by kernel_rfl) (by kernel_rfl) (by kernel_rfl) (by decide) (fun _ _ _ h => h) (Or.inl ⟨by rfl, ?_⟩) ⟨hHeld.1, fun _ => hHeld.2 (by rfl)⟩ ?_
                      rotate_left
                      · intro w hSw; (try dsimp only at hSw); first | (go_simp; done) | (go_simp; with_reducible rfl)
                      try simp only [Act.put, List.getElem_toArray, List.getElem_cons_zero, List.getElem_cons_succ, List.setIfInBounds_toArray, List.set_cons_zero, List.set_cons_succ]
                      refine AnyL.take (i := 10) (oi := _) (v := ?_) rfl (by kernel_rfl) (by kernel_rfl) (by kernel_rfl) (by decide) (fun _ _ _ h => h) (Or.inl ⟨by rfl, ?_⟩) ⟨hHeld.1, fun _ => hHeld.2 (by rfl)⟩ ?_
                      rotate_left
                      · intro w hSw; (try dsimp only at hSw); first | (go_simp; done) | (go_simp; with_reducible rfl)
                      try simp only [Act.put, List.getElem_toArray, List.getElem_cons_zero, List.getElem_cons_succ, List.setIfInBounds_toArray, List.set_cons_zero, List.set_cons_succ]
                      refine AnyL.take (i := 11) (oi := _) (v := ?_) rfl (by kernel_rfl) (by kernel_rfl) (by kernel_rfl) (by decide) (fun _ _ _ h => h) (Or.inl ⟨by rfl, ?_⟩) ⟨hHeld.1, fun _ => hHeld.2 (by rfl)⟩ ?_
                      rotate_left
                      · intro w hSw; (try dsimp only at hSw); first | (go_simp; done) | (go_simp; with_reducible rfl)
                      try simp only [Act.put, List.getElem_toArray, List.getElem_cons_zero, List.getElem_cons_succ, List.setIfInBounds_toArray, List.set_cons_zero, List.set_cons_succ]
                      refine AnyL.one (i := 8) (o := _) (by kernel_rfl) rfl (fun K hK => ?_)
                      go_simp
                      refine hK.out _ _ ⟨HXB.out.size, fun hk => HXB.out.size⟩ (fun hHeld => ?_)
                      clear hK K
                      try simp only [Act.put, List.getElem_toArray, List.getElem_cons_zero, List.getElem_cons_succ, List.setIfInBounds_toArray, List.set_cons_zero, List.set_cons_succ]
                      refine AnyL.one (i := 12) (o := _) (by kernel_rfl) rfl (fun K hK => ?_)
                      (refine step_append_any (by rfl) (.tmp 121) (.tmp 124) 52 (by rfl) wc.heap.size 60 i0 (.agg #[.int .i64 0, .string ⟨#[]⟩, .string ⟨#[]⟩]) 3 40 Tryz.underlying52 hi hz0 hz1 hz2 rfl (by decide) (.slice (some ⟨wc.heap.size, 0, none⟩) 1 1) 1 [.int .i64 (i : Int), .string (RS lo), .string (RS hi')] (by simp [Act.eval]) HNEW.out _ (n - k) ((cellsS Wi).drop (k * 3)) (by simp [Act.eval]) (HSRC.out _ rfl) (fun u hu => HONE.out u (List.mem_of_mem_drop hu)) (by unfold maxLen; omega) (by omega) (by simp) ?_; intro v5 w5 h51 h52; obtain ⟨g5, c5, rfl, hg5b, hg5l⟩ := owns_some h51 (by omega); have HO5 := ins_kept HOX.out hgl h52; have hb5 := ins_below HXB.out HWCS.out h52; clear h52)
                      refine hK.out _ _ ⟨hb5.size, fun hk => hb5.size⟩ (fun hHeld => ?_)
                      clear hK K
                      try simp only [Act.put, List.getElem_toArray, List.getElem_cons_zero, List.getElem_cons_succ, List.setIfInBounds_toArray, List.set_cons_zero, List.set_cons_succ]
                      refine AnyL.one (i := 13) (o := _) (by kernel_rfl) rfl (fun K hK => ?_)
                      (refine step_append_grows (by rfl) (.tmp 116) (.tmp 125) 52 (by rfl) 60 i0 (.agg #[.int .i64 0, .string ⟨#[]⟩, .string ⟨#[]⟩]) 3 40 Tryz.underlying52 hi hz0 hz1 hz2 rfl (by decide) (some ⟨g, 0, none⟩) k k ((cellsS Wi).take (k * 3)) (by simp [Act.eval]) (fun e => by cases e) HTL.out (ins_olds HO5) ⟨g5, 0, none⟩ (1 + (n - k)) c5 ([.int .i64 (i : Int), .string (RS lo), .string (RS hi')] ++ (cellsS Wi).drop (k * 3)) (by simp [Act.eval]) h51.1 (h51.cells rfl) HON2.out (by omega) (by unfold maxLen; omega) (by omega) ?_; intro v6 w6 h61 h62; have hb6 := hb5.grown h62 hb5.size (fun j e => by cases e))
                      refine hK.out _ _ ⟨hb6.size, fun hk => (by simp at hk)⟩ (fun hHeld => ?_)
                      clear hK K
                      try simp only [Act.put, List.getElem_toArray, List.getElem_cons_zero, List.getElem_cons_succ, List.setIfInBounds_toArray, List.set_cons_zero, List.set_cons_succ]
                      refine AnyL.take (i := 14) (oi := _) (v := ?_) rfl (by kernel_rfl) (by kernel_rfl) (by kernel_rfl) (by decide) (fun _ _ _ h => h) (Or.inl ⟨by rfl, ?_⟩) ⟨hHeld.1, fun hk => (by simp at hk)⟩ ?_
                      rotate_left
                      · intro w hSw; (try dsimp only at hSw); first | (go_simp; done) | (go_simp; with_reducible rfl)
                      try simp only [Act.put, List.getElem_toArray, List.getElem_cons_zero, List.getElem_cons_succ, List.setIfInBounds_toArray, List.set_cons_zero, List.set_cons_succ]
                      refine AnyL.done (by kernel_rfl) ?_ _
                      all_goals
                        go_wp2_with fail
                        go_roundw
                        case rel => exact ⟨i + 1, k + (1 + (n - k)), by go_num, by omega, (by unfold Hid; rw [HNX.out, List.length_append, List.length_cons, List.length_take, List.length_drop, ← HN.out]; omega), by omega, fun e => by omega, by rw [HNX.out, cells_ins]; exact owns_low h61 hb5.size, hb6⟩
                        case measure =>
                          show T.length - ((i : Int) + 1).toNat < T.length - (i : Int).toNat
                          omega
                  · have HNX : Hid (WN (i + 1) = Wi) := by
                      unfold Hid
                      rw [HAS1.out]
                      unfold wantS
                      rw [if_pos hF]
                    clear hF HAS1
                    go_wp2_with fail
                    go_roundw
                    case rel => exact ⟨i + 1, n, by go_num, by omega, (by unfold Hid; rw [HNX.out]; exact HN.out), by omega, hnil, by rw [HNX.out]; exact hownk, hbk6⟩
                    case measure =>
                      show T.length - ((i : Int) + 1).toNat < T.length - (i : Int).toNat
                      omega
        · have HI : Hid (i = T.length) := by unfold Hid; omega
          have hige : ¬ (i : Int) < (T.length : Int) := by omega
          have m1 := b7r.cell 1 rfl
          rw [HI.out] at HN hown
          obtain ⟨L, hL⟩ : ∃ L, L = WN T.length := ⟨_, rfl⟩
          rw [← hL] at HN hown hl6
          clear hL
          have hlr : RdSp wr vl L := RdC.below hl6.out hbr
          have hwr : RdSp wr u14 L := by
            have h := RdC.of_owns hown
            unfold RdSp
            rw [← HN.out]
            exact h
          obtain ⟨pl, cl, rfl, hlc⟩ := hlr.cells
          obtain ⟨pw, cw, rfl, hwc⟩ := hwr.cells
          have HLC := Lib.hid hlc
          have HWC := Lib.hid hwc
          have hL6 : L.length ≤ 6 := by have := HN.out; omega
          clear hlc hwc hlr hwr hown b7r hTr hbr2 hnil hl6 HWZ HWL HWE HWS HW0 HCO HCL
          have hnn : ((L.length : Int) != (L.length : Int)) = false := bne_self_eq_false _
          go_wp2_with fail
          go_loopw [21] (fun t21 wx => ∃ j : Nat, t21 = .int .i64 j ∧ j ≤ L.length ∧ Below wr.heap.size wr wx) (fun t21 _ => L.length - (RowKit.intOf t21).toNat)
          case atStart => exact ⟨0, rfl, Nat.zero_le _, Below.refl _ _⟩
          case round =>
            obtain ⟨j, rfl, hj, hbx⟩ := hrel
            rcases Nat.lt_or_ge j L.length with h2 | h2
            · obtain ⟨s, hs⟩ : ∃ s, L[j]? = some s := ⟨_, List.getElem?_eq_getElem h2⟩
              have hne : L ≠ [] := fun e => by rw [e] at h2; exact absurd h2 (Nat.not_lt_zero _)
              obtain ⟨bl, ol, rfl, hbl, hcl⟩ := HLC.out hne
              obtain ⟨bw, ow, rfl, hbw, hcw⟩ := HWC.out hne
              obtain ⟨x0', x1', x2'⟩ := hcl j s hs
              obtain ⟨y0', y1', y2'⟩ := hcw j s hs
              have x0 := (hbx.cell (p := ⟨bl, ol + j * 3, none⟩) hbl).trans x0'
              have x1 := (hbx.cell (p := ⟨bl, ol + j * 3 + 1, none⟩) hbl).trans x1'
              have x2 := (hbx.cell (p := ⟨bl, ol + j * 3 + 2, none⟩) hbl).trans x2'
              have y0 := (hbx.cell (p := ⟨bw, ow + j * 3, none⟩) hbw).trans y0'
              have y1 := (hbx.cell (p := ⟨bw, ow + j * 3 + 1, none⟩) hbw).trans y1'
              have y2 := (hbx.cell (p := ⟨bw, ow + j * 3 + 2, none⟩) hbw).trans y2'
              have hjz : (j : Int) < (L.length : Int) := by omega
              have hw1 : IntKind.i64.wrap ((j : Int) + 1) = (j : Int) + 1 := IntWalk.i64_in _ (by omega)
              clear hcl hcw x0' x1' x2' y0' y1' y2' hs
              go_wp2_with fail
              go_region
              all_goals
                go_wp2_with fail
                go_roundw
                case rel => exact ⟨j + 1, by go_num, by omega, hbx.drew⟩
                case measure => simp [RowKit.intOf]; omega
            · have hjn : ¬ (j : Int) < (L.length : Int) := by omega
              go_wp2_with fail
              go_ret
              exact ⟨_, rfl, rfl, hbW.trans (hbx.mono hbW.size)⟩

set_option maxHeartbeats 8000000 in
set_option maxRecDepth 100000 in
theorem ma_same (w : World) (kz s0 s1 : Int) (half : Bool) (x0 x1 y0 y1 : Int) (hk0 : 0 ≤ kz) (hk1 : kz ≤ 255) (hs0 : -128 ≤ s0 ∧ s0 ≤ 127) (hs1 : -128 ≤ s1 ∧ s1 ≤ 127)
    (hx0 : -128 ≤ x0 ∧ x0 ≤ 127) (hx1 : -128 ≤ x1 ∧ x1 ≤ 127) (hy0 : -128 ≤ y0 ∧ y0 ≤ 127) (hy1 : -128 ≤ y1 ∧ y1 ≤ 127) (hab0 : (placeB 2 s0 half x0, placeB 2 s1 half x1) = (placeB 2 s0 half y0, placeB 2 s1 half y1)) (hg : Good w) :
    Calls Tryz.prog 4 #[.agg #[.int .u8 kz, .int .i8 s0, .int .i8 s1, .bool half], .agg #[.int .i8 x0, .int .i8 x1], .agg #[.int .i8 y0, .int .i8 y1]] w (Ret (fun r _ => r = .bool true) w) := by
  obtain ⟨k, hk⟩ : ∃ k : Nat, kz.tmod 8 = (k : Int) := ⟨(kz.tmod 8).toNat, by have := Int.tmod_nonneg 8 hk0; omega⟩
  have HMK := Lib.hid fun w hg => make12_any w kz s0 s1 half k hk hk0 hk1 hs0 hs1 hg
  have HPL := Lib.hid fun w hg => place2_any w kz s0 s1 half x0 x1 hs0 hs1 hx0 hx1 hg
  have HPM := Lib.hid fun w hg => place2_any w kz s0 s1 half y0 y1 hs0 hs1 hy0 hy1 hg
  have hM := sheet_ok k s0 s1 half
  have hT4 : (shapeT k).length ≤ 6 := by unfold shapeT; split <;> decide
  obtain ⟨a, ha⟩ : ∃ p : PtQ, p = (placeB 2 s0 half x0, placeB 2 s1 half x1) := ⟨_, rfl⟩
  obtain ⟨b, hb⟩ : ∃ p : PtQ, p = (placeB 2 s0 half y0, placeB 2 s1 half y1) := ⟨_, rfl⟩
  have za : SzP 3 a := by rw [ha]; exact ⟨placeB_Sz 2 (by omega) (by omega) _ _ _ hx0, placeB_Sz 2 (by omega) (by omega) _ _ _ hx1⟩
  have zb : SzP 3 b := by rw [hb]; exact ⟨placeB_Sz 2 (by omega) (by omega) _ _ _ hy0, placeB_Sz 2 (by omega) (by omega) _ _ _ hy1⟩
  rw [show placeB 2 s0 half x0 = a.1 by rw [ha], show placeB 2 s1 half x1 = a.2 by rw [ha]] at HPL
  rw [show placeB 2 s0 half y0 = b.1 by rw [hb], show placeB 2 s1 half y1 = b.2 by rw [hb]] at HPM
  have hab : b = a := by rw [ha, hb]; exact hab0.symm
  clear hab0
  generalize sheetP k s0 s1 half = P at *
  generalize shapeT k = T at *
  have HM := Lib.hid hM
  have HZA := Lib.hid za
  have HZB := Lib.hid zb
  have HAL : Hid (∀ (w : World) (vp vt : Value), RdP w vp (strP P) → RdT w vt T → Good w → _) := fun w vp vt hp ht hg => along_zero w vp vt P T 2 3 hp ht HM.out (by omega) (by omega) a HZA.out hg
  have HAN : Hid (∀ (w : World) (vp vt : Value), RdP w vp (strP P) → RdT w vt T → Good w → _) := fun w vp vt hp ht hg => along_number w vp vt P T 2 3 hp ht HM.out (by omega) (by omega) a HZA.out ⟨#[]⟩ ⟨#[48]⟩ (by decide) (by decide) allQ_none hg
  have hn8 : T.length ≤ 6 := hT4
  clear hk hk0 hk1 hs0 hs1 hx0 hx1 hy0 hy1 hM za zb hT4 ha hb
  rw [hab] at HPM
  clear hab HZB b
  go_enter Tryz.func4, Tryz.ntmps4
  go_wp2_with fail
  obtain ⟨W, hW⟩ : ∃ W, W = ((w.alloc (.cells #[.int .u8 kz, .int .i8 s0, .int .i8 s1, .bool half] 49)).alloc (.cells #[.int .i8 x0, .int .i8 x1] 47)).alloc (.cells #[.int .i8 y0, .int .i8 y1] 47) := ⟨_, rfl⟩
  have hB : Below w.heap.size w W := by rw [hW]; exact (((Below.refl _ _).alloc (Nat.le_refl _) _).alloc (by simp) _).alloc (by simp; omega) _
  have b5 : BoxN W (w.heap.size + 1 + 1) 47 [.int .i8 y0, .int .i8 y1] := by rw [hW]; exact BoxN.new _ _ _ _ (by simp)
  have b4 : BoxN W (w.heap.size + 1) 47 [.int .i8 x0, .int .i8 x1] := by
    rw [hW]
    have h1 := (BoxN.new (w.alloc (.cells #[.int .u8 kz, .int .i8 s0, .int .i8 s1, .bool half] 49)) #[.int .i8 x0, .int .i8 x1] 47 (w.heap.size + 1) (by simp))
    exact h1.below ((Below.refl _ _).alloc (Nat.le_refl _) _) h1.lt
  have b3 : BoxN W w.heap.size 49 [.int .u8 kz, .int .i8 s0, .int .i8 s1, .bool half] := by
    rw [hW]
    have h1 := (BoxN.new w #[.int .u8 kz, .int .i8 s0, .int .i8 s1, .bool half] 49 _ rfl)
    exact h1.below (((Below.refl _ _).alloc (Nat.le_refl _) _).alloc (by simp) _) h1.lt
  rw [← hW]
  clear hW
  refine (known12_any W (hg.below hB)).mono ?_
  rintro e o1 ⟨_, rfl, rfl, hb1⟩
  have hB1 := hB.trans (hb1.mono hB.size)
  have b51 := b5.below hb1 b5.lt
  have b41 := b4.below hb1 b4.lt
  have b31 := b3.below hb1 b3.lt
  clear hb1 hB b5 b4 b3
  have k0 := b31.cell 0 rfl
  have k1 := b31.cell 1 rfl
  have k2 := b31.cell 2 rfl
  have k3 := b31.cell 3 rfl
  go_wp2_with fail
  refine (HMK.out o1 (hg.below hB1)).mono ?_
  rintro e o2 ⟨_, rfl, ⟨vp, vt, rfl, hp, ht⟩, hb2⟩
  have hB2 := hB1.trans (hb2.mono hB1.size)
  have b52 := b51.below hb2 b51.lt
  have b42 := b41.below hb2 b41.lt
  have b32 := b31.below hb2 b31.lt
  obtain ⟨pp, cp, rfl, -, -, -⟩ := hp.open
  obtain ⟨pt, ct, rfl, -, -, -⟩ := ht.open
  rw [strP_length] at *
  have HPP := Lib.hid hp
  have HTT := Lib.hid ht
  clear hb2 hB1 b51 b41 b31 hp ht k0 k1 k2 k3
  obtain ⟨o3, ho3⟩ : ∃ W, W = o2.alloc (.cells #[.slice pp P.length cp, .slice pt T.length ct] 34) := ⟨_, rfl⟩
  have hb3 : Below o2.heap.size o2 o3 := by rw [ho3]; exact (Below.refl _ _).alloc (Nat.le_refl _) _
  have b7 : BoxN o3 o2.heap.size 34 [.slice pp P.length cp, .slice pt T.length ct] := by rw [ho3]; exact BoxN.new _ _ _ _ rfl
  have hB3 := hB2.trans (hb3.mono hB2.size)
  have b53 := b52.below hb3 b52.lt
  have b43 := b42.below hb3 b42.lt
  have b33 := b32.below hb3 b32.lt
  go_upto_region 4 with fail
  rw [← ho3]
  clear ho3 b52 b42 b32 hB2
  have k0 := b33.cell 0 rfl
  have k1 := b33.cell 1 rfl
  have k2 := b33.cell 2 rfl
  have k3 := b33.cell 3 rfl
  have i0 := b43.cell 0 rfl
  have i1 := b43.cell 1 rfl
  have j0 := b53.cell 0 rfl
  have j1 := b53.cell 1 rfl
  have hg3 := hg.below hB3
  have hl3 := b33.lt
  have hl4 := b43.lt
  have hl5 := b53.lt
  go_cut [8, 9] (fun s8 s9 wx => ∃ b8 b9 : Nat, s8 = .pointer (some ⟨b8, 0, none⟩) ∧ s9 = .pointer (some ⟨b9, 0, none⟩) ∧ TwoP wx b8 b9 a a ∧ Below o3.heap.size o3 wx)
  case first =>
    have q0 : Below o3.heap.size o3 o3.drew := below_drewN o3 1
    have g0 : Good o3.drew := hg3.drewN 1
    have HS : Hid (∀ w', Below o3.heap.size o3 w' → (w'.cell? ⟨w.heap.size, 0, none⟩ = some (.int .u8 kz) ∧ w'.cell? ⟨w.heap.size, 1, none⟩ = some (.int .i8 s0) ∧ w'.cell? ⟨w.heap.size, 2, none⟩ = some (.int .i8 s1) ∧ w'.cell? ⟨w.heap.size, 3, none⟩ = some (.bool half)) ∧
        (w'.cell? ⟨w.heap.size + 1, 0, none⟩ = some (.int .i8 x0) ∧ w'.cell? ⟨w.heap.size + 1, 1, none⟩ = some (.int .i8 x1)) ∧ w'.cell? ⟨w.heap.size + 1 + 1, 0, none⟩ = some (.int .i8 y0) ∧ w'.cell? ⟨w.heap.size + 1 + 1, 1, none⟩ = some (.int .i8 y1)) := fun w' hb =>
      ⟨⟨(hb.cell (p := ⟨w.heap.size, 0, none⟩) hl3).trans k0, (hb.cell (p := ⟨w.heap.size, 1, none⟩) hl3).trans k1, (hb.cell (p := ⟨w.heap.size, 2, none⟩) hl3).trans k2, (hb.cell (p := ⟨w.heap.size, 3, none⟩) hl3).trans k3⟩, ⟨(hb.cell (p := ⟨w.heap.size + 1, 0, none⟩) hl4).trans i0, (hb.cell (p := ⟨w.heap.size + 1, 1, none⟩) hl4).trans i1⟩, (hb.cell (p := ⟨w.heap.size + 1 + 1, 0, none⟩) hl5).trans j0, (hb.cell (p := ⟨w.heap.size + 1 + 1, 1, none⟩) hl5).trans j1⟩
    go_region_held3 (fun w' => (w'.cell? ⟨w.heap.size, 0, none⟩ = some (.int .u8 kz) ∧ w'.cell? ⟨w.heap.size, 1, none⟩ = some (.int .i8 s0) ∧ w'.cell? ⟨w.heap.size, 2, none⟩ = some (.int .i8 s1) ∧ w'.cell? ⟨w.heap.size, 3, none⟩ = some (.bool half)) ∧
        (w'.cell? ⟨w.heap.size + 1, 0, none⟩ = some (.int .i8 x0) ∧ w'.cell? ⟨w.heap.size + 1, 1, none⟩ = some (.int .i8 x1)) ∧ w'.cell? ⟨w.heap.size + 1 + 1, 0, none⟩ = some (.int .i8 y0) ∧ w'.cell? ⟨w.heap.size + 1 + 1, 1, none⟩ = some (.int .i8 y1))
      ((refine HS.out _ ?_; repeat (first | with_reducible exact q2 | with_reducible exact q1 | with_reducible exact q0 | with_reducible exact Below.refl _ _ | with_reducible refine Below.drew ?_ | ((with_reducible refine Below.setCell ?_ ?_ _); rotate_left; (first | omega | (simp <;> omega))) | ((with_reducible refine Below.alloc ?_ ?_ _); rotate_left; (first | exact Nat.le_refl _ | omega | (simp <;> omega))))))
      (first
        | ((with_reducible refine Calls.mono (HPM.out _ ?_) ?_); (focus refine hg3.below ?_; repeat (first | with_reducible exact q2 | with_reducible exact q1 | with_reducible exact q0 | with_reducible exact Below.refl _ _ | with_reducible refine Below.drew ?_ | ((with_reducible refine Below.setCell ?_ ?_ _); rotate_left; (first | omega | (simp <;> omega))) | ((with_reducible refine Below.alloc ?_ ?_ _); rotate_left; (first | exact Nat.le_refl _ | omega | (simp <;> omega))))); rintro e z2 ⟨_, rfl, rfl, hy2⟩
           have q2 : Below o3.heap.size o3 z2 := (by refine Below.trans ?_ (hy2.mono ?_); rotate_left; (first | exact Nat.le_refl _ | omega | (simp <;> omega)); repeat (first | with_reducible exact q2 | with_reducible exact q1 | with_reducible exact q0 | with_reducible exact Below.refl _ _ | with_reducible refine Below.drew ?_ | ((with_reducible refine Below.setCell ?_ ?_ _); rotate_left; (first | omega | (simp <;> omega))) | ((with_reducible refine Below.alloc ?_ ?_ _); rotate_left; (first | exact Nat.le_refl _ | omega | (simp <;> omega)))))
           have sz2 := q2.size
           have p2 : Below z1.heap.size z1 z2 := (by refine Below.trans ?_ (hy2.mono ?_); rotate_left; (first | exact Nat.le_refl _ | omega | (simp <;> omega)); repeat (first | with_reducible exact q2 | with_reducible exact q1 | with_reducible exact q0 | with_reducible exact Below.refl _ _ | with_reducible refine Below.drew ?_ | ((with_reducible refine Below.setCell ?_ ?_ _); rotate_left; (first | omega | (simp <;> omega))) | ((with_reducible refine Below.alloc ?_ ?_ _); rotate_left; (first | exact Nat.le_refl _ | omega | (simp <;> omega)))))
           have sz12 := p2.size
           (try have H8 := Lib.hid (E8.out.below p2 E8.out.lt))
           (try have H9 := Lib.hid (E9.out.below p2 E9.out.lt))
           (first | (have D := zb2 hy2; have D8 := Lib.hid D.1; have D9 := Lib.hid D.2; clear D) | (have D8 := Lib.hid (zb1 hy2)) | skip)
           (first | (have H8f := BoxF.of H8.out; obtain ⟨u1, u2, u3, u4, u5⟩ := H8f) | skip)
           (first | (have H9f := BoxF.of H9.out; obtain ⟨u6, u7, u8, u9, u10⟩ := H9f) | skip)
           (first | (have D8f := BoxF.of D8.out; obtain ⟨v1, v2, v3, v4, v5⟩ := D8f) | skip)
           (first | (have D9f := BoxF.of D9.out; obtain ⟨v6, v7, v8, v9, v10⟩ := D9f) | skip)
           (try have n1 := Nat.ne_of_lt E8.out.lt)
           (try have n2 := n1.symm)
           (try have n3 := Nat.ne_of_lt E9.out.lt)
           (try have n4 := n3.symm)
           (try have n5 := Nat.ne_of_lt u5)
           (try have n6 := n5.symm)
           (try have n7 := Nat.ne_of_lt u10)
           (try have n8 := n7.symm)
           (try have n9 := Nat.ne_of_lt v5)
           (try have n10 := n9.symm)
           (try have n11 := Nat.ne_of_lt v10)
           (try have n12 := n11.symm))
        | ((with_reducible refine Calls.mono (HPL.out _ ?_) ?_); (focus refine hg3.below ?_; repeat (first | with_reducible exact q2 | with_reducible exact q1 | with_reducible exact q0 | with_reducible exact Below.refl _ _ | with_reducible refine Below.drew ?_ | ((with_reducible refine Below.setCell ?_ ?_ _); rotate_left; (first | omega | (simp <;> omega))) | ((with_reducible refine Below.alloc ?_ ?_ _); rotate_left; (first | exact Nat.le_refl _ | omega | (simp <;> omega))))); rintro e z1 ⟨_, rfl, rfl, hy1⟩
           have q1 : Below o3.heap.size o3 z1 := (by refine Below.trans ?_ (hy1.mono ?_); rotate_left; (first | exact Nat.le_refl _ | omega | (simp <;> omega)); repeat (first | with_reducible exact q2 | with_reducible exact q1 | with_reducible exact q0 | with_reducible exact Below.refl _ _ | with_reducible refine Below.drew ?_ | ((with_reducible refine Below.setCell ?_ ?_ _); rotate_left; (first | omega | (simp <;> omega))) | ((with_reducible refine Below.alloc ?_ ?_ _); rotate_left; (first | exact Nat.le_refl _ | omega | (simp <;> omega)))))
           have sz1 := q1.size
           (first | (have D := zb2d hy1; have E8 := Lib.hid D.1; have E9 := Lib.hid D.2; clear D) | (have E8 := Lib.hid (zb1d hy1)) | skip)))
    all_goals
      go_wp2_with fail
      go_meet
      refine ⟨_, _, rfl, rfl, ⟨?_, ?_⟩, ?_⟩
      · repeat (first | with_reducible exact H8.out | with_reducible exact H9.out | with_reducible exact D8.out | with_reducible exact D9.out | with_reducible refine box_set2 ?_ | ((with_reducible refine box_far2 ?_ ?_); rotate_left; (first | assumption | omega)) | ((with_reducible refine box_newE _ _ _ _ _ ?_); (first | rfl | (simp <;> omega))) | with_reducible refine BoxN.alloc ?_ _)
      · repeat (first | with_reducible exact H8.out | with_reducible exact H9.out | with_reducible exact D8.out | with_reducible exact D9.out | with_reducible refine box_set2 ?_ | ((with_reducible refine box_far2 ?_ ?_); rotate_left; (first | assumption | omega)) | ((with_reducible refine box_newE _ _ _ _ _ ?_); (first | rfl | (simp <;> omega))) | with_reducible refine BoxN.alloc ?_ _)
      · repeat (first | with_reducible exact q2 | with_reducible exact q1 | with_reducible exact q0 | with_reducible exact Below.refl _ _ | with_reducible refine Below.drew ?_ | ((with_reducible refine Below.setCell ?_ ?_ _); rotate_left; (first | omega | (simp <;> omega))) | ((with_reducible refine Below.alloc ?_ ?_ _); rotate_left; (first | exact Nat.le_refl _ | omega | (simp <;> omega))))
  case rest =>
    obtain ⟨b8, b9, rfl, rfl, hTW, hb4⟩ := hcut
    have hB4 := hB3.trans (hb4.mono hB3.size)
    have h24 : Below o2.heap.size o2 wc := hb3.trans (hb4.mono hb3.size)
    have b74 := b7.below hb4 b7.lt
    have m0 := b74.cell 0 rfl
    have m1 := b74.cell 1 rfl
    have p0 := hTW.1.cell 0 rfl
    have p1 := hTW.1.cell 1 rfl
    have r0 := hTW.2.cell 0 rfl
    have r1 := hTW.2.cell 1 rfl
    clear k0 k1 k2 k3 i0 i1 j0 j1 b33 b43 b53 b7 hb3 hb4 hB3 hg3 hl3 hl4 hl5 HPL HPM HMK
    go_wp2_with fail
    refine (HAL.out wc _ _ (RdC.below HPP.out h24) (RdC.below HTT.out h24) (hg.below hB4)).mono ?_
    rintro e o5 ⟨_, rfl, rfl, hb5⟩
    have hB5 := hB4.trans (hb5.mono hB4.size)
    have h25 := h24.trans (hb5.mono h24.size)
    have b75 := b74.below hb5 b74.lt
    have hTW5 := hTW.below hb5
    clear m0 m1 p0 p1 r0 r1 b74 hTW hb5 hB4 h24 HAL
    have m0 := b75.cell 0 rfl
    have m1 := b75.cell 1 rfl
    have p0 := hTW5.1.cell 0 rfl
    have p1 := hTW5.1.cell 1 rfl
    go_wp2_with fail
    refine (HAN.out o5 _ _ (RdC.below HPP.out h25) (RdC.below HTT.out h25) (hg.below hB5)).mono ?_
    rintro e o6 ⟨_, rfl, rfl, hb6⟩
    have hB6 := hB5.trans (hb6.mono hB5.size)
    have hTW6 := hTW5.below hb6
    clear m0 m1 p0 p1 b75 hTW5 hb6 hB5 h25 HAN
    have p0 := hTW6.1.cell 0 rfl
    have p1 := hTW6.1.cell 1 rfl
    have r0 := hTW6.2.cell 0 rfl
    have r1 := hTW6.2.cell 1 rfl
    go_wp2_with fail
    go_ret
    exact ⟨_, rfl, rfl, hB6⟩

theorem meshAlongs_all (w : World) (kz s0 s1 : Int) (half : Bool) (x0 x1 y0 y1 : Int) (hk0 : 0 ≤ kz) (hk1 : kz ≤ 255) (hs0 : -128 ≤ s0 ∧ s0 ≤ 127) (hs1 : -128 ≤ s1 ∧ s1 ≤ 127)
    (hx0 : -128 ≤ x0 ∧ x0 ≤ 127) (hx1 : -128 ≤ x1 ∧ x1 ≤ 127) (hy0 : -128 ≤ y0 ∧ y0 ≤ 127) (hy1 : -128 ≤ y1 ∧ y1 ≤ 127) (hg : Good w) :
    Calls Tryz.prog 4 #[.agg #[.int .u8 kz, .int .i8 s0, .int .i8 s1, .bool half], .agg #[.int .i8 x0, .int .i8 x1], .agg #[.int .i8 y0, .int .i8 y1]] w (Ret (fun r _ => r = .bool true) w) := by
  by_cases h : (placeB 2 s0 half x0, placeB 2 s1 half x1) = (placeB 2 s0 half y0, placeB 2 s1 half y1)
  · exact ma_same w kz s0 s1 half x0 x1 y0 y1 hk0 hk1 hs0 hs1 hx0 hx1 hy0 hy1 h hg
  · exact ma_diff w kz s0 s1 half x0 x1 y0 y1 hk0 hk1 hs0 hs1 hx0 hx1 hy0 hy1 h hg

end Go.Proofs.YtccngnjkehibiaaGreatDoor
