/- Plain: the spans of a segment. Two appends in one statement. -/
import Derived.Test.YtdhcliekejiegaaGreatDoorM7
import Derived.Test.YtdhcliekejiegaaGreatDoorE3
namespace Go.Proofs.YtdhcliekejiegaaGreatDoor
open Go.RowKit Go.Lib

def spanAt (P : List PtQ) (T : List Tri) (a b : PtQ) (i : Nat) : List SpanQ :=
  match T[i]? with
  | none => []
  | some tr => match withinF (ptI P tr.1) (ptI P tr.2.1) (ptI P tr.2.2) a b with
    | none => []
    | some l => [(i, l.1, l.2)]
/-- The spans in the first n triangles, and their ends. -/
def spansN (P : List PtQ) (T : List Tri) (a b : PtQ) (n : Nat) : List SpanQ := (List.range n).flatMap (spanAt P T a b)
def endsS (A : List SpanQ) : List Rat := A.flatMap fun s => [s.2.1, s.2.2]
theorem spansN_succ (P : List PtQ) (T : List Tri) (a b : PtQ) (n : Nat) : spansN P T a b (n + 1) = spansN P T a b n ++ spanAt P T a b n := by
  unfold spansN
  rw [List.range_succ, List.flatMap_append]
  simp
theorem endsS_append (A B : List SpanQ) : endsS (A ++ B) = endsS A ++ endsS B := by simp [endsS]
theorem endsS_length (A : List SpanQ) : (endsS A).length = 2 * A.length := by
  induction A with
  | nil => rfl
  | cons s A ih => unfold endsS at *; rw [List.flatMap_cons, List.length_append, ih]; simp; omega
theorem spanAt_some {P : List PtQ} {T : List Tri} {a b : PtQ} {i : Nat} {tr : Tri} (ht : T[i]? = some tr) {l : Rat × Rat} (h : withinF (ptI P tr.1) (ptI P tr.2.1) (ptI P tr.2.2) a b = some l) : spanAt P T a b i = [(i, l.1, l.2)] := by
  unfold spanAt; rw [ht]; dsimp only; rw [h]
theorem spanAt_none {P : List PtQ} {T : List Tri} {a b : PtQ} {i : Nat} {tr : Tri} (ht : T[i]? = some tr) (h : withinF (ptI P tr.1) (ptI P tr.2.1) (ptI P tr.2.2) a b = none) : spanAt P T a b i = [] := by
  unfold spanAt; rw [ht]; dsimp only; rw [h]
theorem spanAt_le (P : List PtQ) (T : List Tri) (a b : PtQ) (i : Nat) : (spanAt P T a b i).length ≤ 1 := by
  unfold spanAt
  split
  · simp
  · split <;> simp
theorem spansN_le (P : List PtQ) (T : List Tri) (a b : PtQ) (n : Nat) : (spansN P T a b n).length ≤ n := by
  induction n with
  | zero => simp [spansN]
  | succ n ih => rw [spansN_succ, List.length_append]; have := spanAt_le P T a b n; omega

/-- A part is taken up. -/
def stepO (A : List SpanQ) (out : List SpanQ) (x y : Rat) : List SpanQ :=
  match findK x y A with
  | none => out
  | some k => match out.getLast? with
    | none => out ++ [((A[k]?.getD (0, 0, 0)).1, x, y)]
    | some l => if l.1 = (A[k]?.getD (0, 0, 0)).1 ∧ l.2.2 = x then out.dropLast ++ [(l.1, l.2.1, y)] else out ++ [((A[k]?.getD (0, 0, 0)).1, x, y)]
/-- Behind the first i ends. -/
def joinN (A : List SpanQ) (E : List Rat) : Nat → List SpanQ
  | 0 => []
  | i + 1 => stepO A (joinN A E i) (E[i]?.getD 0) (E[i + 1]?.getD 0)
def alongS (A : List SpanQ) : List SpanQ := joinN A (sortD (endsS A)) ((sortD (endsS A)).length - 1)
/-- What Along returns. -/
def alongL (P : List PtQ) (T : List Tri) (a b : PtQ) : List SpanQ := alongS (spansN P T a b T.length)

theorem stepO_len (A out : List SpanQ) (x y : Rat) : (stepO A out x y).length ≤ out.length + 1 := by
  unfold stepO
  split
  · omega
  · split
    · simp
    · split
      · simp [List.length_dropLast] <;> omega
      · simp
theorem joinN_len (A : List SpanQ) (E : List Rat) (i : Nat) : (joinN A E i).length ≤ i := by
  induction i with
  | zero => exact Nat.le_refl _
  | succ i ih => have := stepO_len A (joinN A E i) (E[i]?.getD 0) (E[i + 1]?.getD 0); unfold joinN; omega
theorem stepO_Sz {A out : List SpanQ} {x y : Rat} (hx : Sz 200 x) (hy : Sz 200 y) (h : ∀ s ∈ out, Sz 200 s.2.1 ∧ Sz 200 s.2.2) : ∀ s ∈ stepO A out x y, Sz 200 s.2.1 ∧ Sz 200 s.2.2 := by
  intro s hs
  have new : ∀ n : Nat, s ∈ out ++ [(n, x, y)] → Sz 200 s.2.1 ∧ Sz 200 s.2.2 := fun n hn => by
    rcases List.mem_append.1 hn with hn | hn
    · exact h s hn
    · rw [List.mem_singleton] at hn; subst hn; exact ⟨hx, hy⟩
  unfold stepO at hs
  split at hs
  · exact h s hs
  · split at hs
    · exact new _ hs
    · rename_i l hl
      split at hs
      · rcases List.mem_append.1 hs with hn | hn
        · exact h s (List.dropLast_subset _ hn)
        · rw [List.mem_singleton] at hn; subst hn
          exact ⟨(h l (List.mem_of_getLast? hl)).1, hy⟩
      · exact new _ hs
theorem getD_Sz {E : List Rat} (h : ∀ q ∈ E, Sz 200 q) (i : Nat) : Sz 200 (E[i]?.getD 0) := by
  cases he : E[i]? with
  | none => exact Sz.zero _ (by omega)
  | some q => exact h q (List.mem_of_getElem? he)
theorem joinN_Sz {A : List SpanQ} {E : List Rat} (hE : ∀ q ∈ E, Sz 200 q) (i : Nat) : ∀ s ∈ joinN A E i, Sz 200 s.2.1 ∧ Sz 200 s.2.2 := by
  induction i with
  | zero => intro s hs; cases hs
  | succ i ih => exact stepO_Sz (getD_Sz hE _) (getD_Sz hE _) ih

theorem info_Span : ((Tryz.prog).info? 104).map (fun i => (i.zero, i.size, i.bytes)) = some (some (.agg #[.int .i64 0, .string ⟨#[]⟩, .string ⟨#[]⟩]), 3, 40) := by kernel_rfl
theorem span_one (i : Int) (x y : ByteArray) : ∀ r ∈ [Value.int .i64 i, .string x, .string y], r.oneCell' = true := by
  intro r hr; simp at hr; rcases hr with rfl | rfl | rfl <;> rfl

/-- The world within the statement that appends twice. -/
structure ApW (W : World) (Be : Nat) (v0 : Value) (vA : Value) (nA : Nat) (LA : List Value) (vB : Value) (nB : Nat) (LB : List Value) (bA bB : Option Nat) (cA cB : List Value) (x : World) : Prop where
  oa : x.ownsRow W.heap.size 104 3 vA nA LA
  ob : x.ownsRow W.heap.size 32 1 vB nB LB
  box : BoxN x Be 60 [v0]
  gb : W.grownBy x (some Be)
  ka : ∀ b, bA = some b → BoxN x b 104 cA ∧ vA.ownBlock ≠ some b ∧ W.heap.size ≤ b
  kb : ∀ b, bB = some b → BoxN x b 32 cB ∧ vB.ownBlock ≠ some b ∧ W.heap.size ≤ b
theorem BoxN.alloc {w : World} {b t : Nat} {l : List Value} (h : BoxN w b t l) (o : Obj) : BoxN (w.alloc o) b t l := h.below ((Below.refl _ _).alloc (Nat.le_refl _) _) h.lt
theorem own_ne {w : World} {base e s n : Nat} {v : Value} {xs : List Value} (h : w.ownsRow base e s v n xs) : v.ownBlock ≠ some w.heap.size := fun e => by
  have := (h.lt _ e).2; omega
section
variable {W : World} {Be : Nat} {v0 vA vB : Value} {nA nB : Nat} {LA LB cA cB : List Value} {bA bB : Option Nat} {x : World}
theorem ApW.alloc_a (h : ApW W Be v0 vA nA LA vB nB LB none bB cA cB x) : ApW W Be v0 vA nA LA vB nB LB (some x.heap.size) bB cA cB (x.alloc (.cells cA.toArray 104)) where
  oa := h.oa.alloc _
  ob := h.ob.alloc _
  box := h.box.alloc _
  gb := gb_alloc h.gb _
  ka := fun b e => by cases e; exact ⟨BoxN.new _ _ _ _ rfl, own_ne h.oa, h.gb.size⟩
  kb := fun b e => ⟨(h.kb b e).1.alloc _, (h.kb b e).2⟩
theorem ApW.alloc_b (h : ApW W Be v0 vA nA LA vB nB LB bA none cA cB x) : ApW W Be v0 vA nA LA vB nB LB bA (some x.heap.size) cA cB (x.alloc (.cells cB.toArray 32)) where
  oa := h.oa.alloc _
  ob := h.ob.alloc _
  box := h.box.alloc _
  gb := gb_alloc h.gb _
  ka := fun b e => ⟨(h.ka b e).1.alloc _, (h.ka b e).2⟩
  kb := fun b e => by cases e; exact ⟨BoxN.new _ _ _ _ rfl, own_ne h.ob, h.gb.size⟩
theorem ApW.app_a {b : Nat} {w' : World} {vA' : Value} {n' : Nat} {L' : List Value} (h : ApW W Be v0 vA nA LA vB nB LB (some b) bB cA cB x) (ho : w'.ownsRow W.heap.size 104 3 vA' n' L') (hg : x.grownBy w' vA.ownBlock) : ApW W Be v0 vA' n' L' vB nB LB none bB cA cB w' where
  oa := ho
  ob := h.ob.kept hg (owns_apart h.ob h.oa (by decide))
  box := h.box.gb hg (fun e => owns_boxN h.oa h.box (by decide) e.symm)
  gb := gb_grown h.gb hg (fun j e => (h.oa.lt j e).1)
  ka := fun b e => by cases e
  kb := fun b e => ⟨(h.kb b e).1.gb hg (fun e2 => owns_boxN h.oa (h.kb b e).1 (by decide) e2.symm), (h.kb b e).2⟩
theorem ApW.app_b {b : Nat} {w' : World} {vB' : Value} {n' : Nat} {L' : List Value} (h : ApW W Be v0 vA nA LA vB nB LB bA (some b) cA cB x) (ho : w'.ownsRow W.heap.size 32 1 vB' n' L') (hg : x.grownBy w' vB.ownBlock) : ApW W Be v0 vA nA LA vB' n' L' bA none cA cB w' where
  oa := h.oa.kept hg (owns_apart h.oa h.ob (by decide))
  ob := ho
  box := h.box.gb hg (fun e => owns_boxN h.ob h.box (by decide) e.symm)
  gb := gb_grown h.gb hg (fun j e => (h.ob.lt j e).1)
  ka := fun b e => ⟨(h.ka b e).1.gb hg (fun e2 => owns_boxN h.ob (h.ka b e).1 (by decide) e2.symm), (h.ka b e).2⟩
  kb := fun b e => by cases e
theorem ApW.news_a {b : Nat} (h : ApW W Be v0 vA nA LA vB nB LB (some b) bB cA cB x) : ∀ j u, cA[j]? = some u → x.cell? ((⟨b, 0, none⟩ : Addr).add j) = some u := by
  have := World.news_of_block (show x.heap[b]? = some (.cells cA.toArray 104 (0, 0)) from (h.ka b rfl).1)
  simpa using this
theorem ApW.news_b {b : Nat} (h : ApW W Be v0 vA nA LA vB nB LB bA (some b) cA cB x) : ∀ j u, cB[j]? = some u → x.cell? ((⟨b, 0, none⟩ : Addr).add j) = some u := by
  have := World.news_of_block (show x.heap[b]? = some (.cells cB.toArray 32 (0, 0)) from (h.kb b rfl).1)
  simpa using this
theorem ApW.drew (h : ApW W Be v0 vA nA LA vB nB LB bA bB cA cB x) : ApW W Be v0 vA nA LA vB nB LB bA bB cA cB x.drew where
  oa := World.ownsRow.belowAll h.oa (below_drewN x 1)
  ob := World.ownsRow.belowAll h.ob (below_drewN x 1)
  box := h.box.drew
  gb := gb_below h.gb (below_drewN x 1)
  ka := h.ka
  kb := h.kb
end

end Go.Proofs.YtdhcliekejiegaaGreatDoor
