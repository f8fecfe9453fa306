/- A region that draws its order, with a condition on the world that may end with an operation: 'S listed w' holds behind each operation; a load is taken first if it yields its value wherever the region can stand while the load has not come up. -/
import Derived.Deep.RegionHeld3
namespace Go.Proofs.YtdhcliekejiegaaGreatDoor
open Go

section
variable {P : Program} {ops : Array Oper} {Q : Exit → Act → World → Prop} {md : Region.Mode} {S : Array Bool → World → Prop}

/-- Whatever order is picked from here on, and S holds of what is listed and of the world, behind every operation. -/
def AnyL (P : Program) (md : Region.Mode) (ops : Array Oper) (Q : Exit → Act → World → Prop) (S : Array Bool → World → Prop) : Nat → Array Bool → Act → World → Prop
  | 0, l, a, w => Region.ready md ops l = [] ∧ Q .normal a w
  | n + 1, l, a, w => (Region.ready md ops l = [] → Q .normal a w) ∧ ∀ i ∈ Region.ready md ops l, wpOp P ops Q i (fun a' w' => S (l.setIfInBounds i true) w' ∧ AnyL P md ops Q S n (l.setIfInBounds i true) a' w') a w

theorem AnyL.any : ∀ (n : Nat) (l : Array Bool) (a : Act) (w : World), AnyL P md ops Q S n l a w → wpAny P md ops Q n l a w
  | 0, _, _, _, h => h
  | n + 1, _, _, _, h => ⟨h.1, fun i hi => wpOp_mono (fun a' w' h' => AnyL.any n _ a' w' h'.2) (h.2 i hi)⟩

/-- The beginning. -/
theorem AnyL.region {id : Nat} {a : Act} {w : World} (hm : P.follows .mixedOrders = true)
    (h : AnyL P .any ops Q S ops.size (Array.replicate ops.size false) a w.drew) : (Code.region id ops true).wp P Q a w :=
  wp_region_any hm (AnyL.any _ _ _ _ h)

/-- Number i is taken first. R: what the list meets while i waits. -/
theorem AnyL.first {i : Nat} {oi : Oper} {v : Value} {C : World → Prop} {R : Array Bool → Prop} (hi : ops[i]? = some oi) (hs : Region.noSelect ops = true)
    (hQ : ∀ c a w, Q (.panic c) (a.put oi.dst v) w → Q (.panic c) a w)
    (hR : ∀ l j, R l → j ∈ Region.ready md ops l → l.getD i true = false → j ≠ i → R (l.setIfInBounds j true))
    (hC : ∀ l w, R l → S (l.setIfInBounds i true) w → C w) (hD : ∀ l w, R l → S (l.setIfInBounds i true) w → S l w) :
    ∀ (n : Nat) (l : Array Bool) (a : Act) (w : World),
      (∀ j oj, ops[j]? = some oj → j ≠ i → l.getD j true = false → (∀ e ∈ oj.after, Region.binds md e = true → e.on ≠ i) → oi.apart ops oj = true) →
      R l → i ∈ Region.ready md ops l → YieldsIf P ops C oi v a → C w → S (l.setIfInBounds i true) w →
      AnyL P md ops Q S n (l.setIfInBounds i true) (a.put oi.dst v) w → AnyL P md ops Q S (n + 1) l a w
  | 0, l, a, w, _, _, hr, hy, hc, hS, H => by
    refine ⟨fun h => (by rw [h] at hr; cases hr), fun j hj => ?_⟩
    by_cases e : j = i
    · subst e; exact hy.wpOp hi hc ⟨hS, H⟩
    · have := ready_mono hj e
      rw [H.1] at this
      cases this
  | n + 1, l, a, w, hf, hRl, hr, hy, hc, hS, H => by
    refine ⟨fun h => (by rw [h] at hr; cases hr), fun j hj => ?_⟩
    by_cases e : j = i
    · subst e; exact hy.wpOp hi hc ⟨hS, H⟩
    · have hun := (mem_ready.1 hr).1
      obtain ⟨hju, oj, hoj, hall⟩ := mem_ready.1 hj
      have hno : ∀ d ∈ oj.after, Region.binds md d = true → d.on ≠ i := fun d hd hb heq => by
        have h1 := hall d hd hb
        rw [heq] at h1
        rw [Array.getD_eq_getD_getElem?] at h1 hun
        cases hg : l[i]? with
        | none => rw [hg] at h1; cases h1
        | some b => rw [hg] at h1 hun; simp at h1 hun; rw [h1] at hun; cases hun
      have h2 := wpOp_putIf hoj (hf j oj hoj e hju hno) (fun cs b => Region.noSelect_spec hs i oi cs b hi) (fun cs b => Region.noSelect_spec hs j oj cs b hoj) hQ hy (H.2 j (ready_mono hj e))
      have hRj := hR l j hRl hj hun e
      have hcomm : (l.setIfInBounds i true).setIfInBounds j true = (l.setIfInBounds j true).setIfInBounds i true := Array.setIfInBounds_comm _ _ (Ne.symm e)
      refine wpOp_mono (fun a' w' h3 => ?_) h2
      obtain ⟨h4, h5, h6⟩ := h3
      rw [hcomm] at h5 h6
      refine ⟨hD _ _ hRj h5, AnyL.first hi hs hQ hR hC hD n _ a' w' (fun m om hom hmi hmu hmn => hf m om hom hmi ?_ hmn) hRj (ready_mono hr (Ne.symm e)) h4 (hC _ _ hRj h5) h5 h6⟩
      by_cases hjm : j = m
      · subst hjm; exact hju
      · rw [getD_set_ne true hjm] at hmu; exact hmu

/-- The condition: A throughout, and B till number k comes up. -/
def Till (k : Nat) (A B : World → Prop) (l : Array Bool) (w : World) : Prop := A w ∧ (l.getD k true = false → B w)

/-- Taken first: what A alone makes yield. -/
theorem AnyL.take {k i : Nat} {A B : World → Prop} {oi : Oper} {v : Value} {n : Nat} {l : Array Bool} {a : Act} {w : World} (hi : ops[i]? = some oi) (hs : Region.noSelect ops = true)
    (hf : Region.free md ops l i = true) (hr : (Region.ready md ops l).contains i = true) (hki : i ≠ k) (hQ : ∀ c a w, Q (.panic c) (a.put oi.dst v) w → Q (.panic c) a w)
    (hy : YieldsIf P ops A oi v a) (hS : Till k A B l w) (h : AnyL P md ops Q (Till k A B) n (l.setIfInBounds i true) (a.put oi.dst v) w) : AnyL P md ops Q (Till k A B) (n + 1) l a w := by
  refine AnyL.first (R := fun _ => True) (C := A) hi hs hQ (fun _ _ _ _ _ _ => trivial) (fun _ _ _ h => h.1) (fun l w _ h => ⟨h.1, fun hk => h.2 (by rw [getD_set_ne true hki]; exact hk)⟩) n l a w (Region.free_spec hi hf) trivial (by simpa using hr) hy hS.1 ⟨hS.1, fun hk => hS.2 (by rw [getD_set_ne true hki] at hk; exact hk)⟩ h

/-- One operation comes up, alone. -/
theorem AnyL.one {i : Nat} {o : Oper} {n : Nat} {l : Array Bool} {a : Act} {w : World} (hr : Region.ready md ops l = [i]) (ho : ops[i]? = some o)
    (h : ∀ K' : Act → World → Prop, Shut (∀ a w, S (l.setIfInBounds i true) w → (S (l.setIfInBounds i true) w → AnyL P md ops Q S n (l.setIfInBounds i true) a w) → K' a w) → if Region.wanted o (yielded ops a.tmps) = true then Oper.wp P o a w K' Q else K' (a.put o.dst undef) w) :
    AnyL P md ops Q S (n + 1) l a w := by
  refine ⟨fun h0 => (by rw [h0] at hr; cases hr), fun j hj => ?_⟩
  rw [hr] at hj
  obtain rfl : j = i := by simpa using hj
  exact wpOp_step ho (fun K' hK => h K' (fun a w hS hW => hK a w ⟨hS, hW hS⟩))

theorem AnyL.done {l : Array Bool} {a : Act} {w : World} (hr : Region.ready md ops l = []) (h : Q .normal a w) : ∀ n, AnyL P md ops Q S n l a w
  | 0 => ⟨hr, h⟩
  | _ + 1 => ⟨fun _ => h, by rw [hr]; simp⟩
end
end Go.Proofs.YtdhcliekejiegaaGreatDoor
