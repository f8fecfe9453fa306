/- Plain: the different numbers of a list in order. The contract of slices.Compact at numbers in order. -/
import Derived.Test.YtdhcliekejiegaaGreatDoorM5
namespace Go.Proofs.YtdhcliekejiegaaGreatDoor
open Go.RowKit Go.Lib

def insD (x : Rat) : List Rat → List Rat
  | [] => [x]
  | y :: l => if x < y then x :: y :: l else if y < x then y :: insD x l else y :: l
/-- The different numbers, in order. -/
def sortD (l : List Rat) : List Rat := l.foldr insD []
theorem rat_lt_trans {a b c : Rat} (h1 : a < b) (h2 : b < c) : a < c := by
  refine Rat.not_le.1 fun h => ?_
  exact absurd (Rat.not_le.2 h1) (fun k => k (Rat.le_trans (Rat.le_of_lt h2) h))
theorem rat_lt_of_le_lt {a b c : Rat} (h1 : a ≤ b) (h2 : b < c) : a < c := Rat.not_le.1 fun h => absurd (Rat.le_trans h h1) (Rat.not_le.2 h2)
theorem rat_eq {x y : Rat} (h1 : ¬ x < y) (h2 : ¬ y < x) : x = y := Rat.le_antisymm (Rat.not_lt.1 h2) (Rat.not_lt.1 h1)
theorem insD_mem (x q : Rat) (l : List Rat) : q ∈ insD x l ↔ q = x ∨ q ∈ l := by
  induction l with
  | nil => simp [insD]
  | cons y l ih =>
    unfold insD
    split
    · simp
    · split
      · rw [List.mem_cons, ih, List.mem_cons]; constructor <;> (rintro (h | h | h) <;> simp [h])
      · rename_i h1 h2
        have := rat_eq h1 h2
        subst this
        simp
theorem insD_pw (x : Rat) (l : List Rat) (h : l.Pairwise (· < ·)) : (insD x l).Pairwise (· < ·) := by
  induction l with
  | nil => simp [insD]
  | cons y l ih =>
    rw [List.pairwise_cons] at h
    unfold insD
    split
    · rename_i h1
      rw [List.pairwise_cons, List.pairwise_cons]
      refine ⟨fun q hq => ?_, h⟩
      rcases List.mem_cons.1 hq with rfl | hq
      · exact h1
      · exact rat_lt_trans h1 (h.1 q hq)
    · split
      · rename_i h1 h2
        rw [List.pairwise_cons]
        refine ⟨fun q hq => ?_, ih h.2⟩
        rcases (insD_mem x q l).1 hq with rfl | hq
        · exact h2
        · exact h.1 q hq
      · exact List.pairwise_cons.2 h
theorem sortD_mem (l : List Rat) (q : Rat) : q ∈ sortD l ↔ q ∈ l := by
  unfold sortD
  induction l with
  | nil => simp
  | cons x l ih => rw [List.foldr_cons, insD_mem, ih, List.mem_cons]
theorem sortD_pw (l : List Rat) : (sortD l).Pairwise (· < ·) := by
  unfold sortD
  induction l with
  | nil => simp
  | cons x l ih => rw [List.foldr_cons]; exact insD_pw x _ ih
theorem pw_unique {a b : List Rat} (ha : a.Pairwise (· < ·)) (hb : b.Pairwise (· < ·)) (h : ∀ q, q ∈ a ↔ q ∈ b) : a = b := by
  have nd : ∀ {l : List Rat}, l.Pairwise (· < ·) → l.Nodup := fun hl => hl.imp (fun h e => by rw [e] at h; exact Rat.lt_irrefl h)
  exact ((List.perm_ext_iff_of_nodup (nd ha) (nd hb)).2 h).eq_of_pairwise (fun x y _ _ h1 h2 => absurd (rat_lt_trans h1 h2) Rat.lt_irrefl) ha hb
theorem sortD_perm {a b : List Rat} (h : a.Perm b) : sortD a = sortD b :=
  pw_unique (sortD_pw a) (sortD_pw b) fun q => by rw [sortD_mem, sortD_mem, h.mem_iff]

/-- A text, or none. -/
def encO : Option Rat → Value
  | none => .string ⟨#[]⟩
  | some q => .string (RS q)
theorem enc_eq (x y : Option Rat) : ∃ a b : ByteArray, encO x = .string a ∧ encO y = .string b ∧ (a.toList == b.toList) = decide (x = y) := by
  have hne : ∀ q : Rat, (RS q).toList ≠ [] := fun q => by
    rw [ba_toList, RS_list]; exact RL_ne_nil q
  have he : (⟨#[]⟩ : ByteArray).toList = [] := by rw [ba_toList]
  cases x with
  | none =>
    cases y with
    | none => exact ⟨_, _, rfl, rfl, by simp⟩
    | some q => exact ⟨_, _, rfl, rfl, by rw [he]; simp; exact hne q⟩
  | some p =>
    cases y with
    | none => exact ⟨_, _, rfl, rfl, by rw [he]; simp; exact hne p⟩
    | some q => exact ⟨_, _, rfl, rfl, by
        rw [ba_toList, ba_toList, RS_list, RS_list, RL_beq]
        simp⟩
theorem eqlO (T : Nat) : EqlAt Tryz.prog T encO (fun x y => decide (x = y)) := by
  refine ⟨fun x y w => ?_, fun op a b x y w => ?_⟩
  · obtain ⟨a, b, h1, h2, h3⟩ := enc_eq x y
    show Sem.run _ _ w = Result.ok (Value.bool (decide (x = y))) w
    rw [h1, h2, ← h3]
    exact (EqlAt.string Tryz.prog T).1 a b w
  · obtain ⟨u, v, h1, h2, _⟩ := enc_eq x y
    rw [h1, h2]
    exact GuardAt.string Tryz.prog T op a b u v w
theorem neqO (T : Nat) : NeqAt Tryz.prog T encO (fun x y => decide (x = y)) := by
  refine ⟨fun x y w => ?_, (eqlO T).2⟩
  obtain ⟨a, b, h1, h2, h3⟩ := enc_eq x y
  show Sem.run _ _ w = Result.ok (Value.bool (!decide (x = y))) w
  rw [h1, h2, ← h3]
  exact (NeqAt.string Tryz.prog T).1 a b w

open Go.Sort in
theorem putRow_gb {α : Type} [Inhabited α] (enc : α → Value) (w : World) (q blk off : Nat) (d : Array α) : w.grownBy (putRow enc (Sort.ahead w q) blk off d) (some blk) := by
  refine ⟨rfl, rfl, rfl, (by simp [putRow, mapBlock, Sort.ahead]), fun j hj hjn => ?_⟩
  unfold putRow mapBlock Sort.ahead
  show (w.heap.modify blk _)[j]? = _
  rw [Array.getElem?_modify, if_neg (by rintro rfl; exact hjn rfl)]

/-- What is kept of the first m. -/
theorem compact_sorted (l : List Rat) (hs : SortTo l l.length) (m : Nat) (hm : m ≤ l.length) :
    ∃ E : List Rat, Lib.compactUpTo (l.map some).toArray m = E.map some ∧ E.Pairwise (· < ·) ∧ ∀ q, q ∈ E ↔ ∃ a, a < m ∧ l[a]? = some q := by
  have hget : ∀ a x, l[a]? = some x → (l.map some).toArray[a]! = some x := fun a x h => by
    obtain ⟨h1, rfl⟩ := List.getElem?_eq_some_iff.1 h
    rw [getElem!_pos _ a (by simpa using h1)]
    simp
  induction m with
  | zero => exact ⟨[], rfl, List.Pairwise.nil, fun q => by simp⟩
  | succ m ih =>
    obtain ⟨E, h1, h2, h3⟩ := ih (by omega)
    obtain ⟨x, hx⟩ : ∃ x, l[m]? = some x := ⟨_, List.getElem?_eq_getElem (by omega)⟩
    rw [Lib.compactUpTo_succ, h1]
    cases hk : Lib.keeps (l.map some).toArray m
    · refine ⟨E, by simp, h2, fun q => ?_⟩
      rw [h3]
      unfold Lib.keeps at hk
      have hk' := of_decide_eq_false hk
      obtain ⟨m', rfl⟩ : ∃ m', m = m' + 1 := by
        rcases m with _ | m'
        · exact absurd (.inl rfl) hk'
        · exact ⟨m', rfl⟩
      obtain ⟨y, hy⟩ : ∃ y, l[m']? = some y := ⟨_, List.getElem?_eq_getElem (by omega)⟩
      have hxy : x = y := by
        have := fun h => hk' (.inr h)
        rw [hget _ _ hx, Nat.add_sub_cancel, hget _ _ hy] at this
        exact Option.some.inj (Classical.not_not.1 this)
      subst hxy
      constructor
      · rintro ⟨a, ha, hq⟩; exact ⟨a, by omega, hq⟩
      · rintro ⟨a, ha, hq⟩
        by_cases e : a = m' + 1
        · subst e; rw [hx] at hq; cases hq; exact ⟨m', by omega, hy⟩
        · exact ⟨a, by omega, hq⟩
    · refine ⟨E ++ [x], by simp [hget _ _ hx], ?_, fun q => ?_⟩
      · rw [List.pairwise_append]
        refine ⟨h2, by simp, fun q hq r hr => ?_⟩
        rw [List.mem_singleton] at hr
        subst hr
        obtain ⟨a, ha, hqa⟩ := (h3 q).1 hq
        unfold Lib.keeps at hk
        have hk' := of_decide_eq_true hk
        obtain ⟨m', rfl⟩ : ∃ m', m = m' + 1 := ⟨m - 1, by omega⟩
        obtain ⟨y, hy⟩ : ∃ y, l[m']? = some y := ⟨_, List.getElem?_eq_getElem (by omega)⟩
        have hne : r ≠ y := by
          rcases hk' with h | h
          · omega
          · rw [hget _ _ hx, Nat.add_sub_cancel, hget _ _ hy] at h
            exact fun e => h (by rw [e])
        have hyr : y < r := Rat.lt_of_le_of_ne (hs m' (m' + 1) y r (by omega) (by omega) hy hx) (fun e => hne e.symm)
        by_cases e : a = m'
        · subst e; rw [hqa] at hy; cases hy; exact hyr
        · exact rat_lt_of_le_lt (hs a m' q y (by omega) (by omega) hqa hy) hyr
      · rw [List.mem_append, h3, List.mem_singleton]
        constructor
        · rintro (⟨a, ha, hq⟩ | rfl)
          · exact ⟨a, by omega, hq⟩
          · exact ⟨m, by omega, hx⟩
        · rintro ⟨a, ha, hq⟩
          by_cases e : a = m
          · subst e; rw [hx] at hq; cases hq; exact .inr rfl
          · exact .inl ⟨a, by omega, hq⟩

open Go.Sort in
theorem compactRat_any (w : World) (g cap : Nat) (l : List Rat) (hln : l.length ≤ 1000) (hs : SortTo l l.length) (hrow : RowQ w g l) (hcap : l.length ≤ cap) :
    Calls Tryz.prog 107 #[.slice (some ⟨g, 0, none⟩) l.length cap] w
      (fun e w' => e = .returned (.slice (some ⟨g, 0, none⟩) (sortD l).length cap) ∧ RowQ w' g (sortD l) ∧ w.grownBy w' (some g)) := by
  have hds : ((l.map some).toArray : Array (Option Rat)).size = l.length := by simp
  have hH : Holds encO w g 0 (l.map some).toArray := fun j hj => by
    rw [hds] at hj
    rw [Nat.zero_add, getElem!_pos _ j (by rw [hds]; exact hj)]
    simp only [List.getElem_toArray, List.getElem_map]
    exact hrow j _ (List.getElem?_eq_getElem hj)
  have hcon := AnyE.slices_Compact Tryz.compactRat encO (fun x => by cases x <;> rfl) (eqlO _) (neqO _) none (fun w => by kernel_rfl) g 0 cap (l.map some).toArray w hH (by rw [hds]; omega) (by rw [hds]; exact hcap)
  rw [hds] at hcon
  change Calls Tryz.prog 107 _ _ _ at hcon
  obtain ⟨E, h1, h2, h3⟩ := compact_sorted l hs l.length (Nat.le_refl _)
  have hE : E = sortD l := pw_unique h2 (sortD_pw l) fun q => by
    rw [h3, sortD_mem, List.mem_iff_getElem?]
    constructor
    · rintro ⟨a, _, h⟩; exact ⟨a, h⟩
    · rintro ⟨a, h⟩; exact ⟨a, (List.getElem?_eq_some_iff.1 h).1, h⟩
  rw [h1, hE, List.length_map] at hcon
  refine hcon.mono ?_
  rintro e w' ⟨rfl, q, rfl⟩
  refine ⟨rfl, fun a x ha => ?_, putRow_gb _ _ _ _ _ _⟩
  have hlen : (sortD l).length ≤ l.length := by
    rw [← hE]
    have h4 : (E.map some).length ≤ l.length := by
      rw [← h1]
      unfold Lib.compactUpTo
      rw [List.length_map]
      exact Nat.le_trans (List.length_filter_le _ _) (by simp)
    simpa using h4
  have hsz : (((sortD l).map some ++ List.replicate (l.length - (sortD l).length) none).toArray : Array (Option Rat)).size = ((l.map some).toArray : Array (Option Rat)).size := by simp; omega
  have hp := holds_putRow encO (Sort.ahead w q) g 0 (l.map some).toArray _ (holds_ahead encO w q g 0 _ hH) hsz
  have hal : a < (sortD l).length := (List.getElem?_eq_some_iff.1 ha).1
  have := hp a (by simp; omega)
  rw [Nat.zero_add, getElem!_pos _ a (by simp; omega)] at this
  simp only [List.getElem_toArray] at this
  rw [List.getElem_append_left (by simpa using hal), List.getElem_map] at this
  obtain ⟨_, e⟩ := List.getElem?_eq_some_iff.1 ha
  rw [e] at this
  exact this

end Go.Proofs.YtdhcliekejiegaaGreatDoor
