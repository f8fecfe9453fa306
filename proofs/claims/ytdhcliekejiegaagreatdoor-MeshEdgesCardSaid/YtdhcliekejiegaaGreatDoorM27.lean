/- Plain: the edges of a mesh, in order. -/
import Derived.Test.YtdhcliekejiegaaGreatDoorM26
namespace Go.Proofs.YtdhcliekejiegaaGreatDoor
open Go.RowKit Go.Lib

def normE (s : Edge) : Edge := (min s.1 s.2, max s.1 s.2)
/-- Which side stands for its edge. -/
def edgeB (E : List Edge) (s : Edge) : Bool := decide (s.1 < s.2) || !(E.contains (revE s))
/-- The edges of the sides. -/
def edgesU (E : List Edge) : List Edge := (E.filter (edgeB E)).map normE
def insE (s : Edge) : List Edge → List Edge
  | [] => [s]
  | t :: l => if keyQ s < keyQ t then s :: t :: l else if keyQ t < keyQ s then t :: insE s l else t :: l
/-- The edges in order. -/
def edgesL (E : List Edge) : List Edge := (edgesU E).foldr insE []
theorem insE_key (s : Edge) (l : List Edge) : (insE s l).map keyQ = insD (keyQ s) (l.map keyQ) := by
  induction l with
  | nil => rfl
  | cons t l ih =>
    unfold insE
    rw [List.map_cons]
    unfold insD
    split
    · rfl
    · split
      · rw [List.map_cons, ih]
      · rfl
theorem insE_mem {s q : Edge} {l : List Edge} (h : q ∈ insE s l) : q = s ∨ q ∈ l := by
  induction l with
  | nil => simp [insE] at h; exact .inl h
  | cons t l ih =>
    unfold insE at h
    split at h
    · simpa using h
    · split at h
      · rcases List.mem_cons.1 h with rfl | h
        · simp
        · rcases ih h with h | h <;> simp [h]
      · exact .inr h
theorem edgesL_key (E : List Edge) : (edgesL E).map keyQ = sortD ((edgesU E).map keyQ) := by
  unfold edgesL sortD
  induction edgesU E with
  | nil => rfl
  | cons s l ih => rw [List.foldr_cons, insE_key, ih, List.map_cons, List.foldr_cons]
theorem edgesL_mem {E : List Edge} {q : Edge} (h : q ∈ edgesL E) : q ∈ edgesU E := by
  unfold edgesL at h
  revert h
  generalize edgesU E = U
  induction U with
  | nil => intro h; exact h
  | cons s l ih =>
    intro h
    rw [List.foldr_cons] at h
    rcases insE_mem h with rfl | h
    · simp
    · exact List.mem_cons_of_mem _ (ih h)
theorem map_key_inj : ∀ {a b : List Edge}, (∀ s ∈ a, SmE s) → (∀ s ∈ b, SmE s) → a.map keyQ = b.map keyQ → a = b := by
  intro a
  induction a with
  | nil => intro b _ _ h; cases b with
    | nil => rfl
    | cons t b => simp at h
  | cons s a ih =>
    intro b h1 h2 h
    cases b with
    | nil => simp at h
    | cons t b =>
      rw [List.map_cons, List.map_cons] at h
      injection h with e1 e2
      rw [keyQ_inj s t (h1 s (by simp)) (h2 t (by simp)) e1, ih (fun x hx => h1 x (by simp [hx])) (fun x hx => h2 x (by simp [hx])) e2]
theorem normE_sm {s : Edge} (h : SmE s) : SmE (normE s) := by
  obtain ⟨⟨a, b⟩, c, d⟩ := h
  unfold normE SmE
  dsimp only
  omega
theorem normE_eq {s t : Edge} (h : normE s = normE t) : s = t ∨ s = revE t := by
  unfold normE at h
  have h1 := congrArg Prod.fst h
  have h2 := congrArg Prod.snd h
  dsimp only at h1 h2
  unfold revE
  by_cases e : s.1 = t.1
  · exact .inl (Prod.ext e (by omega))
  · exact .inr (Prod.ext (by show s.1 = t.2; omega) (by show s.2 = t.1; omega))
theorem revE_revE (s : Edge) : revE (revE s) = s := rfl
theorem edgesU_sm {E : List Edge} (h : ∀ s ∈ E, SmE s) : ∀ s ∈ edgesU E, SmE s := fun s hs => by
  unfold edgesU at hs
  obtain ⟨t, ht, rfl⟩ := List.mem_map.1 hs
  exact normE_sm (h t (List.mem_filter.1 ht).1)
theorem edgesU_nodup {E : List Edge} (hn : E.Nodup) (h : ∀ s ∈ E, SmE s) : ((edgesU E).map keyQ).Nodup := by
  unfold edgesU List.Nodup
  rw [List.pairwise_map, List.pairwise_map]
  refine List.Pairwise.imp_of_mem ?_ (hn.filter _ : (E.filter (edgeB E)).Nodup)
  intro a b ha hb hab e
  obtain ⟨ha1, ha2⟩ := List.mem_filter.1 ha
  obtain ⟨hb1, hb2⟩ := List.mem_filter.1 hb
  have e2 := keyQ_inj _ _ (normE_sm (h a ha1)) (normE_sm (h b hb1)) e
  rcases normE_eq e2 with e3 | e3
  · exact hab e3
  · have hra : E.contains (revE a) = true := by rw [e3, revE_revE]; simpa using hb1
    have hrb : E.contains (revE b) = true := by rw [← e3]; simpa using ha1
    unfold edgeB at ha2 hb2
    rw [hra] at ha2
    rw [hrb] at hb2
    simp at ha2 hb2
    rw [e3] at ha2
    unfold revE at ha2
    dsimp only at ha2
    omega
/-- What has been sorted is the list of the edges. -/
theorem edges_unique {E L l : List Edge} (hn : E.Nodup) (h : ∀ s ∈ E, SmE s) (hL : L.Perm (edgesU E)) (hl : l.Perm L) (hs : SortTo (l.map keyQ) l.length) : l = edgesL E := by
  have hlu := hl.trans hL
  have hsm : ∀ s ∈ l, SmE s := fun s hx => edgesU_sm h s (hlu.mem_iff.1 hx)
  have hnd : (l.map keyQ).Nodup := (hlu.map keyQ).nodup_iff.2 (edgesU_nodup hn h)
  refine map_key_inj hsm (fun s hx => edgesU_sm h s (edgesL_mem hx)) ?_
  rw [edgesL_key]
  refine pw_unique ?_ (sortD_pw _) (fun q => by rw [sortD_mem]; exact (hlu.map keyQ).mem_iff)
  refine List.pairwise_iff_getElem.2 fun i j hi hj hij => ?_
  have hj' : j < l.length := by rw [List.length_map] at hj; exact hj
  have hle := hs i j _ _ hij hj' (List.getElem?_eq_getElem hi) (List.getElem?_eq_getElem hj)
  have hne := List.pairwise_iff_getElem.1 hnd i j hi hj hij
  exact Rat.not_le.1 fun h2 => hne (Rat.le_antisymm hle h2)

/-- The sides that have come, of those that stand for their edge. -/
def seenE (E : List Edge) (left : Edge → Bool) : List Edge := E.filter fun s => !left s && edgeB E s
theorem seenE_add {E : List Edge} (hn : E.Nodup) {left left' : Edge → Bool} {s : Edge} (hs : s ∈ E) (hl : left s = true) (hb : edgeB E s = true) (h1 : ∀ t ∈ E, t ≠ s → left' t = left t) (h2 : left' s = false) : (s :: seenE E left).Perm (seenE E left') := by
  have hns : s ∉ seenE E left := fun h => by
    have := (List.mem_filter.1 h).2
    rw [hl] at this; simp at this
  refine (List.perm_ext_iff_of_nodup (List.nodup_cons.2 ⟨hns, hn.filter _⟩) (hn.filter _)).2 fun t => ?_
  unfold seenE
  rw [List.mem_cons, List.mem_filter, List.mem_filter]
  constructor
  · rintro (rfl | ⟨h3, h4⟩)
    · exact ⟨hs, by rw [h2, hb]; rfl⟩
    · have hts : t ≠ s := fun e => by rw [e, hl] at h4; simp at h4
      exact ⟨h3, by rw [h1 t h3 hts]; exact h4⟩
  · rintro ⟨h3, h4⟩
    by_cases hts : t = s
    · exact .inl hts
    · exact .inr ⟨h3, by rw [h1 t h3 hts] at h4; exact h4⟩
theorem seenE_skip {E : List Edge} {left left' : Edge → Bool} {s : Edge} (hb : edgeB E s = false) (h1 : ∀ t ∈ E, t ≠ s → left' t = left t) : seenE E left' = seenE E left := by
  unfold seenE
  refine List.filter_congr fun t ht => ?_
  by_cases hts : t = s
  · rw [hts, hb]; simp
  · rw [h1 t ht hts]
theorem seenE_none {E : List Edge} {left : Edge → Bool} (h : ∀ s ∈ E, left s = true) : seenE E left = [] := by
  unfold seenE
  rw [List.filter_eq_nil_iff]
  intro s hs
  rw [h s hs]; simp
theorem seenE_all {E : List Edge} {left : Edge → Bool} (h : ∀ s ∈ E, left s = false) : (seenE E left).map normE = edgesU E := by
  unfold seenE edgesU
  congr 1
  refine List.filter_congr fun t ht => ?_
  rw [h t ht]; simp

/-- The cells of pairs. -/
def cellsE (l : List Edge) : List Value := l.flatMap fun s => [.int .i64 s.1, .int .i64 s.2]
theorem cellsE_snoc (l : List Edge) (s : Edge) : cellsE (l ++ [s]) = cellsE l ++ [.int .i64 s.1, .int .i64 s.2] := by simp [cellsE]
theorem cellsE_length (l : List Edge) : (cellsE l).length = l.length * 2 := by
  induction l with
  | nil => rfl
  | cons s l ih =>
    rw [show cellsE (s :: l) = .int .i64 s.1 :: .int .i64 s.2 :: cellsE l by simp [cellsE], List.length_cons, List.length_cons, ih, List.length_cons]
    omega
theorem cellsE_get (l : List Edge) (a : Nat) (s : Edge) (h : l[a]? = some s) : (cellsE l)[a * 2]? = some (.int .i64 s.1) ∧ (cellsE l)[a * 2 + 1]? = some (.int .i64 s.2) := by
  induction l generalizing a with
  | nil => simp at h
  | cons t l ih =>
    rw [show cellsE (t :: l) = .int .i64 t.1 :: .int .i64 t.2 :: cellsE l by simp [cellsE]]
    cases a with
    | zero => simp at h; subst h; exact ⟨rfl, rfl⟩
    | succ a =>
      rw [List.getElem?_cons_succ] at h
      rw [show (a + 1) * 2 = a * 2 + 1 + 1 by omega]
      exact ih a h
/-- A slice that reads as pairs. -/
def RdE (w : World) (v : Value) (l : List Edge) : Prop := RdC 2 w v l.length (cellsE l)
theorem RowE.of_owns {w : World} {base e g c n : Nat} {l : List Edge} (h : w.ownsRow base e 2 (.slice (some ⟨g, 0, none⟩) n c) n (cellsE l)) (hn : n = l.length) : RowE w g l := fun a s ha => by
  obtain ⟨h1, h2⟩ := cellsE_get l a s ha
  have hal : a < l.length := (List.getElem?_eq_some_iff.1 ha).1
  exact ⟨⟨(h.cellAt (a * 2) (by omega)).trans h1, h.frozenAt _⟩, (h.cellAt (a * 2 + 1) (by omega)).trans h2, h.frozenAt _⟩
theorem RdE.of_row {w : World} {g c : Nat} {l : List Edge} (h : RowE w g l) (hc : l.length ≤ c) (hm : c ≤ maxLen) : RdE w (.slice (some ⟨g, 0, none⟩) l.length c) l := by
  refine ⟨_, c, rfl, hc, hm, cellsE_length l, fun _ => ⟨g, 0, rfl, fun i x hx => ?_⟩⟩
  have hi : i < l.length * 2 := by rw [← cellsE_length l]; exact (List.getElem?_eq_some_iff.1 hx).1
  have hal : i / 2 < l.length := by omega
  obtain ⟨s, hs⟩ : ∃ s, l[i / 2]? = some s := ⟨_, List.getElem?_eq_getElem hal⟩
  obtain ⟨⟨h1, _⟩, h2, _⟩ := h (i / 2) s hs
  obtain ⟨g1, g2⟩ := cellsE_get l (i / 2) s hs
  rw [Nat.zero_add]
  rcases (by omega : i = i / 2 * 2 ∨ i = i / 2 * 2 + 1) with e | e
  · rw [e] at hx ⊢
    rw [g1] at hx
    cases hx
    exact h1
  · rw [e] at hx ⊢
    rw [g2] at hx
    cases hx
    exact h2
end Go.Proofs.YtdhcliekejiegaaGreatDoor
