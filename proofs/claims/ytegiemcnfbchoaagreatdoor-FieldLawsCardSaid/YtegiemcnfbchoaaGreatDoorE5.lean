import Derived.Test.YtegiemcnfbchoaaGreatDoorE2
import Derived.Test.YtegiemcnfbchoaaGreatDoorW3
import Derived.Deep.RegionHeld3
import Derived.Deep.DeepCutAuto
/- Level lines: the plain words. Plain: parts of a triangle above a height: their form, their area, the law's rotated polygons; volumes. The walk over field.cut. The walk over mesh.Neighbours. -/
set_option maxHeartbeats 4000000
set_option maxRecDepth 100000
namespace Go.Proofs.YtegiemcnfbchoaaGreatDoor
open Go.RowKit Go.Lib
abbrev Seg := Int × PtQ × PtQ
def cellG (s : Seg) : List Value := [.int .i64 s.1, .string (RS s.2.1.1), .string (RS s.2.1.2), .string (RS s.2.2.1), .string (RS s.2.2.2)]
def cellsG (l : List Seg) : List Value := l.flatMap cellG
theorem cellsG_snoc (l : List Seg) (s : Seg) : cellsG (l ++ [s]) = cellsG l ++ [.int .i64 s.1, .string (RS s.2.1.1), .string (RS s.2.1.2), .string (RS s.2.2.1), .string (RS s.2.2.2)] := by simp [cellsG, cellG]
def nbI (T : List Tri) (s : Edge) : Int := match (ownL T).find? (fun x => x.1 == revE s) with | some x => x.2 | none => -1
theorem ownL_ix {T : List Tri} {x : Edge × Int} (h : x ∈ ownL T) : ∃ j : Nat, x.2 = (j : Int) ∧ j < T.length := by
 unfold ownL at h
 obtain ⟨y, hy, hx⟩ := List.mem_flatMap.1 h
 obtain ⟨s, _, rfl⟩ := List.mem_map.1 hx
 obtain ⟨_, h2, _⟩ := List.mem_zipIdx hy
 exact ⟨y.2, rfl, by omega⟩
theorem nbI_lt {T : List Tri} {s : Edge} (h : 0 ≤ nbI T s) : ∃ j : Nat, nbI T s = (j : Int) ∧ j < T.length := by
 unfold nbI at h ⊢
 cases e : (ownL T).find? (fun x => x.1 == revE s) with
 | none => rw [e] at h; exact absurd h (by decide)
 | some x => exact ownL_ix (List.mem_of_find?_eq_some e)
theorem nbI_some {T : List Tri} {s : Edge} (h : revE s ∈ (ownL T).map (·.1)) : (revE s, nbI T s) ∈ ownL T := by
 unfold nbI
 cases e : (ownL T).find? (fun x => x.1 == revE s) with
 | none =>
   obtain ⟨x, hx, hx2⟩ := List.mem_map.1 h
   have := List.find?_eq_none.1 e x hx
   simp [hx2] at this
 | some x =>
   have h1 := List.mem_of_find?_eq_some e
   have h2 := List.find?_some e
   simp at h2
   rw [← h2]; exact h1
theorem nbI_none {T : List Tri} {s : Edge} (h : revE s ∉ (ownL T).map (·.1)) : nbI T s = -1 := by
 unfold nbI
 cases e : (ownL T).find? (fun x => x.1 == revE s) with
 | none => rfl
 | some x =>
   have h1 := List.mem_of_find?_eq_some e
   have h2 := List.find?_some e
   simp at h2
   exact absurd (List.mem_map.2 ⟨x, h1, h2⟩) h
def corP (P : List PtQ) (F : List Rat) (z : Int) : Cor := (ptI P z, hI F z)
def partT (P : List PtQ) (F : List Rat) (z : Rat) (tr : Tri) : List Cor := cutL (corP P F tr.1) (corP P F tr.2.1) (corP P F tr.2.2) z
def sideT (P : List PtQ) (tr : Tri) (a b : PtQ) : Int := sideL (ptI P tr.1) (ptI P tr.2.1) (ptI P tr.2.2) a b
def nbT (T : List Tri) (tr : Tri) (k : Int) : Int := nbI T (if k = 0 then sideK tr 0 else if k = 1 then sideK tr 1 else sideK tr 2)
def triI (T : List Tri) (j : Int) : Tri := T[j.toNat]?.getD (0, 0, 0)
theorem triI_nat (T : List Tri) (m : Nat) (h : m < T.length) : triI T (m : Int) = T[m] := by
 unfold triI; rw [Int.toNat_natCast, List.getElem?_eq_getElem h]; rfl
def corI (l : List Cor) (i : Nat) : Cor := l[i]?.getD ((0, 0), 0)
theorem corI_nat (l : List Cor) (i : Nat) (h : i < l.length) : corI l i = l[i] := by
 unfold corI; rw [List.getElem?_eq_getElem h]; rfl
def keepB (P : List PtQ) (T : List Tri) (F : List Rat) (z : Rat) (tr : Tri) (a b : Cor) : Bool :=
 decide (a.2 = z) && decide (b.2 = z) && (decide (sideT P tr a.1 b.1 < 0) || (decide (0 ≤ nbT T tr (sideT P tr a.1 b.1)) && (partT P F z (triI T (nbT T tr (sideT P tr a.1 b.1)))).isEmpty))
def segA (P : List PtQ) (T : List Tri) (F : List Rat) (z : Rat) (t : Nat) (tr : Tri) (l : List Cor) (i : Nat) : List Seg :=
 if keepB P T F z tr (corI l i) (corI l ((i + 1) % l.length)) then [((t : Int), (corI l i).1, (corI l ((i + 1) % l.length)).1)] else []
def segTo (P : List PtQ) (T : List Tri) (F : List Rat) (z : Rat) (t : Nat) (tr : Tri) (l : List Cor) : Nat → List Seg | 0 => [] | i + 1 => segTo P T F z t tr l i ++ segA P T F z t tr l i
def levTo (P : List PtQ) (T : List Tri) (F : List Rat) (z : Rat) : Nat → List Seg
 | 0 => []
 | t + 1 => levTo P T F z t ++ segTo P T F z t (triI T t) (partT P F z (triI T t)) (partT P F z (triI T t)).length
def levelL (P : List PtQ) (T : List Tri) (F : List Rat) (z : Rat) : List Seg := levTo P T F z T.length
theorem cutL_len (c0 c1 c2 : Cor) (z : Rat) : (cutL c0 c1 c2 z).length ≤ 6 := by
 unfold cutL
 split
 ·exact cutTo_len c0 c1 c2 z 3
 ·simp
theorem cross_Sz {a b : Cor} {z : Rat} {k m : Nat} (ha : SzP k a.1 ∧ Sz k a.2) (hb : SzP k b.1 ∧ Sz k b.2) (hz : Sz m z) : SzP (6 * k + 3 * m + 6) (crossK a b z).1 := by
 have d1 := ha.2.sub hz
 have d2 := hb.2.sub hz
 have dd := d1.div (d1.sub d2) (by omega)
 unfold crossK towQ
 exact ⟨(ha.1.1.add (dd.mul (hb.1.1.sub ha.1.1))).mono (by omega), (ha.1.2.add (dd.mul (hb.1.2.sub ha.1.2))).mono (by omega)⟩
theorem cutS_Sz {a b : Cor} {z : Rat} {k m : Nat} (ha : SzP k a.1 ∧ Sz k a.2) (hb : SzP k b.1 ∧ Sz k b.2) (hz : Sz m z) : ∀ c ∈ cutS a b z, SzP (6 * k + 3 * m + 6) c.1 := by
 intro c hc
 unfold cutS at hc
 rcases List.mem_append.1 hc with h | h
 ·split at h
  ·simp at h; subst h
   exact ⟨ha.1.1.mono (by omega), ha.1.2.mono (by omega)⟩
  ·simp at h
 ·split at h
  ·simp at h; subst h
   exact cross_Sz ha hb hz
  ·simp at h
theorem cutTo_Sz {c0 c1 c2 : Cor} {z : Rat} {k m : Nat} (h0 : SzP k c0.1 ∧ Sz k c0.2) (h1 : SzP k c1.1 ∧ Sz k c1.2) (h2 : SzP k c2.1 ∧ Sz k c2.2) (hz : Sz m z) : ∀ (i : Nat), ∀ c ∈ cutTo c0 c1 c2 z i, SzP (6 * k + 3 * m + 6) c.1
 | 0 => fun c hc => by simp [cutTo] at hc
 | i + 1 => fun c hc => by
   unfold cutTo at hc
   rcases List.mem_append.1 hc with h | h
   ·exact cutTo_Sz h0 h1 h2 hz i c h
   ·refine cutS_Sz ?_ ?_ hz c h
    ·unfold corA; split <;> assumption
    ·unfold corB; split <;> assumption
theorem cutL_Sz {c0 c1 c2 : Cor} {z : Rat} {k m : Nat} (h0 : SzP k c0.1 ∧ Sz k c0.2) (h1 : SzP k c1.1 ∧ Sz k c1.2) (h2 : SzP k c2.1 ∧ Sz k c2.2) (hz : Sz m z) (c : Cor) (hc : c ∈ cutL c0 c1 c2 z) : SzP (6 * k + 3 * m + 6) c.1 := by
 unfold cutL at hc
 split at hc
 ·exact cutTo_Sz h0 h1 h2 hz 3 c hc
 ·simp at hc
theorem sideL_cases (c0 c1 c2 a b : PtQ) : sideL c0 c1 c2 a b = -1 ∨ sideL c0 c1 c2 a b = 0 ∨ sideL c0 c1 c2 a b = 1 ∨ sideL c0 c1 c2 a b = 2 := by
 unfold sideL
 split
 ·exact .inr (.inl rfl)
 ·split
  ·exact .inr (.inr (.inl rfl))
  ·split
   ·exact .inr (.inr (.inr rfl))
   ·exact .inl rfl
def fanI (c : List Cor) (z : Rat) : Nat → Rat
 | 0 => 0
 | n + 1 => fanI c z n + areaQ (corI c 0).1 (corI c (n + 1)).1 (corI c (n + 2)).1 * (1 / 2) * (((corI c 0).2 + (corI c (n + 1)).2 + (corI c (n + 2)).2) * (1 / 3) - z)
def integ (c : List Cor) (z : Rat) : Rat := fanI c z (c.length - 2)
def volTo (P : List PtQ) (T : List Tri) (F : List Rat) (z : Rat) : Nat → Rat
 | 0 => 0
 | t + 1 => volTo P T F z t + integ (partT P F z (triI T t)) z
theorem cross_share {x y : Rat} (h : x.num.sign * y.num.sign < 0) : 0 < x / (x - y) ∧ x / (x - y) < 1 ∧ x / (x - y) * (x - y) = x := by
 have key : ∀ q : Rat, (q.num.sign = 1 → 0 < q) ∧ (q.num.sign = -1 → q < 0) := fun q => ⟨fun e => num_pos_iff.1 (Int.sign_eq_one_iff_pos.1 e), fun e => num_lt_zero_iff.1 (Int.sign_eq_neg_one_iff_neg.1 e)⟩
 have hne : x - y ≠ 0 := by
  rcases sign3 x with hx | hx | hx <;> rcases sign3 y with hy | hy | hy <;> rw [hx, hy] at h <;> first | (exact absurd h (by decide)) | skip
  ·have := (key x).2 hx; have := (key y).1 hy; grind
  ·have := (key x).1 hx; have := (key y).2 hy; grind
 have hm : x / (x - y) * (x - y) = x := by
  rw [Rat.div_def, Rat.mul_assoc, Rat.inv_mul_cancel _ hne, Rat.mul_one]
 generalize x / (x - y) = k at *
 rcases sign3 x with hx | hx | hx <;> rcases sign3 y with hy | hy | hy <;> rw [hx, hy] at h <;> first | (exact absurd h (by decide)) | skip
 ·have h1 := (key x).2 hx; have h2 := (key y).1 hy
  refine ⟨?_, ?_, hm⟩
  ·refine Rat.not_le.1 fun h3 => ?_
   have := Rat.mul_nonneg (show (0 : Rat) ≤ -k by grind) (show (0 : Rat) ≤ -(x - y) by grind)
   grind
  ·refine Rat.not_le.1 fun h3 => ?_
   have := Rat.mul_nonneg (show (0 : Rat) ≤ k - 1 by grind) (show (0 : Rat) ≤ -(x - y) by grind)
   grind
 ·have h1 := (key x).1 hx; have h2 := (key y).2 hy
  refine ⟨?_, ?_, hm⟩
  ·refine Rat.not_le.1 fun h3 => ?_
   have := Rat.mul_nonneg (show (0 : Rat) ≤ -k by grind) (show (0 : Rat) ≤ x - y by grind)
   grind
  ·refine Rat.not_le.1 fun h3 => ?_
   have := Rat.mul_nonneg (show (0 : Rat) ≤ k - 1 by grind) (show (0 : Rat) ≤ x - y by grind)
   grind
theorem ownsRow_base {w : World} {b b' e s n : Nat} {v : Value} {xs : List Value} (h : w.ownsRow b e s v n xs) (hb : b' ≤ b) : w.ownsRow b' e s v n xs := by
 obtain ⟨h1, h2⟩ := h
 refine ⟨h1, ?_⟩
 rcases h2 with h2 | ⟨g, cap, cur, hv, hg, hr⟩
 ·exact .inl h2
 ·exact .inr ⟨g, cap, cur, hv, Nat.le_trans hb hg, hr⟩
theorem owns_apart {w : World} {b1 b2 e1 e2 s1 s2 n1 n2 : Nat} {v1 v2 : Value} {x1 x2 : List Value} (h1 : w.ownsRow b1 e1 s1 v1 n1 x1) (h2 : w.ownsRow b2 e2 s2 v2 n2 x2) (hne : e1 ≠ e2) : v1.ownBlock = none ∨ v1.ownBlock ≠ v2.ownBlock := by
 rcases h1.2 with ⟨rfl, _⟩ | ⟨g, cap, cur, rfl, _, hg, _⟩
 ·exact .inl rfl
 ·refine .inr fun e => ?_
  rcases h2.2 with ⟨rfl, _⟩ | ⟨g', cap', cur', rfl, _, hg', _⟩
  ·simp [Value.ownBlock] at e
  ·simp [Value.ownBlock] at e
   subst e
   rw [hg] at hg'
   injection hg' with h
   injection h with _ h
   exact hne h
theorem owns_boxN {w : World} {b1 e1 s1 n1 b t : Nat} {v1 : Value} {x1 l : List Value} (h1 : w.ownsRow b1 e1 s1 v1 n1 x1) (h2 : BoxN w b t l) (hne : e1 ≠ t) : some b ≠ v1.ownBlock := by
 rcases h1.2 with ⟨rfl, _⟩ | ⟨g, cap, cur, rfl, _, hg, _⟩
 ·intro e; simp [Value.ownBlock] at e
 ·intro e
  simp [Value.ownBlock] at e
  subst e
  rw [show w.heap[b]? = _ from h2] at hg
  injection hg with h
  injection h with _ h
  exact hne h.symm
theorem fcut_any (c0 c1 c2 : Cor) (z : Rat) (k : Nat) (hk : 0 < k) (hk2 : k ≤ 300) (h0 : SzP k c0.1 ∧ Sz k c0.2) (h1 : SzP k c1.1 ∧ Sz k c1.2) (h2 : SzP k c2.1 ∧ Sz k c2.2) (hz : Sz k z) (w : World) (hg : Good w) :
 Calls Tryz.prog 75 #[.agg #[.string (RS c0.1.1), .string (RS c0.1.2), .string (RS c0.2), .string (RS c1.1.1), .string (RS c1.1.2), .string (RS c1.2), .string (RS c2.1.1), .string (RS c2.1.2), .string (RS c2.2)], .string (RS z)] w (Ret (fun r w' => w'.ownsRow w.heap.size 135 3 r (cutL c0 c1 c2 z).length (cellsC (cutL c0 c1 c2 z)) ∧ (cutL c0 c1 c2 z = [] → r = .slice none 0 0)) w) := by
 have HZ := Lib.hid hz
 obtain ⟨s00, hs00⟩ : ∃ s, s = RS c0.1.1 := ⟨_, rfl⟩
 obtain ⟨s01, hs01⟩ : ∃ s, s = RS c0.1.2 := ⟨_, rfl⟩
 obtain ⟨s02, hs02⟩ : ∃ s, s = RS c0.2 := ⟨_, rfl⟩
 obtain ⟨s10, hs10⟩ : ∃ s, s = RS c1.1.1 := ⟨_, rfl⟩
 obtain ⟨s11, hs11⟩ : ∃ s, s = RS c1.1.2 := ⟨_, rfl⟩
 obtain ⟨s12, hs12⟩ : ∃ s, s = RS c1.2 := ⟨_, rfl⟩
 obtain ⟨s20, hs20⟩ : ∃ s, s = RS c2.1.1 := ⟨_, rfl⟩
 obtain ⟨s21, hs21⟩ : ∃ s, s = RS c2.1.2 := ⟨_, rfl⟩
 obtain ⟨s22, hs22⟩ : ∃ s, s = RS c2.2 := ⟨_, rfl⟩
 rw [← hs00, ← hs01, ← hs02, ← hs10, ← hs11, ← hs12, ← hs20, ← hs21, ← hs22]
 have HCO : Hid (∀ i : Nat, i < 3 → ∃ (A B : Cor) (j : Nat), A = corA c0 c1 c2 i ∧ B = corB c0 c1 c2 i ∧ ((i : Int) + 1).tmod 3 = (j : Int) ∧ j < 3 ∧ (SzP k A.1 ∧ Sz k A.2) ∧ (SzP k B.1 ∧ Sz k B.2) ∧
  (∀ w, (Instr.index 136 (.agg #[.string s00, .string s01, .string s02, .string s10, .string s11, .string s12, .string s20, .string s21, .string s22]) (.int .i64 (i : Int))).run Tryz.prog w = .ok (.agg #[.string (RS A.1.1), .string (RS A.1.2), .string (RS A.2)]) w) ∧
  (∀ (w : World) (b : Nat), BoxN w b 136 [.string s00, .string s01, .string s02, .string s10, .string s11, .string s12, .string s20, .string s21, .string s22] → w.cell? ⟨b, j * 3, none⟩ = some (.string (RS B.1.1)) ∧ w.cell? ⟨b, j * 3 + 1, none⟩ = some (.string (RS B.1.2)) ∧ w.cell? ⟨b, j * 3 + 2, none⟩ = some (.string (RS B.2)))) := fun i hi => by
  subst hs00 hs01 hs02 hs10 hs11 hs12 hs20 hs21 hs22
  obtain rfl | rfl | rfl : i = 0 ∨ i = 1 ∨ i = 2 := by omega
  ·exact ⟨c0, c1, 1, rfl, rfl, rfl, by decide, h0, h1, idx_C0 _ _ _ _ _ _ _ _ _, fun w b h => ⟨h.cell 3 rfl, h.cell 4 rfl, h.cell 5 rfl⟩⟩
  ·exact ⟨c1, c2, 2, rfl, rfl, rfl, by decide, h1, h2, idx_C1 _ _ _ _ _ _ _ _ _, fun w b h => ⟨h.cell 6 rfl, h.cell 7 rfl, h.cell 8 rfl⟩⟩
  ·exact ⟨c2, c0, 0, rfl, rfl, rfl, by decide, h2, h0, idx_C2 _ _ _ _ _ _ _ _ _, fun w b h => ⟨h.cell 0 rfl, h.cell 1 rfl, h.cell 2 rfl⟩⟩
 clear hs00 hs01 hs02 hs10 hs11 hs12 hs20 hs21 hs22 h0 h1 h2 hz
 obtain ⟨i0, hi, hzz0, hzz1, hzz2⟩ := info_parts info_corner
 go_enter Tryz.func75, Tryz.ntmps75
 go_wp2_with fail
 obtain ⟨W, hW⟩ : ∃ W, W = w.alloc (.cells #[.string s00, .string s01, .string s02, .string s10, .string s11, .string s12, .string s20, .string s21, .string s22] 136) := ⟨_, rfl⟩
 have hB : Below w.heap.size w W := by rw [hW]; exact zal _ _
 have e2 : BoxN W w.heap.size 136 [.string s00, .string s01, .string s02, .string s10, .string s11, .string s12, .string s20, .string s21, .string s22] := by rw [hW]; exact BoxN.new _ _ _ _ rfl
 rw [← hW]
 clear hW
 have hzW := e2.lt
 go_loopw [5, 6, 16] (fun t5 t6 t16 wr => ∃ (i n : Nat) (b : Bool), t16 = .int .i64 i ∧ t6 = .bool b ∧ i ≤ 3 ∧ n ≤ 2 * i ∧ Hid ((cutTo c0 c1 c2 z i).length = n) ∧ Hid (b = someTo c0 c1 c2 z i) ∧ wr.ownsRow W.heap.size 135 3 t5 n (cellsC (cutTo c0 c1 c2 z i)) ∧ Below W.heap.size W wr) (fun _ _ t16 _ => 3 - (RowKit.intOf t16).toNat)
 case atStart => exact ⟨0, 0, false, rfl, rfl, Nat.zero_le _, Nat.le_refl _, rfl, rfl, World.ownsRow_nil _ _ _ _, Below.refl _ _⟩
 case round =>
  obtain ⟨i, n, b, rfl, rfl, hin, hni, HLN, HSM, hown, hbr⟩ := hrel
  obtain ⟨p5, c5, rfl⟩ := ownsRow_shape hown
  have hzr := hbr.size
  have HOB0 : ∀ j, (Value.slice p5 n c5).ownBlock = some j → W.heap.size ≤ j ∧ j < wr.heap.size := fun j hj => hown.lt j hj
  rcases Nat.lt_or_ge i 3 with h | h
  ·obtain ⟨A, B, j, hA, hBj, hj, hj3, hsA, hsB, hix, hbx⟩ := HCO.out i h
   have HST : Hid (cutTo c0 c1 c2 z (i + 1) = cutTo c0 c1 c2 z i ++ cutS A B z) := by rw [hA, hBj]; rfl
   have HSS : Hid (someTo c0 c1 c2 z (i + 1) = (b || decide (0 < (A.2 - z).num.sign))) := by rw [hA, HSM.out]; rfl
   clear hA hBj
   have HSA := Lib.hid hsA
   have HSB := Lib.hid hsB
   have hzx : Sz (2 * k + 1) (A.2 - z) := (hsA.2.sub HZ.out).mono (by omega)
   have hzy : Sz (2 * k + 1) (B.2 - z) := (hsB.2.sub HZ.out).mono (by omega)
   have HX : Hid (∀ w, Good w → _) := fun w hg => ratSub_any A.2 z k hk (by omega) hsA.2 HZ.out w hg
   have HY : Hid (∀ w, Good w → _) := fun w hg => ratSub_any B.2 z k hk (by omega) hsB.2 HZ.out w hg
   obtain ⟨x, hx⟩ : ∃ x, x = A.2 - z := ⟨_, rfl⟩
   obtain ⟨y, hy⟩ : ∃ y, y = B.2 - z := ⟨_, rfl⟩
   rw [← hx] at hzx HX HSS
   rw [← hy] at hzy HY
   have HDV : Hid (x - y ≠ 0 → ∀ w, Good w → _) := fun hne w hg => ratDiv_any x (x - y) (4 * k + 3) (by omega) (by omega) (hzx.mono (by omega)) ((hzx.sub hzy).mono (by omega)) hne w hg
   have HDS : Hid (∀ w, Good w → _) := fun w hg => ratSub_any x y (2 * k + 1) (by omega) (by omega) hzx hzy w hg
   have HQZ : Hid (x - y ≠ 0 → Sz (8 * k + 6) (x / (x - y))) := fun hne => (hzx.div ((hzx.sub hzy).mono (Nat.le_refl _)) (by omega)).mono (by omega)
   have HTX : Hid (x - y ≠ 0 → ∀ w, Good w → _) := fun hne w hg => ftoward_any A.1.1 B.1.1 (x / (x - y)) (8 * k + 6) (by omega) (by omega) (hsA.1.1.mono (by omega)) (hsB.1.1.mono (by omega)) (HQZ.out hne) w hg
   have HTY : Hid (x - y ≠ 0 → ∀ w, Good w → _) := fun hne w hg => ftoward_any A.1.2 B.1.2 (x / (x - y)) (8 * k + 6) (by omega) (by omega) (hsA.1.2.mono (by omega)) (hsB.1.2.mono (by omega)) (HQZ.out hne) w hg
   have HC1 : Hid (cutS A B z = (if 0 ≤ x.num.sign then [A] else []) ++ (if x.num.sign * y.num.sign < 0 then [crossK A B z] else [])) := by rw [hx, hy]; rfl
   have HCK : Hid (crossK A B z = ((towQ A.1.1 B.1.1 (x / (x - y)), towQ A.1.2 B.1.2 (x / (x - y))), z)) := by rw [hx, hy]; rfl
   have HGX : Hid (∀ w, _) := fun w => ratSign_any x w
   have HGY : Hid (∀ w, _) := fun w => ratSign_any y w
   have HNE : Hid (x.num.sign * y.num.sign < 0 → x - y ≠ 0) := fun hlt e => by
    have e2 : x = y := by grind
    rw [e2] at hlt
    rcases sign3 y with e | e | e <;> rw [e] at hlt <;> exact absurd hlt (by decide)
   have HZT := Lib.hid (str_zero_test x)
   have HSX3 := Lib.hid (sign3 x)
   have HSY3 := Lib.hid (sign3 y)
   generalize x.num.sign = sx at *
   generalize y.num.sign = sy at *
   clear hzx hzy hsA hsB hx hy
   have e2r := e2.below hbr e2.lt
   have hbW : Below w.heap.size w wr := hB.trans (hbr.mono hB.size)
   have hj3z : (j : Int) < 3 := by omega
   have hi3z : (i : Int) < 3 := by omega
   clear HCO
   go_upto_region 6 with fail
   obtain ⟨W1, hW1⟩ : ∃ X, X = wr.alloc (.cells #[.string (RS A.1.1), .string (RS A.1.2), .string (RS A.2)] 135) := ⟨_, rfl⟩
   have hb1 : Below wr.heap.size wr W1 := by rw [hW1]; exact zal _ _
   have e8 : BoxN W1 wr.heap.size 135 [.string (RS A.1.1), .string (RS A.1.2), .string (RS A.2)] := by rw [hW1]; exact BoxN.new _ _ _ _ rfl
   rw [← hW1]
   clear hW1
   have HZ1 := Lib.hid hb1.size
   obtain ⟨k0, k1, k2⟩ := hbx _ _ (e2r.below hb1 e2r.lt)
   go_upto_region 7 with fail
   obtain ⟨W2, hW2⟩ : ∃ X, X = W1.alloc (.cells #[.string (RS B.1.1), .string (RS B.1.2), .string (RS B.2)] 135) := ⟨_, rfl⟩
   have hb2 : Below W1.heap.size W1 W2 := by rw [hW2]; exact zal _ _
   have e9 : BoxN W2 W1.heap.size 135 [.string (RS B.1.1), .string (RS B.1.2), .string (RS B.2)] := by rw [hW2]; exact BoxN.new _ _ _ _ rfl
   rw [← hW2]
   clear hW2 k0 k1 k2 hbx hix
   have g8 := e8.below hb2 e8.lt
   have hbr2 : Below wr.heap.size wr W2 := hb1.trans (hb2.mono hb1.size)
   have hbW2 : Below w.heap.size w W2 := hbW.trans (hbr2.mono hbW.size)
   have x0 := g8.cell 2 rfl
   have y0 := e9.cell 2 rfl
   have hz8 := g8.lt
   have hz9 := e9.lt
   have hgd : Good W2.drew := (hg.below hbW2).drewN 1
   clear hb1 hb2 e8
   go_region_held3 (fun w' => w'.cell? ⟨wr.heap.size, 2, none⟩ = some (.string (RS A.2)) ∧ w'.cell? ⟨W1.heap.size, 2, none⟩ = some (.string (RS B.2)))
    (first | exact ⟨x0, y0⟩ | exact ⟨p_1_0, p_1_1⟩ | exact ⟨p_2_0, p_2_1⟩)
    (first
    | (go_at_call 53; refine (HY.out _ pg1).mono ?_; rintro e pw2 ⟨_, rfl, rfl, pb2⟩
       have p_2_0 := zct pb2 p_1_0
       have p_2_1 := zct pb2 p_1_1
       have ps2 : pw1.heap.size ≤ pw2.heap.size := pb2.size
       have pg2 : Good pw2 := pg1.below pb2)
    | (go_at_call 53; refine (HX.out _ hgd).mono ?_; rintro e pw1 ⟨_, rfl, rfl, pb1⟩
       have p_1_0 := zct pb1 x0
       have p_1_1 := zct pb1 y0
       have ps1 : W2.heap.size ≤ pw1.heap.size := pb1.size
       have pg1 : Good pw1 := hgd.below pb1))
   have pB : Below W2.heap.size W2 pw2 := zbt (zbt (below_drewN W2 1) pb1) pb2
   have hown2 := World.ownsRow.belowAll hown (hbr2.trans (pB.mono hbr2.size))
   have hbr3 : Below wr.heap.size wr pw2 := hbr2.trans (pB.mono hbr2.size)
   have h8 := g8.below pB g8.lt
   have h9 := e9.below pB e9.lt
   have hz2 := pB.size
   clear pB pb1 pb2 ps1 ps2 pg1 pg2 p_1_0 p_1_1 p_2_0 p_2_1 x0 y0 hown hgd hbr2 hbW2 g8 e9 e2r
   go_upto_region 9 with fail
   refine (HGX.out pw2).mono ?_
   rintro e w3 ⟨_, rfl, rfl, nd, rfl⟩
   go_upto_if 35 with fail
   obtain ⟨w3, hw3⟩ : ∃ X, X = pw2.drewN nd := ⟨_, rfl⟩
   have hd3 : Below pw2.heap.size pw2 w3 := by rw [hw3]; exact below_drewN pw2 nd
   have hz3 : pw2.heap.size = w3.heap.size := by rw [hw3]; rfl
   rw [← hw3]
   clear hw3
   have hzW1 : wr.heap.size ≤ W1.heap.size := HZ1.out
   have h83 := h8.below hd3 h8.lt
   have h93 := h9.below hd3 h9.lt
   have hown3 := World.ownsRow.belowAll hown2 hd3
   have hbr3' : Below wr.heap.size wr w3 := hbr3.trans (hd3.mono hbr3.size)
   have HOB : Hid (∀ j, (Value.slice p5 n c5).ownBlock = some j → W.heap.size ≤ j ∧ j < wr.heap.size) := HOB0
   generalize cutTo c0 c1 c2 z i = L at *
   obtain ⟨L1, hL1⟩ : ∃ l, l = L ++ (if 0 ≤ sx then [A] else []) := ⟨_, rfl⟩
   have HL1 := Lib.hid hL1
   clear hL1 h8 h9 hown2 hbr3 hd3
   go_cut [5, 6] (fun s5 s6 wx => ∃ (n' : Nat) (b' : Bool), s6 = .bool b' ∧ Hid (b' = (b || decide (0 < sx))) ∧ n' ≤ n + 1 ∧ Hid (L1.length = n') ∧ wx.ownsRow W.heap.size 135 3 s5 n' (cellsC L1) ∧ Below W.heap.size W wx ∧ w3.heap.size ≤ wx.heap.size ∧ BoxN wx wr.heap.size 135 [.string (RS A.1.1), .string (RS A.1.2), .string (RS A.2)] ∧ BoxN wx W1.heap.size 135 [.string (RS B.1.1), .string (RS B.1.2), .string (RS B.2)])
   case first =>
    rcases Int.lt_or_le sx 0 with hs | hs
    ·have HE : Hid (L1 = L) := by unfold Hid; rw [HL1.out, if_neg (by omega), List.append_nil]
     have HBB : Hid (b = (b || decide (0 < sx))) := by unfold Hid; rw [decide_eq_false (by omega), Bool.or_false]
     go_wp2_with fail
     go_meet
     exact ⟨n, b, rfl, HBB, by omega, by unfold Hid; rw [HE.out]; exact HLN.out, by rw [HE.out]; exact hown3, hbr.trans (hbr3'.mono hbr.size), Nat.le_refl _, h83, h93⟩
    ·have HE : Hid (L1 = L ++ [A]) := by unfold Hid; rw [HL1.out, if_pos hs]
     have HLE : Hid (L1.length = n + 1) := by unfold Hid; rw [HE.out, List.length_append, HLN.out]; rfl
     have HBE : Hid (cellsC L1 = cellsC L ++ [.string (RS A.1.1), .string (RS A.1.2), .string (RS A.2)]) := by unfold Hid; rw [HE.out, cellsC_snoc]
     obtain ⟨q, hq⟩ : ∃ q, q = decide (0 < sx) := ⟨_, rfl⟩
     have a0 := h83.cell 0 rfl
     have a1 := h83.cell 1 rfl
     have a2 := h83.cell 2 rfl
     have t1 : ((RS x).toList == [48]) = !q := by
      rw [hq, Bool.eq_iff_iff, beq_iff_eq, HZT.out]
      clear hq
      rcases Int.lt_or_le 0 sx with h1 | h1
      ·rw [decide_eq_true h1]; simp; omega
      ·rw [decide_eq_false (by omega)]; simp; omega
     have HQ := Lib.hid hq
     have hn4 : n ≤ 4 := by omega
     have hzB : W.heap.size ≤ w3.heap.size := by have := h83.lt; omega
     have hl8 := h83.lt
     have hl9 := h93.lt
     have hw1 : wr.heap.size ≤ W1.heap.size := by omega
     clear hq
     go_wp2_with (at_builtin; refine wpList_append_own _ rfl _ _ 138 rfl W.heap.size 135 i0 (.agg #[.string ⟨#[]⟩, .string ⟨#[]⟩, .string ⟨#[]⟩]) 3 48 Tryz.underlying138 hi hzz0 hzz1 hzz2 rfl (by decide) _ _ _ rfl (hown3.alloc _) ⟨w3.heap.size, 0, none⟩ 1 1 [.string (RS A.1.1), .string (RS A.1.2), .string (RS A.2)] rfl rfl (cell_three _ _ _ _ _) (three_str _ _ _) (by unfold maxLen; omega) (by omega) (by simp; omega) ?_
                  intro v4 w4 hown4 hgrow4 _
                  have hzw4 := hgrow4.size
                  have hbr4 : Below W.heap.size W w4 := ((hbr.trans (hbr3'.mono hbr.size)).alloc hzB _).grown hgrow4 (by simp; omega) (fun j hj => by have := (hown3.lt j hj).1; omega)
                  have h84 := (hgrow4.block wr.heap.size (by simp; omega) (fun e => by have := (HOB.out _ e.symm).2; omega)).trans (h83.below ((Below.refl _ _).alloc (Nat.le_refl _) _) hl8)
                  have h94 := (hgrow4.block W1.heap.size (by simp; omega) (fun e => by have := (HOB.out _ e.symm).2; omega)).trans (h93.below ((Below.refl _ _).alloc (Nat.le_refl _) _) hl9)
                  clear hgrow4)
     all_goals
      have hbF4 : w3.heap.size ≤ w4.heap.size := by simp at hzw4; omega
      rw [← HBE.out] at hown4
      go_wp2_with fail
      go_meet
      first
           | exact ⟨n + 1, q, rfl, (by unfold Hid; first | rw [HQ.out, (‹b = false› : b = false)]; rfl | rw [HQ.out, Bool.eq_false_iff.2 (‹¬ b = true› : ¬ b = true)]; rfl), Nat.le_refl _, HLE, hown4, hbr4, hbF4, h84, h94⟩
           | exact ⟨n + 1, true, rfl, (by unfold Hid; rw [(‹b = true› : b = true)]; rfl), Nat.le_refl _, HLE, hown4, hbr4, hbF4, h84, h94⟩
   case rest =>
    obtain ⟨n1, b1, rfl, HB1, hn1, HLE1, hownc, hbrc, hzc, h8c, h9c⟩ := hcut
    obtain ⟨pc, cc, rfl⟩ := ownsRow_shape hownc
    obtain ⟨cr, hcr⟩ : ∃ cr, cr = decide (sx * sy < 0) := ⟨_, rfl⟩
    have HCR := Lib.hid hcr
    have hbWc : Below w.heap.size w wc := hB.trans (hbrc.mono hB.size)
    clear hown3 h83 h93 HOB hbr3' hbr HZT e2 hcr
    go_upto_region 11 with fail
    go_cut [50] (fun s50 wx => s50 = .bool cr ∧ ∃ nd, wx = wc.drewN nd)
    case first =>
     clear HL1 hownc hbrc hzc h8c h9c hbWc HB1 hn1 HLE1 HC1 HCK HNE HDV HDS HQZ HTX HTY HX HY HSA HSB HST HSS HLN HSM hzW hzr hzW1 hz2 hz3 HZ1 hg hi hzz0 hzz1 hzz2 HZ hB
     go_wp2_with fail
     refine (HGX.out wc).mono ?_
     rintro e w5 ⟨_, rfl, rfl, nd5, rfl⟩
     go_wp2_with fail
     refine (HGY.out _).mono ?_
     rintro e w6 ⟨_, rfl, rfl, nd6, rfl⟩
     rcases HSX3.out with rfl | rfl | rfl <;> rcases HSY3.out with rfl | rfl | rfl
     all_goals
      go_wp2_with fail
      go_meet
      exact ⟨by rw [HCR.out]; rfl, _, rfl⟩
    case rest =>
     obtain ⟨rfl, nd6, rfl⟩ := hcut
     obtain ⟨w6, hw6⟩ : ∃ X, X = wc.drewN nd6 := ⟨_, rfl⟩
     have hd6 : Below wc.heap.size wc w6 := by rw [hw6]; exact below_drewN wc nd6
     have hz6 : wc.heap.size = w6.heap.size := by rw [hw6]; rfl
     rw [← hw6]
     clear hw6
     have hown6 := World.ownsRow.belowAll hownc hd6
     have hbr6 : Below W.heap.size W w6 := hbrc.trans (hd6.mono hbrc.size)
     have hbW6 : Below w.heap.size w w6 := hbWc.trans (hd6.mono hbWc.size)
     have h86 := h8c.below hd6 h8c.lt
     have h96 := h9c.below hd6 h9c.lt
     clear hownc hbrc hbWc h8c h9c hd6
     cases cr
     ·have HEL : Hid (cutTo c0 c1 c2 z (i + 1) = L1) := by
           unfold Hid
           have hn : ¬ sx * sy < 0 := fun e => by have := HCR.out; rw [decide_eq_true e] at this; cases this
           rw [HST.out, HC1.out, HL1.out, if_neg hn, List.append_nil]
      have HLN' : Hid ((cutTo c0 c1 c2 z (i + 1)).length = n1) := by unfold Hid; rw [HEL.out, HLE1.out]
      have HSM' : Hid (b1 = someTo c0 c1 c2 z (i + 1)) := by unfold Hid; rw [HSS.out, HB1.out]
      rw [← HEL.out] at hown6
      go_wp2_with fail
      go_roundw
      case rel => exact ⟨i + 1, n1, b1, by go_num, rfl, by omega, by omega, HLN', HSM', hown6, hbr6⟩
      case measure => simp [RowKit.intOf]; omega
     ·have hne := HNE.out (of_decide_eq_true HCR.out.symm)
      go_wp2_with fail
      refine (HDS.out w6 (hg.below hbW6)).mono ?_
      rintro e w7 ⟨_, rfl, rfl, hb7⟩
      go_wp2_with fail
      have hbW7 := hbW6.trans (hb7.mono hbW6.size)
      refine (HDV.out hne w7 (hg.below hbW7)).mono ?_
      rintro e w8 ⟨_, rfl, rfl, hb8⟩
      have hbb : Below w6.heap.size w6 w8 := hb7.trans (hb8.mono hb7.size)
      have hbW8 : Below w.heap.size w w8 := hbW6.trans (hbb.mono hbW6.size)
      have h88 := h86.below hbb h86.lt
      have h98 := h96.below hbb h96.lt
      have hown8 := World.ownsRow.belowAll hown6 hbb
      have hbr8 : Below W.heap.size W w8 := hbr6.trans (hbb.mono hbr6.size)
      clear hb7 hb8 hbW7 h86 h96 hown6 hbr6
      go_upto_region 13 with fail
      have HEL : Hid (cutTo c0 c1 c2 z (i + 1) = L1 ++ [((towQ A.1.1 B.1.1 (x / (x - y)), towQ A.1.2 B.1.2 (x / (x - y))), z)]) := by
           unfold Hid
           rw [HST.out, HC1.out, HL1.out, if_pos (of_decide_eq_true HCR.out.symm), HCK.out, List.append_assoc]
      have HLE8 : Hid ((cutTo c0 c1 c2 z (i + 1)).length = n1 + 1) := by unfold Hid; rw [HEL.out, List.length_append, HLE1.out]; rfl
      have HBE8 : Hid (cellsC (cutTo c0 c1 c2 z (i + 1)) = cellsC L1 ++ [.string (RS (towQ A.1.1 B.1.1 (x / (x - y)))), .string (RS (towQ A.1.2 B.1.2 (x / (x - y)))), .string (RS z)]) := by unfold Hid; rw [HEL.out, cellsC_snoc]
      have HSM' : Hid (b1 = someTo c0 c1 c2 z (i + 1)) := by unfold Hid; rw [HSS.out, HB1.out]
      have HTX' : Hid (∀ w, Good w → _) := fun w hg => HTX.out hne w hg
      have HTY' : Hid (∀ w, Good w → _) := fun w hg => HTY.out hne w hg
      clear HDV HDS HQZ HTX HTY HC1 HCK HST HSS HB1 HL1 HNE HCR HX HY HGX HGY HSX3 HSY3 HSA HSB HEL
      generalize RS (towQ A.1.1 B.1.1 (x / (x - y))) = px at *
      generalize RS (towQ A.1.2 B.1.2 (x / (x - y))) = py at *
      generalize RS (x / (x - y)) = qs at *
      clear hne
      have hl8 := h88.lt
      have hl9 := h98.lt
      go_cut [14] (fun s14 wx => ∃ b14 : Nat, s14 = .pointer (some ⟨b14, 0, none⟩) ∧ w8.heap.size ≤ b14 ∧ BoxN wx b14 33 [.string px, .string py] ∧ Below w8.heap.size w8 wx)
      case first =>
           have HF : Hid (∀ w', Below w8.heap.size w8 w' → w'.cell? ⟨wr.heap.size, 0, none⟩ = some (.string (RS A.1.1)) ∧ w'.cell? ⟨wr.heap.size, 1, none⟩ = some (.string (RS A.1.2)) ∧ w'.cell? ⟨W1.heap.size, 0, none⟩ = some (.string (RS B.1.1)) ∧ w'.cell? ⟨W1.heap.size, 1, none⟩ = some (.string (RS B.1.2))) := fun w' hb => by
            have y1 := h88.below hb h88.lt
            have y2 := h98.below hb h98.lt
            exact ⟨y1.cell 0 rfl, y1.cell 1 rfl, y2.cell 0 rfl, y2.cell 1 rfl⟩
           have HGD : Hid (∀ w', Below w8.heap.size w8 w' → Good w') := fun w' hb => (hg.below hbW8).below hb
           have b0 : Below w8.heap.size w8 w8.drew := below_drewN w8 1
           have hZZ : ∀ w' : World, BoxN (w'.alloc (.cells #[.string ⟨#[]⟩, .string ⟨#[]⟩] 33)) w'.heap.size 33 [.string ⟨#[]⟩, .string ⟨#[]⟩] := fun w' => BoxN.new _ _ _ _ rfl
           have hAA : ∀ (w' : World) (o : Obj), Below w8.heap.size w8 w' → Below w8.heap.size w8 (w'.alloc o) := fun w' o hb => hb.alloc hb.size _
           have HSC : Hid (∀ (w' : World) (b i : Nat) (v : Value), w8.heap.size ≤ b → Below w8.heap.size w8 w' → Below w8.heap.size w8 (w'.setCell ⟨b, i, none⟩ v)) := fun w' b i v hb h => h.setCell (p := ⟨b, i, none⟩) hb v
           have HTR : Hid (∀ w' w'', Below w8.heap.size w8 w' → Below w'.heap.size w' w'' → Below w8.heap.size w8 w'') := fun w' w'' h1 h2 => h1.trans (h2.mono h1.size)
           have HZZ := Lib.hid hZZ
           have HAA := Lib.hid hAA
           have h0a := (hAA _ (.cells #[.string ⟨#[]⟩, .string ⟨#[]⟩] 33) (Below.refl _ w8)).drew
           have g0 := HGD.out _ b0
           have g0a := HGD.out _ h0a
           clear hZZ hAA hown8 hbr8 hbW8 h88 h98 hbb
           go_region_held3 (fun w' => w'.cell? ⟨wr.heap.size, 0, none⟩ = some (.string (RS A.1.1)) ∧ w'.cell? ⟨wr.heap.size, 1, none⟩ = some (.string (RS A.1.2)) ∧ w'.cell? ⟨W1.heap.size, 0, none⟩ = some (.string (RS B.1.1)) ∧ w'.cell? ⟨W1.heap.size, 1, none⟩ = some (.string (RS B.1.2)))
            ((refine HF.out _ ?_; first | with_reducible assumption | exact (HAA.out _ _ (by with_reducible assumption)).drew | exact HAA.out _ _ (by with_reducible assumption) | (iterate 2 (refine HSC.out _ _ _ _ (by omega) ?_)); with_reducible assumption))
            (first
                  | (go_at_call 35; (first | refine (HTY'.out _ g4).mono ?_ | refine (HTY'.out _ g4a).mono ?_); rintro e v5 ⟨_, rfl, rfl, hb5⟩
                     have h5 : Below w8.heap.size w8 v5 := by first | exact HTR.out _ _ h4 hb5 | exact HTR.out _ _ h4a hb5
                     have hs5 := h5.size
                     try have bz5 := bz4.below hb5 bz4.lt
                     try have bz5 := (HZZ.out v4).below hb5 (by simp)
                     try have q0 := bz5.cell 0 rfl
                     try have q1 := bz5.cell 1 rfl
                     try have e0 := bz5.frozen 0
                     try have e1 := bz5.frozen 1)
                  | (go_at_call 35; (first | refine (HTX'.out _ g0).mono ?_ | refine (HTX'.out _ g0a).mono ?_); rintro e v4 ⟨_, rfl, rfl, hb4⟩
                     have h4 : Below w8.heap.size w8 v4 := by first | exact HTR.out _ _ b0 hb4 | exact HTR.out _ _ h0a hb4
                     have h4a := HAA.out _ (.cells #[.string ⟨#[]⟩, .string ⟨#[]⟩] 33) h4
                     have g4 := HGD.out _ h4
                     have g4a := HGD.out _ h4a
                     have hs4 := h4.size
                     try have bz4 := (HZZ.out w8).drew.below hb4 (by simp)))
           ·go_wp2_with fail
            go_meet
            exact ⟨_, rfl, hs5, BoxN.new _ _ _ _ rfl, HAA.out _ _ h5⟩
           ·go_wp2_with fail
            go_meet
            exact ⟨_, rfl, hs4, (bz5.set 0 _).set 1 _, HSC.out _ _ _ _ hs4 (HSC.out _ _ _ _ hs4 h5)⟩
           ·go_wp2_with fail
            go_meet
            exact ⟨_, rfl, Nat.le_refl _, (bz5.set 0 _).set 1 _, HSC.out _ _ _ _ (Nat.le_refl _) (HSC.out _ _ _ _ (Nat.le_refl _) h5)⟩
      case rest =>
           obtain ⟨b14, rfl, hb14, x14, hbx⟩ := hcut
           have hownx := World.ownsRow.belowAll hown8 hbx
           have hbrx : Below W.heap.size W wc := hbr8.trans (hbx.mono hbr8.size)
           have hzx := hbrx.size
           have k0 := x14.cell 0 rfl
           have k1 := x14.cell 1 rfl
           have hn4 : n1 ≤ 6 := by omega
           clear hbx hbr8 hown8 h88 h98 x14 hbb
           go_wp2_with (at_builtin; refine wpList_append_own _ rfl _ _ 138 rfl W.heap.size 135 i0 (.agg #[.string ⟨#[]⟩, .string ⟨#[]⟩, .string ⟨#[]⟩]) 3 48 Tryz.underlying138 hi hzz0 hzz1 hzz2 rfl (by decide) _ _ _ rfl (hownx.alloc _) ⟨wc.heap.size, 0, none⟩ 1 1 [.string px, .string py, .string (RS z)] rfl rfl (cell_three _ _ _ _ _) (three_str _ _ _) (by unfold maxLen; omega) (by omega) (by simp; omega) ?_
                        intro v9 w9 hown9 hgrow9 _
                        have hzw9 := hgrow9.size
                        have hbr9 : Below W.heap.size W w9 := (hbrx.alloc hzx _).grown hgrow9 (by simp; omega) (fun j hj => by have := (hownx.lt j hj).1; omega)
                        clear hgrow9)
           rw [← HBE8.out] at hown9
           go_wp2_with fail
           go_roundw
           case rel => exact ⟨i + 1, n1 + 1, b1, by go_num, rfl, by omega, by omega, HLE8, HSM', hown9, hbr9⟩
           case measure => simp [RowKit.intOf]; omega
  ·obtain rfl : i = 3 := by omega
   have hbW : Below w.heap.size w wr := hB.trans (hbr.mono hB.size)
   cases b
   ·have HE : Hid (cutL c0 c1 c2 z = []) := by unfold Hid cutL; rw [← HSM.out]; rfl
    go_wp2_with fail
    go_ret
    exact ⟨_, rfl, ⟨by rw [HE.out]; exact World.ownsRow_nil _ _ _ _, fun _ => rfl⟩, hbW⟩
   ·have HE : Hid (cutL c0 c1 c2 z = cutTo c0 c1 c2 z 3) := by unfold Hid cutL; rw [← HSM.out]; rfl
    have HNE := Lib.hid (cutTo_ne c0 c1 c2 z 3 HSM.out.symm)
    have hrd : wr.ownsRow w.heap.size 135 3 (.slice p5 n c5) (cutTo c0 c1 c2 z 3).length (cellsC (cutTo c0 c1 c2 z 3)) := by rw [HLN.out]; exact ownsRow_base hown (by omega)
    go_wp2_with fail
    go_ret
    exact ⟨_, rfl, ⟨by rw [HE.out]; exact hrd, fun e => absurd (HE.out.symm.trans e) HNE.out⟩, hbW⟩
end Go.Proofs.YtegiemcnfbchoaaGreatDoor
namespace Go.Proofs.YtegiemcnfbchoaaGreatDoor
open Go.RowKit Go.Shelf Go.Lib
attribute [local go_sem] Oper.semAt_some
def outsL (f : Fin 3 → Int) (pre : List (Fin 3)) : List Value := pre.foldl (fun l x => l.set x.val (.int .i64 (f x))) [.int .i64 0, .int .i64 0, .int .i64 0]
theorem outsL_snoc (f : Fin 3 → Int) (pre : List (Fin 3)) (x : Fin 3) : outsL f (pre ++ [x]) = (outsL f pre).set x.val (.int .i64 (f x)) := by
 unfold outsL; rw [List.foldl_append]; rfl
theorem outsL_len (f : Fin 3 → Int) (pre : List (Fin 3)) : (outsL f pre).length = 3 := by
 unfold outsL
 have : ∀ (pre : List (Fin 3)) (l : List Value), (pre.foldl (fun l x => l.set x.val (.int .i64 (f x))) l).length = l.length := by
  intro pre
  induction pre with
  | nil => intro l; rfl
  | cons x pre ih => intro l; rw [List.foldl_cons, ih, List.length_set]
 rw [this]; rfl
theorem neighbours_in (n : Nat) (hn : 6 ≤ n) (w : World) (vp vt : Value) (P : List PtQ) (T : List Tri) (k : Nat) (hp : RdP w vp (strP P)) (ht : RdT w vt T) (hm : MeshOK P T k) (hI : ∀ t ∈ T, InI t.1 ∧ InI t.2.1 ∧ InI t.2.2) (t : Nat) (htl : t < T.length) (tr : Tri) (htr : tr = T[t]) (hg : Good w) :
 CallsIn Fence.wide n Tryz.prog 77 #[.agg #[vp, vt], .int .i64 (t : Int)] w (Ret (fun r _ => r = .tuple #[.agg #[.int .i64 (nbI T (sideK tr 0)), .int .i64 (nbI T (sideK tr 1)), .int .i64 (nbI T (sideK tr 2))], .int .i64 0]) w) := by
 have h1 : 1 ≤ n := by omega
 have HCT : Hid (∀ w', Below w.heap.size w w' → Good w' → Calls Tryz.prog 131 #[.agg #[vp, vt], .int .i64 (t : Int)] w' (Ret (fun r _ => r = .int .i64 0) w')) := fun w' hb hg' => checkTriangle_ok w' vp vt P T k (RdC.below hp hb) (RdC.below ht hb) hm t htl hg'
 have HOW : Hid (∀ w', Below w.heap.size w w' → Calls Tryz.prog 132 #[.agg #[vp, vt]] w' (Ret (OwnersP T w'.heap.size) w')) := fun w' hb => owners_any w' vp vt T (RdC.below ht hb) (by have := hm.tlen; omega) hI
 have HND := Lib.hid hm.nodup
 have HIN : Hid (∀ x, InE (revE (sideK tr x))) := fun x => by
  obtain ⟨i1, i2, i3⟩ := hI tr (by rw [htr]; exact List.getElem_mem htl)
  rcases x with ⟨x, hx⟩
  rcases (by omega : x = 0 ∨ x = 1 ∨ x = 2) with rfl | rfl | rfl
  ·exact ⟨i2, i1⟩
  ·exact ⟨i3, i2⟩
  ·exact ⟨i1, i3⟩
 obtain ⟨pp, cp, rfl, -, -, -⟩ := hp.open
 obtain ⟨pt, ct, rfl, htc, htm, htr'⟩ := ht.open
 obtain ⟨b, off, rfl, hbl, hcell⟩ := htr' (List.ne_nil_of_length_pos (by omega))
 obtain ⟨e0, e1, e2⟩ := hcell t htl
 rw [← htr] at e0 e1 e2
 have hltz : (t : Int) < (T.length : Int) := by omega
 clear hp ht hm hI htr' hcell htr htl htc htm
 refine callsIn_of_wp_marks Tryz.func77 rfl trivial ?_ rfl
 simp only [Tryz.ntmps77, List.size_toArray, List.length_cons, List.length_nil, Nat.reduceAdd, Nat.reduceSub, Array.replicate_succ, Array.replicate_zero, List.push_toArray, List.append_toArray, List.nil_append, List.cons_append]
 gi_wp2_with fail
 obtain ⟨W, hW⟩ : ∃ W, W = (w.alloc (.cells #[.slice pp (strP P).length cp, .slice (some ⟨b, off, none⟩) T.length ct] 38)).alloc (.cells #[.int .i64 0, .int .i64 0, .int .i64 0] 70) := ⟨_, rfl⟩
 have hB : Below w.heap.size w W := by rw [hW]; exact zal2 _ _ _
 have b4 : BoxN W (w.heap.size + 1) 70 [.int .i64 0, .int .i64 0, .int .i64 0] := by rw [hW]; exact BoxN.new _ _ _ _ (by simp)
 have b2 : BoxN W w.heap.size 38 [.slice pp (strP P).length cp, .slice (some ⟨b, off, none⟩) T.length ct] := by
  rw [hW]
  have h1 := (BoxN.new w #[.slice pp (strP P).length cp, .slice (some ⟨b, off, none⟩) T.length ct] 38 _ rfl)
  exact h1.below (zal _ _) h1.lt
 rw [← hW]
 clear hW
 refine ⟨trivial, ?_⟩
 refine CallsIn.mono (callsIn_wide.2 (HCT.out W hB (hg.below hB))) ?_
 rintro e w1 ⟨_, rfl, rfl, hb1⟩
 have hB1 := hB.trans (hb1.mono hB.size)
 have b21 := b2.below hb1 b2.lt
 have b41 := b4.below hb1 b4.lt
 have x0 := b21.cell 0 rfl
 have x1 := b21.cell 1 rfl
 clear hb1 hB b2 b4
 gi_wp2_with fail
 refine ⟨trivial, ?_⟩
 refine CallsIn.mono (callsIn_wide.2 (HOW.out w1 hB1)) ?_
 rintro e w2 ⟨v, rfl, hov, hb2⟩
 rcases hov with hov | ⟨hnn, _⟩
 rotate_left
 ·exact absurd HND.out hnn
 obtain ⟨_, bm, D, hbm, rfl, hM⟩ := hov
 have hB2 := hB1.trans (hb2.mono hB1.size)
 have b22 := b21.below hb2 b21.lt
 have b42 := b41.below hb2 b41.lt
 have HM := Lib.hid hM
 have hbm2 := hM.owns
 have hbml : bm < w2.heap.size := by
  obtain ⟨es, ck, hh, _⟩ := hbm2
  exact (Array.getElem?_eq_some_iff.1 hh).1
 clear hb2 hB1 b21 b41 x0 x1 hM hbm2
 have x1 := b22.cell 1 rfl
 have d0 := zcq hB2 hbl e0
 have d1 := zcq hB2 hbl e1
 have d2 := zcq hB2 hbl e2
 have hz42 := b42.lt
 have hz22 := b22.lt
 have hbl2 : b < w2.heap.size := by omega
 gi_wp2_with fail
 refine ⟨trivial, ?_⟩
 refine CallsIn.mono (callsIn_wide.2 (sides_any tr _)) ?_
 rintro e w3 ⟨rfl, rfl⟩
 obtain ⟨W1, hW1⟩ : ∃ W1, W1 = ((w2.alloc (.cells #[.map (some bm)] 178)).alloc (.cells #[.int .i64 0, .int .i64 0, .int .i64 0] 70)).alloc (.cells #[.int .i64 tr.1, .int .i64 tr.2.1, .int .i64 tr.2.2] 71) := ⟨_, rfl⟩
 have hbW1 : Below w2.heap.size w2 W1 := by rw [hW1]; exact (((Below.refl _ _).alloc (Nat.le_refl _) _).alloc (by simp) _).alloc (by simp; omega) _
 have hz1 : W1.heap.size = w2.heap.size + 3 := by rw [hW1]; simp
 have z7 : Boxed W1 w2.heap.size 178 (.map (some bm)) := by rw [hW1]; exact ((Boxed.new w2 _ _).alloc _).alloc _
 have z9 : BoxN W1 (w2.heap.size + 1) 70 [.int .i64 0, .int .i64 0, .int .i64 0] := by
  rw [hW1]
  have h1 := (BoxN.new (w2.alloc (.cells #[.map (some bm)] 178)) #[.int .i64 0, .int .i64 0, .int .i64 0] 70 (w2.heap.size + 1) (by simp))
  exact h1.below (zal _ _) h1.lt
 have s0 : W1.cell? ⟨w2.heap.size + 2, 0, none⟩ = some (.int .i64 tr.1) := by rw [hW1, World.cell?_alloc_at _ _ _ _ (by simp)]; rfl
 have s1 : W1.cell? ⟨w2.heap.size + 2, 1, none⟩ = some (.int .i64 tr.2.1) := by rw [hW1, World.cell?_alloc_at _ _ _ _ (by simp)]; rfl
 have s2 : W1.cell? ⟨w2.heap.size + 2, 2, none⟩ = some (.int .i64 tr.2.2) := by rw [hW1, World.cell?_alloc_at _ _ _ _ (by simp)]; rfl
 gi_wp2_with fail
 rw [← hW1]
 have hm1 : MapL viewE 3 (Lit.int .i64) W1 bm (3 * T.length) D (ownL T) := HM.out.below hbW1 hbml
 have z4 : BoxN W1 (w.heap.size + 1) 70 [.int .i64 0, .int .i64 0, .int .i64 0] := b42.below hbW1 hz42
 have hBW : Below w.heap.size w W1 := hB2.trans (hbW1.mono hB2.size)
 clear hW1 hbW1 HM b22 b42 x1 d0 d1 d2 e0 e1 e2 hB2
 refine wpIn_rangeFunc_ownH rfl h1 (gf := 173) (lb := #[.pointer (some ⟨w2.heap.size + 1 + 1, 0, none⟩)]) rfl trivial (enters_of Tryz.func173 (by kernel_rfl) rfl)
  (sides_stops Fence.wide (n - 1) trivial rfl (by omega) (w2.heap.size + 2) w.heap.size tr W1 (by omega) s0 s1 s2) (fun h k => KeepAt.trans h k) (keepAt_b (by omega) (by omega)) (Below.refl _ _) (fun _ => rfl)
  (fun pre W => W1.grownBy W (some (w2.heap.size + 1)) ∧ Hid (BoxN W (w2.heap.size + 1) 70 (outsL (fun x => nbI T (sideK tr x)) pre)))
  (fun _ _ _ => False)
  ?hI ?hIx ?h0 (fun x a' W => ∃ Bx, (W1.heap.size ≤ Bx ∧ W.heap[Bx]? = some (.cells #[.int .i64 (sideK tr x).1, .int .i64 (sideK tr x).2] 88)) ∧
   a' = { tmps := #[.agg #[.slice pp (strP P).length cp, .slice (some ⟨b, off, none⟩) T.length ct], .int .i64 t, .pointer (some ⟨w.heap.size, 0, none⟩), undef, .pointer (some ⟨w.heap.size + 1, 0, none⟩), .int .i64 0, .int .i64 0, .pointer (some ⟨w2.heap.size, 0, none⟩), .bool true, .pointer (some ⟨w2.heap.size + 1, 0, none⟩), .int .i64 (x.val : Int), .pointer (some ⟨Bx, 0, none⟩), undef, undef, .agg #[.slice pp (strP P).length cp, .slice (some ⟨b, off, none⟩) T.length ct], .int .i64 t, .int .i64 0, .int .i64 0, .bool false, undef, undef, .tuple #[.map (some bm), .bool true], .agg #[.slice pp (strP P).length cp, .slice (some ⟨b, off, none⟩) T.length ct], .tuple #[.map (some bm), .bool true], .map (some bm), .bool true, .pointer (some ⟨w.heap.size, 1, none⟩), .slice (some ⟨b, off, none⟩) T.length ct, .int .i64 t, .pointer (some ⟨b, off + t * 3, none⟩), .agg #[.int .i64 tr.1, .int .i64 tr.2.1, .int .i64 tr.2.2], .func (.func 173) #[] #[.pointer (some ⟨w2.heap.size + 1 + 1, 0, none⟩)], .int .i64 (x.val : Int), .agg #[.int .i64 (sideK tr x).1, .int .i64 (sideK tr x).2], undef, undef, undef, undef, undef, undef, undef, undef, undef, undef, undef, undef, undef, undef, undef, undef], defers := [] })
  ?hAx ?assign ?body ?done ?stop
 case hI =>
  rintro pre W W' row ⟨hs, ho⟩ hg hr
  have hne : some (w2.heap.size + 1) ≠ row := fun e => by have := (hr _ e.symm).1; omega
  exact ⟨⟨hg.os.trans hs.os, hg.tape.trans hs.tape, hg.output.trans hs.output, Nat.le_trans hs.size hg.size, fun j hj hjn => (hg.block j (Nat.lt_of_lt_of_le hj hs.size) (fun e => by have := (hr _ e.symm).1; omega)).trans (hs.block j hj hjn)⟩, (hg.block _ ho.out.lt hne).trans ho.out⟩
 case hIx =>
  rintro c' pre W W' row h _ _
  exact h
 case h0 => exact ⟨⟨rfl, rfl, rfl, Nat.le_refl _, fun _ _ _ => rfl⟩, z9⟩
 case hAx =>
  rintro x a' _ W W' row ⟨Bx, ⟨h1, h2⟩, h3⟩ hg hr
  refine ⟨Bx, ⟨h1, (hg.block Bx (Array.getElem?_eq_some_iff.1 h2).1 (fun e => ?_)).trans h2⟩, h3⟩
  obtain ⟨_, o, ho, hc⟩ := hr Bx e.symm
  rw [h2] at ho; cases ho; cases hc
 case assign =>
  rintro l pre x W K ⟨hs, ho⟩ hK
  dsimp only [encSide]
  gi_wp2_with fail
  have hg1 := World.grownBy_alloc W (.cells #[.int .i64 (sideK tr x).1, .int .i64 (sideK tr x).2] 88) none
  refine hK _ _ ((KeepsOthers.alloc _ _).from _) ⟨(Below.refl _ W).alloc (by have := hs.size; omega) _, Below.heap_alloc _ _ _ (by have := hs.size; omega)⟩ ⟨⟨hg1.os.trans hs.os, hg1.tape.trans hs.tape, hg1.output.trans hs.output, Nat.le_trans hs.size hg1.size, fun j hj hjn => (hg1.block j (Nat.lt_of_lt_of_le hj hs.size) (by simp)).trans (hs.block j hj hjn)⟩, (hg1.block _ ho.out.lt (by simp)).trans ho.out⟩ ⟨W.heap.size, ⟨hs.size, World.alloc_heap_new _ _⟩, rfl⟩
 case body =>
  rintro l pre x a' W hl ⟨r, hr⟩ ⟨hs, ho⟩ ⟨Bx, ⟨hBx, hbx⟩, rfl⟩ hlt'
  have q7 : Boxed W w2.heap.size 178 (.map (some bm)) := z7.kept hs (by simp)
  have c7 := q7.cell
  have hm : MapL viewE 3 (Lit.int .i64) W bm (3 * T.length) D (ownL T) := hm1.kept hs (by simp; omega)
  have cb0 : W.cell? ⟨Bx, 0, none⟩ = some (.int .i64 (sideK tr x).1) := by simp [World.cell?, hbx]
  have cb1 : W.cell? ⟨Bx, 1, none⟩ = some (.int .i64 (sideK tr x).2) := by simp [World.cell?, hbx]
  have hown := hm.owns
  have HX := HIN.out x
  have hkey : keyOf Tryz.prog 88 (.agg #[.int .i64 (sideK tr x).2, .int .i64 (sideK tr x).1]) = some (kE (revE (sideK tr x))) := keyE HX.1 HX.2
  have hlen := outsL_len (fun x => nbI T (sideK tr x)) pre
  have c9' := ho.out.cell x.val (List.getElem?_eq_getElem (by rw [hlen]; exact x.isLt))
  have c9f := ho.out.frozen x.val
  have hx3 : (x.val : Int) < 3 := by have := x.isLt; omega
  obtain ⟨v9, hv9⟩ : ∃ v9, W.cell? ⟨w2.heap.size + 1, x.val, none⟩ = some v9 := ⟨_, c9'⟩
  have hhas := hm.has_iff HX
  have HSET : Hid (∀ y : Int, y = nbI T (sideK tr x) → BoxN (W.setCell ⟨w2.heap.size + 1, x.val, none⟩ (.int .i64 y)) (w2.heap.size + 1) 70 (outsL (fun x => nbI T (sideK tr x)) (pre ++ [x]))) := fun y hy => by
   rw [outsL_snoc, hy]
   exact ho.out.set x.val (.int .i64 (nbI T (sideK tr x)))
  have HGR : Hid (∀ y : Value, W1.grownBy (W.setCell ⟨w2.heap.size + 1, x.val, none⟩ y) (some (w2.heap.size + 1))) := fun y =>
   ⟨hs.os, hs.tape, hs.output, by simpa using hs.size, fun j hj hjn => (Below.heap_setCell _ _ _ j (by rintro rfl; exact hjn rfl)).trans (hs.block j hj hjn)⟩
  have HKE := Lib.hid hkey
  have HHAS := Lib.hid hhas
  have HMM := Lib.hid hm
  clear hbx hr hkey hhas q7 c9' hlen ho hm
  generalize hjx : x.val = jx at *
  have HJX := Lib.hid hjx
  clear hjx
  cases hsn : Maps.has D (viewE.lit (revE (sideK tr x)))
  ·have hnk : revE (sideK tr x) ∉ (ownL T).map (·.1) := fun hmm => by
    have := HHAS.out.2 hmm
    rw [hsn] at this; cases this
   have HNK := Lib.hid (nbI_none hnk)
   have HSN := Lib.hid hsn
   clear hnk hsn
   gi_wp2_with (gi_at_lookup; refine wpListIn_lookup_own_ok_int _ rfl _ _ 178 rfl 88 3 .i64 lawE und_EI und_I (zeroI _) bm (3 * T.length) D rfl hown _ _ rfl HKE.out ?_; rw [show Maps.has D (kE (revE (sideK tr x))) = false from HSN.out]; intro cz hat hwc; clear hat hwc)
   exact ⟨(KeepsOthers.setCell _ _ _).from _, ⟨(Below.refl _ W).setCell (p := ⟨w2.heap.size + 1, jx, none⟩) (by show w.heap.size ≤ w2.heap.size + 1; omega) _, Below.heap_setCell _ _ _ _ (by show w2.heap.size + 2 ≠ w2.heap.size + 1; omega)⟩, HGR.out _, Lib.hid (HSET.out _ HNK.out.symm)⟩
  ·have hnk : revE (sideK tr x) ∈ (ownL T).map (·.1) := HHAS.out.1 hsn
   have hat2 := HMM.out.at (nbI_some hnk) (.lit (.int .i64 0))
   have HAT := Lib.hid hat2
   have HSN := Lib.hid hsn
   clear hnk hsn hat2
   gi_wp2_with (gi_at_lookup; refine wpListIn_lookup_own_ok_int _ rfl _ _ 178 rfl 88 3 .i64 lawE und_EI und_I (zeroI _) bm (3 * T.length) D rfl hown _ _ rfl HKE.out ?_; rw [show Maps.has D (kE (revE (sideK tr x))) = true from HSN.out]; intro cz hat hwc; have HCZ : Hid (cz = nbI T (sideK tr x)) := (by have h1 := hat.symm.trans HAT.out; injection h1 with h1; injection h1); clear hat hwc)
   exact ⟨(KeepsOthers.setCell _ _ _).from _, ⟨(Below.refl _ W).setCell (p := ⟨w2.heap.size + 1, jx, none⟩) (by show w.heap.size ≤ w2.heap.size + 1; omega) _, Below.heap_setCell _ _ _ _ (by show w2.heap.size + 2 ≠ w2.heap.size + 1; omega)⟩, HGR.out _, Lib.hid (HSET.out _ HCZ.out)⟩
 case done =>
  rintro E ys W hE rfl ⟨hs, ho⟩ hK
  have r4 : BoxN W (w.heap.size + 1) 70 [.int .i64 0, .int .i64 0, .int .i64 0] := (hs.block _ (by omega) (by simp; omega)).trans z4
  have r9 : BoxN W (w2.heap.size + 1) 70 [.int .i64 (nbI T (sideK tr 0)), .int .i64 (nbI T (sideK tr 1)), .int .i64 (nbI T (sideK tr 2))] := ho.out
  have hBW2 : Below w.heap.size w W := hBW.grown hs hBW.size (fun j e => by cases e; omega)
  have a0 := r4.cell 0 rfl
  have a1 := r4.cell 1 rfl
  have a2 := r4.cell 2 rfl
  have f0 := r4.frozen 0
  have f1 := r4.frozen 1
  have f2 := r4.frozen 2
  have n0 := r9.cell 0 rfl
  have n1 := r9.cell 1 rfl
  have n2 := r9.cell 2 rfl
  obtain ⟨y0, hy0⟩ : ∃ y, y = nbI T (sideK tr 0) := ⟨_, rfl⟩
  obtain ⟨y1, hy1⟩ : ∃ y, y = nbI T (sideK tr 1) := ⟨_, rfl⟩
  obtain ⟨y2, hy2⟩ : ∃ y, y = nbI T (sideK tr 2) := ⟨_, rfl⟩
  rw [← hy0] at n0
  rw [← hy1] at n1
  rw [← hy2] at n2
  have HY : Hid (y0 = nbI T (sideK tr 0) ∧ y1 = nbI T (sideK tr 1) ∧ y2 = nbI T (sideK tr 2)) := ⟨hy0, hy1, hy2⟩
  have hszW := hs.size
  clear hy0 hy1 hy2
  gi_wp2_with fail
  have hne : E ≠ w.heap.size + 1 := by omega
  have hKs : ((((W.setCell ⟨w.heap.size + 1, 0, none⟩ (.int .i64 y0)).setCell ⟨w.heap.size + 1, 1, none⟩ (.int .i64 y1)).setCell ⟨w.heap.size + 1, 2, none⟩ (.int .i64 y2))).heap[E]? = some (.deferred (some [])) := by
   rw [Below.heap_setCell _ _ _ E hne, Below.heap_setCell _ _ _ E hne, Below.heap_setCell _ _ _ E hne]
   exact hK
  have hle : w.heap.size ≤ w.heap.size + 1 := by omega
  have hBs := ((hBW2.setCell (p := ⟨w.heap.size + 1, 0, none⟩) hle (.int .i64 y0)).setCell (p := ⟨w.heap.size + 1, 1, none⟩) hle (.int .i64 y1)).setCell (p := ⟨w.heap.size + 1, 2, none⟩) hle (.int .i64 y2)
  have r4s := ((r4.set 0 (.int .i64 y0)).set 1 (.int .i64 y1)).set 2 (.int .i64 y2)
  have hl4 := r4s.lt
  refine leaves_marks (B := W1.heap.size) ⟨[E], rfl, (by simp), fun D hD => by rw [List.mem_singleton] at hD; subst hD; exact ⟨hE, hKs⟩⟩ fun w' hw' => ?_
  have q4 : BoxN w' (w.heap.size + 1) 70 [.int .i64 y0, .int .i64 y1, .int .i64 y2] := (hw'.block _ (.inl (by omega)) hl4).trans r4s
  have k0 := q4.cell 0 rfl
  have k1 := q4.cell 1 rfl
  have k2 := q4.cell 2 rfl
  refine ⟨.tuple #[.agg #[.int .i64 y0, .int .i64 y1, .int .i64 y2], .int .i64 0], by simp [results, Tryz.results77, go_sem, k0, k1, k2], ?_⟩
  obtain ⟨e0, e1, e2⟩ := HY.out
  refine ⟨_, rfl, by rw [e0, e1, e2], hBs.trans ((hw'.below (by simpa using hszW)).mono (by omega))⟩
 case stop =>
  rintro E c' pre W hE hSp h hK
  exact h.elim
theorem neighbours_any (w : World) (vp vt : Value) (P : List PtQ) (T : List Tri) (k : Nat) (hp : RdP w vp (strP P)) (ht : RdT w vt T) (hm : MeshOK P T k) (t : Nat) (htl : t < T.length) (tr : Tri) (htr : tr = T[t]) (hg : Good w) :
 Calls Tryz.prog 77 #[.agg #[vp, vt], .int .i64 (t : Int)] w (Ret (fun r _ => r = .tuple #[.agg #[.int .i64 (nbI T (sideK tr 0)), .int .i64 (nbI T (sideK tr 1)), .int .i64 (nbI T (sideK tr 2))], .int .i64 0]) w) :=
 callsIn_wide.1 (neighbours_in 6 (by omega) w vp vt P T k hp ht hm (fun t ht => by
  have hpl := hm.plen
  have key : ∀ x ∈ idxOf t, InI x := fun x hx => by
   have := hm.idx t ht x hx
   unfold InI
   omega
  exact ⟨key _ (by simp [idxOf]), key _ (by simp [idxOf]), key _ (by simp [idxOf])⟩) t htl tr htr hg)
end Go.Proofs.YtegiemcnfbchoaaGreatDoor
