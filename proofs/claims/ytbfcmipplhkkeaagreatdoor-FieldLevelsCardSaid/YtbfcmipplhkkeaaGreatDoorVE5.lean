import Derived.Test.YtbfcmipplhkkeaaGreatDoorVE2
/- Level lines Plain The walk over field.cut. The walk over mesh.Neighbours. -/
set_option maxHeartbeats 4000000
set_option maxRecDepth 100000
namespace Go.Proofs.YtbfcmipplhkkeaaGreatDoor
open Go.RowKit Go.Lib
abbrev Seg := Int × PtQ × PtQ
def cellG (s : Seg) : List Value := [.int .i64 s.1, .string (RS s.2.1.1), .string (RS s.2.1.2), .string (RS s.2.2.1), .string (RS s.2.2.2)]
def cGG (l : List Seg) : List Value := l.flatMap cellG
theorem cGs (l : List Seg) (s : Seg) : cGG (l ++ [s]) = cGG l ++ [.int .i64 s.1, .string (RS s.2.1.1), .string (RS s.2.1.2), .string (RS s.2.2.1), .string (RS s.2.2.2)] := by simp [cGG, cellG]
def nbI (T : List Tri) (s : Edge) : Int := match (ownL T).find? (fun x => x.1 == revE s) with | some x => x.2 | none => -1
theorem oLi {T : List Tri} {x : Edge × Int} (h : x ∈ ownL T) : ∃ j : Nat, x.2 = (j : Int) /\ j < T.length := by
 unfold ownL at h;obtain ⟨y, hy, hx⟩ := List.mem_flatMap.1 h;obtain ⟨s, _, rfl⟩ := List.mem_map.1 hx;obtain ⟨_, Z, _⟩ := List.mem_zipIdx hy;exact ⟨y.2, rfl, by omega⟩
theorem nIl {T : List Tri} {s : Edge} (h : 0 <= nbI T s) : ∃ j : Nat, nbI T s = (j : Int) /\ j < T.length := by
 unfold nbI at h ⊢;cases e : (ownL T).find? (fun x => x.1 == revE s) with
 | none => rw [e] at h; exact absurd h (by decide)
 | some x => exact oLi (List.mem_of_find?_eq_some e)
theorem nIs {T : List Tri} {s : Edge} (h : revE s ∈ (ownL T).map (·.1)) : (revE s, nbI T s) ∈ ownL T := by
 unfold nbI;cases e : (ownL T).find? (fun x => x.1 == revE s) with
 | none =>
   obtain ⟨x, hx, Z⟩ := List.mem_map.1 h;have := List.find?_eq_none.1 e x hx;simp [Z] at this
 | some x =>
   have X := List.mem_of_find?_eq_some e;have Y := List.find?_some e;simp at Y;rw [<- Y]; exact X
theorem nIn {T : List Tri} {s : Edge} (h : revE s ∉ (ownL T).map (·.1)) : nbI T s = -1 := by
 unfold nbI;cases e : (ownL T).find? (fun x => x.1 == revE s) with
 | none => rfl
 | some x =>
   have Y := List.mem_of_find?_eq_some e;have Z := List.find?_some e;simp at Z;exact absurd (List.mem_map.2 ⟨x, Y, Z⟩) h
def corP (P : List PtQ) (F : List Rat) (z : Int) : Cor := (ptI P z, hI F z)
def partT (P : List PtQ) (F : List Rat) (z : Rat) (tr : Tri) : List Cor := cutL (corP P F tr.1) (corP P F tr.2.1) (corP P F tr.2.2) z
def sideT (P : List PtQ) (tr : Tri) (a b : PtQ) : Int := sideL (ptI P tr.1) (ptI P tr.2.1) (ptI P tr.2.2) a b
def nbT (T : List Tri) (tr : Tri) (k : Int) : Int := nbI T (if k = 0 then sideK tr 0 else if k = 1 then sideK tr 1 else sideK tr 2)
def triI (T : List Tri) (j : Int) : Tri := T[j.toNat]?.getD (0, 0, 0)
theorem tIn (T : List Tri) (m : Nat) (h : m < T.length) : triI T (m : Int) = T[m] := by
 unfold triI; rw [Int.toNat_natCast, List.getElem?_eq_getElem h]; rfl
def corI (l : List Cor) (i : Nat) : Cor := l[i]?.getD ((0, 0), 0)
theorem cIn (l : List Cor) (i : Nat) (h : i < l.length) : corI l i = l[i] := by
 unfold corI; rw [List.getElem?_eq_getElem h]; rfl
def keepB (P : List PtQ) (T : List Tri) (F : List Rat) (z : Rat) (tr : Tri) (a b : Cor) : Bool :=
 decide (a.2 = z) && decide (b.2 = z) && (decide (sideT P tr a.1 b.1 < 0) || (decide (0 <= nbT T tr (sideT P tr a.1 b.1)) && (partT P F z (triI T (nbT T tr (sideT P tr a.1 b.1)))).isEmpty))
def segA (P : List PtQ) (T : List Tri) (F : List Rat) (z : Rat) (t : Nat) (tr : Tri) (l : List Cor) (i : Nat) : List Seg :=
 if keepB P T F z tr (corI l i) (corI l ((i + 1) % l.length)) then [((t : Int), (corI l i).1, (corI l ((i + 1) % l.length)).1)] else []
def segTo (P : List PtQ) (T : List Tri) (F : List Rat) (z : Rat) (t : Nat) (tr : Tri) (l : List Cor) : Nat -> List Seg | 0 => [] | i + 1 => segTo P T F z t tr l i ++ segA P T F z t tr l i
def levTo (P : List PtQ) (T : List Tri) (F : List Rat) (z : Rat) : Nat -> List Seg
 | 0 => []
 | t + 1 => levTo P T F z t ++ segTo P T F z t (triI T t) (partT P F z (triI T t)) (partT P F z (triI T t)).length
def lLL (P : List PtQ) (T : List Tri) (F : List Rat) (z : Rat) : List Seg := levTo P T F z T.length
theorem sTl (P : List PtQ) (T : List Tri) (F : List Rat) (z : Rat) (t : Nat) (tr : Tri) (l : List Cor) : ∀ i, (segTo P T F z t tr l i).length <= i
 | 0 => Nat.le_refl _
 | i + 1 => by
   have h := sTl P T F z t tr l i;unfold segTo segA;rw [List.length_append];split <;> simp <;> omega
theorem cLl (c0 c1 c2 : Cor) (z : Rat) : (cutL c0 c1 c2 z).length <= 6 := by
 unfold cutL;split
 ·exact cTl c0 c1 c2 z 3
 ·simp
theorem lTl (P : List PtQ) (T : List Tri) (F : List Rat) (z : Rat) : ∀ t, (levTo P T F z t).length <= 6 * t
 | 0 => Nat.le_refl _
 | t + 1 => by
   have h := lTl P T F z t;have Z := sTl P T F z t (triI T t) (partT P F z (triI T t)) (partT P F z (triI T t)).length;have Y : (partT P F z (triI T t)).length <= 6 := cLl _ _ _ _;unfold levTo;rw [List.length_append];omega
theorem cSz {a b : Cor} {z : Rat} {k m : Nat} (Z : SzP k a.1 /\ Sz k a.2) (Y : SzP k b.1 /\ Sz k b.2) (U : Sz m z) : SzP (6 * k + 3 * m + 6) (cKK a b z).1 := by
 have X := Z.2.sub U;have S := Y.2.sub U;have V := X.div (X.sub S) (by omega);unfold cKK towQ;exact ⟨(Z.1.1.add (V.mul (Y.1.1.sub Z.1.1))).mono (by omega), (Z.1.2.add (V.mul (Y.1.2.sub Z.1.2))).mono (by omega)⟩
theorem cE0 {a b : Cor} {z : Rat} {k m : Nat} (Z : SzP k a.1 /\ Sz k a.2) (X : SzP k b.1 /\ Sz k b.2) (V : Sz m z) : ∀ c ∈ cutS a b z, SzP (6 * k + 3 * m + 6) c.1 := by
 intro c Y;unfold cutS at Y;rcases List.mem_append.1 Y with h | h
 ·split at h
  ·simp at h; subst h
   exact ⟨Z.1.1.mono (by omega), Z.1.2.mono (by omega)⟩
  ·simp at h
 ·split at h
  ·simp at h; subst h
   exact cSz Z X V
  ·simp at h
theorem cs0 {c0 c1 c2 : Cor} {z : Rat} {k m : Nat} (Y : SzP k c0.1 /\ Sz k c0.2) (X : SzP k c1.1 /\ Sz k c1.2) (V : SzP k c2.1 /\ Sz k c2.2) (Z : Sz m z) : ∀ (i : Nat), ∀ c ∈ cutTo c0 c1 c2 z i, SzP (6 * k + 3 * m + 6) c.1
 | 0 => fun c hc => by simp [cutTo] at hc
 | i + 1 => fun c hc => by
   unfold cutTo at hc;rcases List.mem_append.1 hc with h | h
   ·exact cs0 Y X V Z i c h
   ·refine cE0 ?_ ?_ Z c h
    ·unfold corA; split <;> assumption
    ·unfold corB; split <;> assumption
theorem cLS {c0 c1 c2 : Cor} {z : Rat} {k m : Nat} (Y : SzP k c0.1 /\ Sz k c0.2) (X : SzP k c1.1 /\ Sz k c1.2) (V : SzP k c2.1 /\ Sz k c2.2) (U : Sz m z) (c : Cor) (Z : c ∈ cutL c0 c1 c2 z) : SzP (6 * k + 3 * m + 6) c.1 := by
 unfold cutL at Z;split at Z
 ·exact cs0 Y X V U 3 c Z
 ·simp at Z
theorem sLc (c0 c1 c2 a b : PtQ) : sideL c0 c1 c2 a b = -1 \/ sideL c0 c1 c2 a b = 0 \/ sideL c0 c1 c2 a b = 1 \/ sideL c0 c1 c2 a b = 2 := by
 unfold sideL;split
 ·exact .inr (.inl rfl)
 ·split
  ·exact .inr (.inr (.inl rfl))
  ·split
   ·exact .inr (.inr (.inr rfl))
   ·exact .inl rfl
def fanI (c : List Cor) (z : Rat) : Nat -> Rat
 | 0 => 0
 | n + 1 => fanI c z n + areaQ (corI c 0).1 (corI c (n + 1)).1 (corI c (n + 2)).1 * (1 / 2) * (((corI c 0).2 + (corI c (n + 1)).2 + (corI c (n + 2)).2) * (1 / 3) - z)
def integ (c : List Cor) (z : Rat) : Rat := fanI c z (c.length - 2)
def volTo (P : List PtQ) (T : List Tri) (F : List Rat) (z : Rat) : Nat -> Rat
 | 0 => 0
 | t + 1 => volTo P T F z t + integ (partT P F z (triI T t)) z
def begL (p : List PtQ) (n : Nat) : List PtQ := p.drop n ++ p.take n
theorem cse {x y : Rat} (h : x.num.sign * y.num.sign < 0) : 0 < x / (x - y) /\ x / (x - y) < 1 /\ x / (x - y) * (x - y) = x := by
 have key : ∀ q : Rat, (q.num.sign = 1 -> 0 < q) /\ (q.num.sign = -1 -> q < 0) := fun q => ⟨fun e => num_pos_iff.1 (Int.sign_eq_one_iff_pos.1 e), fun e => num_lt_zero_iff.1 (Int.sign_eq_neg_one_iff_neg.1 e)⟩;have Z : x - y ≠ 0 := by
  rcases sign3 x with hx | hx | hx <;> rcases sign3 y with hy | hy | hy <;> rw [hx, hy] at h <;> first | (exact absurd h (by decide)) | skip
  ·have := (key x).2 hx; have := (key y).1 hy; grind
  ·have := (key x).1 hx; have := (key y).2 hy; grind
 have Y : x / (x - y) * (x - y) = x := by
  rw [Rat.div_def, Rat.mul_assoc, Rat.inv_mul_cancel _ Z, Rat.mul_one]
 generalize x / (x - y) = k at *;rcases sign3 x with hx | hx | hx <;> rcases sign3 y with hy | hy | hy <;> rw [hx, hy] at h <;> first | (exact absurd h (by decide)) | skip
 ·have X := (key x).2 hx; have V := (key y).1 hy
  refine ⟨?_, ?_, Y⟩
  ·refine Rat.not_le.1 fun h3 => ?_
   have := Rat.mul_nonneg (show (0 : Rat) <= -k by grind) (show (0 : Rat) <= -(x - y) by grind);grind
  ·refine Rat.not_le.1 fun h3 => ?_
   have := Rat.mul_nonneg (show (0 : Rat) <= k - 1 by grind) (show (0 : Rat) <= -(x - y) by grind);grind
 ·have X := (key x).1 hx; have V := (key y).2 hy
  refine ⟨?_, ?_, Y⟩
  ·refine Rat.not_le.1 fun h3 => ?_
   have := Rat.mul_nonneg (show (0 : Rat) <= -k by grind) (show (0 : Rat) <= x - y by grind);grind
  ·refine Rat.not_le.1 fun h3 => ?_
   have := Rat.mul_nonneg (show (0 : Rat) <= k - 1 by grind) (show (0 : Rat) <= x - y by grind);grind
theorem cTp (c0 c1 c2 : Cor) (z α Y X : Rat) (V : c0.2 = α + Y * c0.1.1 + X * c0.1.2) (U : c1.2 = α + Y * c1.1.1 + X * c1.1.2) (S : c2.2 = α + Y * c2.1.1 + X * c2.1.2) : ∀ a ∈ cutL c0 c1 c2 z, a.2 = α + Y * a.1.1 + X * a.1.2 := by
 have step : ∀ a b : Cor, a.2 = α + Y * a.1.1 + X * a.1.2 -> b.2 = α + Y * b.1.1 + X * b.1.2 -> ∀ x ∈ cutS a b z, x.2 = α + Y * x.1.1 + X * x.1.2 := fun a b Z hb x hx => by
  unfold cutS at hx;rcases List.mem_append.1 hx with hx | hx
  ·split at hx
   ·rw [List.mem_singleton.1 hx]; exact Z
   ·cases hx
  ·split at hx
   ·rename_i hs
    rw [List.mem_singleton.1 hx];obtain ⟨_, _, R⟩ := cse hs;unfold cKK towQ;generalize (a.2 - z) / ((a.2 - z) - (b.2 - z)) = k at *;dsimp only;grind
   ·cases hx
 intro a Z;unfold cutL at Z;split at Z
 ·unfold cutTo cutTo cutTo cutTo corA corB at Z
  simp only [List.nil_append, List.mem_append] at Z;rcases Z with (Z | Z) | Z
  ·exact step _ _ V U _ Z
  ·exact step _ _ U S _ Z
  ·exact step _ _ S V _ Z
 ·cases Z
theorem oRb {w : World} {b b' e s n : Nat} {v : Value} {xs : List Value} (h : w.ownsRow b e s v n xs) (V : b' <= b) : w.ownsRow b' e s v n xs := by
 obtain ⟨X, Y⟩ := h;refine ⟨X, ?_⟩;rcases Y with Y | ⟨g, cap, Z, R, U, S⟩
 ·exact .inl Y
 ·exact .inr ⟨g, cap, Z, R, Nat.le_trans V U, S⟩
theorem oat {w : World} {b1 b2 e1 e2 s1 s2 n1 n2 : Nat} {v1 v2 : Value} {x1 x2 : List Value} (S : w.ownsRow b1 e1 s1 v1 n1 x1) (R : w.ownsRow b2 e2 s2 v2 n2 x2) (Y : e1 ≠ e2) : v1.ownBlock = none \/ v1.ownBlock ≠ v2.ownBlock := by
 rcases S.2 with ⟨rfl, _⟩ | ⟨g, cap, U, rfl, _, Q, _⟩
 ·exact .inl rfl
 ·refine .inr fun e => ?_
  rcases R.2 with ⟨rfl, _⟩ | ⟨O, X, V, rfl, _, Z, _⟩
  ·simp [Value.ownBlock] at e
  ·simp [Value.ownBlock] at e
   subst e;rw [Q] at Z;injection Z with h
   injection h with _ h
   exact Y h
theorem obN {w : World} {b1 e1 s1 n1 b t : Nat} {v1 : Value} {x1 l : List Value} (V : w.ownsRow b1 e1 s1 v1 n1 x1) (U : BoxN w b t l) (Z : e1 ≠ t) : some b ≠ v1.ownBlock := by
 rcases V.2 with ⟨rfl, _⟩ | ⟨g, cap, X, rfl, _, Y, _⟩
 ·intro e; simp [Value.ownBlock] at e
 ·intro e
  simp [Value.ownBlock] at e;subst e;rw [show w.heap[b]? = _ from U] at Y;injection Y with h
  injection h with _ h
  exact Z h.symm
theorem ff0 (c0 c1 c2 : Cor) (z : Rat) (k : Nat) (hk : 0 < k) (yK : k <= 300) (h0 : SzP k c0.1 /\ Sz k c0.2) (h1 : SzP k c1.1 /\ Sz k c1.2) (h2 : SzP k c2.1 /\ Sz k c2.2) (hz : Sz k z) (w : World) (U : Good w) :
 Calls Tryz.prog 29 #[.agg #[.string (RS c0.1.1), .string (RS c0.1.2), .string (RS c0.2), .string (RS c1.1.1), .string (RS c1.1.2), .string (RS c1.2), .string (RS c2.1.1), .string (RS c2.1.2), .string (RS c2.2)], .string (RS z)] w (Ret (fun r w' => w'.ownsRow w.heap.size 89 3 r (cutL c0 c1 c2 z).length (cCC (cutL c0 c1 c2 z)) /\ (cutL c0 c1 c2 z = [] -> r = .slice none 0 0)) w) := by
 have HZ := hid hz;obtain ⟨ze, hF⟩ : ∃ s, s = RS c0.1.1 := ⟨_, rfl⟩;obtain ⟨zf, hG⟩ : ∃ s, s = RS c0.1.2 := ⟨_, rfl⟩;obtain ⟨zg, hH⟩ : ∃ s, s = RS c0.2 := ⟨_, rfl⟩;obtain ⟨zh, hJ⟩ : ∃ s, s = RS c1.1.1 := ⟨_, rfl⟩;obtain ⟨zi, hK⟩ : ∃ s, s = RS c1.1.2 := ⟨_, rfl⟩;obtain ⟨zj, hL⟩ : ∃ s, s = RS c1.2 := ⟨_, rfl⟩;obtain ⟨zk, hM⟩ : ∃ s, s = RS c2.1.1 := ⟨_, rfl⟩;obtain ⟨zl, hN⟩ : ∃ s, s = RS c2.1.2 := ⟨_, rfl⟩;obtain ⟨zm, hO⟩ : ∃ s, s = RS c2.2 := ⟨_, rfl⟩;rw [<- hF, <- hG, <- hH, <- hJ, <- hK, <- hL, <- hM, <- hN, <- hO];have zS : Hid (∀ i : Nat, i < 3 -> ∃ (A B : Cor) (j : Nat), A = corA c0 c1 c2 i /\ B = corB c0 c1 c2 i /\ ((i : Int) + 1).tmod 3 = (j : Int) /\ j < 3 /\ (SzP k A.1 /\ Sz k A.2) /\ (SzP k B.1 /\ Sz k B.2) /\
  (∀ w, (Instr.index 90 (.agg #[.string ze, .string zf, .string zg, .string zh, .string zi, .string zj, .string zk, .string zl, .string zm]) (.int .i64 (i : Int))).run Tryz.prog w = .ok (.agg #[.string (RS A.1.1), .string (RS A.1.2), .string (RS A.2)]) w) /\
  (∀ (w : World) (b : Nat), BoxN w b 90 [.string ze, .string zf, .string zg, .string zh, .string zi, .string zj, .string zk, .string zl, .string zm] -> w.cell? ⟨b, j * 3, none⟩ = some (.string (RS B.1.1)) /\ w.cell? ⟨b, j * 3 + 1, none⟩ = some (.string (RS B.1.2)) /\ w.cell? ⟨b, j * 3 + 2, none⟩ = some (.string (RS B.2)))) := fun i hi => by
  subst hF hG hH hJ hK hL hM hN hO;obtain rfl | rfl | rfl : i = 0 \/ i = 1 \/ i = 2 := by omega
  ·exact ⟨c0, c1, 1, rfl, rfl, rfl, by decide, h0, h1, iC0 _ _ _ _ _ _ _ _ _, fun w b h => ⟨h.cell 3 rfl, h.cell 4 rfl, h.cell 5 rfl⟩⟩
  ·exact ⟨c1, c2, 2, rfl, rfl, rfl, by decide, h1, h2, iC1 _ _ _ _ _ _ _ _ _, fun w b h => ⟨h.cell 6 rfl, h.cell 7 rfl, h.cell 8 rfl⟩⟩
  ·exact ⟨c2, c0, 0, rfl, rfl, rfl, by decide, h2, h0, iC2 _ _ _ _ _ _ _ _ _, fun w b h => ⟨h.cell 0 rfl, h.cell 1 rfl, h.cell 2 rfl⟩⟩
 clear hF hG hH hJ hK hL hM hN hO h0 h1 h2 hz;obtain ⟨i0, hi, hR, hS, hT⟩ := info_parts icr;go_enter Tryz.func29, Tryz.ntmps29;go_wp2_with fail;obtain ⟨W, hW⟩ := zex (w.alloc (.cells #[.string ze, .string zf, .string zg, .string zh, .string zi, .string zj, .string zk, .string zl, .string zm] 90));have hB : Below w.heap.size w W := by rw [hW]; exact zal _ _
 have e2 : BoxN W w.heap.size 90 [.string ze, .string zf, .string zg, .string zh, .string zi, .string zj, .string zk, .string zl, .string zm] := by rw [hW]; exact BoxN.new _ _ _ _ rfl
 rw [<- hW];clear hW;have yx := e2.lt;go_loopw [5, 6, 16] (fun t5 t6 t16 wr => ∃ (i n : Nat) (b : Bool), t16 = .int .i64 i /\ t6 = .bool b /\ i <= 3 /\ n <= 2 * i /\ Hid ((cutTo c0 c1 c2 z i).length = n) /\ Hid (b = sTo c0 c1 c2 z i) /\ wr.ownsRow W.heap.size 89 3 t5 n (cCC (cutTo c0 c1 c2 z i)) /\ Below W.heap.size W wr) (fun _ _ t16 _ => 3 - (RowKit.intOf t16).toNat)
 case atStart => exact ⟨0, 0, false, rfl, rfl, Nat.zero_le _, Nat.le_refl _, rfl, rfl, World.ownsRow_nil _ _ _ _, Below.refl _ _⟩
 case round =>
  obtain ⟨i, n, b, rfl, rfl, yI, yL, hZ, hh, J, S⟩ := hrel;obtain ⟨p5, c5, rfl⟩ := oRs J;have yz := S.size;have zX : ∀ j, (Value.slice p5 n c5).ownBlock = some j -> W.heap.size <= j /\ j < wr.heap.size := fun j hj => J.lt j hj;rcases Nat.lt_or_ge i 3 with h | h
  ·obtain ⟨A, B, j, hA, yb, hj, yJ, h3, h6, yp, c⟩ := zS.out i h
   have z1 : Hid (cutTo c0 c1 c2 z (i + 1) = cutTo c0 c1 c2 z i ++ cutS A B z) := by rw [hA, yb]; rfl
   have hm : Hid (sTo c0 c1 c2 z (i + 1) = (b || decide (0 < (A.2 - z).num.sign))) := by rw [hA, hh.out]; rfl
   clear hA yb;have zY := hid h3;have zZ := hid h6;have M : Sz (2 * k + 1) (A.2 - z) := (h3.2.sub HZ.out).mono (by omega);have hP : Sz (2 * k + 1) (B.2 - z) := (h6.2.sub HZ.out).mono (by omega);have HX := hid fun w U => rSa A.2 z k hk (by omega) h3.2 HZ.out w U
   have HY := hid fun w U => rSa B.2 z k hk (by omega) h6.2 HZ.out w U
   obtain ⟨x, hx⟩ := zex (A.2 - z);obtain ⟨y, hy⟩ := zex (B.2 - z);rw [<- hx] at M HX hm;rw [<- hy] at hP HY;have zA : Hid (x - y ≠ 0 -> ∀ w, Good w -> _) := fun V w U => rDa x (x - y) (4 * k + 3) (by omega) (by omega) (M.mono (by omega)) ((M.sub hP).mono (by omega)) V w U
   have zz := hid fun w U => rSa x y (2 * k + 1) (by omega) (by omega) M hP w U
   have z0 : Hid (x - y ≠ 0 -> Sz (8 * k + 6) (x / (x - y))) := fun V => (M.div ((M.sub hP).mono (Nat.le_refl _)) (by omega)).mono (by omega)
   have zD : Hid (x - y ≠ 0 -> ∀ w, Good w -> _) := fun V w U => fay A.1.1 B.1.1 (x / (x - y)) (8 * k + 6) (by omega) (by omega) (h3.1.1.mono (by omega)) (h6.1.1.mono (by omega)) (z0.out V) w U
   have zE : Hid (x - y ≠ 0 -> ∀ w, Good w -> _) := fun V w U => fay A.1.2 B.1.2 (x / (x - y)) (8 * k + 6) (by omega) (by omega) (h3.1.2.mono (by omega)) (h6.1.2.mono (by omega)) (z0.out V) w U
   have hX : Hid (cutS A B z = (if 0 <= x.num.sign then [A] else []) ++ (if x.num.sign * y.num.sign < 0 then [cKK A B z] else [])) := by rw [hx, hy]; rfl
   have zy : Hid (cKK A B z = ((towQ A.1.1 B.1.1 (x / (x - y)), towQ A.1.2 B.1.2 (x / (x - y))), z)) := by rw [hx, hy]; rfl
   have zB : Hid (∀ w, _) := fun w => ra0 x w;have zT : Hid (∀ w, _) := fun w => ra0 y w;have he : Hid (x.num.sign * y.num.sign < 0 -> x - y ≠ 0) := fun hlt e => by
    have e2 : x = y := by grind
    rw [e2] at hlt;rcases sign3 y with e | e | e <;> rw [e] at hlt <;> exact absurd hlt (by decide)
   have y4 := hid (szt x);have zn := hid (sign3 x);have zo := hid (sign3 y);generalize x.num.sign = sx at *;generalize y.num.sign = sy at *;clear M hP h3 h6 hx hy;have zF := e2.below S e2.lt;have zb : Below w.heap.size w wr := zbt hB S;have yG : (j : Int) < 3 := by omega
   have yF : (i : Int) < 3 := by omega
   clear zS;go_upto_region 6 with fail;obtain ⟨H, z7⟩ : ∃ X, X = wr.alloc (.cells #[.string (RS A.1.1), .string (RS A.1.2), .string (RS A.2)] 89) := ⟨_, rfl⟩;have z9 : Below wr.heap.size wr H := by rw [z7]; exact zal _ _
   have e8 : BoxN H wr.heap.size 89 [.string (RS A.1.1), .string (RS A.1.2), .string (RS A.2)] := by rw [z7]; exact BoxN.new _ _ _ _ rfl
   rw [<- z7];clear z7;have y3 := hid z9.size;obtain ⟨k0, k1, k2⟩ := c _ _ (zF.below z9 zF.lt);go_upto_region 7 with fail;obtain ⟨W2, z8⟩ : ∃ X, X = H.alloc (.cells #[.string (RS B.1.1), .string (RS B.1.2), .string (RS B.2)] 89) := ⟨_, rfl⟩;have zJ : Below H.heap.size H W2 := by rw [z8]; exact zal _ _
   have e9 : BoxN W2 H.heap.size 89 [.string (RS B.1.1), .string (RS B.1.2), .string (RS B.2)] := by rw [z8]; exact BoxN.new _ _ _ _ rfl
   rw [<- z8];clear z8 k0 k1 k2 c yp;have g8 := e8.below zJ e8.lt;have m : Below wr.heap.size wr W2 := zbt z9 zJ;have zs : Below w.heap.size w W2 := zbt zb m;have x0 := g8.cell 2 rfl;have y0 := e9.cell 2 rfl;have yO := g8.lt;have yP := e9.lt;have zM : Good W2.drew := (U.below zs).drewN 1;clear z9 zJ e8;go_region_held3 (fun w' => w'.cell? ⟨wr.heap.size, 2, none⟩ = some (.string (RS A.2)) /\ w'.cell? ⟨H.heap.size, 2, none⟩ = some (.string (RS B.2)))
    (first | exact ⟨x0, y0⟩ | exact ⟨p_1_0, p_1_1⟩ | exact ⟨p_2_0, p_2_1⟩)
    (first
    | (go_at_call 68; refine (HY.out _ zP).mono ?_; rintro e I ⟨_, rfl, rfl, ha⟩
       have p_2_0 := zct ha p_1_0;have p_2_1 := zct ha p_1_1;have yC := ha.size;have yA := zP.below ha)
    | (go_at_call 68; refine (HX.out _ zM).mono ?_; rintro e yD ⟨_, rfl, rfl, h7⟩
       have p_1_0 := zct h7 x0;have p_1_1 := zct h7 y0;have yB : W2.heap.size <= yD.heap.size := h7.size;have zP := zM.below h7))
   have pB : Below W2.heap.size W2 I := zbt (zbt (bdN W2 1) h7) ha;have hC := WRA J ((zbt m pB));have zv : Below wr.heap.size wr I := zbt m pB;have h8 := g8.below pB g8.lt;have h9 := e9.below pB e9.lt;have yu := pB.size;clear pB h7 ha yB yC zP yA p_1_0 p_1_1 p_2_0 p_2_1 x0 y0 J zM m zs g8 e9 zF;go_upto_region 9 with fail;refine (zB.out I).mono ?_;rintro e w3 ⟨_, rfl, rfl, nd, rfl⟩;go_upto_if 35 with fail;obtain ⟨w3, zc⟩ : ∃ X, X = I.drewN nd := ⟨_, rfl⟩;have hw : Below I.heap.size I w3 := by rw [zc]; exact bdN I nd
   have yv : I.heap.size = w3.heap.size := by rw [zc]; rfl
   rw [<- zc];clear zc;have yj : wr.heap.size <= H.heap.size := y3.out;have K := h8.below hw h8.lt;have z5 := h9.below hw h9.lt;have Q := WRA hC hw;have D : Below wr.heap.size wr w3 := zbt zv hw;have zC : Hid (∀ j, (Value.slice p5 n c5).ownBlock = some j -> W.heap.size <= j /\ j < wr.heap.size) := zX;generalize cutTo c0 c1 c2 z i = L at *;obtain ⟨L1, yc⟩ : ∃ l, l = L ++ (if 0 <= sx then [A] else []) := ⟨_, rfl⟩;have d := hid yc;clear yc h8 h9 hC zv hw;go_cut [5, 6] (fun s5 s6 wx => ∃ (n' : Nat) (b' : Bool), s6 = .bool b' /\ Hid (b' = (b || decide (0 < sx))) /\ n' <= n + 1 /\ Hid (L1.length = n') /\ wx.ownsRow W.heap.size 89 3 s5 n' (cCC L1) /\ Below W.heap.size W wx /\ w3.heap.size <= wx.heap.size /\ BoxN wx wr.heap.size 89 [.string (RS A.1.1), .string (RS A.1.2), .string (RS A.2)] /\ BoxN wx H.heap.size 89 [.string (RS B.1.1), .string (RS B.1.2), .string (RS B.2)])
   case first =>
    rcases Int.lt_or_le sx 0 with hs | hs
    ·have HE : Hid (L1 = L) := by unfold Hid; rw [d.out, if_neg (by omega), List.append_nil]
     have yl : Hid (b = (b || decide (0 < sx))) := by unfold Hid; rw [decide_eq_false (by omega), Bool.or_false]
     go_wp2_with fail;go_meet;exact ⟨n, b, rfl, yl, by omega, by unfold Hid; rw [HE.out]; exact hZ.out, by rw [HE.out]; exact Q, S.trans (D.mono S.size), Nat.le_refl _, K, z5⟩
    ·have HE : Hid (L1 = L ++ [A]) := by unfold Hid; rw [d.out, if_pos hs]
     have zU : Hid (L1.length = n + 1) := by unfold Hid; rw [HE.out, List.length_append, hZ.out]; rfl
     have ym : Hid (cCC L1 = cCC L ++ [.string (RS A.1.1), .string (RS A.1.2), .string (RS A.2)]) := by unfold Hid; rw [HE.out, cCs]
     obtain ⟨q, hq⟩ := zex (decide (0 < sx));have a0 := K.cell 0 rfl;have a1 := K.cell 1 rfl;have a2 := K.cell 2 rfl;have t1 : ((RS x).toList == [48]) = !q := by
      rw [hq, Bool.eq_iff_iff, beq_iff_eq, y4.out];clear hq;rcases Int.lt_or_le 0 sx with h1 | h1
      ·rw [decide_eq_true h1]; simp; omega
      ·rw [decide_eq_false (by omega)]; simp; omega
     have HQ := hid hq;have yr : n <= 4 := by omega
     have yw : W.heap.size <= w3.heap.size := by have := K.lt; omega
     have yh := K.lt;have yi := z5.lt;have yM : wr.heap.size <= H.heap.size := by omega
     clear hq
     go_wp2_with (at_builtin; refine wpList_append_own _ rfl _ _ 92 rfl W.heap.size 89 i0 (.agg #[.string ⟨#[]⟩, .string ⟨#[]⟩, .string ⟨#[]⟩]) 3 48 Tryz.underlying92 hi hR hS hT rfl (by decide) _ _ _ rfl (Q.alloc _) ⟨w3.heap.size, 0, none⟩ 1 1 [.string (RS A.1.1), .string (RS A.1.2), .string (RS A.2)] rfl rfl (cte _ _ _ _ _) (te0 _ _ _) (by unfold maxLen; omega) (by omega) (by simp; omega) ?_
                  intro v4 w4 C Y _;have yk := Y.size;have zw : Below W.heap.size W w4 := ((S.trans (D.mono S.size)).alloc yw _).grown Y (by simp; omega) (fun j hj => by have := (Q.lt j hj).1; omega);have y9 := (Y.block wr.heap.size (by simp; omega) (fun e => by have := (zC.out _ e.symm).2; omega)).trans (K.below ((Below.refl _ _).alloc (Nat.le_refl _) _) yh);have ya := (Y.block H.heap.size (by simp; omega) (fun e => by have := (zC.out _ e.symm).2; omega)).trans (z5.below ((Below.refl _ _).alloc (Nat.le_refl _) _) yi);clear Y)
     all_goals
      have zr : w3.heap.size <= w4.heap.size := by simp at yk; omega
      rw [<- ym.out] at C;go_wp2_with fail;go_meet
      first
           | exact ⟨n + 1, q, rfl, (by unfold Hid; first | rw [HQ.out, (‹b = false› : b = false)]; rfl | rw [HQ.out, Bool.eq_false_iff.2 (‹¬ b = true› : ¬ b = true)]; rfl), Nat.le_refl _, zU, C, zw, zr, y9, ya⟩
           | exact ⟨n + 1, true, rfl, (by unfold Hid; rw [(‹b = true› : b = true)]; rfl), Nat.le_refl _, zU, C, zw, zr, y9, ya⟩
   case rest =>
    obtain ⟨n1, b1, rfl, hV, yq, hd, N, g, yy, z4, z6⟩ := hcut;obtain ⟨pc, cc, rfl⟩ := oRs N;obtain ⟨cr, yg⟩ := zex (decide (sx * sy < 0));have hc := hid yg;have ht : Below w.heap.size w wc := zbt hB g;clear Q K z5 zC D S y4 e2 yg;go_upto_region 11 with fail;go_cut [50] (fun s50 wx => s50 = .bool cr /\ ∃ nd, wx = wc.drewN nd)
    case first =>
     clear d N g yy z4 z6 ht hV yq hd hX zy he zA zz z0 zD zE HX HY zY zZ z1 hm hZ hh yx yz yj yu yv y3 U hi hR hS hT HZ hB;go_wp2_with fail;refine (zB.out wc).mono ?_;rintro e w5 ⟨_, rfl, rfl, yQ, rfl⟩;go_wp2_with fail;refine (zT.out _).mono ?_;rintro e w6 ⟨_, rfl, rfl, zO, rfl⟩;rcases zn.out with rfl | rfl | rfl <;> rcases zo.out with rfl | rfl | rfl
     all_goals
      go_wp2_with fail;go_meet;exact ⟨by rw [hc.out]; rfl, _, rfl⟩
    case rest =>
     obtain ⟨rfl, zO, rfl⟩ := hcut;obtain ⟨w6, zd⟩ : ∃ X, X = wc.drewN zO := ⟨_, rfl⟩;have a : Below wc.heap.size wc w6 := by rw [zd]; exact bdN wc zO
     have yN : wc.heap.size = w6.heap.size := by rw [zd]; rfl
     rw [<- zd];clear zd;have O := WRA N a;have hu : Below W.heap.size W w6 := zbt g a;have hr : Below w.heap.size w w6 := zbt ht a;have zG := z4.below a z4.lt;have zH := z6.below a z6.lt;clear N g ht z4 z6 a;cases cr
     ·have f : Hid (cutTo c0 c1 c2 z (i + 1) = L1) := by
           unfold Hid;have hn : ¬ sx * sy < 0 := fun e => by have := hc.out; rw [decide_eq_true e] at this; cases this
           rw [z1.out, hX.out, d.out, if_neg hn, List.append_nil]
      have zW : Hid ((cutTo c0 c1 c2 z (i + 1)).length = n1) := by unfold Hid; rw [f.out, hd.out]
      have hl : Hid (b1 = sTo c0 c1 c2 z (i + 1)) := by unfold Hid; rw [hm.out, hV.out]
      rw [<- f.out] at O;go_wp2_with fail;go_roundw
      case rel => exact ⟨i + 1, n1, b1, by go_num, rfl, by omega, by omega, zW, hl, O, hu⟩
      case measure => simp [RowKit.intOf]; omega
     ·have V := he.out (of_decide_eq_true hc.out.symm)
      go_wp2_with fail;refine (zz.out w6 (U.below hr)).mono ?_;rintro e w7 ⟨_, rfl, rfl, zL⟩;go_wp2_with fail;have zt := zbt hr zL;refine (zA.out V w7 (U.below zt)).mono ?_;rintro e Z ⟨_, rfl, rfl, ye⟩;have E : Below w6.heap.size w6 Z := zbt zL ye;have zu : Below w.heap.size w Z := zbt hr E;have ho := zG.below E zG.lt;have hp := zH.below E zH.lt;have t := WRA O E;have hv : Below W.heap.size W Z := zbt hu E;clear zL ye zt zG zH O hu;go_upto_region 13 with fail
      have f : Hid (cutTo c0 c1 c2 z (i + 1) = L1 ++ [((towQ A.1.1 B.1.1 (x / (x - y)), towQ A.1.2 B.1.2 (x / (x - y))), z)]) := by
           unfold Hid;rw [z1.out, hX.out, d.out, if_pos (of_decide_eq_true hc.out.symm), zy.out, List.append_assoc]
      have zV : Hid ((cutTo c0 c1 c2 z (i + 1)).length = n1 + 1) := by unfold Hid; rw [f.out, List.length_append, hd.out]; rfl
      have zR : Hid (cCC (cutTo c0 c1 c2 z (i + 1)) = cCC L1 ++ [.string (RS (towQ A.1.1 B.1.1 (x / (x - y)))), .string (RS (towQ A.1.2 B.1.2 (x / (x - y)))), .string (RS z)]) := by unfold Hid; rw [f.out, cCs]
      have hl : Hid (b1 = sTo c0 c1 c2 z (i + 1)) := by unfold Hid; rw [hm.out, hV.out]
      have zp := hid fun w U => zD.out V w U;have zq := hid fun w U => zE.out V w U;clear zA zz z0 zD zE hX zy z1 hm hV d he hc HX HY zB zT zn zo zY zZ f;generalize RS (towQ A.1.1 B.1.1 (x / (x - y))) = px at *;generalize RS (towQ A.1.2 B.1.2 (x / (x - y))) = py at *;generalize RS (x / (x - y)) = qs at *;clear V;have yh := ho.lt;have yi := hp.lt;go_cut [14] (fun s14 wx => ∃ z3 : Nat, s14 = .pointer (some ⟨z3, 0, none⟩) /\ Z.heap.size <= z3 /\ BoxN wx z3 50 [.string px, .string py] /\ Below Z.heap.size Z wx)
      case first =>
           have HF : Hid (∀ w', Below Z.heap.size Z w' -> w'.cell? ⟨wr.heap.size, 0, none⟩ = some (.string (RS A.1.1)) /\ w'.cell? ⟨wr.heap.size, 1, none⟩ = some (.string (RS A.1.2)) /\ w'.cell? ⟨H.heap.size, 0, none⟩ = some (.string (RS B.1.1)) /\ w'.cell? ⟨H.heap.size, 1, none⟩ = some (.string (RS B.1.2))) := fun w' hb => by
            have y1 := ho.below hb ho.lt;have y2 := hp.below hb hp.lt;exact ⟨y1.cell 0 rfl, y1.cell 1 rfl, y2.cell 0 rfl, y2.cell 1 rfl⟩
           have hY : Hid (∀ w', Below Z.heap.size Z w' -> Good w') := fun w' hb => (U.below zu).below hb;have b0 : Below Z.heap.size Z Z.drew := bdN Z 1;have yd : ∀ w' : World, BoxN (w'.alloc (.cells #[.string ⟨#[]⟩, .string ⟨#[]⟩] 50)) w'.heap.size 50 [.string ⟨#[]⟩, .string ⟨#[]⟩] := fun w' => BoxN.new _ _ _ _ rfl;have zI : ∀ (w' : World) (o : Obj), Below Z.heap.size Z w' -> Below Z.heap.size Z (w'.alloc o) := fun w' o hb => hb.alloc hb.size _;have hf : Hid (∀ (w' : World) (b i : Nat) (v : Value), Z.heap.size <= b -> Below Z.heap.size Z w' -> Below Z.heap.size Z (w'.setCell ⟨b, i, none⟩ v)) := fun w' b i v hb h => h.setCell (p := ⟨b, i, none⟩) hb v;have z2 : Hid (∀ w' w'', Below Z.heap.size Z w' -> Below w'.heap.size w' w'' -> Below Z.heap.size Z w'') := fun w' w'' h1 h2 => (zbt h1 h2);have y5 := hid yd;have hU := hid zI;have y7 := (zI _ (.cells #[.string ⟨#[]⟩, .string ⟨#[]⟩] 50) (Below.refl _ Z)).drew;have g0 := hY.out _ b0;have yn := hY.out _ y7;clear yd zI t hv zu ho hp E;go_region_held3 (fun w' => w'.cell? ⟨wr.heap.size, 0, none⟩ = some (.string (RS A.1.1)) /\ w'.cell? ⟨wr.heap.size, 1, none⟩ = some (.string (RS A.1.2)) /\ w'.cell? ⟨H.heap.size, 0, none⟩ = some (.string (RS B.1.1)) /\ w'.cell? ⟨H.heap.size, 1, none⟩ = some (.string (RS B.1.2)))
            ((refine HF.out _ ?_; first | with_reducible assumption | exact (hU.out _ _ (by with_reducible assumption)).drew | exact hU.out _ _ (by with_reducible assumption) | (iterate 2 (refine hf.out _ _ _ _ (by omega) ?_)); with_reducible assumption))
            (first
                  | (go_at_call 60; (first | refine (zq.out _ g4).mono ?_ | refine (zq.out _ yo).mono ?_); rintro e v5 ⟨_, rfl, rfl, za⟩
                     have h5 : Below Z.heap.size Z v5 := by first | exact z2.out _ _ h4 za | exact z2.out _ _ y8 za
                     have yt := h5.size;try have G := y6.below za y6.lt
                     try have G := (y5.out v4).below za (by simp)
                     try have q0 := G.cell 0 rfl
                     try have q1 := G.cell 1 rfl
                     try have e0 := G.frozen 0
                     try have e1 := G.frozen 1)
                  | (go_at_call 60; (first | refine (zp.out _ g0).mono ?_ | refine (zp.out _ yn).mono ?_); rintro e v4 ⟨_, rfl, rfl, zK⟩
                     have h4 : Below Z.heap.size Z v4 := by first | exact z2.out _ _ b0 zK | exact z2.out _ _ y7 zK
                     have y8 := hU.out _ (.cells #[.string ⟨#[]⟩, .string ⟨#[]⟩] 50) h4;have g4 := hY.out _ h4;have yo := hY.out _ y8;have zN := h4.size;try have y6 := (y5.out Z).drew.below zK (by simp)))
           ·go_wp2_with fail
            go_meet;exact ⟨_, rfl, yt, BoxN.new _ _ _ _ rfl, hU.out _ _ h5⟩
           ·go_wp2_with fail
            go_meet;exact ⟨_, rfl, zN, (G.set 0 _).set 1 _, hf.out _ _ _ _ zN (hf.out _ _ _ _ zN h5)⟩
           ·go_wp2_with fail
            go_meet;exact ⟨_, rfl, Nat.le_refl _, (G.set 0 _).set 1 _, hf.out _ _ _ _ (Nat.le_refl _) (hf.out _ _ _ _ (Nat.le_refl _) h5)⟩
      case rest =>
           obtain ⟨z3, rfl, yE, zQ, c⟩ := hcut;have hE := WRA t c;have zx : Below W.heap.size W wc := zbt hv c;have M := zx.size;have k0 := zQ.cell 0 rfl;have k1 := zQ.cell 1 rfl;have yr : n1 <= 6 := by omega
           clear c hv t ho hp zQ E
           go_wp2_with (at_builtin; refine wpList_append_own _ rfl _ _ 92 rfl W.heap.size 89 i0 (.agg #[.string ⟨#[]⟩, .string ⟨#[]⟩, .string ⟨#[]⟩]) 3 48 Tryz.underlying92 hi hR hS hT rfl (by decide) _ _ _ rfl (hE.alloc _) ⟨wc.heap.size, 0, none⟩ 1 1 [.string px, .string py, .string (RS z)] rfl rfl (cte _ _ _ _ _) (te0 _ _ _) (by unfold maxLen; omega) (by omega) (by simp; omega) ?_
                        intro v9 w9 hD R _;have yH := R.size;have yf : Below W.heap.size W w9 := (zx.alloc M _).grown R (by simp; omega) (fun j hj => by have := (hE.lt j hj).1; omega);clear R)
           rw [<- zR.out] at hD;go_wp2_with fail;go_roundw
           case rel => exact ⟨i + 1, n1 + 1, b1, by go_num, rfl, by omega, by omega, zV, hl, hD, yf⟩
           case measure => simp [RowKit.intOf]; omega
  ·obtain rfl : i = 3 := by omega
   have zb : Below w.heap.size w wr := zbt hB S;cases b
   ·have HE : Hid (cutL c0 c1 c2 z = []) := by unfold Hid cutL; rw [<- hh.out]; rfl
    go_wp2_with fail;go_ret;exact ⟨_, rfl, ⟨by rw [HE.out]; exact World.ownsRow_nil _ _ _ _, fun _ => rfl⟩, zb⟩
   ·have HE : Hid (cutL c0 c1 c2 z = cutTo c0 c1 c2 z 3) := by unfold Hid cutL; rw [<- hh.out]; rfl
    have he := hid (cTn c0 c1 c2 z 3 hh.out.symm);have ys : wr.ownsRow w.heap.size 89 3 (.slice p5 n c5) (cutTo c0 c1 c2 z 3).length (cCC (cutTo c0 c1 c2 z 3)) := by rw [hZ.out]; exact oRb J (by omega)
    go_wp2_with fail;go_ret;exact ⟨_, rfl, ⟨by rw [HE.out]; exact ys, fun e => absurd (HE.out.symm.trans e) he.out⟩, zb⟩
open Go.Shelf
attribute [local go_sem] Oper.semAt_some
def outsL (f : Fin 3 -> Int) (pre : List (Fin 3)) : List Value := pre.foldl (fun l x => l.set x.val (.int .i64 (f x))) [.int .i64 0, .int .i64 0, .int .i64 0]
theorem oLs (f : Fin 3 -> Int) (pre : List (Fin 3)) (x : Fin 3) : outsL f (pre ++ [x]) = (outsL f pre).set x.val (.int .i64 (f x)) := by
 unfold outsL; rw [List.foldl_append]; rfl
theorem oLl (f : Fin 3 -> Int) (pre : List (Fin 3)) : (outsL f pre).length = 3 := by
 unfold outsL;have : ∀ (pre : List (Fin 3)) (l : List Value), (pre.foldl (fun l x => l.set x.val (.int .i64 (f x))) l).length = l.length := by
  intro pre
  induction pre with
  | nil => intro l; rfl
  | cons x pre ih => intro l; rw [List.foldl_cons, ih, List.length_set]
 rw [this]; rfl
theorem nin (n : Nat) (hn : 6 <= n) (w : World) (vp vt : Value) (P : List PtQ) (T : List Tri) (k : Nat) (hp : RdP w vp (strP P)) (ht : RdT w vt T) (s : MeshOK P T k) (hI : ∀ t ∈ T, InI t.1 /\ InI t.2.1 /\ InI t.2.2) (t : Nat) (q : t < T.length) (tr : Tri) (hk : tr = T[t]) (G : Good w) :
 CallsIn Fence.wide n Tryz.prog 31 #[.agg #[vp, vt], .int .i64 (t : Int)] w (Ret (fun r _ => r = .tuple #[.agg #[.int .i64 (nbI T (sideK tr 0)), .int .i64 (nbI T (sideK tr 1)), .int .i64 (nbI T (sideK tr 2))], .int .i64 0]) w) := by
 have R : 1 <= n := by omega
 have hR : Hid (∀ w', Below w.heap.size w w' -> Good w' -> Calls Tryz.prog 71 #[.agg #[vp, vt], .int .i64 (t : Int)] w' (Ret (fun r _ => r = .int .i64 0) w')) := fun w' hb hg' => cTo w' vp vt P T k (RdC.below hp hb) (RdC.below ht hb) s t q hg';have hY : Hid (∀ w', Below w.heap.size w w' -> Calls Tryz.prog 34 #[.agg #[vp, vt]] w' (Ret (OPP T w'.heap.size) w')) := fun w' hb => ob0 w' vp vt T (RdC.below ht hb) (by have := s.tlen; omega) hI
 have hV := hid s.nodup;have hT : Hid (∀ x, InE (revE (sideK tr x))) := fun x => by
  obtain ⟨i1, i2, i3⟩ := hI tr (by rw [hk]; exact List.getElem_mem q);rcases x with ⟨x, hx⟩
  rcases (by omega : x = 0 \/ x = 1 \/ x = 2) with rfl | rfl | rfl
  ·exact ⟨i2, i1⟩
  ·exact ⟨i3, i2⟩
  ·exact ⟨i1, i3⟩
 obtain ⟨pp, cp, rfl, -, -, -⟩ := hp.open;obtain ⟨pt, ct, rfl, z5, z6, h5⟩ := ht.open;obtain ⟨b, off, rfl, hd, L⟩ := h5 (List.ne_nil_of_length_pos (by omega));obtain ⟨e0, e1, e2⟩ := L t q;rw [<- hk] at e0 e1 e2;have zb : (t : Int) < (T.length : Int) := by omega
 clear hp ht s hI h5 L hk q z5 z6;refine callsIn_of_wp_marks Tryz.func31 rfl trivial ?_ rfl;simp only [Tryz.ntmps31, List.size_toArray, List.length_cons, List.length_nil, Nat.reduceAdd, Nat.reduceSub, Array.replicate_succ, Array.replicate_zero, List.push_toArray, List.append_toArray, List.nil_append, List.cons_append];gi_wp2_with fail;obtain ⟨W, hW⟩ := zex ((w.alloc (.cells #[.slice pp (strP P).length cp, .slice (some ⟨b, off, none⟩) T.length ct] 35)).alloc (.cells #[.int .i64 0, .int .i64 0, .int .i64 0] 95));have hB : Below w.heap.size w W := by rw [hW]; exact zal2 _ _ _
 have b4 : BoxN W (w.heap.size + 1) 95 [.int .i64 0, .int .i64 0, .int .i64 0] := by rw [hW]; exact BoxN.new _ _ _ _ (by simp)
 have b2 : BoxN W w.heap.size 35 [.slice pp (strP P).length cp, .slice (some ⟨b, off, none⟩) T.length ct] := by
  rw [hW];have R := (BoxN.new w #[.slice pp (strP P).length cp, .slice (some ⟨b, off, none⟩) T.length ct] 35 _ rfl);exact R.below (zal _ _) R.lt
 rw [<- hW];clear hW;refine ⟨trivial, ?_⟩;refine CallsIn.mono (callsIn_wide.2 (hR.out W hB (G.below hB))) ?_;rintro e w1 ⟨_, rfl, rfl, A⟩;have ha := zbt hB A;have N := b2.below A b2.lt;have h8 := b4.below A b4.lt;have x0 := N.cell 0 rfl;have x1 := N.cell 1 rfl;clear A hB b2 b4;gi_wp2_with fail;refine ⟨trivial, ?_⟩;refine CallsIn.mono (callsIn_wide.2 (hY.out w1 ha)) ?_;rintro e Z ⟨v, rfl, hi, z⟩;rcases hi with hi | ⟨z3, _⟩
 rotate_left
 ·exact absurd hV.out z3
 obtain ⟨_, O, D, zj, rfl, hM⟩ := hi;have M := zbt ha z;have h7 := N.below z N.lt;have h9 := h8.below z h8.lt;have HM := hid hM;have f := hM.owns;have hH : O < Z.heap.size := by
  obtain ⟨es, ck, hh, _⟩ := f;exact (Array.getElem?_eq_some_iff.1 hh).1
 clear z ha N h8 x0 x1 hM f;have x1 := h7.cell 1 rfl;have d0 := zcq M hd e0;have d1 := zcq M hd e1;have d2 := zcq M hd e2;have hN := h9.lt;have zc := h7.lt;have z8 : b < Z.heap.size := by omega
 gi_wp2_with fail;refine ⟨trivial, ?_⟩;refine CallsIn.mono (callsIn_wide.2 (sm0 tr _)) ?_;rintro e w3 ⟨rfl, rfl⟩;obtain ⟨V, X⟩ := zex (((Z.alloc (.cells #[.map (some O)] 100)).alloc (.cells #[.int .i64 0, .int .i64 0, .int .i64 0] 95)).alloc (.cells #[.int .i64 tr.1, .int .i64 tr.2.1, .int .i64 tr.2.2] 121));have S : Below Z.heap.size Z V := by rw [X]; exact (((Below.refl _ _).alloc (Nat.le_refl _) _).alloc (by simp) _).alloc (by simp; omega) _
 have zm : V.heap.size = Z.heap.size + 3 := by rw [X]; simp
 have z7 : Boxed V Z.heap.size 100 (.map (some O)) := by rw [X]; exact ((Boxed.new Z _ _).alloc _).alloc _
 have z9 : BoxN V (Z.heap.size + 1) 95 [.int .i64 0, .int .i64 0, .int .i64 0] := by
  rw [X];have R := (BoxN.new (Z.alloc (.cells #[.map (some O)] 100)) #[.int .i64 0, .int .i64 0, .int .i64 0] 95 (Z.heap.size + 1) (by simp));exact R.below (zal _ _) R.lt
 have s0 : V.cell? ⟨Z.heap.size + 2, 0, none⟩ = some (.int .i64 tr.1) := by rw [X, World.cell?_alloc_at _ _ _ _ (by simp)]; rfl
 have s1 : V.cell? ⟨Z.heap.size + 2, 1, none⟩ = some (.int .i64 tr.2.1) := by rw [X, World.cell?_alloc_at _ _ _ _ (by simp)]; rfl
 have s2 : V.cell? ⟨Z.heap.size + 2, 2, none⟩ = some (.int .i64 tr.2.2) := by rw [X, World.cell?_alloc_at _ _ _ _ (by simp)]; rfl
 gi_wp2_with fail;rw [<- X];have z2 : MapL viewE 3 (Lit.int .i64) V O (3 * T.length) D (ownL T) := HM.out.below S hH;have z4 : BoxN V (w.heap.size + 1) 95 [.int .i64 0, .int .i64 0, .int .i64 0] := h9.below S hN;have hF : Below w.heap.size w V := zbt M S;clear X S HM h7 h9 x1 d0 d1 d2 e0 e1 e2 M;refine wpIn_rangeFunc_ownH rfl R (gf := 125) (lb := #[.pointer (some ⟨Z.heap.size + 1 + 1, 0, none⟩)]) rfl trivial (enters_of Tryz.func125 (by kernel_rfl) rfl)
  (sss Fence.wide (n - 1) trivial rfl (by omega) (Z.heap.size + 2) w.heap.size tr V (by omega) s0 s1 s2) (fun h k => KeepAt.trans h k) (kAb (by omega) (by omega)) (Below.refl _ _) (fun _ => rfl)
  (fun pre W => V.grownBy W (some (Z.heap.size + 1)) /\ Hid (BoxN W (Z.heap.size + 1) 95 (outsL (fun x => nbI T (sideK tr x)) pre)))
  (fun _ _ _ => False)
  ?hI ?hIx ?h0 (fun x a' W => ∃ H, (V.heap.size <= H /\ W.heap[H]? = some (.cells #[.int .i64 (sideK tr x).1, .int .i64 (sideK tr x).2] 83)) /\
   a' = { tmps := #[.agg #[.slice pp (strP P).length cp, .slice (some ⟨b, off, none⟩) T.length ct], .int .i64 t, .pointer (some ⟨w.heap.size, 0, none⟩), undef, .pointer (some ⟨w.heap.size + 1, 0, none⟩), .int .i64 0, .int .i64 0, .pointer (some ⟨Z.heap.size, 0, none⟩), .bool true, .pointer (some ⟨Z.heap.size + 1, 0, none⟩), .int .i64 (x.val : Int), .pointer (some ⟨H, 0, none⟩), undef, undef, .agg #[.slice pp (strP P).length cp, .slice (some ⟨b, off, none⟩) T.length ct], .int .i64 t, .int .i64 0, .int .i64 0, .bool false, undef, undef, .tuple #[.map (some O), .bool true], .agg #[.slice pp (strP P).length cp, .slice (some ⟨b, off, none⟩) T.length ct], .tuple #[.map (some O), .bool true], .map (some O), .bool true, .pointer (some ⟨w.heap.size, 1, none⟩), .slice (some ⟨b, off, none⟩) T.length ct, .int .i64 t, .pointer (some ⟨b, off + t * 3, none⟩), .agg #[.int .i64 tr.1, .int .i64 tr.2.1, .int .i64 tr.2.2], .func (.func 125) #[] #[.pointer (some ⟨Z.heap.size + 1 + 1, 0, none⟩)], .int .i64 (x.val : Int), .agg #[.int .i64 (sideK tr x).1, .int .i64 (sideK tr x).2], undef, undef, undef, undef, undef, undef, undef, undef, undef, undef, undef, undef, undef, undef, undef, undef], defers := [] })
  ?hAx ?assign ?body ?done ?stop
 case hI =>
  rintro pre W W' row ⟨Y, U⟩ G hr;have J : some (Z.heap.size + 1) ≠ row := fun e => by have := (hr _ e.symm).1; omega
  exact ⟨⟨G.os.trans Y.os, G.tape.trans Y.tape, G.output.trans Y.output, Nat.le_trans Y.size G.size, fun j hj hjn => (G.block j (Nat.lt_of_lt_of_le hj Y.size) (fun e => by have := (hr _ e.symm).1; omega)).trans (Y.block j hj hjn)⟩, (G.block _ U.out.lt J).trans U.out⟩
 case hIx =>
  rintro c' pre W W' row h _ _;exact h
 case h0 => exact ⟨⟨rfl, rfl, rfl, Nat.le_refl _, fun _ _ _ => rfl⟩, z9⟩
 case hAx =>
  rintro x a' _ W W' row ⟨H, ⟨R, h2⟩, h3⟩ G hr;refine ⟨H, ⟨R, (G.block H (Array.getElem?_eq_some_iff.1 h2).1 (fun e => ?_)).trans h2⟩, h3⟩;obtain ⟨_, o, U, hc⟩ := hr H e.symm;rw [h2] at U; cases U; cases hc
 case assign =>
  rintro l pre x W K ⟨Y, U⟩ hK;dsimp only [eSe];gi_wp2_with fail;have Q := World.grownBy_alloc W (.cells #[.int .i64 (sideK tr x).1, .int .i64 (sideK tr x).2] 83) none;refine hK _ _ ((KeepsOthers.alloc _ _).from _) ⟨(Below.refl _ W).alloc (by have := Y.size; omega) _, Below.heap_alloc _ _ _ (by have := Y.size; omega)⟩ ⟨⟨Q.os.trans Y.os, Q.tape.trans Y.tape, Q.output.trans Y.output, Nat.le_trans Y.size Q.size, fun j hj hjn => (Q.block j (Nat.lt_of_lt_of_le hj Y.size) (by simp)).trans (Y.block j hj hjn)⟩, (Q.block _ U.out.lt (by simp)).trans U.out⟩ ⟨W.heap.size, ⟨Y.size, World.alloc_heap_new _ _⟩, rfl⟩
 case body =>
  rintro l pre x a' W hl ⟨r, hr⟩ ⟨Y, U⟩ ⟨H, ⟨zh, he⟩, rfl⟩ za;have q7 : Boxed W Z.heap.size 100 (.map (some O)) := z7.kept Y (by simp);have c7 := q7.cell;have s : MapL viewE 3 (Lit.int .i64) W O (3 * T.length) D (ownL T) := z2.kept Y (by simp; omega);have zf : W.cell? ⟨H, 0, none⟩ = some (.int .i64 (sideK tr x).1) := by simp [World.cell?, he]
  have zg : W.cell? ⟨H, 1, none⟩ = some (.int .i64 (sideK tr x).2) := by simp [World.cell?, he]
  have h4 := s.owns;have HX := hT.out x;have c : keyOf Tryz.prog 83 (.agg #[.int .i64 (sideK tr x).2, .int .i64 (sideK tr x).1]) = some (kE (revE (sideK tr x))) := keyE HX.1 HX.2;have a := oLl (fun x => nbI T (sideK tr x)) pre;have hC := U.out.cell x.val (List.getElem?_eq_getElem (by rw [a]; exact x.isLt));have ze := U.out.frozen x.val;have zl : (x.val : Int) < 3 := by have := x.isLt; omega
  obtain ⟨v9, zk⟩ : ∃ v9, W.cell? ⟨Z.heap.size + 1, x.val, none⟩ = some v9 := ⟨_, hC⟩;have d := s.has_iff HX;have i : Hid (∀ y : Int, y = nbI T (sideK tr x) -> BoxN (W.setCell ⟨Z.heap.size + 1, x.val, none⟩ (.int .i64 y)) (Z.heap.size + 1) 95 (outsL (fun x => nbI T (sideK tr x)) (pre ++ [x]))) := fun y hy => by
   rw [oLs, hy];exact U.out.set x.val (.int .i64 (nbI T (sideK tr x)))
  have hz : Hid (∀ y : Value, V.grownBy (W.setCell ⟨Z.heap.size + 1, x.val, none⟩ y) (some (Z.heap.size + 1))) := fun y =>
   ⟨Y.os, Y.tape, Y.output, by simpa using Y.size, fun j hj hjn => (Below.heap_setCell _ _ _ j (by rintro rfl; exact hjn rfl)).trans (Y.block j hj hjn)⟩
  have hA := hid c;have m := hid d;have hU := hid s;clear he hr c d q7 hC a U s;generalize hJ : x.val = jx at *;have zd := hid hJ;clear hJ;cases hsn : Maps.has D (viewE.lit (revE (sideK tr x)))
  ·have I : revE (sideK tr x) ∉ (ownL T).map (·.1) := fun hmm => by
    have := m.out.2 hmm;rw [hsn] at this; cases this
   have hX := hid (nIn I);have h6 := hid hsn;clear I hsn;gi_wp2_with (gi_at_lookup; refine wpListIn_lookup_own_ok_int _ rfl _ _ 100 rfl 83 3 .i64 lawE uEI und_I (zeroI _) O (3 * T.length) D rfl h4 _ _ rfl hA.out ?_; rw [show Maps.has D (kE (revE (sideK tr x))) = false from h6.out]; intro cz C hq; clear C hq);exact ⟨(KeepsOthers.setCell _ _ _).from _, ⟨(Below.refl _ W).setCell (p := ⟨Z.heap.size + 1, jx, none⟩) (by show w.heap.size <= Z.heap.size + 1; omega) _, Below.heap_setCell _ _ _ _ (by show Z.heap.size + 2 ≠ Z.heap.size + 1; omega)⟩, hz.out _, hid (i.out _ hX.out.symm)⟩
  ·have I : revE (sideK tr x) ∈ (ownL T).map (·.1) := m.out.1 hsn
   have g := hU.out.at (nIs I) (.lit (.int .i64 0));have hP := hid g;have h6 := hid hsn;clear I hsn g;gi_wp2_with (gi_at_lookup; refine wpListIn_lookup_own_ok_int _ rfl _ _ 100 rfl 83 3 .i64 lawE uEI und_I (zeroI _) O (3 * T.length) D rfl h4 _ _ rfl hA.out ?_; rw [show Maps.has D (kE (revE (sideK tr x))) = true from h6.out]; intro cz C hq; have hS : Hid (cz = nbI T (sideK tr x)) := (by have R := C.symm.trans hP.out; injection R with R; injection R); clear C hq);exact ⟨(KeepsOthers.setCell _ _ _).from _, ⟨(Below.refl _ W).setCell (p := ⟨Z.heap.size + 1, jx, none⟩) (by show w.heap.size <= Z.heap.size + 1; omega) _, Below.heap_setCell _ _ _ _ (by show Z.heap.size + 2 ≠ Z.heap.size + 1; omega)⟩, hz.out _, hid (i.out _ hS.out)⟩
 case done =>
  rintro E ys W hE rfl ⟨Y, U⟩ hK;have r4 : BoxN W (w.heap.size + 1) 95 [.int .i64 0, .int .i64 0, .int .i64 0] := (Y.block _ (by omega) (by simp; omega)).trans z4;have r9 : BoxN W (Z.heap.size + 1) 95 [.int .i64 (nbI T (sideK tr 0)), .int .i64 (nbI T (sideK tr 1)), .int .i64 (nbI T (sideK tr 2))] := U.out;have hG : Below w.heap.size w W := hF.grown Y hF.size (fun j e => by cases e; omega);have a0 := r4.cell 0 rfl;have a1 := r4.cell 1 rfl;have a2 := r4.cell 2 rfl;have f0 := r4.frozen 0;have f1 := r4.frozen 1;have f2 := r4.frozen 2;have n0 := r9.cell 0 rfl;have n1 := r9.cell 1 rfl;have n2 := r9.cell 2 rfl;obtain ⟨y0, hu⟩ : ∃ y, y = nbI T (sideK tr 0) := ⟨_, rfl⟩;obtain ⟨y1, hv⟩ : ∃ y, y = nbI T (sideK tr 1) := ⟨_, rfl⟩;obtain ⟨y2, hw⟩ : ∃ y, y = nbI T (sideK tr 2) := ⟨_, rfl⟩;rw [<- hu] at n0;rw [<- hv] at n1;rw [<- hw] at n2;have HY : Hid (y0 = nbI T (sideK tr 0) /\ y1 = nbI T (sideK tr 1) /\ y2 = nbI T (sideK tr 2)) := ⟨hu, hv, hw⟩;have hL := Y.size;clear hu hv hw;gi_wp2_with fail;have J : E ≠ w.heap.size + 1 := by omega
  have z0 : ((((W.setCell ⟨w.heap.size + 1, 0, none⟩ (.int .i64 y0)).setCell ⟨w.heap.size + 1, 1, none⟩ (.int .i64 y1)).setCell ⟨w.heap.size + 1, 2, none⟩ (.int .i64 y2))).heap[E]? = some (.deferred (some [])) := by
   rw [Below.heap_setCell _ _ _ E J, Below.heap_setCell _ _ _ E J, Below.heap_setCell _ _ _ E J];exact hK
  have hf : w.heap.size <= w.heap.size + 1 := by omega
  have hZ := ((hG.setCell (p := ⟨w.heap.size + 1, 0, none⟩) hf (.int .i64 y0)).setCell (p := ⟨w.heap.size + 1, 1, none⟩) hf (.int .i64 y1)).setCell (p := ⟨w.heap.size + 1, 2, none⟩) hf (.int .i64 y2);have hO := ((r4.set 0 (.int .i64 y0)).set 1 (.int .i64 y1)).set 2 (.int .i64 y2);have z1 := hO.lt;refine lms (B := V.heap.size) ⟨[E], rfl, (by simp), fun D hD => by rw [List.mem_singleton] at hD; subst hD; exact ⟨hE, z0⟩⟩ fun w' hw' => ?_
  have q4 : BoxN w' (w.heap.size + 1) 95 [.int .i64 y0, .int .i64 y1, .int .i64 y2] := (hw'.block _ (.inl (by omega)) z1).trans hO;have k0 := q4.cell 0 rfl;have k1 := q4.cell 1 rfl;have k2 := q4.cell 2 rfl;refine ⟨.tuple #[.agg #[.int .i64 y0, .int .i64 y1, .int .i64 y2], .int .i64 0], by simp [results, Tryz.results31, go_sem, k0, k1, k2], ?_⟩;obtain ⟨e0, e1, e2⟩ := HY.out;refine ⟨_, rfl, by rw [e0, e1, e2], hZ.trans ((hw'.below (by simpa using hL)).mono (by omega))⟩
 case stop =>
  rintro E c' pre W hE zi h hK;exact h.elim
theorem nay (w : World) (U S : Value) (P : List PtQ) (T : List Tri) (k : Nat) (Q : RdP w U (strP P)) (Y : RdT w S T) (Z : MeshOK P T k) (t : Nat) (X : t < T.length) (tr : Tri) (V : tr = T[t]) (R : Good w) :
 Calls Tryz.prog 31 #[.agg #[U, S], .int .i64 (t : Int)] w (Ret (fun r _ => r = .tuple #[.agg #[.int .i64 (nbI T (sideK tr 0)), .int .i64 (nbI T (sideK tr 1)), .int .i64 (nbI T (sideK tr 2))], .int .i64 0]) w) :=
 callsIn_wide.1 (nin 6 (by omega) w U S P T k Q Y Z (fun t Y => by
  have O := Z.plen;have key : ∀ x ∈ idxOf t, InI x := fun x hx => by
   have := Z.idx t Y x hx;unfold InI;omega
  exact ⟨key _ (by simp [idxOf]), key _ (by simp [idxOf]), key _ (by simp [idxOf])⟩) t X tr V R)
end Go.Proofs.YtbfcmipplhkkeaaGreatDoor
