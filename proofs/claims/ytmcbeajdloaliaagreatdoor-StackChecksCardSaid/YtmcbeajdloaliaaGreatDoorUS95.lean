import Derived.Test.YtmcbeajdloaliaaGreatDoorUS45
/- A drawn region in which the world only grows klippelaw28.known A plan's deposit is right What a plan's Make gives to the laws of a deposit. A changed deposit -/
namespace Go.Proofs.YtmcbeajdloaliaaGreatDoor
open Go Go.RowKit Go.Lib Go.Shelf
theorem wof {ops : Array Oper} {o ok : Oper} {a : Act} {k d : Nat} {b : Bool} (X : o.guard = some (k, b)) (V : ops[k]? = some ok) (Y : ok.dst = some d) (Z : a.eval (.tmp d) = .bool b) : Region.wanted o (yielded ops a.tmps) = true := by
 have h : a.tmps[d]? = some (.bool b) := by
  replace Z : a.tmps.getD d undef = .bool b := Z;rw [Array.getD_eq_getD_getElem?] at Z;cases hc : a.tmps[d]? with
  | none => rw [hc] at Z; cases Z
  | some v => rw [hc] at Z; exact congrArg some Z
 cases b <;> simp [Region.wanted, yielded, X, V, Y, h]
theorem wd0 {n : Nat} {P : Program} {Q : Exit -> Act -> World -> Prop} {o : Oper} {a : Act} {w w' : World} {K : Act -> World -> Prop} {v : Value} (Y : ∀ c, o.op ≠ .defer c) (X : (execOp a.eval o).run P w = .ok (.value v) w') (Z : K (a.put o.dst v) w') : o.wpIn Fence.wide n P a w K Q := by
 refine ⟨fun _ _ => trivial, ?_⟩;rw [Oper.semAt_eq _ _ _ Y, X]; exact Z
section
variable {P : Program} {Q : Exit -> Act -> World -> Prop}
structure Mono (ops : Array Oper) (V : Nat -> World -> Value -> Prop) (W : World) (a0 : Act) (listed : Array Bool) (a : Act) (X : World) : Prop where
 below : Below W.heap.size W X
 has : ∀ j oj d, ops[j]? = some oj -> oj.dst = some d -> listed.getD j false = true -> V j X (a.eval (.tmp d))
 old : ∀ s, (∀ (j : Nat) (oj : Oper), ops[j]? = some oj -> oj.dst ≠ some s) -> a.eval (.tmp s) = a0.eval (.tmp s)
theorem wrm {id : Nat} {l : List Oper} {a : Act} {w : World} (V : Nat -> World -> Value -> Prop) (B : ∀ i X X' v, V i X v -> Below X.heap.size X X' -> V i X' v) (A : P.follows .mixedOrders = true) (H : tidyB l.toArray a.tmps.size = true)
 (S : ∀ Z Y X i o, l.toArray[i]? = some o -> (∀ e ∈ o.after, Region.binds .any e = true -> Z.getD e.on false = true) -> Mono l.toArray V w a Z Y X ->
   Region.wanted o (yielded l.toArray Y.tmps) = true /\ o.wpIn Fence.wide 1 P Y X (fun a'' X' => ∃ v, Below X.heap.size X X' /\ (∀ d, o.dst = some d -> V i X' v) /\ a'' = Y.put o.dst v) Q)
 (N : ∀ Z Y X, (∀ i, i < l.toArray.size -> Z.getD i false = true) -> Mono l.toArray V w a Z Y X -> Y.tmps.size = a.tmps.size -> Y.defers = a.defers -> Q .normal Y X) :
 (Code.region id l.toArray true).wp P Q a w := by
 refine (wpIn_wide (n := 1)).1 ?_;refine wIr (fun _ _ => True) (fun Z Y X => Mono l.toArray V w a Z Y X) A H ⟨bdN w 1, fun j oj d hj _ J => ?_, fun _ _ => rfl⟩ ?_ ?_
 ·simp [Array.getD_eq_getD_getElem?] at J
  have M := (Array.getElem?_eq_some_iff.1 hj).1;simp at M;simp [M] at J
 ·intro Z Y X i o L J O K U
  obtain ⟨D, C⟩ := S Z Y X i o L O U;refine ⟨D, Oper.wpIn_mono (fun a'' X' h => ?_) C⟩;obtain ⟨v, E, z, rfl⟩ := h;refine ⟨v, trivial, rfl, (zbt U.below E), fun j oj d hj hd hlj => ?_, fun s hs => ?_⟩
  ·by_cases hji : i = j
   ·subst hji
    rw [L] at hj;cases hj;rw [hd, eps (by rw [K.tsize]; exact tdt H L hd)];exact z d hd
   ·rw [ga0 _ _ _ hji] at hlj
    have I : o.dst ≠ some d := fun e => tat H L hj e hd hji rfl;have G := B j X X' _ (U.has j oj d hj hd hlj) E;cases hod : o.dst with
    | none => exact G
    | some d' =>
      rw [epo (fun e => I (by rw [hod, e]))];exact G
  ·cases hod : o.dst with
   | none => exact U.old s hs
   | some d' => rw [epo (fun e => hs i o L (by rw [hod, e]))]; exact U.old s hs
 ·intro Z Y X R K U
  exact N Z Y X R U K.tsize K.defers
end
end Go.Proofs.YtmcbeajdloaliaaGreatDoor
namespace Go.Proofs.YtmcbeajdloaliaaGreatDoor
open Go.RowKit Go.Lib Go.Shelf
theorem k28_rs : RS 0 = ⟨#[48]⟩ /\ RS 1 = ⟨#[49]⟩ /\ RS 2 = ⟨#[50]⟩ /\ RS 3 = ⟨#[51]⟩ /\ RS 5 = ⟨#[53]⟩ /\ RS 6 = ⟨#[54]⟩ /\ RS 4 = ⟨#[52]⟩ /\ RS 48 = ⟨#[52, 56]⟩ := by decide +kernel
theorem kc0 {w : World} {vp vt vf : Value} {c : Rat} (S : RdP w vp (strP pP28)) (R : RdT w vt tT28) (V : RdQ w vf [c, c, c, c]) (X : c = 0 \/ c = 2 \/ c = 5) (U : Good w) :
 Calls Tryz.prog 114 #[.agg #[vp, vt], vf, .agg #[.string ⟨#[49]⟩, .string ⟨#[49]⟩]] w (Ret (fun r _ => r = .tuple #[.string (RS c), .int .i64 0]) w) := by
 obtain ⟨v1, v2, Q, O, N, M⟩ := kd0;have key : sd0 pP28 [c, c, c, c] (0, 1, 2) = (0, 0) /\ onQ pP28 [c, c, c, c] (0, 1, 2) (1, 1) = c := by
  rcases X with rfl | rfl | rfl
  ·exact ⟨v1, O⟩
  ·exact ⟨v2, N⟩
  ·exact ⟨Q, M⟩
 have Z : Sz 2 c := by
  rcases X with rfl | rfl | rfl
  ·exact sz2n 0 (by omega)
  ·exact sz2n 2 (by omega)
  ·exact sz2n 5 (by omega)
 have Y : Sz 200 (1 : Rat) := (sz1 1 (by omega)).mono (by omega);have h := vin w vp vt vf pP28 tT28 2 [c, c, c, c] ⟨S, R, k2m, V, fun q hq => by simp at hq; subst hq; exact Z, rfl⟩ (1, 1) ⟨Y, Y⟩ 0 [1] k2l (by decide) (by
  show SzP 200 (sd0 pP28 [c, c, c, c] (0, 1, 2));rw [key.1]; exact ⟨Sz.zero _ (by omega), Sz.zero _ (by omega)⟩) (by
  show Sz 200 (onQ pP28 [c, c, c, c] (0, 1, 2) (1, 1));rw [key.2]; exact Z.mono (by omega)) U
 have e : onQ pP28 [c, c, c, c] tT28[0] (1, 1) = c := key.2;rw [e] at h;rw [show RS ((1 : Rat), (1 : Rat)).1 = ⟨#[49]⟩ from k28_rs.2.1] at h;exact h
def hH28 : List Rat := [0, 2, 5]
structure K28 (w : World) (pp pt pb pu ps : Option Addr) (cp ct cb cu cs : Nat) : Prop where
 n : DepN w (.slice pp 4 cp) (.slice pt 2 ct) (.slice pb 4 cb) (.slice pu 3 cu) (.slice ps 2 cs) pP28 tT28 2 [0, 0, 0, 0] uU28 [[2, 2, 2, 2], [5, 5, 5, 5]]
theorem K28.below {w w' : World} {pp pt pb pu ps : Option Addr} {cp ct cb cu cs : Nat} (h : K28 w pp pt pb pu ps cp ct cb cu cs) (Z : Below w.heap.size w w') : K28 w' pp pt pb pu ps cp ct cb cu cs := ⟨h.n.below Z⟩
theorem fld28 (i : Nat) (h : i <= 2) : fldN [0, 0, 0, 0] [[2, 2, 2, 2], [5, 5, 5, 5]] i = [hH28[i]?.getD 0, hH28[i]?.getD 0, hH28[i]?.getD 0, hH28[i]?.getD 0] /\ (hH28[i]?.getD 0 = 0 \/ hH28[i]?.getD 0 = 2 \/ hH28[i]?.getD 0 = 5) := by
 rcases (by omega : i = 0 \/ i = 1 \/ i = 2) with rfl | rfl | rfl <;> decide +kernel
theorem K28.surf {w : World} {pp pt pb pu ps : Option Addr} {cp ct cb cu cs : Nat} (h : K28 w pp pt pb pu ps cp ct cb cu cs) : ∃ (U : Nat -> Option Addr) (V : Nat -> Nat),
 (∀ i : Nat, i < 3 -> ∀ w', Below w.heap.size w w' -> Calls Tryz.prog 48 #[.agg #[.slice pb 4 cb, .slice pu 3 cu, .slice ps 2 cs], .int .i64 (i : Int)] w' (Ret (fun r _ => r = .slice (U i) 4 (V i)) w')) /\
 (∀ i : Nat, i < 3 -> ∀ w', Below w.heap.size w w' -> Good w' -> Calls Tryz.prog 114 #[.agg #[.slice pp 4 cp, .slice pt 2 ct], .slice (U i) 4 (V i), .agg #[.string ⟨#[49]⟩, .string ⟨#[49]⟩]] w' (Ret (fun r _ => r = .tuple #[.string (RS (hH28[i]?.getD 0)), .int .i64 0]) w')) := by
 have S : ∀ i : Nat, ∃ Z : Option Addr × Nat, i < 3 -> RdQ w (.slice Z.1 4 Z.2) (fldN [0, 0, 0, 0] [[2, 2, 2, 2], [5, 5, 5, 5]] i) /\ ∀ w', Below w.heap.size w w' -> Calls Tryz.prog 48 #[.agg #[.slice pb 4 cb, .slice pu 3 cu, .slice ps 2 cs], .int .i64 (i : Int)] w' (Ret (fun r _ => r = .slice Z.1 4 Z.2) w') := fun i => by
  by_cases hi : i < 3
  ·obtain ⟨p, c, X, O⟩ := h.n.surface i (by show i <= 2; omega)
   exact ⟨(p, c), fun _ => ⟨X, O⟩⟩
  ·exact ⟨(none, 0), fun h' => absurd h' hi⟩
 obtain ⟨Z, Y⟩ : ∃ Z : Nat -> Option Addr × Nat, ∀ i : Nat, i < 3 -> RdQ w (.slice (Z i).1 4 (Z i).2) (fldN [0, 0, 0, 0] [[2, 2, 2, 2], [5, 5, 5, 5]] i) /\ ∀ w', Below w.heap.size w w' -> Calls Tryz.prog 48 #[.agg #[.slice pb 4 cb, .slice pu 3 cu, .slice ps 2 cs], .int .i64 (i : Int)] w' (Ret (fun r _ => r = .slice (Z i).1 4 (Z i).2) w') := ⟨fun i => (S i).choose, fun i => (S i).choose_spec⟩;refine ⟨fun i => (Z i).1, fun i => (Z i).2, fun i hi => (Y i hi).2, fun i hi w' hb hg => ?_⟩;have X := (Y i hi).1;obtain ⟨R, Q⟩ := fld28 i (by omega);rw [R] at X;exact kc0 (RdC.below h.n.p hb) (RdC.below h.n.t hb) (RdC.below X hb) Q hg
theorem k2p {w : World} {pp pt pb pu ps : Option Addr} {cp ct cb cu cs : Nat} (h : K28 w pp pt pb pu ps cp ct cb cu cs) (z : Rat) (V : Sz 200 z) (X : Good w) :
 Calls Tryz.prog 64 #[.agg #[.slice pp 4 cp, .slice pt 2 ct], .agg #[.slice pb 4 cb, .slice pu 3 cu, .slice ps 2 cs], .agg #[.string ⟨#[49]⟩, .string ⟨#[49]⟩, .string (RS z)]] w (Ret (fun r _ => r = .int .i64 0) w) := by
 have Z : Sz 200 (1 : Rat) := (sz1 1 (by omega)).mono (by omega);have Y := cPo w _ _ _ _ _ pP28 tT28 2 _ _ _ h.n (1, 1) z ⟨Z, Z⟩ V X;rw [show RS ((1 : Rat), (1 : Rat)).1 = ⟨#[49]⟩ from k28_rs.2.1, if_neg (by rw [k2l]; simp)] at Y;exact Y
theorem k2A {w : World} {pp pt pb pu ps : Option Addr} {cp ct cb cu cs : Nat} (h : K28 w pp pt pb pu ps cp ct cb cu cs) (R : Good w) :
 Calls Tryz.prog 30 #[.agg #[.slice pp 4 cp, .slice pt 2 ct], .agg #[.slice pb 4 cb, .slice pu 3 cu, .slice ps 2 cs], .agg #[.string ⟨#[49]⟩, .string ⟨#[49]⟩, .string ⟨#[50]⟩]] w (Ret (fun r _ => r = .tuple #[.string ⟨#[98]⟩, .bool false, .int .i64 0]) w) := by
 obtain ⟨V, X, U, S⟩ := h.surf;have Y := at_ok w R pp pt pb pu ps 4 2 2 cp ct cb cu cs ⟨#[49]⟩ ⟨#[49]⟩ 2 uU28 hH28 rfl (by decide) (by decide +kernel) h.n.unit 2 (by omega) (by omega) (by
  intro q hq;have Z : q ∈ ([0, 2, 5] : List Rat) := hq;simp only [List.mem_cons, List.not_mem_nil, or_false] at Z;rcases Z with rfl | rfl | rfl
  ·exact sz2n 0 (by omega)
  ·exact sz2n 2 (by omega)
  ·exact sz2n 5 (by omega)) (sz2n 2 (by omega)) V X (hid fun w' hb hg' => k2p (h.below hb) 2 ((sz2n 2 (by omega)).mono (by omega)) hg') (hid U) (hid S)
 rw [show uAt uU28 hH28 2 = ⟨#[98]⟩ from k28_at.1, show decide (cHH hH28 2 = 0) = false from k2c, k28_rs.2.2.1] at Y;exact Y
theorem k2L {w : World} {pp pt pb pu ps : Option Addr} {cp ct cb cu cs : Nat} (h : K28 w pp pt pb pu ps cp ct cb cu cs) (R : Good w) :
 Calls Tryz.prog 31 #[.agg #[.slice pp 4 cp, .slice pt 2 ct], .agg #[.slice pb 4 cb, .slice pu 3 cu, .slice ps 2 cs], .agg #[.string ⟨#[49]⟩, .string ⟨#[49]⟩, .string ⟨#[54]⟩]] w (Ret (fun r w' => ∃ v, r = .tuple #[v, .int .i64 0] /\ w'.ownsRow w.heap.size 99 3 v 3 (cIv [⟨⟨#[99]⟩, 0, 1⟩, ⟨⟨#[98]⟩, 1, 4⟩, ⟨⟨#[97]⟩, 4, 6⟩])) w) := by
 obtain ⟨V, X, U, S⟩ := h.surf;have Y := lj0 w R pp pt pb pu ps 4 2 2 cp ct cb cu cs ⟨#[49]⟩ ⟨#[49]⟩ 6 uU28 hH28 rfl (by decide) (by decide) h.n.unit 2 (by omega) (by omega) (by
  intro q hq;have Z : q ∈ ([0, 2, 5] : List Rat) := hq;simp only [List.mem_cons, List.not_mem_nil, or_false] at Z;rcases Z with rfl | rfl | rfl
  ·exact sz2n 0 (by omega)
  ·exact sz2n 2 (by omega)
  ·exact sz2n 5 (by omega)) (sz2n 6 (by omega)) V X (hid fun w' hb hg' => k2p (h.below hb) 6 ((sz2n 6 (by omega)).mono (by omega)) hg') (hid U) (hid S)
 rw [show logL uU28 hH28 6 = _ from kf0, k28_rs.2.2.2.2.2.1] at Y;exact Y
theorem k2V {w : World} {pp pt pb pu ps : Option Addr} {cp ct cb cu cs : Nat} (h : K28 w pp pt pb pu ps cp ct cb cu cs) (X : Good w) :
 Calls Tryz.prog 21 #[.agg #[.slice pp 4 cp, .slice pt 2 ct], .agg #[.slice pb 4 cb, .slice pu 3 cu, .slice ps 2 cs], .string ⟨#[98]⟩] w (Ret (fun r _ => r = .tuple #[.string ⟨#[52, 56]⟩, .int .i64 0]) w) := by
 have Z := st0 w _ _ _ _ _ pP28 tT28 2 _ _ _ h.n ⟨#[98]⟩ 1 (by decide) (by decide +kernel) 48 (fun w' vf vg hf hg2 hgw => by
  have Y := fg0 w' _ _ vf vg pP28 tT28 2 _ _ hf hg2 (by omega) (by decide) (by
   show Sz 200 (volTo pP28 tT28 (subQ [5, 5, 5, 5] [2, 2, 2, 2]) 0 tT28.length);rw [k2v]; exact ⟨by decide +kernel, by decide +kernel⟩) hgw
  rw [show volTo pP28 tT28 (subQ ([[2, 2, 2, 2], [5, 5, 5, 5]] : List (List Rat))[1] (fldN [0, 0, 0, 0] [[2, 2, 2, 2], [5, 5, 5, 5]] 1)) 0 tT28.length = 48 from k2v] at Y;exact Y) X
 rw [k28_rs.2.2.2.2.2.2.2] at Z;exact Z
theorem k2I {w : World} {pp pt pb pu ps px : Option Addr} {cp ct cb cu cs cx : Nat} (h : K28 w pp pt pb pu ps cp ct cb cu cs) (hx : RdQ w (.slice px 4 cx) [1, 1, 1, 1]) (N : Good w) :
 Calls Tryz.prog 11 #[.agg #[.slice pp 4 cp, .slice pt 2 ct], .agg #[.slice pb 4 cb, .slice pu 3 cu, .slice ps 2 cs], .agg #[.string ⟨#[100]⟩, .int .i64 1, .slice px 4 cx]] w (Ret (fun r w' => ∃ v1 v2 Z, r = .tuple #[.agg #[v1, v2, Z], .int .i64 0] /\ DepR w' v1 v2 Z (([0, 0, 0, 0] : List Rat).map RS) [⟨#[97]⟩, ⟨#[100]⟩, ⟨#[98]⟩, ⟨#[99]⟩] (([[2, 2, 2, 2], [3, 3, 3, 3], [6, 6, 6, 6]] : List (List Rat)).map fun F => F.map RS)) w) := by
 have Y : ∀ q ∈ ([1, 1, 1, 1] : List Rat), Sz 2 q := fun q hq => by simp at hq; subst hq; exact sz2n 1 (by omega)
 have R : errF 4 (([1, 1, 1, 1] : List Rat).map RS) = 0 := eFo rfl (fun q hq => (Y q hq).mono (by omega));have V : (([1, 1, 1, 1] : List Rat).map RS).map numT = [1, 1, 1, 1] := nTm _;have Q : unitE pP28.length uU28 ⟨#[100]⟩ 1 (([1, 1, 1, 1] : List Rat).map RS) = 0 := by
  unfold unitE;rw [if_neg (by decide +kernel), if_neg (by decide +kernel), if_neg (by decide), if_neg (by rw [show pP28.length = 4 from rfl, R]; simp), V, if_neg (by decide +kernel), if_neg (by decide)]
 have S := sq0 w _ _ _ _ _ pP28 tT28 2 _ _ _ h.n (by omega) ⟨#[100]⟩ 1 (.slice px 4 cx) (([1, 1, 1, 1] : List Rat).map RS) hx.toS ⟨sok (by omega) (by omega) Y, by simp⟩ (fun _ => ⟨[1, 1, 1, 1], rfl, rfl, Y⟩) N;refine S.mono ?_;rintro e w' ⟨v, rfl, X, O⟩;rcases X with ⟨X, _⟩ | ⟨_, v1, v2, Z, rfl, M, L, U, -⟩
 ·exact absurd Q X
 ·rw [V, show (1 : Int).toNat = 1 from rfl, k2i] at U
  exact ⟨_, rfl, ⟨v1, v2, Z, rfl, ⟨M.toS, L, U.toTx⟩⟩, O⟩
theorem uTn (n : Nat) (Z : n <= 3) : ∀ i (h : i < (uTo (n + 1)).length), nameQ (uTo (n + 1))[i] = true /\ hasS ((uTo (n + 1)).take i) (uTo (n + 1))[i] = false := by
 rcases (by omega : n = 0 \/ n = 1 \/ n = 2 \/ n = 3) with rfl | rfl | rfl | rfl <;> decide +kernel
theorem uTl (m : Nat) : (uTo m).length = m := by unfold uTo; simp
theorem tTu (n : Nat) (B : List Rat) (H : List StepQ) (Z : B.length = n) (i : Nat) (z : Int) : hI (topTo n B H i) z <= hI (topTo n B H (i + 1)) z := by
 unfold hI;have X := tTl n B H Z i;have Y := tTl n B H Z (i + 1);rcases Nat.lt_or_ge z.toNat n with h | h
 ·have U := sFl n (H[i]?.getD ([], false))
  have V : 0 <= (stepF n (H[i]?.getD ([], false)))[z.toNat]'(by omega) := by
   unfold stepF;rw [List.getElem_map];exact Rat.abs_nonneg
  have e : (topTo n B H (i + 1))[z.toNat]? = some ((topTo n B H i)[z.toNat]'(by omega) + (stepF n (H[i]?.getD ([], false)))[z.toNat]'(by omega)) := by
   show (List.zipWith (·+ ·) (topTo n B H i) (stepF n (H[i]?.getD ([], false))))[z.toNat]? = _;rw [List.getElem?_zipWith, List.getElem?_eq_getElem (by omega), List.getElem?_eq_getElem (by omega)]
  rw [e, List.getElem?_eq_getElem (by omega)];show (topTo n B H i)[z.toNat]'(by omega) <= (topTo n B H i)[z.toNat]'(by omega) + (stepF n (H[i]?.getD ([], false)))[z.toNat]'(by omega);grind
 ·rw [List.getElem?_eq_none (by omega), List.getElem?_eq_none (by omega)]
  exact Rat.le_refl
theorem fNt (n : Nat) (B : List Rat) (H : List StepQ) (m i : Nat) (Z : i <= m) : fldN B (sTo n B H m) i = topTo n B H i := by
 unfold fldN sTo;cases i with
 | zero => rfl
 | succ i =>
   rw [List.getElem?_cons_succ, List.getElem?_map, List.getElem?_range (by omega)];rfl
theorem tmm {n : Nat} {B : List Rat} {H : List StepQ} {m : Nat} {F : List Rat} (h : F ∈ B :: sTo n B H m) : ∃ i, i <= m /\ F = topTo n B H i := by
 rcases List.mem_cons.1 h with rfl | h
 ·exact ⟨0, by omega, rfl⟩
 ·unfold sTo at h
  obtain ⟨i, Z, rfl⟩ := List.mem_map.1 h;exact ⟨i + 1, by have := List.mem_range.1 Z; omega, rfl⟩
theorem pnn {w : World} {vp vt vb vu vs : Value} (k : Nat) (N M : Int) (Y : Bool) (A : List Int) (L : Bool) (H : List StepQ) (I : H.length <= 3) (P : List PtQ) (G : P = sc0 k N M Y) (T : List Tri) (E : T = sTT k) (B : List Rat) (Q : B = hFF A L P.length)
 (C : RdP w vp (strP P)) (z : RdT w vt T) (D : RdQ w vb B) (y : RdS w vu (uTo (H.length + 1))) (x : RdF w vs (sTo P.length B H H.length)) :
 DepN w vp vt vb vu vs P T 3 B (uTo (H.length + 1)) (sTo P.length B H H.length) := by
 have O : MeshOK P T 2 := by rw [G, E]; exact sr0 k N M Y
 have Z : B.length = P.length := by rw [Q, he0]
 have S : ∀ q ∈ B, Fr 2 38 q := by rw [Q]; exact fht _ _ _
 have X : ∀ F ∈ B :: sTo P.length B H H.length, F.length = P.length := fun F hF => by
  obtain ⟨i, R, rfl⟩ := tmm hF;exact tTl _ _ _ Z i
 have V : ∀ F ∈ B :: sTo P.length B H H.length, ∀ q ∈ F, Sz 3 q := fun F hF q hq => by
  obtain ⟨i, R, rfl⟩ := tmm hF;exact s3o ((ftp _ _ _ S i q hq).mono (by omega))
 have U : (uTo (H.length + 1)).length = (sTo P.length B H H.length).length + 1 := by rw [uTl, sTl]
 refine ⟨C, z, O.up (by omega) (by omega), D, y, x, X, V, U, by rw [uTl]; omega, ?_⟩;refine dg0 ?_ X (fun F hF q hq => (V F hF q hq).mono (by omega)) U (by rw [uTl]; omega) (uTn _ I) (fun i R => ?_)
 ·intro e
  have := O.some;simp [e] at this
 ·rw [sTl] at R
  rw [fNt _ _ _ _ _ (by omega), fNt _ _ _ _ _ (by omega), bBi _ _ (by rw [tTl _ _ _ Z, tTl _ _ _ Z])];intro j K J;have := tTu P.length B H Z i (j : Int);rw [hh0 _ _ K, hh0 _ _ J] at this;exact this
def MadeO (base : Nat) (k : Nat) (s0 s1 : Int) (half : Bool) (r : Value) (w' : World) : Prop := ∃ pp cp pt ct pb cb pu cu ps cs P T B H U n, r = .tuple #[.agg #[.slice pp (List.length P) cp, .slice pt (List.length T) ct], .agg #[.slice pb (List.length P) cb, .slice pu (List.length U) cu, .slice ps n cs]] /\ P = sc0 k s0 s1 half /\ T = sTT k /\ n <= 3 /\ List.length B = List.length P /\ U = uTo (n + 1) /\ DepN w' (.slice pp P.length cp) (.slice pt T.length ct) (.slice pb P.length cb) (.slice pu U.length cu) (.slice ps n cs) P T 3 B U (sTo P.length B H n) /\ (∀ F ∈ B :: sTo P.length B H n, ∀ q ∈ F, Fr 2 152 q) /\ FlsV 33 w' base (.slice ps n cs) (sTo P.length B H n)
theorem m2o (w : World) (S V U : Int) (Z : Bool) (L : Nat) (n : S.tmod 8 = (L : Int)) (G : 0 <= S) (E : S <= 255) (D : -128 <= V /\ V <= 127) (C : -128 <= U /\ U <= 127) (a0 R Q O N M : Int) (K : Bool) (s : ∀ x ∈ [a0, R, Q, O, N, M], -128 <= x /\ x <= 127) (B : Value) (H : List StepQ) (t : RdSt w B H) (Y : H.length <= 3) (o : Good w) :
 Calls Tryz.prog 9 #[.agg #[.int .u8 S, .int .i8 V, .int .i8 U, .bool Z, .int .i8 a0, .int .i8 R, .int .i8 Q, .int .i8 O, .int .i8 N, .int .i8 M, .bool K, B]] w (Ret (fun r w' => MadeO w.heap.size L V U Z r w') w) := by
 refine (m2a w S V U Z L n G E D C a0 R Q O N M K s B H t Y _ rfl _ rfl o).mono ?_;rintro e w' ⟨_, rfl, ⟨vp, vt, a, vu, vs, rfl, m, k, p, j, X⟩, J⟩;have l := X.rd;have I := pnn L V U Z [a0, R, Q, O, N, M] K H Y _ rfl _ rfl _ rfl m k p j l;obtain ⟨g, z, d, y, h, A, c, v, f, cs, rfl, rfl, rfl, rfl, rfl⟩ := I.open;rw [sTl] at I X ⊢;exact ⟨_, rfl, ⟨g, z, d, y, h, A, c, v, f, cs, _, _, _, H, _, _, rfl, rfl, rfl, Y, he0 _ _ _, rfl, I, (fun F hF q hq => by
  obtain ⟨i, b, rfl⟩ := tmm hF;exact (ftp _ _ _ (fht _ _ _) i q hq).mono (by omega)), X⟩, J⟩
section
variable {P : Program} {ops : Array Oper} {Q : Exit -> Act -> World -> Prop} {md : Region.Mode} {S : Array Bool -> World -> Prop}
theorem any1 (i : Nat) {o : Oper} {n : Nat} {l : Array Bool} {a : Act} {w : World}
 (h : ∀ K' : Act -> World -> Prop, Shut (∀ a w, S (l.setIfInBounds i true) w -> (S (l.setIfInBounds i true) w -> AnyL P md ops Q S n (l.setIfInBounds i true) a w) -> K' a w) -> if Region.wanted o (yielded ops a.tmps) = true then Oper.wp P o a w K' Q else K' (a.put o.dst undef) w)
 (Z : Region.ready md ops l = [i] := by kernel_rfl) (ho : ops[i]? = some o := by rfl) : AnyL P md ops Q S (n + 1) l a w := AnyL.one Z ho h
theorem any2 (i j : Nat) {o o2 : Oper} {n : Nat} {l : Array Bool} {a : Act} {w : World}
 (X : ∀ K' : Act -> World -> Prop, Shut (∀ a w, S (l.setIfInBounds i true) w -> (S (l.setIfInBounds i true) w -> AnyL P md ops Q S n (l.setIfInBounds i true) a w) -> K' a w) -> if Region.wanted o (yielded ops a.tmps) = true then Oper.wp P o a w K' Q else K' (a.put o.dst undef) w)
 (V : ∀ K' : Act -> World -> Prop, Shut (∀ a w, S (l.setIfInBounds j true) w -> (S (l.setIfInBounds j true) w -> AnyL P md ops Q S n (l.setIfInBounds j true) a w) -> K' a w) -> if Region.wanted o2 (yielded ops a.tmps) = true then Oper.wp P o2 a w K' Q else K' (a.put o2.dst undef) w)
 (Y : Region.ready md ops l = [i, j] := by kernel_rfl) (ho : ops[i]? = some o := by rfl) (ho2 : ops[j]? = some o2 := by rfl) : AnyL P md ops Q S (n + 1) l a w := by
 refine ⟨fun h0 => (by rw [h0] at Y; cases Y), fun m Z => ?_⟩;rw [Y] at Z;rcases List.mem_cons.1 Z with rfl | Z
 ·exact wpOp_step ho (fun K' hK => X K' (fun a w hS hW => hK a w ⟨hS, hW hS⟩))
 ·obtain rfl : m = j := by simpa using Z
  exact wpOp_step ho2 (fun K' hK => V K' (fun a w hS hW => hK a w ⟨hS, hW hS⟩))
end
theorem appQ {w0 w : World} {ops : Array Oper} {o : Oper} {a : Act} {K : Act -> World -> Prop} {Q : Exit -> Act -> World -> Prop} {E : Prop} (s x : Tmp) (X : Below w0.heap.size w0 w) {v : Value} {n : Nat} {xs : List Value} (Z : w.ownsRow w0.heap.size 55 1 v n xs)
 {x' : Value} {m : Nat} {news : List Value} (Y : SrcR w x' m 1 news) (R : ∀ u ∈ news, u.oneCell' = true) (L : n + m <= 1000) (h : ∀ v' w', w'.ownsRow w0.heap.size 55 1 v' (n + m) (xs ++ news) -> Below w0.heap.size w0 w' -> w.grownBy w' v.ownBlock -> K (a.put o.dst v') w')
 (N : o.op = .call { callee := .builtin .append, args := #[.tmp s, .tmp x], argTypes := #[33, 33] } := by rfl) (hgd : o.guard = none := by rfl) (hs : a.eval (.tmp s) = v := by simp [Act.eval]) (hx : a.eval (.tmp x) = x' := by simp [Act.eval]) :
 if Region.wanted o (yielded ops a.tmps) = true then Oper.wp Tryz.prog o a w K Q else E := by
 rw [if_pos (by simp [Region.wanted, hgd])];obtain ⟨M, O, V, U, S⟩ := info_parts isr;exact was w _ _ 33 N w0.heap.size 55 M (.string ⟨#[]⟩) 1 16 Tryz.underlying33 O V U S rfl (by decide) v n xs hs Z x' m news hx Y R (by unfold maxLen; omega) (by omega) X.size fun v' w' r g => h v' w' r (X.grown g X.size fun j hj => (Z.lt j hj).1) g
def swapT (F : List ByteArray) (t : ByteArray) : List ByteArray := F.tail ++ [t]
theorem sTt {F : List ByteArray} {t : ByteArray} (h : TxtOK F) (Y : t.size <= 40) : TxtOK (swapT F t) := by
 unfold swapT;refine ⟨fun x hx => ?_, ?_⟩
 ·rcases List.mem_append.1 hx with Z | Z
  ·exact h.1 x (List.mem_of_mem_tail Z)
  ·simp at Z; subst Z; omega
 ·rw [List.length_append, List.length_tail, List.length_singleton]
  have := h.2;omega
theorem sw0 {n : Nat} {R : List Rat} {t : ByteArray} (O : t.size <= 40) (S : ∀ q ∈ R, Sz 40 q) (Z : errF n (swapT (R.map RS) t) = 0) : ∃ Q : List Rat, swapT (R.map RS) t = Q.map RS /\ Q.length = n /\ ∀ q ∈ Q, Sz 40 q := by
 have X : (swapT (R.map RS) t).length = n := Classical.byContradiction fun h => by rw [eFs h] at Z; cases Z
 rw [eFn X] at Z;have hq : allQ (swapT (R.map RS) t) = true := by
  cases h : allQ (swapT (R.map RS) t) with
  | true => rfl
  | false => rw [h] at Z; cases Z
 have U : rQQ t.data.toList = true := by
  unfold allQ at hq;exact (List.all_eq_true.1 hq) t (by unfold swapT; simp)
 obtain ⟨q, rfl, V⟩ := rMM U (by decide) O;refine ⟨R.tail ++ [q], ?_, ?_, fun p hp => ?_⟩
 ·unfold swapT
  rw [List.map_append, List.map_tail];rfl
 ·unfold swapT at X
  rw [<- X, List.length_append, List.length_append, List.length_tail, List.length_tail, List.length_map];rfl
 ·rcases List.mem_append.1 hp with Y | Y
  ·exact S p (List.mem_of_mem_tail Y)
  ·simp at Y; subst Y; exact V
theorem knm {n : Nat} {R : List Rat} (Z : R.length = n) (Y : ∀ q ∈ R, Sz 3 q) : ∃ Q : List Rat, R.map RS = Q.map RS /\ Q.length = n /\ ∀ q ∈ Q, Sz 40 q := ⟨R, rfl, Z, fun q hq => (Y q hq).mono (by omega)⟩
def OkF (n : Nat) (F : List ByteArray) : Prop := TxtOK F /\ (errF n F = 0 -> ∃ R : List Rat, F = R.map RS /\ R.length = n /\ ∀ q ∈ R, Sz 40 q)
theorem OkF.old {n : Nat} {R : List Rat} (X : n <= 1000000) (Y : R.length = n) (Z : ∀ q ∈ R, Sz 3 q) : OkF n (R.map RS) :=
 ⟨⟨sok (by decide) (by decide) Z, by rw [List.length_map]; omega⟩, fun _ => knm Y Z⟩
theorem OkF.swap {n : Nat} {R : List Rat} {t : ByteArray} (V : n <= 1000000) (X : R.length = n) (Z : ∀ q ∈ R, Sz 3 q) (Y : t.size <= 40) : OkF n (swapT (R.map RS) t) :=
 ⟨sTt (OkF.old V X Z).1 Y, sw0 Y (fun q hq => (Z q hq).mono (by omega))⟩
theorem slipD {w : World} {vp vt vb vu vs : Value} {P : List PtQ} {T T' : List Tri} {b U : List ByteArray} {S : List (List ByteArray)} (R : RdP w vp (strP P)) (O : RdT w vt T') (V : MeshOK P T 3) (Y : T' = T \/ T' = []) (X : RdS w vb b) (N : RdS w vu U) (Q : RdTx w vs S) (Z : ∀ F ∈ b :: S, OkF P.length F) :
 DepT w vp vt vb vu vs P T' 40 b U S :=
 ⟨R, O, fun h => by
  rcases Y with rfl | rfl
  ·exact V.up (by omega) (by omega)
  ·exact absurd rfl h, X, N, Q, fun F hF => (Z F hF).1, fun F hF => (Z F hF).2⟩
def Kq (n1 n2 : Nat) (wx wy : World) : Prop :=
 (∀ {base e s n : Nat} {v : Value} {xs : List Value}, n2 <= base -> wx.ownsRow base e s v n xs -> wy.ownsRow base e s v n xs) /\ ∀ w0 : World, w0.heap.size = n1 -> Below w0.heap.size w0 wx -> Below w0.heap.size w0 wy
theorem Kq.refl (Z Y : Nat) (w : World) : Kq Z Y w w := ⟨fun _ h => h, fun _ _ h => h⟩
theorem Kq.trans {n1 n2 : Nat} {wx wy wz : World} (h : Kq n1 n2 wx wy) (k : Kq n1 n2 wy wz) : Kq n1 n2 wx wz := ⟨fun b r => k.1 b (h.1 b r), fun w0 e b => k.2 w0 e (h.2 w0 e b)⟩
theorem Kq.mono {n1 n2 m : Nat} {wx wy : World} (h : Kq n1 n2 wx wy) (Z : n2 <= m) : Kq n1 m wx wy := ⟨fun b r => h.1 (Nat.le_trans Z b) r, h.2⟩
theorem Kq.gb {n1 n2 g : Nat} {wx wy : World} (h : wx.grownBy wy (some g)) (Z : n1 <= g) (Y : g < n2) : Kq n1 n2 wx wy :=
 ⟨fun b r => World.ownsRow.kept r h (.inr fun e => by have := (r.lt g e).1; omega), fun w0 e b => b.grown h b.size (fun j hj => by cases hj; omega)⟩
def SlipR (w0 w : World) (n2 g3 g4 g6 g7 : Nat) (P : List PtQ) (vp : Value) (wx : World) : Prop :=
 ∃ (vt vb vu vs : Value) (T' : List Tri) (b U : List ByteArray) (S : List (List ByteArray)), BoxN wx g3 41 [vp, vt] /\ BoxN wx g4 45 [vb, vu, vs] /\ BoxN wx g6 41 [.slice none 0 0, .slice none 0 0] /\ BoxN wx g7 45 [.slice none 0 0, .slice none 0 0, .slice none 0 0] /\
  (∀ wy, Kq w0.heap.size n2 wx wy -> DepT wy vp vt vb vu vs P T' 40 b U S) /\ (∀ u ∈ U, u.size < 1000000000) /\ Below w.heap.size w wx
theorem rnl (w : World) : RdT w (.slice none 0 0) [] := RdC.nil0 _ _
theorem rsp {w : World} {B n : Nat} {v : Value} {F : List ByteArray} {t : ByteArray} (h : w.ownsRow B 55 1 v n ([] ++ (F.map fun x => Value.string x).tail ++ [.string t])) (Y : F.length = n) (X : 0 < n) : RdS w v (swapT F t) := by
 have Z := RdC.of_owns h;unfold RdS swapT;rw [List.length_append, List.length_tail, List.length_singleton, List.map_append, List.map_tail, Y, show n - 1 + 1 = n by omega];rw [List.nil_append] at Z;exact Z
def lenC : Option Value -> Nat
 | some (.slice _ n _) => n
 | _ => 0
end Go.Proofs.YtmcbeajdloaliaaGreatDoor
