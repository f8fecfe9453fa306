import Derived.Test.YtlodicfimpgibaaGreatDoorZS45
/- A drawn region in which the world only grows klippelaw28.known The walks over klipperef05.Area, klippelaw13.corners, klippelaw13.On. The walks over klipperef05.Turn, RightPoint, klipperef09.Where. The walk over klippelaw13.At. The walk over klippelaw12.Place, by 4. Plain facts for the places of a plan's deposit klippelaw28.unit. A plan's deposit is right What a plan's Make gives to the laws of a deposit. -/
set_option maxHeartbeats 8000000
set_option maxRecDepth 100000
namespace Go.Proofs.YtlodicfimpgibaaGreatDoor
open Go Go.RowKit Go.Lib Go.Shelf
theorem wof {ops : Array Oper} {o ok : Oper} {a : Act} {k d : Nat} {b : Bool} (X : o.guard = some (k, b)) (V : ops[k]? = some ok) (Y : ok.dst = some d) (Z : a.eval (.tmp d) = .bool b) : Region.wanted o (yielded ops a.tmps) = true := by
 have h : a.tmps[d]? = some (.bool b) := by
  replace Z : a.tmps.getD d undef = .bool b := Z;rw [Array.getD_eq_getD_getElem?] at Z;cases hc : a.tmps[d]? with
  | none => rw [hc] at Z; cases Z
  | some v => rw [hc] at Z; exact congrArg some Z
 cases b <;> simp [Region.wanted, yielded, X, V, Y, h]
theorem wd0 {n : Nat} {P : Program} {Q : Exit -> Act -> World -> Prop} {o : Oper} {a : Act} {w w' : World} {K : Act -> World -> Prop} {v : Value} (Y : ∀ c, o.op ≠ .defer c) (X : (execOp a.eval o).run P w = .ok (.value v) w') (Z : K (a.put o.dst v) w') : o.wpIn Fence.wide n P a w K Q := by
 refine ⟨fun _ _ => trivial, ?_⟩;rw [Oper.semAt_eq _ _ _ Y, X]; exact Z
section
variable {P : Program} {Q : Exit -> Act -> World -> Prop}
structure Mono (ops : Array Oper) (V : Nat -> World -> Value -> Prop) (W : World) (a0 : Act) (listed : Array Bool) (a : Act) (X : World) : Prop where
 below : Below W.heap.size W X
 has : ∀ j oj d, ops[j]? = some oj -> oj.dst = some d -> listed.getD j false = true -> V j X (a.eval (.tmp d))
 old : ∀ s, (∀ (j : Nat) (oj : Oper), ops[j]? = some oj -> oj.dst ≠ some s) -> a.eval (.tmp s) = a0.eval (.tmp s)
theorem wrm {id : Nat} {l : List Oper} {a : Act} {w : World} (V : Nat -> World -> Value -> Prop) (B : ∀ i X X' v, V i X v -> Below X.heap.size X X' -> V i X' v) (A : P.follows .mixedOrders = true) (H : tidyB l.toArray a.tmps.size = true)
 (S : ∀ Z Y X i o, l.toArray[i]? = some o -> (∀ e ∈ o.after, Region.binds .any e = true -> Z.getD e.on false = true) -> Mono l.toArray V w a Z Y X ->
   Region.wanted o (yielded l.toArray Y.tmps) = true /\ o.wpIn Fence.wide 1 P Y X (fun a'' X' => ∃ v, Below X.heap.size X X' /\ (∀ d, o.dst = some d -> V i X' v) /\ a'' = Y.put o.dst v) Q)
 (N : ∀ Z Y X, (∀ i, i < l.toArray.size -> Z.getD i false = true) -> Mono l.toArray V w a Z Y X -> Y.tmps.size = a.tmps.size -> Y.defers = a.defers -> Q .normal Y X) :
 (Code.region id l.toArray true).wp P Q a w := by
 refine (wpIn_wide (n := 1)).1 ?_;refine wIr (fun _ _ => True) (fun Z Y X => Mono l.toArray V w a Z Y X) A H ⟨bdN w 1, fun j oj d hj _ J => ?_, fun _ _ => rfl⟩ ?_ ?_
 ·simp [Array.getD_eq_getD_getElem?] at J
  have M := (Array.getElem?_eq_some_iff.1 hj).1;simp at M;simp [M] at J
 ·intro Z Y X i o L J O K U
  obtain ⟨D, C⟩ := S Z Y X i o L O U;refine ⟨D, Oper.wpIn_mono (fun a'' X' h => ?_) C⟩;obtain ⟨v, E, z, rfl⟩ := h;refine ⟨v, trivial, rfl, (zbt U.below E), fun j oj d hj hd hlj => ?_, fun s hs => ?_⟩
  ·by_cases hji : i = j
   ·subst hji
    rw [L] at hj;cases hj;rw [hd, eps (by rw [K.tsize]; exact tdt H L hd)];exact z d hd
   ·rw [ga0 _ _ _ hji] at hlj
    have I : o.dst ≠ some d := fun e => tat H L hj e hd hji rfl;have G := B j X X' _ (U.has j oj d hj hd hlj) E;cases hod : o.dst with
    | none => exact G
    | some d' =>
      rw [epo (fun e => I (by rw [hod, e]))];exact G
  ·cases hod : o.dst with
   | none => exact U.old s hs
   | some d' => rw [epo (fun e => hs i o L (by rw [hod, e]))]; exact U.old s hs
 ·intro Z Y X R K U
  exact N Z Y X R U K.tsize K.defers
end
end Go.Proofs.YtlodicfimpgibaaGreatDoor
namespace Go.Proofs.YtlodicfimpgibaaGreatDoor
open Go.RowKit Go.Lib Go.Shelf
theorem k28_rs : RS 0 = ⟨#[48]⟩ /\ RS 1 = ⟨#[49]⟩ /\ RS 2 = ⟨#[50]⟩ /\ RS 3 = ⟨#[51]⟩ /\ RS 5 = ⟨#[53]⟩ /\ RS 6 = ⟨#[54]⟩ /\ RS 4 = ⟨#[52]⟩ /\ RS 48 = ⟨#[52, 56]⟩ := by decide +kernel
theorem kc0 {w : World} {vp vt vf : Value} {c : Rat} (S : RdP w vp (strP pP28)) (R : RdT w vt tT28) (V : RdQ w vf [c, c, c, c]) (X : c = 0 \/ c = 2 \/ c = 5) (U : Good w) :
 Calls Tryz.prog 14 #[.agg #[vp, vt], vf, .agg #[.string ⟨#[49]⟩, .string ⟨#[49]⟩]] w (Ret (fun r _ => r = .tuple #[.string (RS c), .int .i64 0]) w) := by
 obtain ⟨v1, v2, Q, O, N, M⟩ := kd0;have key : sa0 pP28 [c, c, c, c] (0, 1, 2) = (0, 0) /\ onQ pP28 [c, c, c, c] (0, 1, 2) (1, 1) = c := by
  rcases X with rfl | rfl | rfl
  ·exact ⟨v1, O⟩
  ·exact ⟨v2, N⟩
  ·exact ⟨Q, M⟩
 have Z : Sz 2 c := by
  rcases X with rfl | rfl | rfl
  ·exact sz2n 0 (by omega)
  ·exact sz2n 2 (by omega)
  ·exact sz2n 5 (by omega)
 have Y : Sz 200 (1 : Rat) := (sz1 1 (by omega)).mono (by omega);have h := vin w vp vt vf pP28 tT28 2 [c, c, c, c] ⟨S, R, k2m, V, fun q hq => by simp at hq; subst hq; exact Z, rfl⟩ (1, 1) ⟨Y, Y⟩ 0 [1] k2l (by decide) (by
  show SzP 200 (sa0 pP28 [c, c, c, c] (0, 1, 2));rw [key.1]; exact ⟨Sz.zero _ (by omega), Sz.zero _ (by omega)⟩) (by
  show Sz 200 (onQ pP28 [c, c, c, c] (0, 1, 2) (1, 1));rw [key.2]; exact Z.mono (by omega)) U
 have e : onQ pP28 [c, c, c, c] tT28[0] (1, 1) = c := key.2;rw [e] at h;rw [show RS ((1 : Rat), (1 : Rat)).1 = ⟨#[49]⟩ from k28_rs.2.1] at h;exact h
def hH28 : List Rat := [0, 2, 5]
structure K28 (w : World) (pp pt pb pu ps : Option Addr) (cp ct cb cu cs : Nat) : Prop where
 n : DepN w (.slice pp 4 cp) (.slice pt 2 ct) (.slice pb 4 cb) (.slice pu 3 cu) (.slice ps 2 cs) pP28 tT28 2 [0, 0, 0, 0] uU28 [[2, 2, 2, 2], [5, 5, 5, 5]]
theorem K28.below {w w' : World} {pp pt pb pu ps : Option Addr} {cp ct cb cu cs : Nat} (h : K28 w pp pt pb pu ps cp ct cb cu cs) (Z : Below w.heap.size w w') : K28 w' pp pt pb pu ps cp ct cb cu cs := ⟨h.n.below Z⟩
theorem fld28 (i : Nat) (h : i <= 2) : fldN [0, 0, 0, 0] [[2, 2, 2, 2], [5, 5, 5, 5]] i = [hH28[i]?.getD 0, hH28[i]?.getD 0, hH28[i]?.getD 0, hH28[i]?.getD 0] /\ (hH28[i]?.getD 0 = 0 \/ hH28[i]?.getD 0 = 2 \/ hH28[i]?.getD 0 = 5) := by
 rcases (by omega : i = 0 \/ i = 1 \/ i = 2) with rfl | rfl | rfl <;> decide +kernel
theorem K28.surf {w : World} {pp pt pb pu ps : Option Addr} {cp ct cb cu cs : Nat} (h : K28 w pp pt pb pu ps cp ct cb cu cs) : ∃ (U : Nat -> Option Addr) (V : Nat -> Nat),
 (∀ i : Nat, i < 3 -> ∀ w', Below w.heap.size w w' -> Calls Tryz.prog 46 #[.agg #[.slice pb 4 cb, .slice pu 3 cu, .slice ps 2 cs], .int .i64 (i : Int)] w' (Ret (fun r _ => r = .slice (U i) 4 (V i)) w')) /\
 (∀ i : Nat, i < 3 -> ∀ w', Below w.heap.size w w' -> Good w' -> Calls Tryz.prog 14 #[.agg #[.slice pp 4 cp, .slice pt 2 ct], .slice (U i) 4 (V i), .agg #[.string ⟨#[49]⟩, .string ⟨#[49]⟩]] w' (Ret (fun r _ => r = .tuple #[.string (RS (hH28[i]?.getD 0)), .int .i64 0]) w')) := by
 have S : ∀ i : Nat, ∃ Z : Option Addr × Nat, i < 3 -> RdQ w (.slice Z.1 4 Z.2) (fldN [0, 0, 0, 0] [[2, 2, 2, 2], [5, 5, 5, 5]] i) /\ ∀ w', Below w.heap.size w w' -> Calls Tryz.prog 46 #[.agg #[.slice pb 4 cb, .slice pu 3 cu, .slice ps 2 cs], .int .i64 (i : Int)] w' (Ret (fun r _ => r = .slice Z.1 4 Z.2) w') := fun i => by
  by_cases hi : i < 3
  ·obtain ⟨p, c, X, O⟩ := h.n.surface i (by show i <= 2; omega)
   exact ⟨(p, c), fun _ => ⟨X, O⟩⟩
  ·exact ⟨(none, 0), fun h' => absurd h' hi⟩
 obtain ⟨Z, Y⟩ : ∃ Z : Nat -> Option Addr × Nat, ∀ i : Nat, i < 3 -> RdQ w (.slice (Z i).1 4 (Z i).2) (fldN [0, 0, 0, 0] [[2, 2, 2, 2], [5, 5, 5, 5]] i) /\ ∀ w', Below w.heap.size w w' -> Calls Tryz.prog 46 #[.agg #[.slice pb 4 cb, .slice pu 3 cu, .slice ps 2 cs], .int .i64 (i : Int)] w' (Ret (fun r _ => r = .slice (Z i).1 4 (Z i).2) w') := ⟨fun i => (S i).choose, fun i => (S i).choose_spec⟩;refine ⟨fun i => (Z i).1, fun i => (Z i).2, fun i hi => (Y i hi).2, fun i hi w' hb hg => ?_⟩;have X := (Y i hi).1;obtain ⟨R, Q⟩ := fld28 i (by omega);rw [R] at X;exact kc0 (RdC.below h.n.p hb) (RdC.below h.n.t hb) (RdC.below X hb) Q hg
theorem k2p {w : World} {pp pt pb pu ps : Option Addr} {cp ct cb cu cs : Nat} (h : K28 w pp pt pb pu ps cp ct cb cu cs) (z : Rat) (V : Sz 200 z) (X : Good w) :
 Calls Tryz.prog 30 #[.agg #[.slice pp 4 cp, .slice pt 2 ct], .agg #[.slice pb 4 cb, .slice pu 3 cu, .slice ps 2 cs], .agg #[.string ⟨#[49]⟩, .string ⟨#[49]⟩, .string (RS z)]] w (Ret (fun r _ => r = .int .i64 0) w) := by
 have Z : Sz 200 (1 : Rat) := (sz1 1 (by omega)).mono (by omega);have Y := cPo w _ _ _ _ _ pP28 tT28 2 _ _ _ h.n (1, 1) z ⟨Z, Z⟩ V X;rw [show RS ((1 : Rat), (1 : Rat)).1 = ⟨#[49]⟩ from k28_rs.2.1, if_neg (by rw [k2l]; simp)] at Y;exact Y
theorem k2A {w : World} {pp pt pb pu ps : Option Addr} {cp ct cb cu cs : Nat} (h : K28 w pp pt pb pu ps cp ct cb cu cs) (R : Good w) :
 Calls Tryz.prog 13 #[.agg #[.slice pp 4 cp, .slice pt 2 ct], .agg #[.slice pb 4 cb, .slice pu 3 cu, .slice ps 2 cs], .agg #[.string ⟨#[49]⟩, .string ⟨#[49]⟩, .string ⟨#[50]⟩]] w (Ret (fun r _ => r = .tuple #[.string ⟨#[98]⟩, .bool false, .int .i64 0]) w) := by
 obtain ⟨V, X, U, S⟩ := h.surf;have Y := at_ok w R pp pt pb pu ps 4 2 2 cp ct cb cu cs ⟨#[49]⟩ ⟨#[49]⟩ 2 uU28 hH28 rfl (by decide) (by decide +kernel) h.n.unit 2 (by omega) (by omega) (by
  intro q hq;have Z : q ∈ ([0, 2, 5] : List Rat) := hq;simp only [List.mem_cons, List.not_mem_nil, or_false] at Z;rcases Z with rfl | rfl | rfl
  ·exact sz2n 0 (by omega)
  ·exact sz2n 2 (by omega)
  ·exact sz2n 5 (by omega)) (sz2n 2 (by omega)) V X (hid fun w' hb hg' => k2p (h.below hb) 2 ((sz2n 2 (by omega)).mono (by omega)) hg') (hid U) (hid S)
 rw [show uAt uU28 hH28 2 = ⟨#[98]⟩ from k28_at.1, show decide (cHH hH28 2 = 0) = false from k2c, k28_rs.2.2.1] at Y;exact Y
theorem k2L {w : World} {pp pt pb pu ps : Option Addr} {cp ct cb cu cs : Nat} (h : K28 w pp pt pb pu ps cp ct cb cu cs) (R : Good w) :
 Calls Tryz.prog 12 #[.agg #[.slice pp 4 cp, .slice pt 2 ct], .agg #[.slice pb 4 cb, .slice pu 3 cu, .slice ps 2 cs], .agg #[.string ⟨#[49]⟩, .string ⟨#[49]⟩, .string ⟨#[54]⟩]] w (Ret (fun r w' => ∃ v, r = .tuple #[v, .int .i64 0] /\ w'.ownsRow w.heap.size 66 3 v 3 (cIv [⟨⟨#[99]⟩, 0, 1⟩, ⟨⟨#[98]⟩, 1, 4⟩, ⟨⟨#[97]⟩, 4, 6⟩])) w) := by
 obtain ⟨V, X, U, S⟩ := h.surf;have Y := ln0 w R pp pt pb pu ps 4 2 2 cp ct cb cu cs ⟨#[49]⟩ ⟨#[49]⟩ 6 uU28 hH28 rfl (by decide) (by decide) h.n.unit 2 (by omega) (by omega) (by
  intro q hq;have Z : q ∈ ([0, 2, 5] : List Rat) := hq;simp only [List.mem_cons, List.not_mem_nil, or_false] at Z;rcases Z with rfl | rfl | rfl
  ·exact sz2n 0 (by omega)
  ·exact sz2n 2 (by omega)
  ·exact sz2n 5 (by omega)) (sz2n 6 (by omega)) V X (hid fun w' hb hg' => k2p (h.below hb) 6 ((sz2n 6 (by omega)).mono (by omega)) hg') (hid U) (hid S)
 rw [show logL uU28 hH28 6 = _ from kf0, k28_rs.2.2.2.2.2.1] at Y;exact Y
theorem k2V {w : World} {pp pt pb pu ps : Option Addr} {cp ct cb cu cs : Nat} (h : K28 w pp pt pb pu ps cp ct cb cu cs) (X : Good w) :
 Calls Tryz.prog 21 #[.agg #[.slice pp 4 cp, .slice pt 2 ct], .agg #[.slice pb 4 cb, .slice pu 3 cu, .slice ps 2 cs], .string ⟨#[98]⟩] w (Ret (fun r _ => r = .tuple #[.string ⟨#[52, 56]⟩, .int .i64 0]) w) := by
 have Z := sp0 w _ _ _ _ _ pP28 tT28 2 _ _ _ h.n ⟨#[98]⟩ 1 (by decide) (by decide +kernel) 48 (fun w' vf vg hf hg2 hgw => by
  have Y := fh0 w' _ _ vf vg pP28 tT28 2 _ _ hf hg2 (by omega) (by decide) (by
   show Sz 200 (volTo pP28 tT28 (subQ [5, 5, 5, 5] [2, 2, 2, 2]) 0 tT28.length);rw [k2v]; exact ⟨by decide +kernel, by decide +kernel⟩) hgw
  rw [show volTo pP28 tT28 (subQ ([[2, 2, 2, 2], [5, 5, 5, 5]] : List (List Rat))[1] (fldN [0, 0, 0, 0] [[2, 2, 2, 2], [5, 5, 5, 5]] 1)) 0 tT28.length = 48 from k2v] at Y;exact Y) X
 rw [k28_rs.2.2.2.2.2.2.2] at Z;exact Z
theorem k2I {w : World} {pp pt pb pu ps px : Option Addr} {cp ct cb cu cs cx : Nat} (h : K28 w pp pt pb pu ps cp ct cb cu cs) (hx : RdQ w (.slice px 4 cx) [1, 1, 1, 1]) (N : Good w) :
 Calls Tryz.prog 22 #[.agg #[.slice pp 4 cp, .slice pt 2 ct], .agg #[.slice pb 4 cb, .slice pu 3 cu, .slice ps 2 cs], .agg #[.string ⟨#[100]⟩, .int .i64 1, .slice px 4 cx]] w (Ret (fun r w' => ∃ v1 v2 Z, r = .tuple #[.agg #[v1, v2, Z], .int .i64 0] /\ DepR w' v1 v2 Z (([0, 0, 0, 0] : List Rat).map RS) [⟨#[97]⟩, ⟨#[100]⟩, ⟨#[98]⟩, ⟨#[99]⟩] (([[2, 2, 2, 2], [3, 3, 3, 3], [6, 6, 6, 6]] : List (List Rat)).map fun F => F.map RS)) w) := by
 have Y : ∀ q ∈ ([1, 1, 1, 1] : List Rat), Sz 2 q := fun q hq => by simp at hq; subst hq; exact sz2n 1 (by omega)
 have R : errF 4 (([1, 1, 1, 1] : List Rat).map RS) = 0 := eFo rfl (fun q hq => (Y q hq).mono (by omega));have V : (([1, 1, 1, 1] : List Rat).map RS).map numT = [1, 1, 1, 1] := nTm _;have Q : unitE pP28.length uU28 ⟨#[100]⟩ 1 (([1, 1, 1, 1] : List Rat).map RS) = 0 := by
  unfold unitE;rw [if_neg (by decide +kernel), if_neg (by decide +kernel), if_neg (by decide), if_neg (by rw [show pP28.length = 4 from rfl, R]; simp), V, if_neg (by decide +kernel), if_neg (by decide)]
 have S := sn0 w _ _ _ _ _ pP28 tT28 2 _ _ _ h.n (by omega) ⟨#[100]⟩ 1 (.slice px 4 cx) (([1, 1, 1, 1] : List Rat).map RS) hx.toS ⟨sm0 (by omega) (by omega) Y, by simp⟩ (fun _ => ⟨[1, 1, 1, 1], rfl, rfl, Y⟩) N;refine S.mono ?_;rintro e w' ⟨v, rfl, X, O⟩;rcases X with ⟨X, _⟩ | ⟨_, v1, v2, Z, rfl, M, L, U⟩
 ·exact absurd Q X
 ·rw [V, show (1 : Int).toNat = 1 from rfl, k2i] at U
  exact ⟨_, rfl, ⟨v1, v2, Z, rfl, ⟨M.toS, L, U.toTx⟩⟩, O⟩
theorem m0a (a b c d : Rat) (k : Nat) (R : 0 < k) (K : k <= 4000) (X : Sz k a) (V : Sz k b) (U : Sz k c) (S : Sz k d) (w : World) (Z : Good w) :
 Calls Tryz.prog 164 #[.string (RS a), .string (RS b), .string (RS c), .string (RS d)] w (Ret (fun r _ => r = .string (RS (a * b - c * d))) w) := by
 have N := hid fun w Z => mQa a b k R (by omega) X V w Z
 have M := hid fun w Z => mQa c d k R (by omega) U S w Z
 have Q : Sz (2 * k) (a * b) := (X.mul V).mono (by omega);have O : Sz (2 * k) (c * d) := (U.mul S).mono (by omega);have L := hid fun w Z => sQa (a * b) (c * d) (2 * k) (by omega) (by omega) Q O w Z
 generalize a * b = x at *;generalize c * d = y at *;clear X V U S Q O;go_enter Tryz.func164, Tryz.ntmps164;go_wp2_with fail;refine zR (N.out w Z) fun w1 hb1 => ?_;go_wp2_with fail;refine zR (M.out w1 (Z.below hb1)) fun w2 hb2 => ?_;have Y := zbt hb1 hb2;go_wp2_with fail;refine zR (L.out w2 (Z.below Y)) fun w3 hb3 => ?_;go_wp2_with fail;go_ret;exact ⟨_, rfl, rfl, (zbt Y hb3)⟩
theorem a0a (a b c : PtQ) (k : Nat) (A : 0 < k) (d : k <= 1000) (O : SzP k a) (J : SzP k b) (H : SzP k c) (w : World) (S : Good w) :
 Calls Tryz.prog 132 #[VP a, VP b, VP c] w (Ret (fun r _ => r = .string (RS (areaQ a b c))) w) := by
 obtain ⟨W, m, ⟨a0, t⟩, ⟨s, b1⟩, ⟨c0, c1⟩, I, h0⟩ := tbs w a b c 49;have y := S.below I;obtain ⟨R, Q⟩ := a;obtain ⟨M, N⟩ := b;obtain ⟨L, K⟩ := c;unfold VP areaQ;dsimp only [SzP] at *;have f := hid m;have l := hid fun w S => sQa M R k A (by omega) J.1 O.1 w S
 have j := hid fun w S => sQa K Q k A (by omega) H.2 O.2 w S
 have i := hid fun w S => sQa N Q k A (by omega) J.2 O.2 w S
 have h := hid fun w S => sQa L R k A (by omega) H.1 O.1 w S
 have q : Sz (2 * k + 1) (M - R) := (J.1.sub O.1).mono (by omega);have p : Sz (2 * k + 1) (K - Q) := (H.2.sub O.2).mono (by omega);have o : Sz (2 * k + 1) (N - Q) := (J.2.sub O.2).mono (by omega);have n : Sz (2 * k + 1) (L - R) := (H.1.sub O.1).mono (by omega);have g := hid fun w S => m0a (M - R) (K - Q) (N - Q) (L - R) (2 * k + 1) (by omega) (by omega) q p o n w S
 generalize M - R = x1 at *;generalize K - Q = x2 at *;generalize N - Q = x3 at *;generalize L - R = x4 at *;clear m O J H q p o n;go_enter Tryz.func132, Tryz.ntmps132;have G : Good W.drew := y.drewN 1;go_upto_region 1 with fail;rw [<- f.out];go_region_held3 (fun w' => w'.cell? ⟨w.heap.size, 0, none⟩ = some (.string (RS R)) /\ w'.cell? ⟨w.heap.size, 1, none⟩ = some (.string (RS Q)) /\ w'.cell? ⟨w.heap.size + 1, 0, none⟩ = some (.string (RS M)) /\ w'.cell? ⟨w.heap.size + 1, 1, none⟩ = some (.string (RS N)) /\ w'.cell? ⟨w.heap.size + 2, 0, none⟩ = some (.string (RS L)) /\ w'.cell? ⟨w.heap.size + 2, 1, none⟩ = some (.string (RS K)))
  (first | exact ⟨a0, t, s, b1, c0, c1⟩ | exact ⟨p_1_0, p_1_1, p_1_2, p_1_3, p_1_4, p_1_5⟩ | exact ⟨p_2_0, p_2_1, p_2_2, p_2_3, p_2_4, p_2_5⟩ | exact ⟨p_3_0, p_3_1, p_3_2, p_3_3, p_3_4, p_3_5⟩ | exact ⟨p_4_0, p_4_1, p_4_2, p_4_3, p_4_4, p_4_5⟩ | exact ⟨p_5_0, p_5_1, p_5_2, p_5_3, p_5_4, p_5_5⟩)
  (first
  | (go_at_call 164; refine (g.out _ B).mono ?_; rintro e v ⟨_, rfl, rfl, U⟩
     have p_5_0 := zct U p_4_0;have p_5_1 := zct U p_4_1;have p_5_2 := zct U p_4_2;have p_5_3 := zct U p_4_3;have p_5_4 := zct U p_4_4;have p_5_5 := zct U p_4_5;have h6 := U.size;have h1 := B.below U)
  | (go_at_call 165; refine (h.out _ C).mono ?_; rintro e h9 ⟨_, rfl, rfl, V⟩
     have p_4_0 := zct V p_3_0;have p_4_1 := zct V p_3_1;have p_4_2 := zct V p_3_2;have p_4_3 := zct V p_3_3;have p_4_4 := zct V p_3_4;have p_4_5 := zct V p_3_5;have h5 := V.size;have B := C.below V)
  | (go_at_call 165; refine (i.out _ D).mono ?_; rintro e h8 ⟨_, rfl, rfl, X⟩
     have p_3_0 := zct X p_2_0;have p_3_1 := zct X p_2_1;have p_3_2 := zct X p_2_2;have p_3_3 := zct X p_2_3;have p_3_4 := zct X p_2_4;have p_3_5 := zct X p_2_5;have h4 := X.size;have C := D.below X)
  | (go_at_call 165; refine (j.out _ E).mono ?_; rintro e h7 ⟨_, rfl, rfl, Y⟩
     have p_2_0 := zct Y p_1_0;have p_2_1 := zct Y p_1_1;have p_2_2 := zct Y p_1_2;have p_2_3 := zct Y p_1_3;have p_2_4 := zct Y p_1_4;have p_2_5 := zct Y p_1_5;have h3 := Y.size;have D := E.below Y)
  | (go_at_call 165; refine (l.out _ G).mono ?_; rintro e x ⟨_, rfl, rfl, Z⟩
     have p_1_0 := zct Z a0;have p_1_1 := zct Z t;have p_1_2 := zct Z s;have p_1_3 := zct Z b1;have p_1_4 := zct Z c0;have p_1_5 := zct Z c1;have h2 : W.heap.size <= x.heap.size := Z.size;have E := G.below Z))
 have pB : Below W.heap.size W v := zbt (zbt (zbt (zbt (zbt (bdN W 1) Z) Y) X) V) U;have z := zbt I pB;go_wp2_with fail;go_ret;exact ⟨_, rfl, rfl, z⟩
theorem l1a (w : World) (vp vt : Value) (P : List PtQ) (T : List Tri) (k : Nat) (hp : RdP w vp (strP P)) (ht : RdT w vt T) (hm : MeshIn P T k) (t : Nat) (o : t < T.length) (y : Tri) (D : y = T[t]) (_hg : Good w) :
 Calls Tryz.prog 88 #[.agg #[vp, vt], .int .i64 (t : Int)] w (Ret (fun r w' => RdP w' r (strP [ptI P y.1, ptI P y.2.1, ptI P y.2.2])) w) := by
 obtain ⟨pp, n, rfl, h2, h9, s⟩ := hp.open;obtain ⟨pt, ct, rfl, ha, hc, E⟩ := ht.open;rw [sPl] at h2 ⊢;obtain ⟨bt, ot, rfl, M, N⟩ := E (List.ne_nil_of_length_pos (by omega));obtain ⟨m, l, j⟩ := N t o;rw [<- D] at m l j;have U := hm.idx y (by rw [D]; exact List.getElem_mem o);obtain ⟨C, B, A⟩ := y;dsimp only at U m l j ⊢;obtain ⟨d, c⟩ := U C (by simp [idxOf]);obtain ⟨b, a⟩ := U B (by simp [idxOf]);obtain ⟨h0, h1⟩ := U A (by simp [idxOf]);obtain ⟨R, rfl⟩ : ∃ q : Nat, C = (q : Int) := ⟨C.toNat, by omega⟩;obtain ⟨Q, rfl⟩ : ∃ q : Nat, B = (q : Int) := ⟨B.toNat, by omega⟩;obtain ⟨O, rfl⟩ : ∃ q : Nat, A = (q : Int) := ⟨A.toNat, by omega⟩;have g0 : R < P.length := by omega
 have g1 : Q < P.length := by omega
 have g2 : O < P.length := by omega
 obtain ⟨Y, op, rfl, X, S⟩ := s (by intro e; have h := sPl P; rw [e] at h; simp at h; omega);rw [pIn P R g0, pIn P Q g1, pIn P O g2];obtain ⟨L, K⟩ := S R (by rw [sPl]; exact g0);obtain ⟨J, I⟩ := S Q (by rw [sPl]; exact g1);obtain ⟨H, G⟩ := S O (by rw [sPl]; exact g2);rw [sPg P R g0] at L K;rw [sPg P Q g1] at J I;rw [sPg P O g2] at H G;dsimp only at L K J I H G;have f0 : (R : Int) < (P.length : Int) := by omega
 have f1 : (Q : Int) < (P.length : Int) := by omega
 have f2 : (O : Int) < (P.length : Int) := by omega
 generalize P[R] = p0 at *;generalize P[Q] = p1 at *;generalize P[O] = p2 at *;have hd : (t : Int) < (T.length : Int) := by omega
 have he : IntKind.i64.wrap (t : Int) = (t : Int) := IntWalk.i64_in _ (by have := hm.tlen; omega);clear D U s S hp hm ht E N d c b a h0 h1;go_enter Tryz.func88, Tryz.ntmps88;go_upto_region 1 with fail;obtain ⟨W, f⟩ := zex (w.alloc (.cells #[.slice (some ⟨Y, op, none⟩) P.length n, .slice (some ⟨bt, ot, none⟩) T.length ct] 38));have i : Below w.heap.size w W := by rw [f]; exact zal _ _
 have b1 : BoxN W w.heap.size 38 [.slice (some ⟨Y, op, none⟩) P.length n, .slice (some ⟨bt, ot, none⟩) T.length ct] := by rw [f]; exact BoxN.new _ _ _ _ rfl
 rw [<- f];clear f;obtain ⟨m0, m1⟩ := zk2 b1;have t0 := zcq i M m;have t1 := zcq i M l;have t2 := zcq i M j;go_upto_region 2 with fail;obtain ⟨V, g⟩ := zex (W.alloc (.cells #[.int .i64 (R : Int), .int .i64 (Q : Int), .int .i64 (O : Int)] 144));have v : Below W.heap.size W V := by rw [g]; exact zal _ _
 have bT : BoxN V W.heap.size 144 [.int .i64 (R : Int), .int .i64 (Q : Int), .int .i64 (O : Int)] := by rw [g]; exact BoxN.new _ _ _ _ rfl
 rw [<- g];clear g m0 m1 t0 t1 t2;have Z := zbt i v;have b2 := b1.bl v;have m0 := b2.cell 0 rfl;obtain ⟨t0, t1, t2⟩ := zk3 bT;have h3 := zcq Z X L;have h4 := zcq Z X K;have h5 := zcq Z X J;have h6 := zcq Z X I;have h7 := zcq Z X H;have h8 := zcq Z X G;have lb := b2.lt;have lt := bT.lt;have z : Y < V.heap.size := Nat.lt_of_lt_of_le X Z.size;have HS : Hid (∀ w', Below V.heap.size V w' -> w'.cell? ⟨w.heap.size, 0, none⟩ = some (.slice (some ⟨Y, op, none⟩) P.length n) /\ w'.cell? ⟨W.heap.size, 0, none⟩ = some (.int .i64 (R : Int)) /\ w'.cell? ⟨W.heap.size, 1, none⟩ = some (.int .i64 (Q : Int)) /\ w'.cell? ⟨W.heap.size, 2, none⟩ = some (.int .i64 (O : Int)) /\ w'.cell? ⟨Y, op + R * 2, none⟩ = some (.string (RS p0.1)) /\ w'.cell? ⟨Y, op + R * 2 + 1, none⟩ = some (.string (RS p0.2)) /\ w'.cell? ⟨Y, op + Q * 2, none⟩ = some (.string (RS p1.1)) /\ w'.cell? ⟨Y, op + Q * 2 + 1, none⟩ = some (.string (RS p1.2)) /\ w'.cell? ⟨Y, op + O * 2, none⟩ = some (.string (RS p2.1)) /\ w'.cell? ⟨Y, op + O * 2 + 1, none⟩ = some (.string (RS p2.2))) := fun w' hb => ⟨(zcq hb lb m0 :), (zcq hb lt t0 :), (zcq hb lt t1 :), (zcq hb lt t2 :), (zcq hb z h3 :), (zcq hb z h4 :), (zcq hb z h5 :), (zcq hb z h6 :), (zcq hb z h7 :), (zcq hb z h8 :)⟩;have p : Below V.heap.size V V.drew := bdN V 1;clear L K J I H G m l j b1 b2 bT M X;go_region_held3 (fun w' => w'.cell? ⟨w.heap.size, 0, none⟩ = some (.slice (some ⟨Y, op, none⟩) P.length n) /\ w'.cell? ⟨W.heap.size, 0, none⟩ = some (.int .i64 (R : Int)) /\ w'.cell? ⟨W.heap.size, 1, none⟩ = some (.int .i64 (Q : Int)) /\ w'.cell? ⟨W.heap.size, 2, none⟩ = some (.int .i64 (O : Int)) /\ w'.cell? ⟨Y, op + R * 2, none⟩ = some (.string (RS p0.1)) /\ w'.cell? ⟨Y, op + R * 2 + 1, none⟩ = some (.string (RS p0.2)) /\ w'.cell? ⟨Y, op + Q * 2, none⟩ = some (.string (RS p1.1)) /\ w'.cell? ⟨Y, op + Q * 2 + 1, none⟩ = some (.string (RS p1.2)) /\ w'.cell? ⟨Y, op + O * 2, none⟩ = some (.string (RS p2.1)) /\ w'.cell? ⟨Y, op + O * 2 + 1, none⟩ = some (.string (RS p2.2)))
  ((refine HS.out _ ?_; repeat (first | with_reducible exact p | with_reducible exact Below.refl _ _ | with_reducible refine Below.drew ?_ | ((with_reducible refine Below.setCell ?_ ?_ _); rotate_left; (first | omega | (simp <;> omega))) | ((with_reducible refine Below.alloc ?_ ?_ _); rotate_left; (first | exact Nat.le_refl _ | omega | (simp <;> omega))))))
  (first | fail)
 all_goals
  go_wp2_with fail;have x : Below w.heap.size w V.drew := Z.trans ((bdN V 1).mono Z.size);go_ret;first
   | exact ⟨_, rfl, RdC.fresh 2 _ _ _ 3 rfl (by omega) _ rfl _ rfl, x.alloc x.size _⟩
   | exact ⟨_, rfl, (RdC.fresh 2 _ _ _ 3 rfl (by omega) _ rfl _ rfl).below (bdN _ 1), (Z.alloc Z.size _).trans ((bdN _ 1).mono (Z.alloc Z.size _).size)⟩
theorem pFs {P : List PtQ} {m : Nat} (h : ∀ p ∈ P, SzP m p) (Y : 0 < m) (z : Int) : SzP m (ptI P z) := by
 unfold ptI;rcases Nat.lt_or_ge z.toNat P.length with Z | Z
 ·rw [List.getElem?_eq_getElem Z]; exact h _ (List.getElem_mem Z)
 ·rw [List.getElem?_eq_none Z]; exact ⟨Sz.zero _ Y, Sz.zero _ Y⟩
def lonA (P : List PtQ) (tr : Tri) : Nat -> PtQ | 0 => ptI P tr.1 | 1 => ptI P tr.2.1 | _ => ptI P tr.2.2
def lonF (F : List Rat) (tr : Tri) : Nat -> Rat | 0 => hI F tr.1 | 1 => hI F tr.2.1 | _ => hI F tr.2.2
def lonTo (P : List PtQ) (F : List Rat) (tr : Tri) (p : PtQ) : Nat -> Rat
 | 0 => 0
 | i + 1 => lonTo P F tr p i + areaQ p (lonA P tr ((i + 1) % 3)) (lonA P tr ((i + 2) % 3)) * lonF F tr i
theorem lTt (P : List PtQ) (F : List Rat) (Z : Tri) (p : PtQ) : lonT P F Z p = lonTo P F Z p 3 / areaQ (ptI P Z.1) (ptI P Z.2.1) (ptI P Z.2.2) := rfl
theorem li0 (w : World) (vp vt vf : Value) (P : List PtQ) (T : List Tri) (k : Nat) (F : List Rat) (h : FieldIn w vp vt vf P T k F) (t : Nat) (h6 : t < T.length) (Z : Tri) (v : Z = T[t]) (p : PtQ) (m : Nat) (hm : m <= 700) (hp : SzP m p) (h5 : k <= m) (U : Good w) :
 Calls Tryz.prog 89 #[.agg #[vp, vt], vf, .int .i64 (t : Int), .agg #[.string (RS p.1), .string (RS p.2)]] w (Ret (fun r _ => r = .string (RS (lonT P F Z p))) w) := by
 have x : 0 < m := by have := h.m.kpos; omega
 have E : Z ∈ T := by rw [v]; exact List.getElem_mem h6
 have S := h.m.idx Z E;have hK := h.fl;have l : areaQ (ptI P Z.1) (ptI P Z.2.1) (ptI P Z.2.2) ≠ 0 := by have := aQp h.m E; intro e; rw [e] at this; exact absurd this (by decide)
 have D : ∀ i, SzP m (lonA P Z i) := fun i => by
  have hs : ∀ p ∈ P, SzP m p := fun p hp => ⟨(h.m.sz p hp).1.mono h5, (h.m.sz p hp).2.mono h5⟩;unfold lonA; split <;> exact pFs hs x _
 have zF : ∀ i, Sz m (lonF F Z i) := fun i => by
  have hs : ∀ z : Int, Sz m (hI F z) := fun z => by
   unfold hI;rcases Nat.lt_or_ge z.toNat F.length with n | n
   ·rw [List.getElem?_eq_getElem n]; exact (h.fs _ (List.getElem_mem n)).mono h5
   ·rw [List.getElem?_eq_none n]; exact Sz.zero _ x
  unfold lonF; split <;> exact hs _
 have zS : ∀ i j, Sz (8 * m + 6) (areaQ p (lonA P Z i) (lonA P Z j)) := fun i j => (aQS hp (D i) (D j)).mono (by omega)
 have zT : ∀ i, Sz ((9 * m + 7) * i + 1) (lonTo P F Z p i) := fun i => by
  induction i with
  | zero => exact Sz.zero 1 (by omega)
  | succ i ih => exact (ih.add ((zS _ _).mul (zF i))).mono (by rw [Nat.mul_add]; omega)
 have f : Hid (∀ w', Below w.heap.size w w' -> Good w' -> Calls Tryz.prog 88 #[.agg #[vp, vt], .int .i64 (t : Int)] w' (Ret (fun r w' => RdP w' r (strP [ptI P Z.1, ptI P Z.2.1, ptI P Z.2.2])) w')) := fun w' hb U => l1a w' vp vt P T k (RdC.below h.p hb) (RdC.below h.t hb) h.m.toMeshIn t h6 Z v U;have h9 : Hid (∀ (i j : Nat) (w : World), Good w -> _) := fun i j w U => a0a p (lonA P Z i) (lonA P Z j) m x (by omega) hp (D i) (D j) w U
 have g := hid fun w U => a0a (lonA P Z 0) (lonA P Z 1) (lonA P Z 2) m x (by omega) (D 0) (D 1) (D 2) w U
 have hy : Hid (∀ (i : Nat) (w : World), Good w -> _) := fun i w U => mQa (areaQ p (lonA P Z ((i + 1) % 3)) (lonA P Z ((i + 2) % 3))) (lonF F Z i) (9 * m + 6) (by omega) (by omega) ((zS _ _).mono (by omega)) ((zF i).mono (by omega)) w U
 have hu : Hid (∀ (i : Nat), i < 3 -> ∀ (w : World), Good w -> _) := fun i hi w U => aQa (lonTo P F Z p i) (areaQ p (lonA P Z ((i + 1) % 3)) (lonA P Z ((i + 2) % 3)) * lonF F Z i) ((9 * m + 7) * 3 + 1) (by omega) (by omega) ((zT i).mono (by have := Nat.mul_le_mul_left (9 * m + 7) (show i <= 3 by omega); omega)) (((zS _ _).mul (zF i)).mono (by omega)) w U
 have hc := hid fun w U => dQa (lonTo P F Z p 3) (areaQ (lonA P Z 0) (lonA P Z 1) (lonA P Z 2)) ((9 * m + 7) * 3 + 1) (by omega) (by omega) (zT 3) ((aQS (D 0) (D 1) (D 2)).mono (by omega)) l w U
 rw [lTt];rw [show areaQ (ptI P Z.1) (ptI P Z.2.1) (ptI P Z.2.2) = areaQ (lonA P Z 0) (lonA P Z 1) (lonA P Z 2) from rfl];obtain ⟨bt, ot, ct, rfl, hJ, e0, e1, e2⟩ := h.tri t h6;have hx : Hid (∀ i : Nat, i < 3 -> ∃ (q : Nat) (M of G : Nat), q < F.length /\ vf = .slice (some ⟨M, of, none⟩) F.length G /\ M < w.heap.size /\ w.cell? ⟨bt, ot + t * 3 + i, none⟩ = some (.int .i64 (q : Int)) /\ w.cell? ⟨M, of + q, none⟩ = some (.string (RS (lonF F Z i)))) := fun i hi => by
  rw [<- v] at e0 e1 e2;have key : ∀ z : Int, 0 <= z -> z < P.length -> ∃ (q : Nat) (M of G : Nat), z = (q : Int) /\ q < F.length /\ vf = .slice (some ⟨M, of, none⟩) F.length G /\ M < w.heap.size /\ w.cell? ⟨M, of + q, none⟩ = some (.string (RS (hI F z))) := fun z h0 n => by
   obtain ⟨q, rfl⟩ : ∃ q : Nat, z = (q : Int) := ⟨z.toNat, by omega⟩;obtain ⟨M, of, G, hv, h4, ef⟩ := h.hgt q (by omega);exact ⟨q, M, of, G, rfl, by omega, hv, h4, ef⟩
  rcases (by omega : i = 0 \/ i = 1 \/ i = 2) with rfl | rfl | rfl
  ·obtain ⟨q, M, of, G, hq, x1, x2, H, o⟩ := key Z.1 (S _ (by simp [idxOf])).1 (S _ (by simp [idxOf])).2
   exact ⟨q, M, of, G, x1, x2, H, by rw [<- hq]; exact e0, o⟩
  ·obtain ⟨q, M, of, G, hq, x1, x2, H, o⟩ := key Z.2.1 (S _ (by simp [idxOf])).1 (S _ (by simp [idxOf])).2
   exact ⟨q, M, of, G, x1, x2, H, by rw [<- hq]; exact e1, o⟩
  ·obtain ⟨q, M, of, G, hq, x1, x2, H, o⟩ := key Z.2.2 (S _ (by simp [idxOf])).1 (S _ (by simp [idxOf])).2
   exact ⟨q, M, of, G, x1, x2, H, by rw [<- hq]; exact e2, o⟩
 obtain ⟨pp, cp, rfl, -, -, -⟩ := h.p.open;rw [sPl] at *;rw [show strP [ptI P Z.1, ptI P Z.2.1, ptI P Z.2.2] = strP [lonA P Z 0, lonA P Z 1, lonA P Z 2] from rfl] at f;have hz : Hid (∀ i, lonTo P F Z p (i + 1) = lonTo P F Z p i + areaQ p (lonA P Z ((i + 1) % 3)) (lonA P Z ((i + 2) % 3)) * lonF F Z i) := fun i => rfl;have ht : lonTo P F Z p 0 = 0 := rfl;have z3 : (t : Int) < (T.length : Int) := by omega
 have z4 : IntKind.i64.wrap (t : Int) = (t : Int) := IntWalk.i64_in _ (by have := h.m.tlen; omega);have hX := h.m.tlen;unfold VP at h9 g;generalize lonTo P F Z p = LT at *;generalize lonA P Z = A at *;generalize lonF F Z = Fz at *;clear h S v E e0 e1 e2 l D zF zS zT hp hK;go_enter Tryz.func89, Tryz.ntmps89;go_upto_region 1 with fail;obtain ⟨W, hW⟩ := zex ((w.alloc (.cells #[.slice pp P.length cp, .slice (some ⟨bt, ot, none⟩) T.length ct] 38)).alloc (.cells #[.string (RS p.1), .string (RS p.2)] 49));have hB : Below w.heap.size w W := by rw [hW]; exact zal2 _ _ _
 have b7 : BoxN W (w.heap.size + 1) 49 [.string (RS p.1), .string (RS p.2)] := by rw [hW]; exact BoxN.new _ _ _ _ (by simp)
 have b4 : BoxN W w.heap.size 38 [.slice pp P.length cp, .slice (some ⟨bt, ot, none⟩) T.length ct] := by
  rw [hW];have n := (BoxN.new w #[.slice pp P.length cp, .slice (some ⟨bt, ot, none⟩) T.length ct] 38 _ rfl);exact n.below (zal _ _) n.lt
 rw [<- hW];clear hW;obtain ⟨m0, m1⟩ := zk2 b4;go_wp2_with fail;refine (f.out W hB (U.below hB)).mono ?_;rintro e w1 ⟨_, rfl, hr, y⟩;have hG := zbt hB y;have hD := b7.bl y;have hA := b4.bl y;obtain ⟨pc, cc, rfl, -, -, hl⟩ := hr.open;obtain ⟨Q, N, rfl, V, L⟩ := hl (by simp [strP]);have R : Hid (∀ i : Nat, i < 3 -> w1.cell? ⟨Q, N + i * 2, none⟩ = some (.string (RS (A i).1)) /\ w1.cell? ⟨Q, N + i * 2 + 1, none⟩ = some (.string (RS (A i).2))) := fun i hi => by
  rcases (by omega : i = 0 \/ i = 1 \/ i = 2) with rfl | rfl | rfl
  ·exact L 0 (by simp [strP])
  ·exact L 1 (by simp [strP])
  ·exact L 2 (by simp [strP])
 rw [show (strP [A 0, A 1, A 2]).length = 3 from rfl];have HJ : Hid (∀ i : Nat, i < 3 -> ∃ K J : Nat, K < 3 /\ J < 3 /\ K = (i + 1) % 3 /\ J = (i + 2) % 3 /\ ((i : Int) + 1).tmod 3 = (K : Int) /\ ((i : Int) + 2).tmod 3 = (J : Int)) := fun i hi => by
  rcases (by omega : i = 0 \/ i = 1 \/ i = 2) with rfl | rfl | rfl
  ·exact ⟨1, 2, by omega, by omega, rfl, rfl, by decide, by decide⟩
  ·exact ⟨2, 0, by omega, by omega, rfl, rfl, by decide, by decide⟩
  ·exact ⟨0, 1, by omega, by omega, rfl, rfl, by decide, by decide⟩
 clear y hB b7 b4 m0 m1 hr hl L f;go_wp2_with fail;go_loopw [10, 11] (fun t10 t11 wr => ∃ i : Nat, t11 = .int .i64 i /\ i <= 3 /\ t10 = .string (RS (LT i)) /\ Below w1.heap.size w1 wr) (fun _ t11 _ => 3 - (RowKit.intOf t11).toNat)
 case atStart => exact ⟨0, rfl, Nat.zero_le _, by rw [ht, RS_zero], Below.refl _ _⟩
 case round =>
  obtain ⟨i, rfl, hi, rfl, X⟩ := hrel;have B := zbt hG X;have hT : Q < wr.heap.size := Nat.lt_of_lt_of_le V X.size;rcases Nat.lt_or_ge i 3 with h3 | h3
  ·have hZ : (i : Int) < 3 := by omega
   obtain ⟨K, J, hn, ho, c, b, hL, hM⟩ := HJ.out i h3;obtain ⟨q, M, of, G, z1, rfl, h4, hF, hE⟩ := hx.out i h3;have he := hid (hz.out i);rw [<- c, <- b] at he;have h8 := hid fun w U => h9.out K J w U;have hd := hid fun w U => hy.out i w U;have ha := hid fun w U => hu.out i h3 w U;rw [<- c, <- b] at hd ha;have x0 := zcq X V (R.out K hn).1;have x1 := zcq X V (R.out K hn).2;have x2 := zcq X V (R.out J ho).1;have H := zcq X V (R.out J ho).2;have d := hD.bl X;have hf := hA.bl X;obtain ⟨y0, y1⟩ := zk2 d;have z0 := d.lt;have I : Good wr.drew := (U.below B).drewN 1;have hN : IntKind.i64.wrap ((i : Int) + 1) = (i : Int) + 1 := IntWalk.i64_in _ (by omega);have hO : IntKind.i64.wrap ((i : Int) + 2) = (i : Int) + 2 := IntWalk.i64_in _ (by omega);have hP : IntKind.i64.wrap (K : Int) = (K : Int) := IntWalk.i64_in _ (by omega);have hQ : IntKind.i64.wrap (J : Int) = (J : Int) := IntWalk.i64_in _ (by omega);have hU : (K : Int) < 3 := by omega
   have hV : (J : Int) < 3 := by omega
   generalize areaQ p (A K) (A J) = ar at *;generalize A K = pb at *;generalize A J = pd at *;clear c b;go_wp2_with fail;go_region_held3 (fun w' => w'.cell? ⟨w.heap.size + 1, 0, none⟩ = some (.string (RS p.1)) /\ w'.cell? ⟨w.heap.size + 1, 1, none⟩ = some (.string (RS p.2)) /\ w'.cell? ⟨Q, N + K * 2, none⟩ = some (.string (RS pb.1)) /\ w'.cell? ⟨Q, N + K * 2 + 1, none⟩ = some (.string (RS pb.2)) /\ w'.cell? ⟨Q, N + J * 2, none⟩ = some (.string (RS pd.1)) /\ w'.cell? ⟨Q, N + J * 2 + 1, none⟩ = some (.string (RS pd.2)))
    (first | exact ⟨y0, y1, x0, x1, x2, H⟩ | exact ⟨p_1_0, p_1_1, p_1_2, p_1_3, p_1_4, p_1_5⟩)
    (first
    | (go_at_call 132; refine (h8.out _ I).mono ?_; rintro e s ⟨_, rfl, rfl, Y⟩
       have p_1_0 := zct Y y0;have p_1_1 := zct Y y1;have p_1_2 := zct Y x0;have p_1_3 := zct Y x1;have p_1_4 := zct Y x2;have p_1_5 := zct Y H;have hR : wr.heap.size <= s.heap.size := Y.size;have h7 := I.below Y))
   have pB : Below wr.heap.size wr s := zbt (bdN wr 1) Y;have hH := zbt X pB;have C := zbt B pB;have hC := hf.bl pB;have m1 := hC.cell 1 rfl;have c0 := zcq C hJ hF;have c1 := zcq C h4 hE;have z2 : (q : Int) < (F.length : Int) := by omega
   clear x0 x1 x2 H y0 y1 d hf hN hO hP hQ hL hM I h8;go_wp2_with fail;refine zR (hd.out _ (U.below C)) fun w3 hb3 => ?_;have hj := zbt hH hb3;have hh := zbt C hb3;clear m1 c0 c1 hb3;go_wp2_with fail;refine zR (ha.out _ (U.below hh)) fun w4 hb4 => ?_;have hk := zbt hj hb4;go_wp2_with fail;go_roundw
   case rel => exact ⟨i + 1, by go_num, by omega, by rw [he.out], hk⟩
   case measure => simp [RowKit.intOf]; omega
  ·have hY : ¬ (i : Int) < 3 := by omega
   have HI : Hid (i = 3) := by unfold Hid; omega
   rw [HI.out];have x0 := (X.cell (p := ⟨Q, N + 0 * 2, none⟩) V).trans (R.out 0 (by omega)).1;have x1 := (X.cell (p := ⟨Q, N + 0 * 2 + 1, none⟩) V).trans (R.out 0 (by omega)).2;have x2 := (X.cell (p := ⟨Q, N + 1 * 2, none⟩) V).trans (R.out 1 (by omega)).1;have H := (X.cell (p := ⟨Q, N + 1 * 2 + 1, none⟩) V).trans (R.out 1 (by omega)).2;have o := (X.cell (p := ⟨Q, N + 2 * 2, none⟩) V).trans (R.out 2 (by omega)).1;have x5 := (X.cell (p := ⟨Q, N + 2 * 2 + 1, none⟩) V).trans (R.out 2 (by omega)).2;simp only [Nat.zero_mul, Nat.one_mul, Nat.reduceMul, Nat.add_zero, Nat.add_assoc, Nat.reduceAdd] at x0 x1 x2 H o x5;have I : Good wr.drew := (U.below B).drewN 1;obtain ⟨ar, h2⟩ : ∃ a, a = areaQ (A 0) (A 1) (A 2) := ⟨_, rfl⟩;rw [<- h2] at g hc;have hw := hid h2;clear hi h3 h2;go_wp2_with fail;go_region_held3 (fun w' => w'.cell? ⟨Q, N, none⟩ = some (.string (RS (A 0).1)) /\ w'.cell? ⟨Q, N + 1, none⟩ = some (.string (RS (A 0).2)) /\ w'.cell? ⟨Q, N + 2, none⟩ = some (.string (RS (A 1).1)) /\ w'.cell? ⟨Q, N + 3, none⟩ = some (.string (RS (A 1).2)) /\ w'.cell? ⟨Q, N + 4, none⟩ = some (.string (RS (A 2).1)) /\ w'.cell? ⟨Q, N + 5, none⟩ = some (.string (RS (A 2).2)))
    (first | exact ⟨x0, x1, x2, H, o, x5⟩ | exact ⟨p_1_0, p_1_1, p_1_2, p_1_3, p_1_4, p_1_5⟩ | exact ⟨p_2_0, p_2_1, p_2_2, p_2_3, p_2_4, p_2_5⟩)
    (first
    | (go_at_call 135; refine (hc.out _ h7).mono ?_; rintro e hS ⟨_, rfl, rfl, O⟩
       have p_2_0 := zct O p_1_0;have p_2_1 := zct O p_1_1;have p_2_2 := zct O p_1_2;have p_2_3 := zct O p_1_3;have p_2_4 := zct O p_1_4;have p_2_5 := zct O p_1_5;have z6 := O.size;have z5 := h7.below O)
    | (go_at_call 132; refine (g.out _ I).mono ?_; rintro e s ⟨_, rfl, rfl, Y⟩
       have p_1_0 := zct Y x0;have p_1_1 := zct Y x1;have p_1_2 := zct Y x2;have p_1_3 := zct Y H;have p_1_4 := zct Y o;have p_1_5 := zct Y x5;have hR : wr.heap.size <= s.heap.size := Y.size;have h7 := I.below Y))
   have pB : Below wr.heap.size wr hS := zbt (zbt (bdN wr 1) Y) O;go_wp2_with fail;go_ret;exact ⟨_, rfl, (by rw [hw.out]; exact rfl), (zbt B pB)⟩
theorem t0a (a b c : PtQ) (k : Nat) (H : 0 < k) (U : k <= 1000) (R : SzP k a) (Q : SzP k b) (O : SzP k c) (w : World) (I : Good w) :
 Calls Tryz.prog 131 #[.agg #[.string (RS a.1), .string (RS a.2)], .agg #[.string (RS b.1), .string (RS b.2)], .agg #[.string (RS c.1), .string (RS c.2)]] w (Ret (fun r _ => r = .int .i64 (turnZ a b c)) w) := by
 obtain ⟨W, S, ⟨a0, E⟩, ⟨B, b1⟩, ⟨c0, c1⟩, Z, G⟩ := tbs w a b c 49;have V := I.below Z;have N := hid R;have M := hid Q;have L := hid O;have J := hid S;have K : Hid ((areaQ a b c).num.sign = turnZ a b c) := rfl;clear S R Q O;have X : Hid (Calls Tryz.prog 132 #[.agg #[.string (RS a.1), .string (RS a.2)], .agg #[.string (RS b.1), .string (RS b.2)], .agg #[.string (RS c.1), .string (RS c.2)]] W (Ret (fun r _ => r = .string (RS (areaQ a b c))) W)) := a0a a b c k H U N.out M.out L.out W V;obtain ⟨D, C⟩ := a;obtain ⟨z, A⟩ := b;obtain ⟨y, x⟩ := c;dsimp only at *;go_enter Tryz.func131, Tryz.ntmps131;go_upto_region 1 with fail;rw [<- J.out];go_wp2_with fail;refine X.out.mono ?_;rintro e v ⟨_, rfl, rfl, Y⟩;go_wp2_with fail;refine zR ((st0 _ _).mono fun _ _ h => h.ret) fun w2 hb2 => ?_;rw [K.out];go_wp2_with fail;go_ret;exact ⟨_, rfl, rfl, ((zbt Z Y)).trans (hb2.mono (by have := Z.size; have := Y.size; omega))⟩
def tri3 (a b c : PtQ) : Nat -> PtQ | 0 => a | 1 => b | _ => c
theorem wTs (a b c p : PtQ) (i : Nat) (Z : i < 3) : whTo a b c p (i + 1) = min (whTo a b c p i) (turnZ (tri3 a b c i) (tri3 a b c ((i + 1) % 3)) p) := by
 rcases (by omega : i = 0 \/ i = 1 \/ i = 2) with rfl | rfl | rfl <;> rfl
theorem we0 (w : World) (v : Value) (a b c p : PtQ) (k : Nat) (hk : 0 < k) (s : k <= 1000) (ha : SzP k a) (hb : SzP k b) (hc : SzP k c) (m : SzP k p) (l : RdP w v (strP [a, b, c])) (I : Good w) :
 Calls Tryz.prog 87 #[v, .agg #[.string (RS p.1), .string (RS p.2)]] w (Ret (fun r _ => r = .int .i64 (whTo a b c p 3)) w) := by
 have q : ∀ i, SzP k (tri3 a b c i) := fun i => by unfold tri3; split <;> assumption
 have x : Hid (∀ (i j : Nat) (w : World), Good w -> _) := fun i j w I => t0a (tri3 a b c i) (tri3 a b c j) p k hk s (q i) (q j) m w I;have B : Hid (∀ i, i < 3 -> whTo a b c p (i + 1) = min (whTo a b c p i) (turnZ (tri3 a b c i) (tri3 a b c ((i + 1) % 3)) p)) := fun i C => wTs a b c p i C;have h0 : whTo a b c p 0 = 1 := rfl;obtain ⟨pc, cc, rfl, -, -, J⟩ := l.open;obtain ⟨R, O, rfl, U, X⟩ := J (by simp [strP]);have S : Hid (∀ i : Nat, i < 3 -> w.cell? ⟨R, O + i * 2, none⟩ = some (.string (RS (tri3 a b c i).1)) /\ w.cell? ⟨R, O + i * 2 + 1, none⟩ = some (.string (RS (tri3 a b c i).2))) := fun i C => by
  rcases (by omega : i = 0 \/ i = 1 \/ i = 2) with rfl | rfl | rfl
  ·exact X 0 (by simp [strP])
  ·exact X 1 (by simp [strP])
  ·exact X 2 (by simp [strP])
 rw [show (strP [a, b, c]).length = 3 from rfl];have d : Hid (∀ i : Nat, i < 3 -> ∃ V : Nat, V < 3 /\ V = (i + 1) % 3 /\ ((i : Int) + 1).tmod 3 = (V : Int)) := fun i C => by
  rcases (by omega : i = 0 \/ i = 1 \/ i = 2) with rfl | rfl | rfl
  ·exact ⟨1, by omega, rfl, by decide⟩
  ·exact ⟨2, by omega, rfl, by decide⟩
  ·exact ⟨0, by omega, rfl, by decide⟩
 clear l J X q ha hb hc m;generalize whTo a b c p = WH at *;generalize tri3 a b c = A at *;go_enter Tryz.func87, Tryz.ntmps87;go_upto_region 1 with fail;obtain ⟨W, D⟩ := zex (w.alloc (.cells #[.string (RS p.1), .string (RS p.2)] 49));have hB : Below w.heap.size w W := by rw [D]; exact zal _ _
 have b3 : BoxN W w.heap.size 49 [.string (RS p.1), .string (RS p.2)] := by rw [D]; exact BoxN.new _ _ _ _ rfl
 rw [<- D];clear D;go_wp2_with fail;go_loopw [5, 6] (fun t5 t6 wr => ∃ i : Nat, t6 = .int .i64 i /\ i <= 3 /\ t5 = .int .i64 (WH i) /\ Below W.heap.size W wr) (fun _ t6 _ => 3 - (RowKit.intOf t6).toNat)
 case atStart => exact ⟨0, rfl, Nat.zero_le _, by rw [h0], Below.refl _ _⟩
 case round =>
  obtain ⟨i, rfl, C, rfl, Q⟩ := hrel;have Y := zbt hB Q;rcases Nat.lt_or_ge i 3 with K | K
  ·have h1 : (i : Int) < 3 := by omega
   obtain ⟨V, G, L, h2⟩ := d.out i K;have N := hid (B.out i K);rw [<- L] at N;have y := hid fun w I => x.out i V w I;have x0 := zcq Y U (S.out i K).1;have x1 := zcq Y U (S.out i K).2;have x2 := zcq Y U (S.out V G).1;have h := zcq Y U (S.out V G).2;have M := b3.bl Q;obtain ⟨g, f⟩ := zk2 M;have l3 := M.lt;have o : R < wr.heap.size := Nat.lt_of_lt_of_le U Y.size;have H : Good wr.drew := (I.below Y).drewN 1;have h4 : IntKind.i64.wrap ((i : Int) + 1) = (i : Int) + 1 := IntWalk.i64_in _ (by omega);have h5 : IntKind.i64.wrap (V : Int) = (V : Int) := IntWalk.i64_in _ (by omega);have n : (V : Int) < 3 := by omega
   generalize turnZ (A i) (A V) p = z at *;generalize A V = pb at *;generalize A i = pa at *;clear L;go_wp2_with fail;go_region_held3 (fun w' => w'.cell? ⟨w.heap.size, 0, none⟩ = some (.string (RS p.1)) /\ w'.cell? ⟨w.heap.size, 1, none⟩ = some (.string (RS p.2)) /\ w'.cell? ⟨R, O + i * 2, none⟩ = some (.string (RS pa.1)) /\ w'.cell? ⟨R, O + i * 2 + 1, none⟩ = some (.string (RS pa.2)) /\ w'.cell? ⟨R, O + V * 2, none⟩ = some (.string (RS pb.1)) /\ w'.cell? ⟨R, O + V * 2 + 1, none⟩ = some (.string (RS pb.2)))
    (first | exact ⟨g, f, x0, x1, x2, h⟩ | exact ⟨p_1_0, p_1_1, p_1_2, p_1_3, p_1_4, p_1_5⟩)
    (first
    | (go_at_call 131; refine (y.out _ H).mono ?_; rintro e E ⟨_, rfl, rfl, Z⟩
       have p_1_0 := zct Z g;have p_1_1 := zct Z f;have p_1_2 := zct Z x0;have p_1_3 := zct Z x1;have p_1_4 := zct Z x2;have p_1_5 := zct Z h;have h7 : wr.heap.size <= E.heap.size := Z.size;have h6 := H.below Z))
   have pB : Below wr.heap.size wr E := zbt (bdN wr 1) Z;have t := zbt Q pB;go_wp2_with fail;go_roundw
   case rel => exact ⟨i + 1, by go_num, by omega, by rw [N.out], t⟩
   case measure => simp [RowKit.intOf]; omega
  ·obtain rfl : i = 3 := by omega
   go_wp2_with fail;go_ret;exact ⟨_, rfl, rfl, Y⟩
theorem a1k (w : World) (N M C : Value) (P : List PtQ) (T : List Tri) (k : Nat) (F : List Rat) (h : FieldIn w N M C P T k F) (p : PtQ) (m : Nat) (hd : k <= m) (he : 2 <= m) (hf : m <= 700) (K : SzP m p) (V : Good w) :
 Calls Tryz.prog 42 #[.agg #[N, M], C, .agg #[.string (RS p.1), .string (RS p.2)]] w (Ret (fun r _ => (locN P T p T.length = [] /\ r = .tuple #[.string ⟨#[]⟩, .bool false]) \/ ∃ (t : Nat) (ht : t < T.length) (l : List Int), locN P T p T.length = (t : Int) :: l /\ r = .tuple #[.string (RS (onQ P F T[t] p)), .bool true]) w) := by
 have HF := hid h;have o : Hid (∀ (i : Nat) (U : i < T.length) (w' : World), Below w.heap.size w w' -> Good w' -> Calls Tryz.prog 88 #[.agg #[N, M], .int .i64 (i : Int)] w' (Ret (fun r w' => RdP w' r (strP [ptI P T[i].1, ptI P T[i].2.1, ptI P T[i].2.2])) w')) := fun i U w' hb V => l1a w' N M P T k (RdC.below h.p hb) (RdC.below h.t hb) h.m.toMeshIn i U _ rfl V;have Q : ∀ z : Int, SzP m (ptI P z) := fun z => by
  have hs : ∀ p ∈ P, SzP m p := fun p K => ⟨(h.m.sz p K).1.mono (by omega), (h.m.sz p K).2.mono (by omega)⟩
  exact pFs hs (by omega) _
 have h0 : Hid (∀ (i : Nat) (U : i < T.length) (w' : World) (v : Value), RdP w' v (strP [ptI P T[i].1, ptI P T[i].2.1, ptI P T[i].2.2]) -> Good w' -> Calls Tryz.prog 87 #[v, .agg #[.string (RS p.1), .string (RS p.2)]] w' (Ret (fun r _ => r = .int .i64 (whTo (ptI P T[i].1) (ptI P T[i].2.1) (ptI P T[i].2.2) p 3)) w')) := fun i U w' v hv V => we0 w' v _ _ _ p m (by omega) (by omega) (Q _) (Q _) (Q _) K hv V
 have n : Hid (∀ (i : Nat) (U : i < T.length), decide (0 <= whTo (ptI P T[i].1) (ptI P T[i].2.1) (ptI P T[i].2.2) p 3) = iTT P T p i) := fun i U => by
  rw [wTi];unfold iTT;rw [List.getElem?_eq_getElem U]
 have c : Hid (∀ (i : Nat) (U : i < T.length) (w' : World), FieldIn w' N M C P T k F -> Good w' -> Calls Tryz.prog 89 #[.agg #[N, M], C, .int .i64 (i : Int), .agg #[.string (RS p.1), .string (RS p.2)]] w' (Ret (fun r _ => r = .string (RS (onQ P F T[i] p))) w')) := fun i U w' h V => by
  have E : T[i] ∈ T := List.getElem_mem U;have J : areaQ (ptI P T[i].1) (ptI P T[i].2.1) (ptI P T[i].2.2) ≠ 0 := by have := aQp h.m E; intro e; rw [e] at this; exact absurd this (by decide)
  have := li0 w' N M C P T k F h i U _ rfl p m (by omega) K (by omega) V;rw [lTe J] at this;exact this
 have HN : Hid ((∀ i, i < T.length -> iTT P T p i = false) -> locN P T p T.length = []) := fun hh => lNn hh;have HH : Hid (∀ i, i < T.length -> iTT P T p i = true -> (∀ j, j < i -> iTT P T p j = false) -> ∃ l, locN P T p T.length = (i : Int) :: l) := fun i L h2 h3 => lNh L h2 h3;have hk := h.m.tlen;obtain ⟨x, B, s, A, pf, cf, rfl, rfl, rfl⟩ := h.open;clear h Q K;go_enter Tryz.func42, Tryz.ntmps42;go_upto_region 1 with fail;obtain ⟨W, I⟩ := zex ((w.alloc (.cells #[.slice x P.length B, .slice s T.length A] 38)).alloc (.cells #[.string (RS p.1), .string (RS p.2)] 49));have hB : Below w.heap.size w W := by rw [I]; exact zal2 _ _ _
 have b5 : BoxN W (w.heap.size + 1) 49 [.string (RS p.1), .string (RS p.2)] := by rw [I]; exact BoxN.new _ _ _ _ (by simp)
 have b3 : BoxN W w.heap.size 38 [.slice x P.length B, .slice s T.length A] := by
  rw [I];have L := (BoxN.new w #[.slice x P.length B, .slice s T.length A] 38 _ rfl);exact L.below (zal _ _) L.lt
 rw [<- I];clear I;go_wp2_with fail;go_loopw [8] (fun t8 wr => ∃ i : Nat, t8 = .int .i64 i /\ i <= T.length /\ Hid (∀ j, j < i -> iTT P T p j = false) /\ Below W.heap.size W wr) (fun t8 _ => T.length - (RowKit.intOf t8).toNat)
 case atStart => exact ⟨0, rfl, Nat.zero_le _, (fun j h => by omega), Below.refl _ _⟩
 case round =>
  obtain ⟨i, rfl, U, g, R⟩ := hrel;have S := zbt hB R;have c3 := b3.bl R;have c5 := b5.bl R;obtain ⟨m0, m1⟩ := zk2 c3;rcases Nat.lt_or_ge i T.length with Z | Z
  ·have h7 : (i : Int) < (T.length : Int) := by omega
   obtain ⟨y0, y1⟩ := zk2 c5;have l3 := c3.lt;have l5 := c5.lt;have q : Hid (∀ (w' : World), Below w.heap.size w w' -> Good w' -> _) := fun w' hb V => o.out i Z w' hb V;have a : Hid (∀ (w' : World) (v : Value), _ -> Good w' -> _) := fun w' v hv V => h0.out i Z w' v hv V;have G := n.out i Z;generalize whTo (ptI P T[i].1) (ptI P T[i].2.1) (ptI P T[i].2.2) p 3 = z at *;have H : Good wr.drew := (V.below S).drewN 1;have h4 : Below w.heap.size w wr.drew := S.trans ((bdN wr 1).mono S.size);have hm : IntKind.i64.wrap ((i : Int) + 1) = (i : Int) + 1 := IntWalk.i64_in _ (by omega);go_wp2_with fail;go_region_held3 (fun w' => w'.cell? ⟨w.heap.size, 0, none⟩ = some (.slice x P.length B) /\ w'.cell? ⟨w.heap.size, 1, none⟩ = some (.slice s T.length A) /\ w'.cell? ⟨w.heap.size + 1, 0, none⟩ = some (.string (RS p.1)) /\ w'.cell? ⟨w.heap.size + 1, 1, none⟩ = some (.string (RS p.2)))
    (first | exact ⟨m0, m1, y0, y1⟩ | exact ⟨p_1_0, p_1_1, p_1_2, p_1_3⟩ | exact ⟨p_2_0, p_2_1, p_2_2, p_2_3⟩)
    (first
    | (go_at_call 87; refine (a.out _ _ b.out D).mono ?_; rintro e ha ⟨_, rfl, rfl, X⟩
       have p_2_0 := zct X p_1_0;have p_2_1 := zct X p_1_1;have p_2_2 := zct X p_1_2;have p_2_3 := zct X p_1_3;have hq := X.size;have hn := D.below X)
    | (go_at_call 88; refine (q.out _ h4 H).mono ?_; rintro e h9 ⟨vc, rfl, h8, Y⟩
       have p_1_0 := zct Y m0;have p_1_1 := zct Y m1;have p_1_2 := zct Y y0;have p_1_3 := zct Y y1;have ho : wr.heap.size <= h9.heap.size := Y.size;have D := H.below Y;have b := hid h8))
   have y : Below wr.heap.size wr ha := zbt (zbt (bdN wr 1) Y) X;have h6 := zbt R y;have O := zbt S y;cases hc : iTT P T p i
   ·rw [hc] at G
    have f : Hid (∀ j, j < i + 1 -> iTT P T p j = false) := fun j hj => by
     rcases (by omega : j = i \/ j < i) with rfl | L
     ·exact hc
     ·exact g.out j L
    clear hc;go_wp2_with fail;go_roundw
    case rel => exact ⟨i + 1, by go_num, by omega, f, h6⟩
    case measure => simp [RowKit.intOf]; omega
   ·rw [hc] at G
    obtain ⟨l, hl⟩ := HH.out i Z hc g.out;have HL := hid hl;have d3 := c3.bl y;have d5 := c5.bl y;obtain ⟨n0, n1⟩ := zk2 d3;obtain ⟨v0, v1⟩ := zk2 d5;have HO := hid (c.out i Z _ (HF.out.below O) (V.below O));clear hc hl m0 m1 y0 y1;go_wp2_with fail;refine HO.out.mono ?_;rintro e w2 ⟨_, rfl, rfl, h5⟩;go_wp2_with fail;go_ret2;exact ⟨_, rfl, .inr ⟨i, Z, l, HL.out, rfl⟩, (zbt O h5)⟩
  ·have d := hid (HN.out (fun j hj => g.out j (by omega)))
   have h7 : (T.length : Int) <= (i : Int) := by omega
   go_wp2_with fail;go_ret2;exact ⟨_, rfl, .inl ⟨d.out, rfl⟩, S⟩
theorem p4a (w : World) (J V U : Int) (Z : Bool) (x y : Int) (_hs0 : -128 <= V /\ V <= 127) (_hs1 : -128 <= U /\ U <= 127) (hx : -128 <= x /\ x <= 127) (hy : -128 <= y /\ y <= 127) (I : Good w) :
 Calls Tryz.prog 9 #[.agg #[.int .u8 J, .int .i8 V, .int .i8 U, .bool Z], .agg #[.int .i8 x, .int .i8 y], .int .i64 4] w (Ret (fun r _ => r = .agg #[.string (RS (pBB 4 V Z x)), .string (RS (pBB 4 U Z y))]) w) := by
 have i := t8b V;have h := t8b U;have S := hid fun w I => rOa (x + V.tmod 8 * (4 : Nat)) ((halfD Z * 4 : Nat) : Int) (x + V.tmod 8 * (4 : Nat)) (halfD Z * 4) ((halfD Z * 4 : Nat) : Int) rfl (by cases Z <;> decide) (by omega) (by cases Z <;> decide) (.inl ⟨rfl, rfl⟩) w I
 have R := hid fun w I => rOa (y + U.tmod 8 * (4 : Nat)) ((halfD Z * 4 : Nat) : Int) (y + U.tmod 8 * (4 : Nat)) (halfD Z * 4) ((halfD Z * 4 : Nat) : Int) rfl (by cases Z <;> decide) (by omega) (by cases Z <;> decide) (.inl ⟨rfl, rfl⟩) w I
 unfold pBB;obtain ⟨A, o⟩ : ∃ p, p = mkRat (x + V.tmod 8 * (4 : Nat)) (halfD Z * 4) := ⟨_, rfl⟩;obtain ⟨z, n⟩ : ∃ p, p = mkRat (y + U.tmod 8 * (4 : Nat)) (halfD Z * 4) := ⟨_, rfl⟩;rw [<- o] at S ⊢;rw [<- n] at R ⊢;obtain ⟨H, C⟩ : ∃ m, m = V.tmod 8 := ⟨_, rfl⟩;obtain ⟨G, B⟩ : ∃ m, m = U.tmod 8 := ⟨_, rfl⟩;rw [<- C] at S i;rw [<- B] at R h;have h3 : IntKind.i8.wrap H = H := by unfold IntKind.wrap; simp [IntKind.signed, IntKind.bits]; omega
 have h4 : IntKind.i8.wrap G = G := by unfold IntKind.wrap; simp [IntKind.signed, IntKind.bits]; omega
 have h0 : IntKind.i64.wrap H = H := IntWalk.i64_in _ (by omega);have h2 : IntKind.i64.wrap G = G := IntWalk.i64_in _ (by omega);have h5 : IntKind.i64.wrap x = x := IntWalk.i64_in _ (by omega);have h7 : IntKind.i64.wrap y = y := IntWalk.i64_in _ (by omega);have g : IntKind.i64.wrap (H * 4) = H * 4 := IntWalk.i64_in _ (by omega);have f : IntKind.i64.wrap (G * 4) = G * 4 := IntWalk.i64_in _ (by omega);have h6 : IntKind.i64.wrap (x + H * 4) = x + H * 4 := IntWalk.i64_in _ (by omega);have h8 : IntKind.i64.wrap (y + G * 4) = y + G * 4 := IntWalk.i64_in _ (by omega);have e := C.symm;have d := B.symm;clear o n C B;cases Z
 ·simp only [halfD, Bool.false_eq_true, if_false, Nat.one_mul, Int.cast_ofNat_Int] at S R
  go_enter Tryz.func9, Tryz.ntmps9;go_wp2_with fail;obtain ⟨W, Q⟩ := zex (((w.alloc (.cells #[.int .u8 J, .int .i8 V, .int .i8 U, .bool false] 25)).alloc (.cells #[.int .i8 x, .int .i8 y] 23)).alloc (.cells #[.string ⟨#[]⟩, .string ⟨#[]⟩] 49));have K : Below w.heap.size w W := by rw [Q]; exact (((Below.refl _ _).alloc (Nat.le_refl _) _).alloc (by simp) _).alloc (by simp; omega) _
  have t : BoxN W w.heap.size 25 [.int .u8 J, .int .i8 V, .int .i8 U, .bool false] := by
   rw [Q];have L := (BoxN.new w #[.int .u8 J, .int .i8 V, .int .i8 U, .bool false] 25 _ rfl);exact (L.below ((Below.refl _ _).alloc (Nat.le_refl _) _) L.lt).below ((Below.refl _ _).alloc (Nat.le_refl _) _) (by simp; omega)
  have s : BoxN W (w.heap.size + 1) 23 [.int .i8 x, .int .i8 y] := by
   rw [Q];have L := (BoxN.new (w.alloc (.cells #[.int .u8 J, .int .i8 V, .int .i8 U, .bool false] 25)) #[.int .i8 x, .int .i8 y] 23 (w.heap.size + 1) (by simp));exact L.below (zal _ _) L.lt
  have q : BoxN W (w.heap.size + 2) 49 [.string ⟨#[]⟩, .string ⟨#[]⟩] := by rw [Q]; exact BoxN.new _ _ _ _ (by simp)
  rw [<- Q];clear Q;refine zR (S.out W (I.below K)) fun w1 hb1' => ?_;have X := K.trans (hb1'.mono K.size);have O := t.bl hb1';have N := s.bl hb1';have M := q.bl hb1';have c0 := N.cell 1 rfl;have c1 := O.cell 2 rfl;clear t s q hb1' K;go_wp2_with fail;refine zR (R.out w1 (I.below X)) fun w2 hb2' => ?_;have E := X.trans (hb2'.mono X.size);have Y := M.bl hb2';obtain ⟨c, b⟩ := zk2 Y;have a := Y.frozen 0;have d3 := Y.frozen 1;clear c0 c1 O N M hb2' X;go_wp2_with fail;have l := (Y.set 0 (.string (RS A))).set 1 (.string (RS z));have D := (E.setCell (p := ⟨w.heap.size + 2, 0, none⟩) (by show w.heap.size <= w.heap.size + 2; omega) (.string (RS A))).setCell (p := ⟨w.heap.size + 2, 1, none⟩) (by show w.heap.size <= w.heap.size + 2; omega) (.string (RS z));obtain ⟨k, j⟩ := zk2 l;exact bodyPost_ret (v := .agg #[.string (RS A), .string (RS z)]) (by simp [results, Tryz.results9, go_sem, k, j]) rfl ⟨_, rfl, rfl, D⟩
 ·simp only [halfD, if_true, Nat.reduceMul, Int.cast_ofNat_Int] at S R
  go_enter Tryz.func9, Tryz.ntmps9;go_wp2_with fail;obtain ⟨W, Q⟩ := zex (((w.alloc (.cells #[.int .u8 J, .int .i8 V, .int .i8 U, .bool true] 25)).alloc (.cells #[.int .i8 x, .int .i8 y] 23)).alloc (.cells #[.string ⟨#[]⟩, .string ⟨#[]⟩] 49));have K : Below w.heap.size w W := by rw [Q]; exact (((Below.refl _ _).alloc (Nat.le_refl _) _).alloc (by simp) _).alloc (by simp; omega) _
  have t : BoxN W w.heap.size 25 [.int .u8 J, .int .i8 V, .int .i8 U, .bool true] := by
   rw [Q];have L := (BoxN.new w #[.int .u8 J, .int .i8 V, .int .i8 U, .bool true] 25 _ rfl);exact (L.below ((Below.refl _ _).alloc (Nat.le_refl _) _) L.lt).below ((Below.refl _ _).alloc (Nat.le_refl _) _) (by simp; omega)
  have s : BoxN W (w.heap.size + 1) 23 [.int .i8 x, .int .i8 y] := by
   rw [Q];have L := (BoxN.new (w.alloc (.cells #[.int .u8 J, .int .i8 V, .int .i8 U, .bool true] 25)) #[.int .i8 x, .int .i8 y] 23 (w.heap.size + 1) (by simp));exact L.below (zal _ _) L.lt
  have q : BoxN W (w.heap.size + 2) 49 [.string ⟨#[]⟩, .string ⟨#[]⟩] := by rw [Q]; exact BoxN.new _ _ _ _ (by simp)
  rw [<- Q];clear Q;refine zR (S.out W (I.below K)) fun w1 hb1' => ?_;have X := K.trans (hb1'.mono K.size);have O := t.bl hb1';have N := s.bl hb1';have M := q.bl hb1';have c0 := N.cell 1 rfl;have c1 := O.cell 2 rfl;clear t s q hb1' K;go_wp2_with fail;refine zR (R.out w1 (I.below X)) fun w2 hb2' => ?_;have E := X.trans (hb2'.mono X.size);have Y := M.bl hb2';obtain ⟨c, b⟩ := zk2 Y;have a := Y.frozen 0;have d3 := Y.frozen 1;clear c0 c1 O N M hb2' X;go_wp2_with fail;have l := (Y.set 0 (.string (RS A))).set 1 (.string (RS z));have D := (E.setCell (p := ⟨w.heap.size + 2, 0, none⟩) (by show w.heap.size <= w.heap.size + 2; omega) (.string (RS A))).setCell (p := ⟨w.heap.size + 2, 1, none⟩) (by show w.heap.size <= w.heap.size + 2; omega) (.string (RS z));obtain ⟨k, j⟩ := zk2 l;exact bodyPost_ret (v := .agg #[.string (RS A), .string (RS z)]) (by simp [results, Tryz.results9, go_sem, k, j]) rfl ⟨_, rfl, rfl, D⟩
theorem sS2 {P : List PtQ} {T : List Tri} (I : MeshOK P T 2) {F : List Rat} {m : Nat} (Z : 0 < m) (O : ∀ q ∈ F, Sz m q) {tr : Tri} (M : tr ∈ T) : SzP (4 * m + 40) (sa0 P F tr) := by
 have R := I.idx tr M;have N : ∀ z ∈ idxOf tr, SzP 2 (ptI P z) := fun z hz => by
  obtain ⟨S, Q⟩ := R z hz;obtain ⟨q, rfl⟩ : ∃ q : Nat, z = (q : Int) := ⟨z.toNat, by omega⟩;rw [pIn P q (by omega)];exact I.sz _ (List.getElem_mem _)
 have S := N tr.1 (by simp [idxOf]);have Q := N tr.2.1 (by simp [idxOf]);have J := N tr.2.2 (by simp [idxOf]);have f0 := hI_Sz Z O tr.1;have f1 := hI_Sz Z O tr.2.1;have f2 := hI_Sz Z O tr.2.2;have Y := Q.1.sub S.1;have V := Q.2.sub S.2;have X := J.1.sub S.1;have U := J.2.sub S.2;have L := f1.sub f0;have K := f2.sub f0;have D := (Y.mul U).sub (V.mul X);have G := (L.mul U).sub (V.mul K);have E := (Y.mul K).sub (L.mul X);have H := Sz.one.div D (by omega);unfold sa0 sQQ mQQ;exact ⟨(H.mul G).mono (by omega), (H.mul E).mono (by omega)⟩
theorem oQS {P : List PtQ} {T : List Tri} (X : MeshOK P T 2) {F : List Rat} {m : Nat} (Z : 0 < m) (V : ∀ q ∈ F, Sz m q) {tr : Tri} (Y : tr ∈ T) {p : PtQ} (S : SzP 20 p) : Sz (9 * m + 140) (onQ P F tr p) := by
 have R := sS2 X Z V Y;have U : SzP 2 (ptI P tr.1) := by
  obtain ⟨Q, O⟩ := X.idx tr Y tr.1 (by simp [idxOf]);obtain ⟨q, hq⟩ : ∃ q : Nat, tr.1 = (q : Int) := ⟨tr.1.toNat, by omega⟩;rw [hq, pIn P q (by omega)];exact X.sz _ (List.getElem_mem _)
 have f := hI_Sz Z V tr.1;have a := R.1.mul (S.1.sub U.1);have b := R.2.mul (S.2.sub U.2);unfold onQ;exact ((f.add a).add b).mono (by omega)
theorem tZn {a b c : PtQ} (h : 0 <= turnZ a b c) : 0 <= areaQ a b c := by
 unfold turnZ at h;have Y : 0 <= (areaQ a b c).num := by
  rcases Int.lt_trichotomy (areaQ a b c).num 0 with Z | Z | Z
  ·rw [Int.sign_eq_neg_one_of_neg Z] at h; omega
  ·omega
  ·omega
 exact Rat.num_nonneg.1 Y
theorem oQl {P : List PtQ} {F G : List Rat} {tr : Tri} {p : PtQ} (hA : 0 < areaQ (ptI P tr.1) (ptI P tr.2.1) (ptI P tr.2.2)) (Z : iBB (ptI P tr.1) (ptI P tr.2.1) (ptI P tr.2.2) p = true) (h : ∀ z : Int, hI F z <= hI G z) : onQ P F tr p <= onQ P G tr p := by
 have X : areaQ (ptI P tr.1) (ptI P tr.2.1) (ptI P tr.2.2) ≠ 0 := fun e => by rw [e] at hA; exact absurd hA (by decide)
 rw [<- lTe X, <- lTe X];unfold iBB at Z;simp only [Bool.and_eq_true, decide_eq_true_eq] at Z;have S : areaQ p (ptI P tr.2.1) (ptI P tr.2.2) = areaQ (ptI P tr.2.1) (ptI P tr.2.2) p := by unfold areaQ; grind
 have R : areaQ p (ptI P tr.2.2) (ptI P tr.1) = areaQ (ptI P tr.2.2) (ptI P tr.1) p := by unfold areaQ; grind
 have Q : areaQ p (ptI P tr.1) (ptI P tr.2.1) = areaQ (ptI P tr.1) (ptI P tr.2.1) p := by unfold areaQ; grind
 have U := tZn Z.1.1;have a0 := tZn Z.1.2;have V := tZn Z.2;unfold lonT;rw [S, R, Q, Rat.div_def, Rat.div_def];have Y : 0 <= (areaQ (ptI P tr.1) (ptI P tr.2.1) (ptI P tr.2.2))⁻¹ := Rat.le_of_lt (Rat.inv_pos.2 hA);refine Rat.mul_le_mul_of_nonneg_right ?_ Y;have O := Rat.mul_le_mul_of_nonneg_left (h tr.1) a0;have N := Rat.mul_le_mul_of_nonneg_left (h tr.2.1) V;have M := Rat.mul_le_mul_of_nonneg_left (h tr.2.2) U;grind
def hgtL (P : List PtQ) (B : List Rat) (S : List (List Rat)) (tr : Tri) (p : PtQ) : List Rat := (B :: S).map fun F => onQ P F tr p
theorem hC0 (P : List PtQ) (B : List Rat) (S : List (List Rat)) (Z : Tri) (p : PtQ) : (hgtL P B S Z p).length = S.length + 1 := by unfold hgtL; simp
theorem hJ0 (P : List PtQ) (B : List Rat) (S : List (List Rat)) (Z : Tri) (p : PtQ) (i : Nat) (Y : i < S.length + 1) : (hgtL P B S Z p)[i]? = some (onQ P ((B :: S)[i]?.getD []) Z p) := by
 unfold hgtL;rw [List.getElem?_map, List.getElem?_eq_getElem (by simpa using Y)];simp
def upTo (H : List Rat) (z : Rat) : Nat -> Nat
 | 0 => 0
 | i + 1 => upTo H z i + if H[i + 1]?.getD 0 <= z then 1 else 0
theorem cHf (H : List Rat) (z : Rat) : ∃ k, cHH H z = k /\ k <= H.length /\ (∀ i, i < k -> ∀ Z : i < H.length, H[i] <= z) /\ (∀ X : k < H.length, ¬ H[k] <= z) := by
 have key : ∀ n, n <= H.length -> (∀ i, i < n -> ∀ Z : i < H.length, H[i] <= z) \/ ∃ k, ∃ X : k < H.length, (∀ i, i < k -> ∀ Z : i < H.length, H[i] <= z) /\ ¬ H[k] <= z := fun n => by
  induction n with
  | zero => intro _; exact .inl fun i Z => by omega
  | succ n ih =>
    intro S;rcases ih (by omega) with h | h
    ·by_cases Y : H[n] <= z
     ·refine .inl fun i Z hl => ?_
      rcases Nat.lt_or_ge i n with U | U
      ·exact h i U hl
      ·obtain rfl : i = n := by omega
       exact Y
     ·exact .inr ⟨n, S, h, Y⟩
    ·exact .inr h
 rcases key H.length (Nat.le_refl _) with h | ⟨k, X, V, Y⟩
 ·refine ⟨H.length, cc0 fun q hq => ?_, Nat.le_refl _, h, fun X => by omega⟩
  obtain ⟨i, Z, rfl⟩ := List.getElem_of_mem hq;exact h i Z Z
 ·exact ⟨k, cHa X (fun i Z => V i Z (by omega)) Y, by omega, V, fun _ => Y⟩
theorem uTc {H : List Rat} {z : Rat} (K : ∀ i j (X : i < H.length) (G : j < H.length), i <= j -> H[i] <= H[j]) (Q : 0 < H.length) (J : H[0] <= z) (n : Nat) (R : n < H.length) : (upTo H z n + 1 = cHH H z /\ cHH H z <= n) \/ (upTo H z n = n /\ n < cHH H z) := by
 have S : ∀ i (X : i < H.length), H[i] <= z ↔ i < cHH H z := by
  obtain ⟨k, M, L, O, N⟩ := cHf H z;rw [M];intro i X;refine ⟨fun hle => ?_, fun h => O i h X⟩;rcases Nat.lt_or_ge i k with Z | Z
  ·exact Z
  ·have Y : k < H.length := by omega
   exact absurd (Rat.le_trans (K _ _ Y X Z) hle) (N Y)
 have V := (S 0 Q).1 J
 induction n with
 | zero => exact .inr ⟨rfl, V⟩
 | succ n ih =>
   have Z := S (n + 1) R;have U : H[n + 1]?.getD 0 = H[n + 1] := by rw [List.getElem?_eq_getElem R]; rfl
   rcases ih (by omega) with ⟨a, b⟩ | ⟨a, b⟩
   ·left
    refine ⟨?_, by omega⟩;unfold upTo;rw [U, if_neg (fun h => by have := Z.1 h; omega)];omega
   ·by_cases h2 : H[n + 1] <= z
    ·right
     refine ⟨?_, Z.1 h2⟩;unfold upTo;rw [U, if_pos h2, a]
    ·left
     have I : ¬ n + 1 < cHH H z := fun h => h2 (Z.2 h);refine ⟨?_, by omega⟩;unfold upTo;rw [U, if_neg h2, a];omega
theorem cHn {H : List Rat} {z : Rat} (Z : 0 < H.length) (Y : ¬ H[0] <= z) : cHH H z = 0 := cHa Z (fun i hi => by omega) Y
theorem uTa {H : List Rat} {z : Rat} (V : ∀ i j (U : i < H.length) (S : j < H.length), i <= j -> H[i] <= H[j]) (n : Nat) (R : H.length = n + 1) : (if z < H[0]?.getD 0 then (-1 : Int) else (upTo H z n : Int)) = (cHH H z : Int) - 1 := by
 have Z : 0 < H.length := by omega
 have X : H[0]?.getD 0 = H[0] := by rw [List.getElem?_eq_getElem Z]; rfl
 rw [X];by_cases hz : z < H[0]
 ·rw [if_pos hz, cHn Z (fun h => absurd (Rat.not_le.2 hz) (fun h2 => h2 h))]; rfl
 ·rw [if_neg hz]
  have Y : H[0] <= z := Rat.not_lt.1 hz;rcases uTc V Z Y n (by omega) with ⟨a, b⟩ | ⟨a, b⟩
  ·omega
  ·have := cHl H z
   omega
theorem u2a (w : World) (hg : Good w) (a pt pb pu ps : Option Addr) (d c nb nu Z g f cb cu cs : Nat) (x y : ByteArray) (z : Rat) (H : List Rat) (hH : H.length = Z + 1) (hE : Z <= 60) (k : Nat) (hk : 0 < k) (hd : k <= 20000) (hb : ∀ q ∈ H, Sz k q) (hf : Sz k z)
 (E : Hid (∀ w', Below w.heap.size w w' -> Good w' -> Calls Tryz.prog 42 #[.agg #[.slice a d g, .slice pt c f], .slice pb nb cb, .agg #[.string x, .string y]] w' (Ret (fun r _ => r = .tuple #[.string (RS ((H[0]?).getD 0)), .bool true]) w')))
 (hl : Hid (∀ i, i < Z -> ∃ (b o : Nat) (pf : Option Addr) (nf cf : Nat), ps = some ⟨b, o, none⟩ /\ b < w.heap.size /\ w.cell? ⟨b, o + i, none⟩ = some (.slice pf nf cf) /\
   ∀ w', Below w.heap.size w w' -> Good w' -> Calls Tryz.prog 42 #[.agg #[.slice a d g, .slice pt c f], .slice pf nf cf, .agg #[.string x, .string y]] w' (Ret (fun r _ => r = .tuple #[.string (RS ((H[i + 1]?).getD 0)), .bool true]) w'))) :
 Calls Tryz.prog 18 #[.agg #[.slice a d g, .slice pt c f], .agg #[.slice pb nb cb, .slice pu nu cu, .slice ps Z cs], .agg #[.string x, .string y, .string (RS z)]] w (Ret (fun r w' => ∃ vh, r = .tuple #[.int .i64 (if z < H[0]?.getD 0 then (-1 : Int) else (upTo H z Z : Int)), vh] /\ RdQ w' vh H) w) := by
 obtain ⟨i0, hi, hu, hv, hw⟩ := info_parts isr;have HZ : Hid (∀ i, Sz k (H[i]?.getD 0)) := fun i => by
  by_cases h : i < H.length
  ·rw [List.getElem?_eq_getElem h]; exact hb _ (List.getElem_mem h)
  ·rw [List.getElem?_eq_none (by omega)]; exact Sz.zero _ hk
 obtain ⟨M, I⟩ : ∃ q, q = H[0]?.getD 0 := ⟨_, rfl⟩;have hn : Hid (H.take 1 = [M]) := by
  unfold Hid;rw [I, List.getElem?_eq_getElem (by omega)];rw [List.take_succ_eq_append_getElem (by omega)];rfl
 have hq : Hid (∀ i, i < Z -> H.take (i + 1 + 1) = H.take (i + 1) ++ [H[i + 1]?.getD 0]) := fun i hi => by
  rw [List.take_succ_eq_append_getElem (by omega), List.getElem?_eq_getElem (by omega)];rfl
 have ho : Hid (H.take (Z + 1) = H) := by unfold Hid; rw [List.take_of_length_le (by omega)]
 have hs : Hid (Sz k M) := by rw [I]; exact HZ.out 0
 have h6 := hid hf;have hm := hid hH;rw [<- I] at E ⊢;have l : ∀ n, upTo H z n <= n := fun n => by
  induction n with
  | zero => exact Nat.le_refl _
  | succ n ih => unfold upTo; split <;> omega
 have hr := hid l;clear hb hH I hf l;go_enter Tryz.func18, Tryz.ntmps18;go_wp2_with fail;obtain ⟨W, A⟩ := zex ((((w.alloc (.cells #[.slice a d g, .slice pt c f] 38)).alloc (.cells #[.slice pb nb cb, .slice pu nu cu, .slice ps Z cs] 44)).alloc (.cells #[.string x, .string y, .string (RS z)] 57)).alloc (.cells #[.string x, .string y] 49));have hB : Below w.heap.size w W := by rw [A]; exact ((((Below.refl _ _).alloc (Nat.le_refl _) _).alloc (by simp) _).alloc (by simp; omega) _).alloc (by simp; omega) _
 have bm : BoxN W w.heap.size 38 [.slice a d g, .slice pt c f] := by rw [A]; exact (((BoxN.new _ _ _ _ rfl).alloc _).alloc _).alloc _
 have bd : BoxN W (w.heap.size + 1) 44 [.slice pb nb cb, .slice pu nu cu, .slice ps Z cs] := by rw [A]; exact ((BoxN.new _ _ _ _ (by simp)).alloc _).alloc _
 have bv : BoxN W (w.heap.size + 1 + 1) 57 [.string x, .string y, .string (RS z)] := by rw [A]; exact (BoxN.new _ _ _ _ (by simp)).alloc _
 have bp : BoxN W (w.heap.size + 1 + 1 + 1) 49 [.string x, .string y] := by rw [A]; exact BoxN.new _ _ _ _ (by simp)
 rw [<- A];clear A;refine zR (E.out W hB (hg.below hB)) fun o1 hb1 => ?_;have B := zbt hB hb1;have cm := bm.bl hb1;have cd := bd.bl hb1;have cv := bv.bl hb1;have h7 := bp.bl hb1;clear hb1 hB bm bd bv bp E;go_wp2_with fail;obtain ⟨V, hV⟩ := zex (o1.alloc (.cells #[.string (RS M)] 47));have p : V.ownsRow o1.heap.size 47 1 (.slice (some ⟨o1.heap.size, 0, none⟩) 1 1) 1 [.string (RS M)] := by rw [hV]; exact oo2 o1 o1.heap.size 47 _ (Nat.le_refl _)
 have ht : Below o1.heap.size o1 V := by rw [hV]; exact zal _ _
 rw [<- hV];clear hV;have lm := cm.lt;have ld := cd.lt;have lv := cv.lt;have lp := h7.lt;go_loopw [11, 12, 13] (fun t11 t12 t13 wr => ∃ (i : Nat), t13 = .int .i64 i /\ i <= Z /\ t12 = .int .i64 (upTo H z i : Int) /\ wr.ownsRow o1.heap.size 47 1 t11 (i + 1) (cFd (H.take (i + 1))) /\ Below o1.heap.size o1 wr) (fun _ _ t13 _ => Z - (RowKit.intOf t13).toNat)
 case atStart => exact ⟨0, rfl, Nat.zero_le _, rfl, by rw [hn.out]; exact p, ht⟩
 case round =>
  obtain ⟨i, rfl, hD, rfl, X, S⟩ := hrel;have U := zbt B S;have em := cm.below S lm;have ed := cd.below S ld;have ev := cv.below S lv;have ep := h7.below S lp;obtain ⟨m0, m1⟩ := zk2 em;have d2 := ed.cell 2 rfl;have v2 := ev.cell 2 rfl;obtain ⟨q0, q1⟩ := zk2 ep;have l := hr.out i;obtain ⟨p3, c3, rfl⟩ := oRs X;rcases Nat.lt_or_ge i Z with h | h
  ·have hC : (i : Int) < (Z : Int) := by omega
   obtain ⟨bs, os, pf, nf, cf, rfl, J, hc, h8⟩ := hl.out i h;have h2 := hid h8;have hy : bs < o1.heap.size := Nat.lt_of_lt_of_le J B.size;have hA : bs < wr.heap.size := Nat.lt_of_lt_of_le J U.size;have xs := zcq U J hc;have hp := hid (hq.out i h);have h5 : Hid (upTo H z (i + 1) = upTo H z i + if H[i + 1]?.getD 0 <= z then 1 else 0) := rfl;have D : Hid (∀ w', Good w' -> _) := fun w' hg' => rCa (H[i + 1]?.getD 0) z k hk hd (HZ.out (i + 1)) h6.out w' hg';generalize H[i + 1]?.getD 0 = qi at *;generalize upTo H z i = ui at *;have km := em.lt;have kd := ed.lt;have kv := ev.lt;have kp := ep.lt;clear hc h8 em ed ev ep J;go_upto_region 8 with fail;have s : Good wr.drew := (hg.below U).drewN 1;have ha : Below w.heap.size w wr.drew := U.trans ((bdN wr 1).mono U.size);go_cut [14, 15] (fun s14 s15 wx => s14 = .string (RS qi) /\ s15 = .bool true /\ Below wr.heap.size wr wx)
   case first =>
    go_region_held3 (fun w' => w'.cell? ⟨w.heap.size, 0, none⟩ = some (.slice a d g) /\ w'.cell? ⟨w.heap.size, 1, none⟩ = some (.slice pt c f) /\ w'.cell? ⟨w.heap.size + 1, 2, none⟩ = some (.slice (some ⟨bs, os, none⟩) Z cs) /\ w'.cell? ⟨w.heap.size + 1 + 1 + 1, 0, none⟩ = some (.string x) /\ w'.cell? ⟨w.heap.size + 1 + 1 + 1, 1, none⟩ = some (.string y) /\ w'.cell? ⟨bs, os + i, none⟩ = some (.slice pf nf cf))
     (first | exact ⟨m0, m1, d2, q0, q1, xs⟩ | exact ⟨p_1_0, p_1_1, p_1_2, p_1_3, p_1_4, p_1_5⟩)
     (first
     | (go_at_call 42; refine (h2.out _ ha s).mono ?_; rintro e hh ⟨_, rfl, rfl, Y⟩
        have p_1_0 := zct Y m0;have p_1_1 := zct Y m1;have p_1_2 := zct Y d2;have p_1_3 := zct Y q0;have p_1_4 := zct Y q1;have p_1_5 := zct Y xs;have hG : wr.heap.size <= hh.heap.size := Y.size;have hF := s.below Y))
    have pB : Below wr.heap.size wr hh := zbt (bdN wr 1) Y;go_wp2_with fail;go_meet;exact ⟨rfl, rfl, pB⟩
   case rest =>
   obtain ⟨rfl, rfl, v⟩ := hcut;have R := WRA X v;have L : Below o1.heap.size o1 wc := zbt S v;have he := L.size;clear v X S m0 m1 d2 v2 q0 q1 xs km kd kv kp s ha h2
   go_wp2_with (at_builtin; refine wpList_append_own _ rfl _ _ 39 rfl o1.heap.size 47 i0 (.string ⟨#[]⟩) 1 16 Tryz.underlying39 hi hu hv hw rfl (by decide) _ _ _ rfl (R.alloc _) ⟨wc.heap.size, 0, none⟩ 1 1 [.string (RS qi)] rfl rfl (cos _ _ _) (ocs _) (by unfold maxLen; omega) (by omega) (by simp; omega) ?_
                intro v2 w3 K N _;have O : Below o1.heap.size o1 w3 := (L.alloc (by omega) _).grown N (by simp; omega) (fun j hj => by have := (R.lt j hj).1; omega);have hx := (cv.below O lv).cell 2 rfl;clear N)
   refine zR (D.out w3 (hg.below ((zbt B O)))) fun w4 hb4 => ?_;have Q := WRA K hb4;have G : Below o1.heap.size o1 w4 := zbt O hb4;have h3 : Hid (w4.ownsRow o1.heap.size 47 1 v2 (i + 1 + 1) (cFd (H.take (i + 1 + 1)))) := by
    rw [hp.out];unfold cFd at Q ⊢;rw [List.map_append];exact Q
   clear Q K R hb4 O L he hx;by_cases hle : qi <= z
   ·have t := cq0 hle
    have C : Hid (((upTo H z (i + 1) : Nat) : Int) = (ui : Int) + 1) := by unfold Hid; rw [h5.out, if_pos hle]; omega
    generalize cmpQ qi z = cz at *;go_wp2_with fail;go_roundw
    case rel => exact ⟨i + 1, by simp, by omega, congrArg (Value.int .i64) C.out.symm, h3.out, G⟩
    case measure =>
     show Z - ((i : Int) + 1).toNat < Z - (i : Int).toNat;omega
   ·have t : ¬ cmpQ qi z <= 0 := fun h => by have := (cQp qi z).2 (Rat.not_le.1 hle); omega
    have C : Hid (((upTo H z (i + 1) : Nat) : Int) = (ui : Int)) := by unfold Hid; rw [h5.out, if_neg hle]; omega
    generalize cmpQ qi z = cz at *;go_wp2_with fail;go_roundw
    case rel => exact ⟨i + 1, by simp, by omega, congrArg (Value.int .i64) C.out.symm, h3.out, G⟩
    case measure =>
     show Z - ((i : Int) + 1).toNat < Z - (i : Int).toNat;omega
  ·obtain rfl : i = Z := by omega
   have D : Hid (∀ w', Good w' -> _) := fun w' hg' => rCa z M k hk hd h6.out hs.out w' hg';have m : FldV wr o1.heap.size (.slice p3 (i + 1) c3) H := by
    unfold FldV;rw [hm.out];have h1 := X;rw [ho.out] at h1;exact h1
   clear X;go_wp2_with fail;refine zR (D.out wr (hg.below U)) fun w2 hb2 => ?_;have h4 : Hid (RdQ w2 (.slice p3 (i + 1) c3) H) := RdC.below m.rd hb2;have h9 := zbt U hb2;by_cases hz : z < M
   ·have t : cmpQ z M < 0 := (cQn z M).2 hz
    generalize cmpQ z M = cz at *;clear hb2 m m0 m1 d2 v2 q0 q1 em ed ev ep;go_wp2_with fail;go_ret2;exact ⟨_, rfl, ⟨.slice p3 (i + 1) c3, rfl, h4.out⟩, h9⟩
   ·have t : ¬ cmpQ z M < 0 := fun h => hz ((cQn z M).1 h)
    generalize cmpQ z M = cz at *;clear hb2 m m0 m1 d2 v2 q0 q1 em ed ev ep;go_wp2_with fail;go_ret2;exact ⟨_, rfl, ⟨.slice p3 (i + 1) c3, rfl, h4.out⟩, h9⟩
theorem uTn (n : Nat) (Z : n <= 3) : ∀ i (h : i < (uTo (n + 1)).length), nameQ (uTo (n + 1))[i] = true /\ hasS ((uTo (n + 1)).take i) (uTo (n + 1))[i] = false := by
 rcases (by omega : n = 0 \/ n = 1 \/ n = 2 \/ n = 3) with rfl | rfl | rfl | rfl <;> decide +kernel
theorem uTl (m : Nat) : (uTo m).length = m := by unfold uTo; simp
theorem uTf (n : Nat) : ∀ u ∈ uTo n, u ≠ ⟨#[]⟩ := fun u hu e => by
 unfold uTo at hu;obtain ⟨i, _, rfl⟩ := List.mem_map.1 hu;unfold nameU at e;simp at e
theorem tTu (n : Nat) (B : List Rat) (H : List StepQ) (Z : B.length = n) (i : Nat) (z : Int) : hI (topTo n B H i) z <= hI (topTo n B H (i + 1)) z := by
 unfold hI;have X := tTl n B H Z i;have Y := tTl n B H Z (i + 1);rcases Nat.lt_or_ge z.toNat n with h | h
 ·have U := sFl n (H[i]?.getD ([], false))
  have V : 0 <= (stepF n (H[i]?.getD ([], false)))[z.toNat]'(by omega) := by
   unfold stepF;rw [List.getElem_map];exact Rat.abs_nonneg
  have e : (topTo n B H (i + 1))[z.toNat]? = some ((topTo n B H i)[z.toNat]'(by omega) + (stepF n (H[i]?.getD ([], false)))[z.toNat]'(by omega)) := by
   show (List.zipWith (·+ ·) (topTo n B H i) (stepF n (H[i]?.getD ([], false))))[z.toNat]? = _;rw [List.getElem?_zipWith, List.getElem?_eq_getElem (by omega), List.getElem?_eq_getElem (by omega)]
  rw [e, List.getElem?_eq_getElem (by omega)];show (topTo n B H i)[z.toNat]'(by omega) <= (topTo n B H i)[z.toNat]'(by omega) + (stepF n (H[i]?.getD ([], false)))[z.toNat]'(by omega);grind
 ·rw [List.getElem?_eq_none (by omega), List.getElem?_eq_none (by omega)]
  exact Rat.le_refl
theorem fNt (n : Nat) (B : List Rat) (H : List StepQ) (m i : Nat) (Z : i <= m) : fldN B (sTo n B H m) i = topTo n B H i := by
 unfold fldN sTo;cases i with
 | zero => rfl
 | succ i =>
   rw [List.getElem?_cons_succ, List.getElem?_map, List.getElem?_range (by omega)];rfl
theorem tmm {n : Nat} {B : List Rat} {H : List StepQ} {m : Nat} {F : List Rat} (h : F ∈ B :: sTo n B H m) : ∃ i, i <= m /\ F = topTo n B H i := by
 rcases List.mem_cons.1 h with rfl | h
 ·exact ⟨0, by omega, rfl⟩
 ·unfold sTo at h
  obtain ⟨i, Z, rfl⟩ := List.mem_map.1 h;exact ⟨i + 1, by have := List.mem_range.1 Z; omega, rfl⟩
theorem pnn {w : World} {vp vt vb vu vs : Value} (k : Nat) (N M : Int) (Y : Bool) (A : List Int) (L : Bool) (H : List StepQ) (I : H.length <= 3) (P : List PtQ) (G : P = sPP k N M Y) (T : List Tri) (E : T = sTT k) (B : List Rat) (Q : B = hFF A L P.length)
 (C : RdP w vp (strP P)) (z : RdT w vt T) (D : RdQ w vb B) (y : RdS w vu (uTo (H.length + 1))) (x : RdF w vs (sTo P.length B H H.length)) :
 DepN w vp vt vb vu vs P T 3 B (uTo (H.length + 1)) (sTo P.length B H H.length) := by
 have O : MeshOK P T 2 := by rw [G, E]; exact sok k N M Y
 have Z : B.length = P.length := by rw [Q, he0]
 have S : ∀ q ∈ B, Fr 2 38 q := by rw [Q]; exact fht _ _ _
 have X : ∀ F ∈ B :: sTo P.length B H H.length, F.length = P.length := fun F hF => by
  obtain ⟨i, R, rfl⟩ := tmm hF;exact tTl _ _ _ Z i
 have V : ∀ F ∈ B :: sTo P.length B H H.length, ∀ q ∈ F, Sz 3 q := fun F hF q hq => by
  obtain ⟨i, R, rfl⟩ := tmm hF;exact s3o ((ftp _ _ _ S i q hq).mono (by omega))
 have U : (uTo (H.length + 1)).length = (sTo P.length B H H.length).length + 1 := by rw [uTl, sTl]
 refine ⟨C, z, O.up (by omega) (by omega), D, y, x, X, V, U, by rw [uTl]; omega, ?_⟩;refine dEr ?_ X (fun F hF q hq => (V F hF q hq).mono (by omega)) U (by rw [uTl]; omega) (uTn _ I) (fun i R => ?_)
 ·intro e
  have := O.some;simp [e] at this
 ·rw [sTl] at R
  rw [fNt _ _ _ _ _ (by omega), fNt _ _ _ _ _ (by omega), bBi _ _ (by rw [tTl _ _ _ Z, tTl _ _ _ Z])];intro j K J;have := tTu P.length B H Z i (j : Int);rw [ht0 _ _ K, ht0 _ _ J] at this;exact this
theorem psd {P : List PtQ} {T : List Tri} {k : Nat} (L : MeshOK P T k) {B : List Rat} {H : List StepQ} (X : B.length = P.length) {tr : Tri} (S : tr ∈ T) {p : PtQ} (V : iBB (ptI P tr.1) (ptI P tr.2.1) (ptI P tr.2.2) p = true) (n : Nat) :
 ∀ i j (Z : i < (hgtL P B (sTo P.length B H n) tr p).length) (U : j < (hgtL P B (sTo P.length B H n) tr p).length), i <= j -> (hgtL P B (sTo P.length B H n) tr p)[i] <= (hgtL P B (sTo P.length B H n) tr p)[j] := by
 have hA := aQp L S;have O : ∀ i (Z : i < (hgtL P B (sTo P.length B H n) tr p).length), (hgtL P B (sTo P.length B H n) tr p)[i] = onQ P (topTo P.length B H i) tr p := fun i Z => by
  have Y := Z;rw [hC0, sTl] at Y;have R := hJ0 P B (sTo P.length B H n) tr p i (by rw [sTl]; exact Y);rw [List.getElem?_eq_getElem Z] at R;have N := Option.some.inj R;rw [N];have Q := fNt P.length B H n i (by omega);unfold fldN at Q;rw [Q]
 intro i j Z U M;rw [O i Z, O j U];clear U Z
 induction j with
 | zero => obtain rfl : i = 0 := by omega
           exact Rat.le_refl
 | succ j ih =>
   rcases Nat.lt_or_ge i (j + 1) with h | h
   ·exact Rat.le_trans (ih (by omega)) (oQl hA V (tTu P.length B H X j))
   ·obtain rfl : i = j + 1 := by omega
    exact Rat.le_refl
def MadeN (k : Nat) (s0 s1 : Int) (half : Bool) (r : Value) (w' : World) : Prop := ∃ pp cp pt ct pb cb pu cu ps cs P T B H U n, r = .tuple #[.agg #[.slice pp (List.length P) cp, .slice pt (List.length T) ct], .agg #[.slice pb (List.length P) cb, .slice pu (List.length U) cu, .slice ps n cs]] /\ P = sPP k s0 s1 half /\ T = sTT k /\ n <= 3 /\ List.length B = List.length P /\ U = uTo (n + 1) /\ DepN w' (.slice pp P.length cp) (.slice pt T.length ct) (.slice pb P.length cb) (.slice pu U.length cu) (.slice ps n cs) P T 3 B U (sTo P.length B H n) /\ ∀ F ∈ B :: sTo P.length B H n, ∀ q ∈ F, Fr 2 152 q
theorem m2n (w : World) (U X V : Int) (Z : Bool) (M : Nat) (o : U.tmod 8 = (M : Int)) (I : 0 <= U) (G : U <= 255) (E : -128 <= X /\ X <= 127) (D : -128 <= V /\ V <= 127) (a0 S R Q O N : Int) (L : Bool) (t : ∀ x ∈ [a0, S, R, Q, O, N], -128 <= x /\ x <= 127) (C : Value) (H : List StepQ) (v : RdSt w C H) (Y : H.length <= 3) (p : Good w) :
 Calls Tryz.prog 8 #[.agg #[.int .u8 U, .int .i8 X, .int .i8 V, .bool Z, .int .i8 a0, .int .i8 S, .int .i8 R, .int .i8 Q, .int .i8 O, .int .i8 N, .bool L, C]] w (Ret (fun r w' => MadeN M X V Z r w') w) := by
 refine (m2a w U X V Z M o I G E D a0 S R Q O N L t C H v Y _ rfl _ rfl p).mono ?_;rintro e w' ⟨_, rfl, ⟨a, vt, b, vu, vs, rfl, n, l, s, k, m⟩, K⟩;have J := pnn M X V Z [a0, S, R, Q, O, N] L H Y _ rfl _ rfl _ rfl n l s k m;obtain ⟨h, A, f, z, j, B, d, y, g, cs, rfl, rfl, rfl, rfl, rfl⟩ := J.open;rw [sTl] at J ⊢;exact ⟨_, rfl, ⟨h, A, f, z, j, B, d, y, g, cs, _, _, _, H, _, _, rfl, rfl, rfl, Y, he0 _ _ _, rfl, J, fun F hF q hq => by
  obtain ⟨i, c, rfl⟩ := tmm hF;exact (ftp _ _ _ (fht _ _ _) i q hq).mono (by omega)⟩, K⟩
end Go.Proofs.YtlodicfimpgibaaGreatDoor
