import Derived.Test.YtmcbeajdloaliaaGreatDoorVS44
/- Plain A drawn region in which the world only grows klippelaw28.known A plan's deposit is right stack.Of at the layers of a plan. What a plan's Make gives to the laws of a deposit. klippelaw28.known. klippelaw28.StackSurfaces. -/
set_option maxHeartbeats 16000000
set_option maxRecDepth 100000
namespace Go.Proofs.YtmcbeajdloaliaaGreatDoor
open Go.RowKit Go.Lib
theorem dg0 {P : List PtQ} {T : List Tri} {B : List Rat} {U : List ByteArray} {S : List (List Rat)} (R : T ≠ []) (Q : ∀ F ∈ B :: S, F.length = P.length) (M : ∀ F ∈ B :: S, ∀ q ∈ F, Sz 200 q) (L : U.length = S.length + 1) (V : U.length <= 60)
 (O : ∀ i (h : i < U.length), nameQ U[i] = true /\ hasS (U.take i) U[i] = false) (N : ∀ i, i < S.length -> belowB (fldN B S i) (fldN B S (i + 1)) = true) : depE P T (B.map RS) U (S.map fun F => F.map RS) = 0 := by
 have Z : ∀ F ∈ B :: S, errF P.length (F.map RS) = 0 := fun F hF => eFo (Q F hF) (M F hF);rw [dEr R (Z B (by simp)), if_neg (by omega), if_neg (by omega)];rw [fEn (fun j hj => by
  obtain ⟨Y, X⟩ := O j hj;exact uBo hj Y X), if_neg (by simp), if_neg (by rw [List.length_map]; omega)]
 refine fEn fun j hj => ?_;rw [List.length_map] at hj;unfold sBd;rw [fTm, fTm, if_neg (by rw [Z _ (fNm B S (by omega))]; simp), nTm, nTm, if_pos (N j hj)]
def pP28 : List PtQ := [(0, 0), (4, 0), (4, 4), (0, 4)]
def tT28 : List Tri := [(0, 1, 2), (0, 2, 3)]
theorem k28_P : sb0 0 0 0 false = pP28 := by decide +kernel
theorem k28_T : sTT 0 = tT28 := by decide +kernel
theorem k2m : MeshOK pP28 tT28 2 := by rw [<- k28_P, <- k28_T]; exact sk0 0 0 0 false
theorem k2l : locN pP28 tT28 (1, 1) tT28.length = ((0 : Nat) : Int) :: [1] := by decide +kernel
theorem k2v : volTo pP28 tT28 (subQ [5, 5, 5, 5] [2, 2, 2, 2]) 0 tT28.length = 48 := by decide +kernel
def uU28 : List ByteArray := [⟨#[97]⟩, ⟨#[98]⟩, ⟨#[99]⟩]
theorem k2n : ∀ i (h : i < uU28.length), nameQ uU28[i] = true /\ hasS (uU28.take i) uU28[i] = false := by
 intro i h
 match i, h with
 | 0, _ => exact ⟨show nameQ ⟨#[97]⟩ = true by decide +kernel, show hasS [] ⟨#[97]⟩ = false by decide +kernel⟩
 | 1, _ => exact ⟨show nameQ ⟨#[98]⟩ = true by decide +kernel, show hasS [⟨#[97]⟩] ⟨#[98]⟩ = false by decide +kernel⟩
 | 2, _ => exact ⟨show nameQ ⟨#[99]⟩ = true by decide +kernel, show hasS [⟨#[97]⟩, ⟨#[98]⟩] ⟨#[99]⟩ = false by decide +kernel⟩
theorem sz2n (n : Nat) (h : n < 10) : Sz 2 ((n : Int) : Rat) := (sz1 n h).mono (by omega)
theorem k2s {F : List Rat} (h : F ∈ [([0, 0, 0, 0] : List Rat), [2, 2, 2, 2], [5, 5, 5, 5]]) : ∀ q ∈ F, Sz 2 q := by
 intro q hq;simp only [List.mem_cons, List.not_mem_nil, or_false] at h;rcases h with rfl | rfl | rfl <;> simp at hq <;> subst hq
 ·exact sz2n 0 (by omega)
 ·exact sz2n 2 (by omega)
 ·exact sz2n 5 (by omega)
theorem k2d : depE pP28 tT28 (([0, 0, 0, 0] : List Rat).map RS) uU28 (([[2, 2, 2, 2], [5, 5, 5, 5]] : List (List Rat)).map fun F => F.map RS) = 0 :=
 dg0 (by decide) (by decide) (fun F hF q hq => (k2s hF q hq).mono (by omega)) rfl (by decide) k2n (by decide +kernel)
theorem k28_n {w : World} {vp vt vb vu vs : Value} (Y : RdP w vp (strP pP28)) (V : RdT w vt tT28) (Z : RdQ w vb [0, 0, 0, 0]) (U : RdS w vu uU28) (X : RdF w vs [[2, 2, 2, 2], [5, 5, 5, 5]]) : DepN w vp vt vb vu vs pP28 tT28 2 [0, 0, 0, 0] uU28 [[2, 2, 2, 2], [5, 5, 5, 5]] :=
 ⟨Y, V, k2m, Z, U, X, by decide, fun F hF => k2s hF, rfl, by decide, k2d⟩
theorem k28_at : uAt uU28 [0, 2, 5] 2 = ⟨#[98]⟩ /\ cHH [0, 2, 5] 2 = 2 := by decide +kernel
theorem k2c : decide (cHH [0, 2, 5] 2 = 0) = false := by decide +kernel
theorem kf0 : logL uU28 [0, 2, 5] 6 = [⟨⟨#[99]⟩, 0, 1⟩, ⟨⟨#[98]⟩, 1, 4⟩, ⟨⟨#[97]⟩, 4, 6⟩] := by decide +kernel
theorem k2i : insS [0, 0, 0, 0] [[2, 2, 2, 2], [5, 5, 5, 5]] [1, 1, 1, 1] 1 = [[2, 2, 2, 2], [3, 3, 3, 3], [6, 6, 6, 6]] := by decide +kernel
theorem kd0 : sd0 pP28 [0, 0, 0, 0] (0, 1, 2) = (0, 0) /\ sd0 pP28 [2, 2, 2, 2] (0, 1, 2) = (0, 0) /\ sd0 pP28 [5, 5, 5, 5] (0, 1, 2) = (0, 0) /\ onQ pP28 [0, 0, 0, 0] (0, 1, 2) (1, 1) = 0 /\ onQ pP28 [2, 2, 2, 2] (0, 1, 2) (1, 1) = 2 /\ onQ pP28 [5, 5, 5, 5] (0, 1, 2) (1, 1) = 5 := by decide +kernel
open Go Go.Shelf
theorem wof {ops : Array Oper} {o ok : Oper} {a : Act} {k d : Nat} {b : Bool} (X : o.guard = some (k, b)) (V : ops[k]? = some ok) (Y : ok.dst = some d) (Z : a.eval (.tmp d) = .bool b) : Region.wanted o (yielded ops a.tmps) = true := by
 have h : a.tmps[d]? = some (.bool b) := by
  replace Z : a.tmps.getD d undef = .bool b := Z;rw [Array.getD_eq_getD_getElem?] at Z;cases hc : a.tmps[d]? with
  | none => rw [hc] at Z; cases Z
  | some v => rw [hc] at Z; exact congrArg some Z
 cases b <;> simp [Region.wanted, yielded, X, V, Y, h]
theorem wd0 {n : Nat} {P : Program} {Q : Exit -> Act -> World -> Prop} {o : Oper} {a : Act} {w w' : World} {K : Act -> World -> Prop} {v : Value} (Y : ∀ c, o.op ≠ .defer c) (X : (execOp a.eval o).run P w = .ok (.value v) w') (Z : K (a.put o.dst v) w') : o.wpIn Fence.wide n P a w K Q := by
 refine ⟨fun _ _ => trivial, ?_⟩;rw [Oper.semAt_eq _ _ _ Y, X]; exact Z
section
variable {P : Program} {Q : Exit -> Act -> World -> Prop}
structure Mono (ops : Array Oper) (V : Nat -> World -> Value -> Prop) (W : World) (a0 : Act) (listed : Array Bool) (a : Act) (X : World) : Prop where
 below : Below W.heap.size W X
 has : ∀ j oj d, ops[j]? = some oj -> oj.dst = some d -> listed.getD j false = true -> V j X (a.eval (.tmp d))
 old : ∀ s, (∀ (j : Nat) (oj : Oper), ops[j]? = some oj -> oj.dst ≠ some s) -> a.eval (.tmp s) = a0.eval (.tmp s)
theorem wrm {id : Nat} {l : List Oper} {a : Act} {w : World} (V : Nat -> World -> Value -> Prop) (B : ∀ i X X' v, V i X v -> Below X.heap.size X X' -> V i X' v) (A : P.follows .mixedOrders = true) (H : tidyB l.toArray a.tmps.size = true)
 (S : ∀ Z Y X i o, l.toArray[i]? = some o -> (∀ e ∈ o.after, Region.binds .any e = true -> Z.getD e.on false = true) -> Mono l.toArray V w a Z Y X ->
   Region.wanted o (yielded l.toArray Y.tmps) = true /\ o.wpIn Fence.wide 1 P Y X (fun a'' X' => ∃ v, Below X.heap.size X X' /\ (∀ d, o.dst = some d -> V i X' v) /\ a'' = Y.put o.dst v) Q)
 (N : ∀ Z Y X, (∀ i, i < l.toArray.size -> Z.getD i false = true) -> Mono l.toArray V w a Z Y X -> Y.tmps.size = a.tmps.size -> Y.defers = a.defers -> Q .normal Y X) :
 (Code.region id l.toArray true).wp P Q a w := by
 refine (wpIn_wide (n := 1)).1 ?_;refine wIr (fun _ _ => True) (fun Z Y X => Mono l.toArray V w a Z Y X) A H ⟨bdN w 1, fun j oj d hj _ J => ?_, fun _ _ => rfl⟩ ?_ ?_
 ·simp [Array.getD_eq_getD_getElem?] at J
  have M := (Array.getElem?_eq_some_iff.1 hj).1;simp at M;simp [M] at J
 ·intro Z Y X i o L J O K U
  obtain ⟨D, C⟩ := S Z Y X i o L O U;refine ⟨D, Oper.wpIn_mono (fun a'' X' h => ?_) C⟩;obtain ⟨v, E, z, rfl⟩ := h;refine ⟨v, trivial, rfl, (zbt U.below E), fun j oj d hj hd hlj => ?_, fun s hs => ?_⟩
  ·by_cases hji : i = j
   ·subst hji
    rw [L] at hj;cases hj;rw [hd, eps (by rw [K.tsize]; exact tdt H L hd)];exact z d hd
   ·rw [ga0 _ _ _ hji] at hlj
    have I : o.dst ≠ some d := fun e => tat H L hj e hd hji rfl;have G := B j X X' _ (U.has j oj d hj hd hlj) E;cases hod : o.dst with
    | none => exact G
    | some d' =>
      rw [epo (fun e => I (by rw [hod, e]))];exact G
  ·cases hod : o.dst with
   | none => exact U.old s hs
   | some d' => rw [epo (fun e => hs i o L (by rw [hod, e]))]; exact U.old s hs
 ·intro Z Y X R K U
  exact N Z Y X R U K.tsize K.defers
end
end Go.Proofs.YtmcbeajdloaliaaGreatDoor
namespace Go.Proofs.YtmcbeajdloaliaaGreatDoor
open Go.RowKit Go.Lib Go.Shelf
theorem k28_rs : RS 0 = ⟨#[48]⟩ /\ RS 1 = ⟨#[49]⟩ /\ RS 2 = ⟨#[50]⟩ /\ RS 3 = ⟨#[51]⟩ /\ RS 5 = ⟨#[53]⟩ /\ RS 6 = ⟨#[54]⟩ /\ RS 4 = ⟨#[52]⟩ /\ RS 48 = ⟨#[52, 56]⟩ := by decide +kernel
theorem kc0 {w : World} {vp vt vf : Value} {c : Rat} (S : RdP w vp (strP pP28)) (R : RdT w vt tT28) (V : RdQ w vf [c, c, c, c]) (X : c = 0 \/ c = 2 \/ c = 5) (U : Good w) :
 Calls Tryz.prog 114 #[.agg #[vp, vt], vf, .agg #[.string ⟨#[49]⟩, .string ⟨#[49]⟩]] w (Ret (fun r _ => r = .tuple #[.string (RS c), .int .i64 0]) w) := by
 obtain ⟨v1, v2, Q, O, N, M⟩ := kd0;have key : sd0 pP28 [c, c, c, c] (0, 1, 2) = (0, 0) /\ onQ pP28 [c, c, c, c] (0, 1, 2) (1, 1) = c := by
  rcases X with rfl | rfl | rfl
  ·exact ⟨v1, O⟩
  ·exact ⟨v2, N⟩
  ·exact ⟨Q, M⟩
 have Z : Sz 2 c := by
  rcases X with rfl | rfl | rfl
  ·exact sz2n 0 (by omega)
  ·exact sz2n 2 (by omega)
  ·exact sz2n 5 (by omega)
 have Y : Sz 200 (1 : Rat) := (sz1 1 (by omega)).mono (by omega);have h := vin w vp vt vf pP28 tT28 2 [c, c, c, c] ⟨S, R, k2m, V, fun q hq => by simp at hq; subst hq; exact Z, rfl⟩ (1, 1) ⟨Y, Y⟩ 0 [1] k2l (by decide) (by
  show SzP 200 (sd0 pP28 [c, c, c, c] (0, 1, 2));rw [key.1]; exact ⟨Sz.zero _ (by omega), Sz.zero _ (by omega)⟩) (by
  show Sz 200 (onQ pP28 [c, c, c, c] (0, 1, 2) (1, 1));rw [key.2]; exact Z.mono (by omega)) U
 have e : onQ pP28 [c, c, c, c] tT28[0] (1, 1) = c := key.2;rw [e] at h;rw [show RS ((1 : Rat), (1 : Rat)).1 = ⟨#[49]⟩ from k28_rs.2.1] at h;exact h
def hH28 : List Rat := [0, 2, 5]
structure K28 (w : World) (pp pt pb pu ps : Option Addr) (cp ct cb cu cs : Nat) : Prop where
 n : DepN w (.slice pp 4 cp) (.slice pt 2 ct) (.slice pb 4 cb) (.slice pu 3 cu) (.slice ps 2 cs) pP28 tT28 2 [0, 0, 0, 0] uU28 [[2, 2, 2, 2], [5, 5, 5, 5]]
theorem K28.below {w w' : World} {pp pt pb pu ps : Option Addr} {cp ct cb cu cs : Nat} (h : K28 w pp pt pb pu ps cp ct cb cu cs) (Z : Below w.heap.size w w') : K28 w' pp pt pb pu ps cp ct cb cu cs := ⟨h.n.below Z⟩
theorem fld28 (i : Nat) (h : i <= 2) : fldN [0, 0, 0, 0] [[2, 2, 2, 2], [5, 5, 5, 5]] i = [hH28[i]?.getD 0, hH28[i]?.getD 0, hH28[i]?.getD 0, hH28[i]?.getD 0] /\ (hH28[i]?.getD 0 = 0 \/ hH28[i]?.getD 0 = 2 \/ hH28[i]?.getD 0 = 5) := by
 rcases (by omega : i = 0 \/ i = 1 \/ i = 2) with rfl | rfl | rfl <;> decide +kernel
theorem K28.surf {w : World} {pp pt pb pu ps : Option Addr} {cp ct cb cu cs : Nat} (h : K28 w pp pt pb pu ps cp ct cb cu cs) : ∃ (U : Nat -> Option Addr) (V : Nat -> Nat),
 (∀ i : Nat, i < 3 -> ∀ w', Below w.heap.size w w' -> Calls Tryz.prog 48 #[.agg #[.slice pb 4 cb, .slice pu 3 cu, .slice ps 2 cs], .int .i64 (i : Int)] w' (Ret (fun r _ => r = .slice (U i) 4 (V i)) w')) /\
 (∀ i : Nat, i < 3 -> ∀ w', Below w.heap.size w w' -> Good w' -> Calls Tryz.prog 114 #[.agg #[.slice pp 4 cp, .slice pt 2 ct], .slice (U i) 4 (V i), .agg #[.string ⟨#[49]⟩, .string ⟨#[49]⟩]] w' (Ret (fun r _ => r = .tuple #[.string (RS (hH28[i]?.getD 0)), .int .i64 0]) w')) := by
 have S : ∀ i : Nat, ∃ Z : Option Addr × Nat, i < 3 -> RdQ w (.slice Z.1 4 Z.2) (fldN [0, 0, 0, 0] [[2, 2, 2, 2], [5, 5, 5, 5]] i) /\ ∀ w', Below w.heap.size w w' -> Calls Tryz.prog 48 #[.agg #[.slice pb 4 cb, .slice pu 3 cu, .slice ps 2 cs], .int .i64 (i : Int)] w' (Ret (fun r _ => r = .slice Z.1 4 Z.2) w') := fun i => by
  by_cases hi : i < 3
  ·obtain ⟨p, c, X, O⟩ := h.n.surface i (by show i <= 2; omega)
   exact ⟨(p, c), fun _ => ⟨X, O⟩⟩
  ·exact ⟨(none, 0), fun h' => absurd h' hi⟩
 obtain ⟨Z, Y⟩ : ∃ Z : Nat -> Option Addr × Nat, ∀ i : Nat, i < 3 -> RdQ w (.slice (Z i).1 4 (Z i).2) (fldN [0, 0, 0, 0] [[2, 2, 2, 2], [5, 5, 5, 5]] i) /\ ∀ w', Below w.heap.size w w' -> Calls Tryz.prog 48 #[.agg #[.slice pb 4 cb, .slice pu 3 cu, .slice ps 2 cs], .int .i64 (i : Int)] w' (Ret (fun r _ => r = .slice (Z i).1 4 (Z i).2) w') := ⟨fun i => (S i).choose, fun i => (S i).choose_spec⟩;refine ⟨fun i => (Z i).1, fun i => (Z i).2, fun i hi => (Y i hi).2, fun i hi w' hb hg => ?_⟩;have X := (Y i hi).1;obtain ⟨R, Q⟩ := fld28 i (by omega);rw [R] at X;exact kc0 (RdC.below h.n.p hb) (RdC.below h.n.t hb) (RdC.below X hb) Q hg
theorem k2p {w : World} {pp pt pb pu ps : Option Addr} {cp ct cb cu cs : Nat} (h : K28 w pp pt pb pu ps cp ct cb cu cs) (z : Rat) (V : Sz 200 z) (X : Good w) :
 Calls Tryz.prog 64 #[.agg #[.slice pp 4 cp, .slice pt 2 ct], .agg #[.slice pb 4 cb, .slice pu 3 cu, .slice ps 2 cs], .agg #[.string ⟨#[49]⟩, .string ⟨#[49]⟩, .string (RS z)]] w (Ret (fun r _ => r = .int .i64 0) w) := by
 have Z : Sz 200 (1 : Rat) := (sz1 1 (by omega)).mono (by omega);have Y := cPo w _ _ _ _ _ pP28 tT28 2 _ _ _ h.n (1, 1) z ⟨Z, Z⟩ V X;rw [show RS ((1 : Rat), (1 : Rat)).1 = ⟨#[49]⟩ from k28_rs.2.1, if_neg (by rw [k2l]; simp)] at Y;exact Y
theorem k2A {w : World} {pp pt pb pu ps : Option Addr} {cp ct cb cu cs : Nat} (h : K28 w pp pt pb pu ps cp ct cb cu cs) (R : Good w) :
 Calls Tryz.prog 30 #[.agg #[.slice pp 4 cp, .slice pt 2 ct], .agg #[.slice pb 4 cb, .slice pu 3 cu, .slice ps 2 cs], .agg #[.string ⟨#[49]⟩, .string ⟨#[49]⟩, .string ⟨#[50]⟩]] w (Ret (fun r _ => r = .tuple #[.string ⟨#[98]⟩, .bool false, .int .i64 0]) w) := by
 obtain ⟨V, X, U, S⟩ := h.surf;have Y := at_ok w R pp pt pb pu ps 4 2 2 cp ct cb cu cs ⟨#[49]⟩ ⟨#[49]⟩ 2 uU28 hH28 rfl (by decide) (by decide +kernel) h.n.unit 2 (by omega) (by omega) (by
  intro q hq;have Z : q ∈ ([0, 2, 5] : List Rat) := hq;simp only [List.mem_cons, List.not_mem_nil, or_false] at Z;rcases Z with rfl | rfl | rfl
  ·exact sz2n 0 (by omega)
  ·exact sz2n 2 (by omega)
  ·exact sz2n 5 (by omega)) (sz2n 2 (by omega)) V X (hid fun w' hb hg' => k2p (h.below hb) 2 ((sz2n 2 (by omega)).mono (by omega)) hg') (hid U) (hid S)
 rw [show uAt uU28 hH28 2 = ⟨#[98]⟩ from k28_at.1, show decide (cHH hH28 2 = 0) = false from k2c, k28_rs.2.2.1] at Y;exact Y
theorem k2L {w : World} {pp pt pb pu ps : Option Addr} {cp ct cb cu cs : Nat} (h : K28 w pp pt pb pu ps cp ct cb cu cs) (R : Good w) :
 Calls Tryz.prog 31 #[.agg #[.slice pp 4 cp, .slice pt 2 ct], .agg #[.slice pb 4 cb, .slice pu 3 cu, .slice ps 2 cs], .agg #[.string ⟨#[49]⟩, .string ⟨#[49]⟩, .string ⟨#[54]⟩]] w (Ret (fun r w' => ∃ v, r = .tuple #[v, .int .i64 0] /\ w'.ownsRow w.heap.size 99 3 v 3 (cIv [⟨⟨#[99]⟩, 0, 1⟩, ⟨⟨#[98]⟩, 1, 4⟩, ⟨⟨#[97]⟩, 4, 6⟩])) w) := by
 obtain ⟨V, X, U, S⟩ := h.surf;have Y := ln0 w R pp pt pb pu ps 4 2 2 cp ct cb cu cs ⟨#[49]⟩ ⟨#[49]⟩ 6 uU28 hH28 rfl (by decide) (by decide) h.n.unit 2 (by omega) (by omega) (by
  intro q hq;have Z : q ∈ ([0, 2, 5] : List Rat) := hq;simp only [List.mem_cons, List.not_mem_nil, or_false] at Z;rcases Z with rfl | rfl | rfl
  ·exact sz2n 0 (by omega)
  ·exact sz2n 2 (by omega)
  ·exact sz2n 5 (by omega)) (sz2n 6 (by omega)) V X (hid fun w' hb hg' => k2p (h.below hb) 6 ((sz2n 6 (by omega)).mono (by omega)) hg') (hid U) (hid S)
 rw [show logL uU28 hH28 6 = _ from kf0, k28_rs.2.2.2.2.2.1] at Y;exact Y
theorem k2V {w : World} {pp pt pb pu ps : Option Addr} {cp ct cb cu cs : Nat} (h : K28 w pp pt pb pu ps cp ct cb cu cs) (X : Good w) :
 Calls Tryz.prog 21 #[.agg #[.slice pp 4 cp, .slice pt 2 ct], .agg #[.slice pb 4 cb, .slice pu 3 cu, .slice ps 2 cs], .string ⟨#[98]⟩] w (Ret (fun r _ => r = .tuple #[.string ⟨#[52, 56]⟩, .int .i64 0]) w) := by
 have Z := sq0 w _ _ _ _ _ pP28 tT28 2 _ _ _ h.n ⟨#[98]⟩ 1 (by decide) (by decide +kernel) 48 (fun w' vf vg hf hg2 hgw => by
  have Y := fg0 w' _ _ vf vg pP28 tT28 2 _ _ hf hg2 (by omega) (by decide) (by
   show Sz 200 (volTo pP28 tT28 (subQ [5, 5, 5, 5] [2, 2, 2, 2]) 0 tT28.length);rw [k2v]; exact ⟨by decide +kernel, by decide +kernel⟩) hgw
  rw [show volTo pP28 tT28 (subQ ([[2, 2, 2, 2], [5, 5, 5, 5]] : List (List Rat))[1] (fldN [0, 0, 0, 0] [[2, 2, 2, 2], [5, 5, 5, 5]] 1)) 0 tT28.length = 48 from k2v] at Y;exact Y) X
 rw [k28_rs.2.2.2.2.2.2.2] at Z;exact Z
theorem k2I {w : World} {pp pt pb pu ps px : Option Addr} {cp ct cb cu cs cx : Nat} (h : K28 w pp pt pb pu ps cp ct cb cu cs) (hx : RdQ w (.slice px 4 cx) [1, 1, 1, 1]) (N : Good w) :
 Calls Tryz.prog 11 #[.agg #[.slice pp 4 cp, .slice pt 2 ct], .agg #[.slice pb 4 cb, .slice pu 3 cu, .slice ps 2 cs], .agg #[.string ⟨#[100]⟩, .int .i64 1, .slice px 4 cx]] w (Ret (fun r w' => ∃ v1 v2 Z, r = .tuple #[.agg #[v1, v2, Z], .int .i64 0] /\ DepR w' v1 v2 Z (([0, 0, 0, 0] : List Rat).map RS) [⟨#[97]⟩, ⟨#[100]⟩, ⟨#[98]⟩, ⟨#[99]⟩] (([[2, 2, 2, 2], [3, 3, 3, 3], [6, 6, 6, 6]] : List (List Rat)).map fun F => F.map RS)) w) := by
 have Y : ∀ q ∈ ([1, 1, 1, 1] : List Rat), Sz 2 q := fun q hq => by simp at hq; subst hq; exact sz2n 1 (by omega)
 have R : errF 4 (([1, 1, 1, 1] : List Rat).map RS) = 0 := eFo rfl (fun q hq => (Y q hq).mono (by omega));have V : (([1, 1, 1, 1] : List Rat).map RS).map numT = [1, 1, 1, 1] := nTm _;have Q : unitE pP28.length uU28 ⟨#[100]⟩ 1 (([1, 1, 1, 1] : List Rat).map RS) = 0 := by
  unfold unitE;rw [if_neg (by decide +kernel), if_neg (by decide +kernel), if_neg (by decide), if_neg (by rw [show pP28.length = 4 from rfl, R]; simp), V, if_neg (by decide +kernel), if_neg (by decide)]
 have S := so0 w _ _ _ _ _ pP28 tT28 2 _ _ _ h.n (by omega) ⟨#[100]⟩ 1 (.slice px 4 cx) (([1, 1, 1, 1] : List Rat).map RS) hx.toS ⟨sok (by omega) (by omega) Y, by simp⟩ (fun _ => ⟨[1, 1, 1, 1], rfl, rfl, Y⟩) N;refine S.mono ?_;rintro e w' ⟨v, rfl, X, O⟩;rcases X with ⟨X, _⟩ | ⟨_, v1, v2, Z, rfl, M, L, U, -⟩
 ·exact absurd Q X
 ·rw [V, show (1 : Int).toNat = 1 from rfl, k2i] at U
  exact ⟨_, rfl, ⟨v1, v2, Z, rfl, ⟨M.toS, L, U.toTx⟩⟩, O⟩
theorem uTn (n : Nat) (Z : n <= 3) : ∀ i (h : i < (uTo (n + 1)).length), nameQ (uTo (n + 1))[i] = true /\ hasS ((uTo (n + 1)).take i) (uTo (n + 1))[i] = false := by
 rcases (by omega : n = 0 \/ n = 1 \/ n = 2 \/ n = 3) with rfl | rfl | rfl | rfl <;> decide +kernel
theorem uTl (m : Nat) : (uTo m).length = m := by unfold uTo; simp
theorem tTu (n : Nat) (B : List Rat) (H : List StepQ) (Z : B.length = n) (i : Nat) (z : Int) : hI (topTo n B H i) z <= hI (topTo n B H (i + 1)) z := by
 unfold hI;have X := tTl n B H Z i;have Y := tTl n B H Z (i + 1);rcases Nat.lt_or_ge z.toNat n with h | h
 ·have U := sFl n (H[i]?.getD ([], false))
  have V : 0 <= (stepF n (H[i]?.getD ([], false)))[z.toNat]'(by omega) := by
   unfold stepF;rw [List.getElem_map];exact Rat.abs_nonneg
  have e : (topTo n B H (i + 1))[z.toNat]? = some ((topTo n B H i)[z.toNat]'(by omega) + (stepF n (H[i]?.getD ([], false)))[z.toNat]'(by omega)) := by
   show (List.zipWith (·+ ·) (topTo n B H i) (stepF n (H[i]?.getD ([], false))))[z.toNat]? = _;rw [List.getElem?_zipWith, List.getElem?_eq_getElem (by omega), List.getElem?_eq_getElem (by omega)]
  rw [e, List.getElem?_eq_getElem (by omega)];show (topTo n B H i)[z.toNat]'(by omega) <= (topTo n B H i)[z.toNat]'(by omega) + (stepF n (H[i]?.getD ([], false)))[z.toNat]'(by omega);grind
 ·rw [List.getElem?_eq_none (by omega), List.getElem?_eq_none (by omega)]
  exact Rat.le_refl
theorem fNt (n : Nat) (B : List Rat) (H : List StepQ) (m i : Nat) (Z : i <= m) : fldN B (sTo n B H m) i = topTo n B H i := by
 unfold fldN sTo;cases i with
 | zero => rfl
 | succ i =>
   rw [List.getElem?_cons_succ, List.getElem?_map, List.getElem?_range (by omega)];rfl
theorem tmm {n : Nat} {B : List Rat} {H : List StepQ} {m : Nat} {F : List Rat} (h : F ∈ B :: sTo n B H m) : ∃ i, i <= m /\ F = topTo n B H i := by
 rcases List.mem_cons.1 h with rfl | h
 ·exact ⟨0, by omega, rfl⟩
 ·unfold sTo at h
  obtain ⟨i, Z, rfl⟩ := List.mem_map.1 h;exact ⟨i + 1, by have := List.mem_range.1 Z; omega, rfl⟩
theorem pnn {w : World} {vp vt vb vu vs : Value} (k : Nat) (N M : Int) (Y : Bool) (A : List Int) (L : Bool) (H : List StepQ) (I : H.length <= 3) (P : List PtQ) (G : P = sb0 k N M Y) (T : List Tri) (E : T = sTT k) (B : List Rat) (Q : B = hFF A L P.length)
 (C : RdP w vp (strP P)) (z : RdT w vt T) (D : RdQ w vb B) (y : RdS w vu (uTo (H.length + 1))) (x : RdF w vs (sTo P.length B H H.length)) :
 DepN w vp vt vb vu vs P T 3 B (uTo (H.length + 1)) (sTo P.length B H H.length) := by
 have O : MeshOK P T 2 := by rw [G, E]; exact sk0 k N M Y
 have Z : B.length = P.length := by rw [Q, he0]
 have S : ∀ q ∈ B, Fr 2 38 q := by rw [Q]; exact fht _ _ _
 have X : ∀ F ∈ B :: sTo P.length B H H.length, F.length = P.length := fun F hF => by
  obtain ⟨i, R, rfl⟩ := tmm hF;exact tTl _ _ _ Z i
 have V : ∀ F ∈ B :: sTo P.length B H H.length, ∀ q ∈ F, Sz 3 q := fun F hF q hq => by
  obtain ⟨i, R, rfl⟩ := tmm hF;exact s3o ((ftp _ _ _ S i q hq).mono (by omega))
 have U : (uTo (H.length + 1)).length = (sTo P.length B H H.length).length + 1 := by rw [uTl, sTl]
 refine ⟨C, z, O.up (by omega) (by omega), D, y, x, X, V, U, by rw [uTl]; omega, ?_⟩;refine dg0 ?_ X (fun F hF q hq => (V F hF q hq).mono (by omega)) U (by rw [uTl]; omega) (uTn _ I) (fun i R => ?_)
 ·intro e
  have := O.some;simp [e] at this
 ·rw [sTl] at R
  rw [fNt _ _ _ _ _ (by omega), fNt _ _ _ _ _ (by omega), bBi _ _ (by rw [tTl _ _ _ Z, tTl _ _ _ Z])];intro j K J;have := tTu P.length B H Z i (j : Int);rw [hh0 _ _ K, hh0 _ _ J] at this;exact this
def layU (i : Nat) : LayQ := (⟨#[117, (48 + i).toUInt8]⟩, ⟨#[48]⟩, ⟨#[]⟩)
def layTo (c : Nat) : List LayQ := (List.range c).map layU
theorem lTn (c : Nat) : layTo (c + 1) = layTo c ++ [layU c] := by unfold layTo; rw [List.range_succ, List.map_append]; rfl
theorem lTl (c : Nat) : (layTo c).length = c := by unfold layTo; simp
theorem cLs (l : List LayQ) (x : LayQ) : cLy (l ++ [x]) = cLy l ++ cg0 x := by unfold cLy; simp
theorem lTt (c : Nat) : ((layTo (c + 1)).map fun x => x.1).tail = uTo c := by
 unfold layTo uTo;rw [List.range_succ_eq_map, List.map_cons, List.map_cons, List.tail_cons, List.map_map, List.map_map];refine List.map_congr_left fun i _ => ?_;show (⟨#[117, (48 + (i + 1)).toUInt8]⟩ : ByteArray) = ⟨#[117, (49 + i).toUInt8]⟩;rw [show 48 + (i + 1) = 49 + i by omega]
def lOB (c j : Nat) : Bool :=
 match (layTo c)[j]? with
 | some x => decide (layE x = 0) && nameQ x.1 && !decide (0 <= idxLy ((layTo c).take j) x.1) && decide (x.2.1 = ⟨#[48]⟩) && decide (x.2.2.size = 0)
 | none => false
theorem lTo : ∀ c < 6, ∀ j < c, lOB c j = true := by decide +kernel
theorem lTc (c : Nat) (Q : c <= 5) : colE (layTo c) = if c = 0 then 13 else 0 := by
 unfold colE;rw [lTl];by_cases h0 : c = 0
 ·rw [if_pos h0, if_pos h0]
 ·rw [if_neg h0, if_neg h0, if_neg (by omega)]
  refine fEn fun j hj => ?_;have Z := lTo c (by omega) j hj;have Y : j < (layTo c).length := by rw [lTl]; exact hj
  unfold lOB at Z;rw [List.getElem?_eq_getElem Y] at Z;simp only [Bool.and_eq_true, decide_eq_true_eq, Bool.not_eq_true', decide_eq_false_iff_not] at Z;obtain ⟨⟨⟨⟨X, V⟩, U⟩, S⟩, R⟩ := Z;rw [lBe Y, X, if_neg (by decide), V, if_neg (by decide), if_neg U, S, <- RS_zero, nTR, if_neg (by decide), if_neg (by rw [R]; simp)]
theorem le0 (c : Nat) : ∀ x ∈ layTo c, sLL x := fun x hx => by
 unfold layTo at hx;obtain ⟨i, -, rfl⟩ := List.mem_map.1 hx;exact ⟨by show 2 < 1000000000; decide, by show 1 < 1000000000; decide, by show 0 < 1000000000; decide⟩
def turnV (us l : List Value) : Nat -> List Value
 | 0 => l
 | i + 1 => (turnV us l i).set i (us[us.length - 1 - i]?.getD (.int .i64 0))
theorem tVl (us l : List Value) : ∀ i, (turnV us l i).length = l.length
 | 0 => rfl
 | i + 1 => by unfold turnV; rw [List.length_set, tVl us l i]
theorem tVg (us l : List Value) (h : us.length <= l.length) : ∀ i, i <= us.length -> ∀ j, j < i -> (turnV us l i)[j]? = us.reverse[j]?
 | 0, _, j, hj => absurd hj (by omega)
 | i + 1, hi, j, hj => by
   unfold turnV;rw [List.getElem?_set];by_cases h1 : i = j
   ·subst h1
    rw [if_pos rfl, if_pos (by rw [tVl]; omega), List.getElem?_reverse (by omega), List.getElem?_eq_getElem (by omega)];rfl
   ·rw [if_neg h1]
    exact tVg us l h i (by omega) j (by omega)
theorem RdF.turned {w' : World} {b c : Nat} {us l : List Value} {S : List (List Rat)} {E : Nat} (Z : us.length = S.length) (U : ∀ (i : Nat) (u : Value) (F : List Rat), us[i]? = some u -> S[i]? = some F -> RdQ w' u F) (X : BoxN w' b E (turnV us l us.length)) (Q : l.length = c) (R : us.length <= c) (V : c <= maxLen) :
 RdF w' (.slice (some ⟨b, 0, none⟩) S.length c) S.reverse := by
 refine ⟨us.reverse, ⟨some ⟨b, 0, none⟩, c, by rw [List.length_reverse], by rw [List.length_reverse]; omega, V, by rw [List.length_reverse, List.length_reverse, Z, Nat.mul_one], fun hne => ⟨b, 0, rfl, fun i x hx => ?_⟩⟩, fun i u F hu hF => ?_⟩
 ·have Y : i < us.length := by
   have := (List.getElem?_eq_some_iff.1 hx).1;rw [List.length_reverse] at this;exact this
  rw [Nat.zero_add];exact X.cell i (by rw [tVg us l (by omega) us.length (Nat.le_refl _) i Y]; exact hx)
 ·have Y : i < us.length := by
   have := (List.getElem?_eq_some_iff.1 hu).1;rw [List.length_reverse] at this;exact this
  rw [List.getElem?_reverse Y] at hu;rw [List.getElem?_reverse (by omega)] at hF;rw [<- Z] at hF;exact U _ _ _ hu hF
theorem iL2 : (Tryz.prog.info? 92).map (fun i => (i.zero, i.size, i.bytes)) = some (some (.agg #[.string ⟨#[]⟩, .string ⟨#[]⟩, .string ⟨#[]⟩]), 3, 48) := by kernel_rfl
noncomputable def ofE (P : List PtQ) (T : List Tri) (B : List Rat) (S : List (List Rat)) (c : Nat) : Int :=
 if c < 2 then 13 else if S.length + 2 ≠ c then 5 else depE P T (B.map RS) (uTo (S.length + 1)) (S.map fun F => F.map RS)
theorem dTo {w : World} {vp vt vb vu vs : Value} {P : List PtQ} {T : List Tri} {k : Nat} {B : List Rat} {U : List ByteArray} {S : List (List Rat)} (M : RdP w vp (strP P)) (K : RdT w vt T) (Q : MeshOK P T k) (N : RdQ w vb B) (J : RdS w vu U) (L : RdF w vs S) (X : ∀ F ∈ B :: S, F.length = P.length) (V : ∀ F ∈ B :: S, ∀ q ∈ F, Sz k q) :
 DepT w vp vt vb vu vs P T k (B.map RS) U (S.map fun F => F.map RS) := by
 have Z : ∀ F ∈ B.map RS :: S.map (fun F => F.map RS), ∃ R ∈ B :: S, F = R.map RS := fun F hF => by
  rcases List.mem_cons.1 hF with rfl | O
  ·exact ⟨B, by simp, rfl⟩
  ·obtain ⟨R, Y, rfl⟩ := List.mem_map.1 O
   exact ⟨R, List.mem_cons_of_mem _ Y, rfl⟩
 refine ⟨M, K, fun _ => Q, N.toS, J, L.toTx, fun F hF => ?_, fun F hF _ => ?_⟩
 ·obtain ⟨R, Y, rfl⟩ := Z F hF
  refine ⟨sok Q.kpos Q.klim2 (V R Y), ?_⟩;rw [List.length_map, X R Y];have := Q.plen;omega
 ·obtain ⟨R, Y, rfl⟩ := Z F hF
  exact ⟨R, rfl, X R Y, V R Y⟩
theorem sly (w : World) (L K M N : Value) (P : List PtQ) (T : List Tri) (k c : Nat) (B : List Rat) (S : List (List Rat)) (s : RdP w L (strP P)) (o : RdT w K T) (t : MeshOK P T k) (G : 0 < P.length) (y : RdLy w M (layTo c)) (E : c <= 5) (z : RdF w N (B :: S))
 (D : ∀ F ∈ B :: S, F.length = P.length) (C : ∀ F ∈ B :: S, ∀ q ∈ F, Sz k q) (v : Good w) :
 Calls Tryz.prog 33 #[.agg #[L, K], M, N] w (Ret (fun r w' => ∃ (R Q O : Option Addr) (c1 c2 X : Nat) (b U : List ByteArray) (Z : List (List ByteArray)), r = .tuple #[.agg #[.slice R b.length c1, .slice Q U.length c2, .slice O Z.length X], .int .i64 (ofE P T B S c)] /\ DepR w' (.slice R b.length c1) (.slice Q U.length c2) (.slice O Z.length X) b U Z /\ (ofE P T B S c ≠ 0 -> b = [] /\ U = [] /\ Z = []) /\ (ofE P T B S c = 0 -> b = B.map RS /\ U = uTo (S.length + 1) /\ Z = S.map fun F => F.map RS)) w) := by
 by_cases h : c < 2 \/ S.length + 2 ≠ c
 ·have A : ofE P T B S c ≠ 0 := by
   unfold ofE;by_cases Y : c < 2
   ·rw [if_pos Y]; decide
   ·rw [if_neg Y, if_pos (h.resolve_left Y)]; decide
  have J : (if colE (layTo c) ≠ 0 then colE (layTo c) else if (layTo c).length < 2 then 13 else 5) = ofE P T B S c := by
   unfold ofE;rw [lTc c E, lTl];by_cases h0 : c = 0
   ·rw [if_pos h0, if_pos (by decide), if_pos (by omega)]
   ·rw [if_neg h0, if_neg (by decide)]
    by_cases Y : c < 2
    ·rw [if_pos Y, if_pos Y]
    ·rw [if_neg Y, if_neg Y, if_pos (h.resolve_left Y)]
  refine (ser w L K M N P T k (layTo c) (B :: S) s o t y (by rw [lTl]; omega) (le0 c) z ?_ v).mono ?_
  ·rw [lTc c E, lTl, List.length_cons]
   by_cases h0 : c = 0
   ·rw [if_pos h0]; exact .inl (by decide)
   ·by_cases Y : c < 2
    ·exact .inr (.inl Y)
    ·exact .inr (.inr (by have := h.resolve_left Y; omega))
  ·rintro e w' ⟨_, rfl, rfl, V⟩
   rw [J];exact ⟨_, rfl, ⟨none, none, none, 0, 0, 0, [], [], [], rfl, ⟨RdC.nil0 _ _, RdC.nil0 _ _, ⟨[], RdC.nil0 _ _, fun i u F hu => by simp at hu⟩⟩, fun _ => ⟨rfl, rfl, rfl⟩, fun h0 => absurd h0 A⟩, V⟩
 ·have Y : ¬ c < 2 := fun Y => h (.inl Y)
  have I : S.length + 2 = c := Classical.byContradiction fun I => h (.inr I)
  have f : ofE P T B S c = depE P T (B.map RS) (uTo (S.length + 1)) (S.map fun F => F.map RS) := by
   unfold ofE;rw [if_neg Y, if_neg (by omega)]
  have d : ((layTo c).map fun x => x.1).tail = uTo (S.length + 1) := by rw [show c = (S.length + 1) + 1 by omega]; exact lTt _
  refine (sy0 w L K M N P T k (layTo c) B S s o t G y (by rw [lTl]; omega) (le0 c) z (by rw [lTc c E, if_neg (by omega)]) (by rw [lTl]; exact I) D C v).mono ?_;rintro e w' ⟨r, rfl, p, V⟩;rw [d] at p;rw [f];rcases p with ⟨H, rfl⟩ | ⟨H, v1, v2, a, rfl, n, m, l⟩
  ·exact ⟨_, rfl, ⟨none, none, none, 0, 0, 0, [], [], [], rfl, ⟨RdC.nil0 _ _, RdC.nil0 _ _, ⟨[], RdC.nil0 _ _, fun i u F hu => by simp at hu⟩⟩, fun _ => ⟨rfl, rfl, rfl⟩, fun h0 => absurd h0 H⟩, V⟩
  ·obtain ⟨R, c1, J, -, -, -⟩ := n.toS.open
   obtain ⟨Q, c2, j, -, -, -⟩ := m.open;obtain ⟨O, X, g, -, -⟩ := l.toTx.shape;subst J j g;rw [H];exact ⟨_, rfl, ⟨R, Q, O, c1, c2, X, _, _, _, rfl, ⟨n.toS, m, l.toTx⟩, fun h0 => absurd rfl h0, fun _ => ⟨rfl, rfl, rfl⟩⟩, V⟩
def MadeO (base : Nat) (k : Nat) (s0 s1 : Int) (half : Bool) (r : Value) (w' : World) : Prop := ∃ pp cp pt ct pb cb pu cu ps cs P T B H U n, r = .tuple #[.agg #[.slice pp (List.length P) cp, .slice pt (List.length T) ct], .agg #[.slice pb (List.length P) cb, .slice pu (List.length U) cu, .slice ps n cs]] /\ P = sb0 k s0 s1 half /\ T = sTT k /\ n <= 3 /\ List.length B = List.length P /\ U = uTo (n + 1) /\ DepN w' (.slice pp P.length cp) (.slice pt T.length ct) (.slice pb P.length cb) (.slice pu U.length cu) (.slice ps n cs) P T 3 B U (sTo P.length B H n) /\ (∀ F ∈ B :: sTo P.length B H n, ∀ q ∈ F, Fr 2 152 q) /\ FlsV 33 w' base (.slice ps n cs) (sTo P.length B H n)
theorem m2o (w : World) (S V U : Int) (Z : Bool) (L : Nat) (n : S.tmod 8 = (L : Int)) (G : 0 <= S) (E : S <= 255) (D : -128 <= V /\ V <= 127) (C : -128 <= U /\ U <= 127) (a0 R Q O N M : Int) (K : Bool) (s : ∀ x ∈ [a0, R, Q, O, N, M], -128 <= x /\ x <= 127) (B : Value) (H : List StepQ) (t : RdSt w B H) (Y : H.length <= 3) (o : Good w) :
 Calls Tryz.prog 9 #[.agg #[.int .u8 S, .int .i8 V, .int .i8 U, .bool Z, .int .i8 a0, .int .i8 R, .int .i8 Q, .int .i8 O, .int .i8 N, .int .i8 M, .bool K, B]] w (Ret (fun r w' => MadeO w.heap.size L V U Z r w') w) := by
 refine (m2a w S V U Z L n G E D C a0 R Q O N M K s B H t Y _ rfl _ rfl o).mono ?_;rintro e w' ⟨_, rfl, ⟨vp, vt, a, vu, vs, rfl, m, k, p, j, X⟩, J⟩;have l := X.rd;have I := pnn L V U Z [a0, R, Q, O, N, M] K H Y _ rfl _ rfl _ rfl m k p j l;obtain ⟨g, z, d, y, h, A, c, v, f, cs, rfl, rfl, rfl, rfl, rfl⟩ := I.open;rw [sTl] at I X ⊢;exact ⟨_, rfl, ⟨g, z, d, y, h, A, c, v, f, cs, _, _, _, H, _, _, rfl, rfl, rfl, Y, he0 _ _ _, rfl, I, (fun F hF q hq => by
  obtain ⟨i, b, rfl⟩ := tmm hF;exact (ftp _ _ _ (fht _ _ _) i q hq).mono (by omega)), X⟩, J⟩
theorem rh0 {w : World} {b cap : Nat} {v1 v2 : Value} {F G : List Rat} (Z : w.cell? ⟨b, 0, none⟩ = some v1) (Y : w.cell? ⟨b, 1, none⟩ = some v2) (U : RdQ w v1 F) (S : RdQ w v2 G) (X : 2 <= cap) (V : cap <= maxLen) : RdF w (.slice (some ⟨b, 0, none⟩) 2 cap) [F, G] := by
 refine ⟨[v1, v2], ⟨_, cap, rfl, X, V, rfl, fun _ => ⟨b, 0, rfl, fun i x hx => ?_⟩⟩, fun i u H a c => ?_⟩
 ·match i, hx with
  | 0, hx => cases hx; exact Z
  | 1, hx => cases hx; exact Y
 ·match i, a, c with
  | 0, a, c => cases a; cases c; exact U
  | 1, a, c => cases a; cases c; exact S
theorem rFt {w : World} {b cap : Nat} {v1 v2 v3 : Value} {F G K : List Rat} (Z : w.cell? ⟨b, 0, none⟩ = some v1) (Y : w.cell? ⟨b, 1, none⟩ = some v2) (X : w.cell? ⟨b, 2, none⟩ = some v3) (S : RdQ w v1 F) (R : RdQ w v2 G) (Q : RdQ w v3 K) (V : 3 <= cap) (U : cap <= maxLen) : RdF w (.slice (some ⟨b, 0, none⟩) 3 cap) [F, G, K] := by
 refine ⟨[v1, v2, v3], ⟨_, cap, rfl, V, U, rfl, fun _ => ⟨b, 0, rfl, fun i x hx => ?_⟩⟩, fun i u H a c => ?_⟩
 ·match i, hx with
  | 0, hx => cases hx; exact Z
  | 1, hx => cases hx; exact Y
  | 2, hx => cases hx; exact X
 ·match i, a, c with
  | 0, a, c => cases a; cases c; exact S
  | 1, a, c => cases a; cases c; exact R
  | 2, a, c => cases a; cases c; exact Q
theorem RdTx.set_other {w : World} {v : Value} {S : List (List ByteArray)} (h : RdTx w v S) {a : Addr} {x : Value} (V : w.cell? a = some (.slice none 0 0)) (R : ∀ F ∈ S, F ≠ []) : RdTx (w.setCell a x) v S := by
 obtain ⟨us, Z, Y⟩ := h;have O : us.length = S.length := by obtain ⟨_, _, _, _, _, X, _⟩ := Z; omega
 refine ⟨us, RdC.set_other Z V (fun y hy e => ?_), fun i u F a' b' => RdC.set_other (Y i u F a' b') V (fun y hy e => ?_)⟩
 ·obtain ⟨i, Q, rfl⟩ := List.getElem_of_mem hy
  have X := Y i us[i] S[i] (List.getElem?_eq_getElem Q) (List.getElem?_eq_getElem (by omega));obtain ⟨p, c, U, -, -, -⟩ := X.open;rw [U] at e;injection e with _ e2 _
  exact R _ (List.getElem_mem (by omega)) (List.length_eq_zero_iff.1 e2)
 ·rw [e] at hy
  obtain ⟨_, _, hq⟩ := List.mem_map.1 hy;cases hq
theorem DepR.set_other {w : World} {v1 v2 v3 : Value} {b U : List ByteArray} {S : List (List ByteArray)} (h : DepR w v1 v2 v3 b U S) {a : Addr} {x : Value} (Z : w.cell? a = some (.slice none 0 0)) (X : ∀ F ∈ S, F ≠ []) : DepR (w.setCell a x) v1 v2 v3 b U S := by
 have Y : ∀ l : List ByteArray, ∀ y ∈ l.map (fun x => Value.string x), y ≠ Value.slice none 0 0 := fun l y hy e => by
  rw [e] at hy;obtain ⟨_, _, hq⟩ := List.mem_map.1 hy;cases hq
 exact ⟨RdC.set_other h.base Z (Y b), RdC.set_other h.unit Z (Y U), h.surf.set_other Z X⟩
theorem DepR.set3 {w : World} {v1 v2 v3 x0 x1 x2 : Value} {b U : List ByteArray} {S : List (List ByteArray)} {g t : Nat} (h : DepR w v1 v2 v3 b U S) (Y : BoxN w g t [.slice none 0 0, .slice none 0 0, .slice none 0 0]) (Z : ∀ F ∈ S, F ≠ []) : DepR (((w.setCell ⟨g, 0, none⟩ x0).setCell ⟨g, 1, none⟩ x1).setCell ⟨g, 2, none⟩ x2) v1 v2 v3 b U S :=
 ((h.set_other (Y.cell 0 rfl) Z).set_other ((Y.set 0 x0).cell 1 rfl) Z).set_other (((Y.set 0 x0).set 1 x1).cell 2 rfl) Z
theorem DepR.alloc {w : World} {v1 v2 v3 : Value} {b U : List ByteArray} {S : List (List ByteArray)} (h : DepR w v1 v2 v3 b U S) (o : Obj) : DepR (w.alloc o) v1 v2 v3 b U S := h.below ((Below.refl _ _).alloc (Nat.le_refl _) o)
theorem f4a (w : World) (q : Rat) : Calls Tryz.prog 36 #[.string (RS q)] w (Ret (fun r w' => ∃ p c, r = .slice p 4 c /\ RdQ w' (.slice p 4 c) [q, q, q, q]) w) :=
 (fa0 w q).mono fun e w' ⟨v, he, hv, hb⟩ => by
   obtain ⟨p, c, Z, -, -, -⟩ := hv.open;rw [show ([q, q, q, q] : List Rat).length = 4 from rfl] at Z;subst Z;exact ⟨_, he, ⟨p, c, rfl, hv⟩, hb⟩
theorem ke0 : ∀ F ∈ (([[2, 2, 2, 2], [3, 3, 3, 3], [6, 6, 6, 6]] : List (List Rat)).map fun F => F.map RS), F ≠ [] := by
 intro F Z e;subst e;simp at Z
theorem k2a (w : World) (hg : Good w) :
 Calls Tryz.prog 7 #[] w (Ret (fun r _ => r = .bool true) w) := by
 have ha := hid fun w hg => md0 w 0 0 0 false 0 (by decide) (by omega) (by omega) (by omega) (by omega) hg
 rw [k28_P, k28_T] at ha;have hs : Hid (∀ w, _) := fun w => fa0 w 0;have hu : Hid (∀ w, _) := fun w => f4a w 1;have hz : Hid (∀ w, _) := fun w => f4a w 0;have hA : Hid (∀ w, _) := fun w => f4a w 2;have hv : Hid (∀ w, _) := fun w => fa0 w 2;have hx : Hid (∀ w, _) := fun w => fa0 w 5;have hw : Hid (∀ w, _) := fun w => f4a w 3;have hy : Hid (∀ w, _) := fun w => f4a w 6;rw [k28_rs.1] at hs hz;rw [k28_rs.2.1] at hu;rw [k28_rs.2.2.1] at hv hA;rw [k28_rs.2.2.2.1] at hw;rw [k28_rs.2.2.2.2.1] at hx;rw [k28_rs.2.2.2.2.2.1] at hy;go_enter Tryz.func7, Tryz.ntmps7;go_wp2_with fail;refine (ha.out w hg).mono ?_;rintro e w1 ⟨_, rfl, ⟨vp, vt, rfl, hp, ht⟩, zf⟩;have HP := hid hp;have HT := hid ht;obtain ⟨pp, cp, rfl, -, -, -⟩ := hp.open;obtain ⟨pt, ct, rfl, -, -, -⟩ := ht.open;rw [show (strP pP28).length = 4 from rfl] at *;rw [show tT28.length = 2 from rfl] at *;clear hp ht ha;go_wp2_with fail;obtain ⟨W1, a⟩ := zex (w1.alloc (.cells #[.slice pp 4 cp, .slice pt 2 ct] 41));have E : BoxN W1 w1.heap.size 41 [.slice pp 4 cp, .slice pt 2 ct] := by rw [a]; exact BoxN.new _ #[.slice pp 4 cp, .slice pt 2 ct] _ _ rfl
 have q : Below w1.heap.size w1 W1 := by rw [a]; exact zal _ _
 rw [<- a];clear a;have q1 := zbt zf q;refine (hs.out W1).mono ?_;rintro e w2 ⟨_, rfl, I, h1⟩;have q2 := zbt q1 h1;have hT := zbt q h1;replace E := E.bl h1;obtain ⟨p0, c0, rfl, -, -, -⟩ := I.open;rw [show ([0, 0, 0, 0] : List Rat).length = 4 from rfl] at *;go_wp2_with fail;obtain ⟨W2, h0⟩ := zex (w2.alloc (.cells #[.string ⟨#[97]⟩, .string ⟨#[98]⟩, .string ⟨#[99]⟩] 9));have C : RdS W2 (.slice (some ⟨w2.heap.size, 0, none⟩) 3 3) uU28 := by rw [h0]; exact RdS.fresh w2 uU28 _ #[.string ⟨#[97]⟩, .string ⟨#[98]⟩, .string ⟨#[99]⟩] rfl (by decide) 3 rfl _ rfl
 have G : Below w2.heap.size w2 W2 := by rw [h0]; exact zal _ _
 rw [<- h0];clear h0;replace I := RdC.below I G;have hn := zbt q2 G;have g := zbt hT G;replace E := E.bl G;refine (hv.out W2).mono ?_;rintro e w3 ⟨_, rfl, k, z⟩;have q3 := hn.trans (z.mono hn.size);have hU := g.trans (z.mono g.size);replace E := E.bl z;replace I := RdC.below I z;replace C := RdC.below C z;obtain ⟨H, c2, rfl, -, -, -⟩ := k.open;rw [show ([2, 2, 2, 2] : List Rat).length = 4 from rfl] at *;clear h1 z G q q1 q2 hT hn g;go_wp2_with fail;refine (hx.out w3).mono ?_;rintro e K ⟨_, rfl, hl, D⟩;have q4 := zbt q3 D;have hV := zbt hU D;replace E := E.bl D;replace I := RdC.below I D;replace C := RdC.below C D;replace k := RdC.below k D;obtain ⟨p5, c5, rfl, -, -, -⟩ := hl.open;rw [show ([5, 5, 5, 5] : List Rat).length = 4 from rfl] at *;obtain ⟨z2, hS⟩ := zex (w2.heap.size);rw [<- hS] at C ⊢;obtain ⟨W5, A⟩ := zex ((K.alloc (.cells #[.slice H 4 c2, .slice p5 4 c5] 33)).alloc (.cells #[.slice p0 4 c0, .slice (some ⟨z2, 0, none⟩) 3 3, .slice (some ⟨K.heap.size, 0, none⟩) 2 2] 45));have L : Below K.heap.size K W5 := by rw [A]; exact zal2 _ _ _
 have bs : BoxN W5 K.heap.size 33 [.slice H 4 c2, .slice p5 4 c5] := by rw [A]; exact (BoxN.new K #[.slice H 4 c2, .slice p5 4 c5] _ _ rfl).alloc _
 have bd : BoxN W5 (K.heap.size + 1) 45 [.slice p0 4 c0, .slice (some ⟨z2, 0, none⟩) 3 3, .slice (some ⟨K.heap.size, 0, none⟩) 2 2] := by rw [A]; exact BoxN.new _ #[.slice p0 4 c0, .slice (some ⟨z2, 0, none⟩) 3 3, .slice (some ⟨K.heap.size, 0, none⟩) 2 2] _ _ (by simp)
 have q5 := zbt q4 L;have hq := zbt hV L;replace E := E.bl L;have hN : RdF W5 (.slice (some ⟨K.heap.size, 0, none⟩) 2 2) [[2, 2, 2, 2], [5, 5, 5, 5]] := rh0 (bs.cell 0 rfl) (bs.cell 1 rfl) (RdC.below k L) (RdC.below hl L) (Nat.le_refl _) (by decide);have HK : Hid (K28 W5 pp pt p0 (some ⟨z2, 0, none⟩) (some ⟨K.heap.size, 0, none⟩) cp ct c0 3 2) := ⟨k28_n (RdC.below HP.out hq) (RdC.below HT.out hq) (RdC.below I L) (RdC.below C L) hN⟩;obtain ⟨s1, h3⟩ := zex (w1.heap.size);have hO : s1 < W5.heap.size := by rw [h3]; exact E.lt
 have hP : K.heap.size + 1 < W5.heap.size := bd.lt;rw [<- h3] at E;obtain ⟨n0, n1⟩ := zk2 E;obtain ⟨o0, o1, o2⟩ := zk3 bd;clear D I C k hl q3 hU q4 hV bs hN hS hq;rw [A] at n0 n1 o0 o1 o2;rw [<- h3];clear h3;go_wp2_with fail;rw [<- A];clear A n0 n1 o0 o1 o2;refine zR (k2A HK.out (hg.below q5)) fun w6 hb6 => ?_;have h8 := hid (HK.out.below hb6);have q6 := zbt q5 hb6;have hf := E.bl hb6;have hd := bd.bl hb6;obtain ⟨n0, n1⟩ := zk2 hf;obtain ⟨o0, o1, o2⟩ := zk3 hd;clear hb6 E bd HK q5 hO hP;go_wp2_with fail;refine (k2L h8.out (hg.below q6)).mono ?_;rintro e w7 ⟨_, rfl, ⟨vl, rfl, hK⟩, s⟩;obtain ⟨pl, cl, zi, zM, zg, -, hH⟩ := RdC.of_owns hK;obtain ⟨bl, d, rfl, h2⟩ := hH (by simp [cIv, cu0]);subst zi;have y3 := h2 3 _ rfl;have y4 := h2 4 _ rfl;have y5 := h2 5 _ rfl;rw [k28_rs.2.1] at y4;rw [k28_rs.2.2.2.2.2.2.1] at y5;have n : bl < w7.heap.size := World.block_lt_of_cell? w7 _ y3;unfold maxLen at zg;clear hK hH h2;have h9 := hid (h8.out.below s);have q7 := zbt q6 s;have hh := hf.bl s;have he := hd.bl s;clear n0 n1 o0 o1 o2;obtain ⟨n0, n1⟩ := zk2 hh;obtain ⟨o0, o1, o2⟩ := zk3 he;clear s hf hd h8 q6;go_wp2_with fail;refine zR (k2V h9.out (hg.below q7)) fun w8 hb8 => ?_;have z7 := hid (h9.out.below hb8);have q8 := zbt q7 hb8;have hE := hh.bl hb8;have hC := he.bl hb8;clear n0 n1 o0 o1 o2;obtain ⟨n0, n1⟩ := zk2 hE;obtain ⟨o0, o1, o2⟩ := zk3 hC;replace y3 := (zcq hb8 n y3 :);replace y4 := (zcq hb8 n y4 :);replace y5 := (zcq hb8 n y5 :);have B : bl < w8.heap.size := Nat.lt_of_lt_of_le n hb8.size;have hJ := hE.lt;have hi := hC.lt;clear hb8 hh he h9 q7 n;go_upto_region 6 with fail;have HS : Hid (∀ w', Below w8.heap.size w8 w' -> (w'.cell? ⟨s1, 0, none⟩ = some (.slice pp 4 cp) /\ w'.cell? ⟨s1, 1, none⟩ = some (.slice pt 2 ct)) /\ w'.cell? ⟨K.heap.size + 1, 0, none⟩ = some (.slice p0 4 c0) /\ w'.cell? ⟨K.heap.size + 1, 1, none⟩ = some (.slice (some ⟨z2, 0, none⟩) 3 3) /\ w'.cell? ⟨K.heap.size + 1, 2, none⟩ = some (.slice (some ⟨K.heap.size, 0, none⟩) 2 2)) := fun w' M =>
  ⟨⟨(zcq M hJ n0 :), (zcq M hJ n1 :)⟩, (zcq M hi o0 :), (zcq M hi o1 :), (zcq M hi o2 :)⟩
 have hB : Hid (∀ (w' : World) (px : Option Addr) (cx : Nat), Below w8.heap.size w8 w' -> RdQ w' (.slice px 4 cx) [1, 1, 1, 1] -> _) := fun w' px cx M hr => k2I (z7.out.below M) hr (hg.below ((zbt q8 M)));have q0 : Below w8.heap.size w8 w8.drew := bdN w8 1;go_cut [10, 11] (fun s10 s11 wx => ∃ N v1 v2 v3, s10 = .pointer (some ⟨N, 0, none⟩) /\ s11 = .int .i64 0 /\ w8.heap.size <= N /\ BoxN wx N 45 [v1, v2, v3] /\ DepR wx v1 v2 v3 (([0, 0, 0, 0] : List Rat).map RS) [⟨#[97]⟩, ⟨#[100]⟩, ⟨#[98]⟩, ⟨#[99]⟩] (([[2, 2, 2, 2], [3, 3, 3, 3], [6, 6, 6, 6]] : List (List Rat)).map fun F => F.map RS) /\ Below w8.heap.size w8 wx)
 case first =>
  go_region_held3 (fun w' => (w'.cell? ⟨s1, 0, none⟩ = some (.slice pp 4 cp) /\ w'.cell? ⟨s1, 1, none⟩ = some (.slice pt 2 ct)) /\ w'.cell? ⟨K.heap.size + 1, 0, none⟩ = some (.slice p0 4 c0) /\ w'.cell? ⟨K.heap.size + 1, 1, none⟩ = some (.slice (some ⟨z2, 0, none⟩) 3 3) /\ w'.cell? ⟨K.heap.size + 1, 2, none⟩ = some (.slice (some ⟨K.heap.size, 0, none⟩) 2 2))
   ((refine HS.out _ ?_; repeat (first | with_reducible exact q2 | with_reducible exact q1 | with_reducible exact q0 | with_reducible exact Below.refl _ _ | with_reducible refine Below.drew ?_ | ((with_reducible refine Below.setCell ?_ ?_ _); rotate_left; (first | omega | (simp <;> omega))) | ((with_reducible refine Below.alloc ?_ ?_ _); rotate_left; (first | exact Nat.le_refl _ | omega | (simp <;> omega))))))
   (first
     | ((with_reducible refine Calls.mono (hB.out _ _ _ ?_ ?_) ?_)
        (focus repeat (first | with_reducible exact q1 | with_reducible exact q0 | with_reducible exact Below.refl _ _ | with_reducible refine Below.drew ?_ | ((with_reducible refine Below.alloc ?_ ?_ _); rotate_left; (first | exact Nat.le_refl _ | omega | (simp <;> omega)))))
        (focus (first | exact hL.out | exact RdC.alloc hL.out _))
        (rintro e hW ⟨_, rfl, ⟨v1, v2, v3, rfl, hD⟩, hm⟩
         have q2 : Below w8.heap.size w8 hW := (by refine Below.trans ?_ (hm.mono ?_); rotate_left; (first | exact Nat.le_refl _ | omega | (simp <;> omega)); repeat (first | with_reducible exact q1 | with_reducible exact q0 | with_reducible exact Below.refl _ _ | with_reducible refine Below.drew ?_ | ((with_reducible refine Below.alloc ?_ ?_ _); rotate_left; (first | exact Nat.le_refl _ | omega | (simp <;> omega)))));have zP := q2.size;have H : Below z1.heap.size z1 hW := (by refine Below.trans ?_ (hm.mono ?_); rotate_left; (first | exact Nat.le_refl _ | omega | (simp <;> omega)); repeat (first | with_reducible exact Below.refl _ _ | with_reducible refine Below.drew ?_ | ((with_reducible refine Below.alloc ?_ ?_ _); rotate_left; (first | exact Nat.le_refl _ | omega | (simp <;> omega)))));have h7 := hid hD;obtain ⟨i1, j1, i2, j2, i3, j3, rfl, rfl, rfl⟩ := hD.open;clear hD
         (first | (have H8 := hid (E8.out.below H E8.out.lt)) | skip)
         (first | (have D8 := hid (zc3 hm)) | skip)
         (first | (have hZ := BoxC.of H8.out; obtain ⟨u1, u2, u3, u4, u5, u6, u7⟩ := hZ) | skip)
         (first | (have hY := BoxC.of D8.out; obtain ⟨zQ, zS, zT, zU, zV, zW, zX⟩ := hY) | skip)))
     | ((with_reducible refine Calls.mono (hu.out _) ?_)
        rintro e z1 ⟨_, rfl, ⟨p7, c7, rfl, h6⟩, hQ⟩;have q1 : Below w8.heap.size w8 z1 := (by refine Below.trans ?_ (hQ.mono ?_); rotate_left; (first | exact Nat.le_refl _ | omega | (simp <;> omega)); repeat (first | with_reducible exact q0 | with_reducible exact Below.refl _ _ | with_reducible refine Below.drew ?_ | ((with_reducible refine Below.alloc ?_ ?_ _); rotate_left; (first | exact Nat.le_refl _ | omega | (simp <;> omega)))));have sz1 := q1.size;have hL := hid h6;clear h6
        (first | (have E8 := hid (zc3d hQ)) | skip)))
  all_goals
   go_wp2_with fail;go_meet;refine ⟨_, .slice i1 4 j1, .slice i2 4 j2, .slice i3 3 j3, rfl, rfl, ?_, ?_, ?_, ?_⟩
   ·first | exact Nat.le_refl _ | omega | (simp; omega) | (simp)
   ·repeat (first | with_reducible exact H8.out | with_reducible exact D8.out | with_reducible refine BoxN.drew ?_ | with_reducible refine b3s ?_ | ((with_reducible refine b3n _ _ _ _ _ _ ?_); (first | rfl | (simp <;> omega))) | with_reducible refine BoxN.alloc ?_ _)
   ·first
     | exact h7.out.alloc _
     | exact DepR.set3 h7.out D8.out ke0
     | exact DepR.set3 h7.out H8.out ke0
   ·repeat (first | with_reducible exact q2 | with_reducible exact q1 | with_reducible exact q0 | with_reducible exact Below.refl _ _ | with_reducible refine Below.drew ?_ | ((with_reducible refine Below.setCell ?_ ?_ _); rotate_left; (first | omega | (simp <;> omega))) | ((with_reducible refine Below.alloc ?_ ?_ _); rotate_left; (first | exact Nat.le_refl _ | omega | (simp <;> omega))))
 case rest =>
 obtain ⟨N, v1, v2, v3, rfl, rfl, zL, bx, hR, y⟩ := hcut;have HR := hid hR;obtain ⟨i1, j1, i2, j2, i3, j3, rfl, rfl, rfl⟩ := hR.open;have m : bl < wc.heap.size := Nat.lt_of_lt_of_le B y.size;have x3 := zcq y B y3;have x4 := zcq y B y4;have x5 := zcq y B y5;have hk := bx.lt;have z6 : Hid (∀ X, Below wc.heap.size wc X -> X.cell? ⟨bl, d + 3, none⟩ = some (.string ⟨#[98]⟩) /\ X.cell? ⟨bl, d + 3 + 1, none⟩ = some (.string ⟨#[49]⟩) /\ X.cell? ⟨bl, d + 3 + 2, none⟩ = some (.string ⟨#[52]⟩) /\ X.cell? ⟨N, 0, none⟩ = some (.slice i1 4 j1) /\ X.cell? ⟨N, 1, none⟩ = some (.slice i2 4 j2) /\ X.cell? ⟨N, 2, none⟩ = some (.slice i3 3 j3)) := fun X M =>
  ⟨(zcq M m x3 :), (zcq M m x4 :), (zcq M m x5 :), (M.cell (p := ⟨N, 0, none⟩) hk).trans (bx.cell 0 rfl), (M.cell (p := ⟨N, 1, none⟩) hk).trans (bx.cell 1 rfl), (M.cell (p := ⟨N, 2, none⟩) hk).trans (bx.cell 2 rfl)⟩
 clear x3 x4 x5 y3 y4 y5 n0 n1 o0 o1 o2 HS hB q0 hR;go_upto_region 7 with fail;refine wrm (fun i X v => match i with
  | 0 => v = .int .i64 0 | 1 => v = .bool true | 2 => v = .bool true | 3 => v = .string ⟨#[98]⟩ | 4 => v = .bool true | 5 => v = .bool true | 6 => v = .bool true | 7 => v = .int .i64 0 | 8 => v = .bool true | 9 => v = .bool true | 10 => v = .bool true | 11 => v = .slice (some ⟨bl, d, none⟩) 3 cl | 12 => v = .int .i64 3 | 13 => v = .bool true | 14 => v = .bool true | 15 => v = .bool true | 16 => v = .slice (some ⟨bl, d, none⟩) 3 cl | 17 => v = .pointer (some ⟨bl, d + 3, none⟩) | 18 => v = .agg #[.string ⟨#[98]⟩, .string ⟨#[49]⟩, .string ⟨#[52]⟩] | 19 => v = .agg #[.string ⟨#[98]⟩, .string ⟨#[49]⟩, .string ⟨#[52]⟩] | 20 => v = .bool true | 21 => v = .bool true | 22 => v = .bool true | 23 => v = .int .i64 0 | 24 => v = .bool true | 25 => v = .bool true | 26 => v = .bool true | 27 => v = .string ⟨#[52, 56]⟩ | 28 => v = .bool true | 29 => v = .bool true | 30 => v = .bool true | 31 => v = .int .i64 0 | 32 => v = .bool true | 33 => v = .bool true | 34 => v = .bool true | 35 => v = .agg #[.slice i1 4 j1, .slice i2 4 j2, .slice i3 3 j3] | 36 => ∃ p c, v = .slice p 4 c /\ RdQ X v [0, 0, 0, 0] | 37 => ∃ p c, v = .slice p 4 c /\ RdS X v [⟨#[97]⟩, ⟨#[100]⟩, ⟨#[98]⟩, ⟨#[99]⟩] | 38 => ∃ p c, v = .slice p 4 c /\ RdQ X v [2, 2, 2, 2] | 39 => ∃ p c, v = .slice p 4 c /\ RdQ X v [3, 3, 3, 3] | 40 => ∃ p c, v = .slice p 4 c /\ RdQ X v [6, 6, 6, 6] | 41 => ∃ p c, v = .slice p 3 c /\ RdF X v [[2, 2, 2, 2], [3, 3, 3, 3], [6, 6, 6, 6]] | 42 => ∃ p1 c1 H c2 t x, v = .agg #[.slice p1 4 c1, .slice H 4 c2, .slice t 3 x] /\ DepR X (.slice p1 4 c1) (.slice H 4 c2) (.slice t 3 x) (([0, 0, 0, 0] : List Rat).map RS) [⟨#[97]⟩, ⟨#[100]⟩, ⟨#[98]⟩, ⟨#[99]⟩] (([[2, 2, 2, 2], [3, 3, 3, 3], [6, 6, 6, 6]] : List (List Rat)).map fun F => F.map RS) | 43 => v = .bool true | 44 => v = .bool true | 45 => v = .bool true | _ => True) ?_ (by kernel_rfl) (by kernel_rfl) ?_ ?_
 ·intro i X X' v h M
  rcases i with _|_|_|_|_|_|_|_|_|_|_|_|_|_|_|_|_|_|_|_|_|_|_|_|_|_|_|_|_|_|_|_|_|_|_|_|_|_|_|_|_|_|_|_|_|_|i
  ·exact h
  ·exact h
  ·exact h
  ·exact h
  ·exact h
  ·exact h
  ·exact h
  ·exact h
  ·exact h
  ·exact h
  ·exact h
  ·exact h
  ·exact h
  ·exact h
  ·exact h
  ·exact h
  ·exact h
  ·exact h
  ·exact h
  ·exact h
  ·exact h
  ·exact h
  ·exact h
  ·exact h
  ·exact h
  ·exact h
  ·exact h
  ·exact h
  ·exact h
  ·exact h
  ·exact h
  ·exact h
  ·exact h
  ·exact h
  ·exact h
  ·exact h
  ·obtain ⟨p, c, rfl, h⟩ := h; exact ⟨p, c, rfl, RdC.below h M⟩
  ·obtain ⟨p, c, rfl, h⟩ := h; exact ⟨p, c, rfl, RdC.below h M⟩
  ·obtain ⟨p, c, rfl, h⟩ := h; exact ⟨p, c, rfl, RdC.below h M⟩
  ·obtain ⟨p, c, rfl, h⟩ := h; exact ⟨p, c, rfl, RdC.below h M⟩
  ·obtain ⟨p, c, rfl, h⟩ := h; exact ⟨p, c, rfl, RdC.below h M⟩
  ·obtain ⟨p, c, rfl, h⟩ := h; exact ⟨p, c, rfl, RdF.below h M⟩
  ·obtain ⟨p1, c1, H, c2, t, x, rfl, h⟩ := h; exact ⟨p1, c1, H, c2, t, x, rfl, h.below M⟩
  ·exact h
  ·exact h
  ·exact h
  ·trivial
 ·intro h4 V X i o U Z S
  have hX := S.below;obtain ⟨z0, z1, z2, z3, z4, z5⟩ := z6.out X hX;have o3 : V.eval (.tmp 3) = .string ⟨#[98]⟩ := S.old 3 (by intro j oj O; rcases j with _|_|_|_|_|_|_|_|_|_|_|_|_|_|_|_|_|_|_|_|_|_|_|_|_|_|_|_|_|_|_|_|_|_|_|_|_|_|_|_|_|_|_|_|_|_|j <;> first | (injection O with O; subst O; simp) | exact absurd O (by simp));have o5 : V.eval (.tmp 5) = .int .i64 0 := S.old 5 (by intro j oj O; rcases j with _|_|_|_|_|_|_|_|_|_|_|_|_|_|_|_|_|_|_|_|_|_|_|_|_|_|_|_|_|_|_|_|_|_|_|_|_|_|_|_|_|_|_|_|_|_|j <;> first | (injection O with O; subst O; simp) | exact absurd O (by simp));have o6 : V.eval (.tmp 6) = .slice (some ⟨bl, d, none⟩) 3 cl := S.old 6 (by intro j oj O; rcases j with _|_|_|_|_|_|_|_|_|_|_|_|_|_|_|_|_|_|_|_|_|_|_|_|_|_|_|_|_|_|_|_|_|_|_|_|_|_|_|_|_|_|_|_|_|_|j <;> first | (injection O with O; subst O; simp) | exact absurd O (by simp));have o7 : V.eval (.tmp 7) = .int .i64 0 := S.old 7 (by intro j oj O; rcases j with _|_|_|_|_|_|_|_|_|_|_|_|_|_|_|_|_|_|_|_|_|_|_|_|_|_|_|_|_|_|_|_|_|_|_|_|_|_|_|_|_|_|_|_|_|_|j <;> first | (injection O with O; subst O; simp) | exact absurd O (by simp));have o8 : V.eval (.tmp 8) = .string ⟨#[52, 56]⟩ := S.old 8 (by intro j oj O; rcases j with _|_|_|_|_|_|_|_|_|_|_|_|_|_|_|_|_|_|_|_|_|_|_|_|_|_|_|_|_|_|_|_|_|_|_|_|_|_|_|_|_|_|_|_|_|_|j <;> first | (injection O with O; subst O; simp) | exact absurd O (by simp));have o9 : V.eval (.tmp 9) = .int .i64 0 := S.old 9 (by intro j oj O; rcases j with _|_|_|_|_|_|_|_|_|_|_|_|_|_|_|_|_|_|_|_|_|_|_|_|_|_|_|_|_|_|_|_|_|_|_|_|_|_|_|_|_|_|_|_|_|_|j <;> first | (injection O with O; subst O; simp) | exact absurd O (by simp));have zN : V.eval (.tmp 10) = .pointer (some ⟨N, 0, none⟩) := S.old 10 (by intro j oj O; rcases j with _|_|_|_|_|_|_|_|_|_|_|_|_|_|_|_|_|_|_|_|_|_|_|_|_|_|_|_|_|_|_|_|_|_|_|_|_|_|_|_|_|_|_|_|_|_|j <;> first | (injection O with O; subst O; simp) | exact absurd O (by simp));have zO : V.eval (.tmp 11) = .int .i64 0 := S.old 11 (by intro j oj O; rcases j with _|_|_|_|_|_|_|_|_|_|_|_|_|_|_|_|_|_|_|_|_|_|_|_|_|_|_|_|_|_|_|_|_|_|_|_|_|_|_|_|_|_|_|_|_|_|j <;> first | (injection O with O; subst O; simp) | exact absurd O (by simp));rcases i with _|_|_|_|_|_|_|_|_|_|_|_|_|_|_|_|_|_|_|_|_|_|_|_|_|_|_|_|_|_|_|_|_|_|_|_|_|_|_|_|_|_|_|_|_|_|i
  ·injection U with U; subst U
   refine ⟨rfl, wIv (w' := X) (by intro c Y; cases Y) (by intro c Y; cases Y) ?_ ⟨_, Below.refl _ _, (fun _ h => by cases h; rfl), rfl⟩⟩;clear Z S;generalize V.eval = ρ at *;simp [execOp, go_sem, *]
  ·injection U with U; subst U
   have e0 : V.eval (.tmp 49) = .int .i64 0 := S.has 0 _ 49 rfl rfl (Z ⟨0, .data⟩ (by simp) rfl);refine ⟨rfl, wIv (w' := X) (by intro c Y; cases Y) (by intro c Y; cases Y) ?_ ⟨_, Below.refl _ _, (fun _ h => by cases h; rfl), rfl⟩⟩;clear Z S;have R : ∀ v, V.eval (.const v) = v := fun _ => rfl;generalize V.eval = ρ at *;simp [execOp, go_sem, *]
  ·injection U with U; subst U
   have e1 : V.eval (.tmp 50) = .bool true := S.has 1 _ 50 rfl rfl (Z ⟨1, .data⟩ (by simp) rfl);refine ⟨rfl, wIv (w' := X) (by intro c Y; cases Y) (by intro c Y; cases Y) ?_ ⟨_, Below.refl _ _, (fun _ h => by cases h; rfl), rfl⟩⟩;clear Z S;generalize V.eval = ρ at *;simp [execOp, go_sem, *]
  ·injection U with U; subst U
   have Q : V.eval (.tmp 51) = .bool true := S.has 2 _ 51 rfl rfl (Z ⟨2, .guard⟩ (by simp) rfl);refine ⟨wof rfl rfl rfl Q, wIv (w' := X) (by intro c Y; cases Y) (by intro c Y; cases Y) ?_ ⟨_, Below.refl _ _, (fun _ h => by cases h; rfl), rfl⟩⟩;clear Z S;generalize V.eval = ρ at *;simp [execOp, go_sem, *]
  ·injection U with U; subst U
   have e3 : V.eval (.tmp 52) = .string ⟨#[98]⟩ := S.has 3 _ 52 rfl rfl (Z ⟨3, .data⟩ (by simp) rfl);have Q : V.eval (.tmp 51) = .bool true := S.has 2 _ 51 rfl rfl (Z ⟨2, .guard⟩ (by simp) rfl);refine ⟨wof rfl rfl rfl Q, wIv (w' := X) (by intro c Y; cases Y) (by intro c Y; cases Y) ?_ ⟨_, Below.refl _ _, (fun _ h => by cases h; rfl), rfl⟩⟩;clear Z S;have R : ∀ v, V.eval (.const v) = v := fun _ => rfl;generalize V.eval = ρ at *;simp [execOp, go_sem, *]
  ·injection U with U; subst U
   have e2 : V.eval (.tmp 51) = .bool true := S.has 2 _ 51 rfl rfl (Z ⟨2, .data⟩ (by simp) rfl);have e4 : V.eval (.tmp 53) = .bool true := S.has 4 _ 53 rfl rfl (Z ⟨4, .data⟩ (by simp) rfl);refine ⟨rfl, wIv (w' := X) (by intro c Y; cases Y) (by intro c Y; cases Y) ?_ ⟨_, Below.refl _ _, (fun _ h => by cases h; rfl), rfl⟩⟩;clear Z S;have R : ∀ v, V.eval (.const v) = v := fun _ => rfl;generalize V.eval = ρ at *;simp [execOp, go_sem, *]
  ·injection U with U; subst U
   have e5 : V.eval (.tmp 54) = .bool true := S.has 5 _ 54 rfl rfl (Z ⟨5, .data⟩ (by simp) rfl);refine ⟨rfl, wIv (w' := X) (by intro c Y; cases Y) (by intro c Y; cases Y) ?_ ⟨_, Below.refl _ _, (fun _ h => by cases h; rfl), rfl⟩⟩;clear Z S;generalize V.eval = ρ at *;simp [execOp, go_sem, *]
  ·injection U with U; subst U
   have Q : V.eval (.tmp 55) = .bool true := S.has 6 _ 55 rfl rfl (Z ⟨6, .guard⟩ (by simp) rfl);refine ⟨wof rfl rfl rfl Q, wIv (w' := X) (by intro c Y; cases Y) (by intro c Y; cases Y) ?_ ⟨_, Below.refl _ _, (fun _ h => by cases h; rfl), rfl⟩⟩;clear Z S;generalize V.eval = ρ at *;simp [execOp, go_sem, *]
  ·injection U with U; subst U
   have e7 : V.eval (.tmp 56) = .int .i64 0 := S.has 7 _ 56 rfl rfl (Z ⟨7, .data⟩ (by simp) rfl);have Q : V.eval (.tmp 55) = .bool true := S.has 6 _ 55 rfl rfl (Z ⟨6, .guard⟩ (by simp) rfl);refine ⟨wof rfl rfl rfl Q, wIv (w' := X) (by intro c Y; cases Y) (by intro c Y; cases Y) ?_ ⟨_, Below.refl _ _, (fun _ h => by cases h; rfl), rfl⟩⟩;clear Z S;have R : ∀ v, V.eval (.const v) = v := fun _ => rfl;generalize V.eval = ρ at *;simp [execOp, go_sem, *]
  ·injection U with U; subst U
   have e6 : V.eval (.tmp 55) = .bool true := S.has 6 _ 55 rfl rfl (Z ⟨6, .data⟩ (by simp) rfl);have e8 : V.eval (.tmp 57) = .bool true := S.has 8 _ 57 rfl rfl (Z ⟨8, .data⟩ (by simp) rfl);refine ⟨rfl, wIv (w' := X) (by intro c Y; cases Y) (by intro c Y; cases Y) ?_ ⟨_, Below.refl _ _, (fun _ h => by cases h; rfl), rfl⟩⟩;clear Z S;have R : ∀ v, V.eval (.const v) = v := fun _ => rfl;generalize V.eval = ρ at *;simp [execOp, go_sem, *]
  ·injection U with U; subst U
   have e9 : V.eval (.tmp 58) = .bool true := S.has 9 _ 58 rfl rfl (Z ⟨9, .data⟩ (by simp) rfl);refine ⟨rfl, wIv (w' := X) (by intro c Y; cases Y) (by intro c Y; cases Y) ?_ ⟨_, Below.refl _ _, (fun _ h => by cases h; rfl), rfl⟩⟩;clear Z S;generalize V.eval = ρ at *;simp [execOp, go_sem, *]
  ·injection U with U; subst U
   have Q : V.eval (.tmp 59) = .bool true := S.has 10 _ 59 rfl rfl (Z ⟨10, .guard⟩ (by simp) rfl);refine ⟨wof rfl rfl rfl Q, wIv (w' := X) (by intro c Y; cases Y) (by intro c Y; cases Y) ?_ ⟨_, Below.refl _ _, (fun _ h => by cases h; rfl), rfl⟩⟩;clear Z S;generalize V.eval = ρ at *;simp [execOp, go_sem, *]
  ·injection U with U; subst U
   have zk : V.eval (.tmp 60) = .slice (some ⟨bl, d, none⟩) 3 cl := S.has 11 _ 60 rfl rfl (Z ⟨11, .data⟩ (by simp) rfl);have Q : V.eval (.tmp 59) = .bool true := S.has 10 _ 59 rfl rfl (Z ⟨10, .guard⟩ (by simp) rfl);refine ⟨wof rfl rfl rfl Q, wd0 (w' := X)  (by intro c Y; cases Y) ?_ ⟨_, Below.refl _ _, (fun _ h => by cases h; rfl), rfl⟩⟩;clear Z S;generalize V.eval = ρ at *;simp [execOp, go_sem, *]
  ·injection U with U; subst U
   have zl : V.eval (.tmp 61) = .int .i64 3 := S.has 12 _ 61 rfl rfl (Z ⟨12, .data⟩ (by simp) rfl);have Q : V.eval (.tmp 59) = .bool true := S.has 10 _ 59 rfl rfl (Z ⟨10, .guard⟩ (by simp) rfl);refine ⟨wof rfl rfl rfl Q, wIv (w' := X) (by intro c Y; cases Y) (by intro c Y; cases Y) ?_ ⟨_, Below.refl _ _, (fun _ h => by cases h; rfl), rfl⟩⟩;clear Z S;have R : ∀ v, V.eval (.const v) = v := fun _ => rfl;generalize V.eval = ρ at *;simp [execOp, go_sem, *]
  ·injection U with U; subst U
   have zj : V.eval (.tmp 59) = .bool true := S.has 10 _ 59 rfl rfl (Z ⟨10, .data⟩ (by simp) rfl);have zm : V.eval (.tmp 62) = .bool true := S.has 13 _ 62 rfl rfl (Z ⟨13, .data⟩ (by simp) rfl);refine ⟨rfl, wIv (w' := X) (by intro c Y; cases Y) (by intro c Y; cases Y) ?_ ⟨_, Below.refl _ _, (fun _ h => by cases h; rfl), rfl⟩⟩;clear Z S;have R : ∀ v, V.eval (.const v) = v := fun _ => rfl;generalize V.eval = ρ at *;simp [execOp, go_sem, *]
  ·injection U with U; subst U
   have zn : V.eval (.tmp 63) = .bool true := S.has 14 _ 63 rfl rfl (Z ⟨14, .data⟩ (by simp) rfl);refine ⟨rfl, wIv (w' := X) (by intro c Y; cases Y) (by intro c Y; cases Y) ?_ ⟨_, Below.refl _ _, (fun _ h => by cases h; rfl), rfl⟩⟩;clear Z S;generalize V.eval = ρ at *;simp [execOp, go_sem, *]
  ·injection U with U; subst U
   have Q : V.eval (.tmp 64) = .bool true := S.has 15 _ 64 rfl rfl (Z ⟨15, .guard⟩ (by simp) rfl);refine ⟨wof rfl rfl rfl Q, wIv (w' := X) (by intro c Y; cases Y) (by intro c Y; cases Y) ?_ ⟨_, Below.refl _ _, (fun _ h => by cases h; rfl), rfl⟩⟩;clear Z S;generalize V.eval = ρ at *;simp [execOp, go_sem, *]
  ·injection U with U; subst U
   have zp : V.eval (.tmp 65) = .slice (some ⟨bl, d, none⟩) 3 cl := S.has 16 _ 65 rfl rfl (Z ⟨16, .data⟩ (by simp) rfl);have Q : V.eval (.tmp 64) = .bool true := S.has 15 _ 64 rfl rfl (Z ⟨15, .guard⟩ (by simp) rfl);refine ⟨wof rfl rfl rfl Q, wIv (w' := X) (by intro c Y; cases Y) (by intro c Y; cases Y) ?_ ⟨_, Below.refl _ _, (fun _ h => by cases h; rfl), rfl⟩⟩;clear Z S;have R : ∀ v, V.eval (.const v) = v := fun _ => rfl;generalize V.eval = ρ at *;simp [execOp, go_sem, *]
  ·injection U with U; subst U
   have zq : V.eval (.tmp 66) = .pointer (some ⟨bl, d + 3, none⟩) := S.has 17 _ 66 rfl rfl (Z ⟨17, .data⟩ (by simp) rfl);have Q : V.eval (.tmp 64) = .bool true := S.has 15 _ 64 rfl rfl (Z ⟨15, .guard⟩ (by simp) rfl);refine ⟨wof rfl rfl rfl Q, wIv (w' := X) (by intro c Y; cases Y) (by intro c Y; cases Y) ?_ ⟨_, Below.refl _ _, (fun _ h => by cases h; rfl), rfl⟩⟩;clear Z S;generalize V.eval = ρ at *;simp [execOp, go_sem, *]
  ·injection U with U; subst U
   have Q : V.eval (.tmp 64) = .bool true := S.has 15 _ 64 rfl rfl (Z ⟨15, .guard⟩ (by simp) rfl);refine ⟨wof rfl rfl rfl Q, wIv (w' := X) (by intro c Y; cases Y) (by intro c Y; cases Y) ?_ ⟨_, Below.refl _ _, (fun _ h => by cases h; rfl), rfl⟩⟩;clear Z S;have R : ∀ v, V.eval (.const v) = v := fun _ => rfl;generalize V.eval = ρ at *;simp [execOp, go_sem, *]
  ·injection U with U; subst U
   have zr : V.eval (.tmp 67) = .agg #[.string ⟨#[98]⟩, .string ⟨#[49]⟩, .string ⟨#[52]⟩] := S.has 18 _ 67 rfl rfl (Z ⟨18, .data⟩ (by simp) rfl);have zs : V.eval (.tmp 68) = .agg #[.string ⟨#[98]⟩, .string ⟨#[49]⟩, .string ⟨#[52]⟩] := S.has 19 _ 68 rfl rfl (Z ⟨19, .data⟩ (by simp) rfl);have Q : V.eval (.tmp 64) = .bool true := S.has 15 _ 64 rfl rfl (Z ⟨15, .guard⟩ (by simp) rfl);refine ⟨wof rfl rfl rfl Q, wIv (w' := X) (by intro c Y; cases Y) (by intro c Y; cases Y) ?_ ⟨_, Below.refl _ _, (fun _ h => by cases h; rfl), rfl⟩⟩;clear Z S;generalize V.eval = ρ at *;simp [execOp, go_sem, *]
  ·injection U with U; subst U
   have zo : V.eval (.tmp 64) = .bool true := S.has 15 _ 64 rfl rfl (Z ⟨15, .data⟩ (by simp) rfl);have zt : V.eval (.tmp 69) = .bool true := S.has 20 _ 69 rfl rfl (Z ⟨20, .data⟩ (by simp) rfl);refine ⟨rfl, wIv (w' := X) (by intro c Y; cases Y) (by intro c Y; cases Y) ?_ ⟨_, Below.refl _ _, (fun _ h => by cases h; rfl), rfl⟩⟩;clear Z S;have R : ∀ v, V.eval (.const v) = v := fun _ => rfl;generalize V.eval = ρ at *;simp [execOp, go_sem, *]
  ·injection U with U; subst U
   have zu : V.eval (.tmp 70) = .bool true := S.has 21 _ 70 rfl rfl (Z ⟨21, .data⟩ (by simp) rfl);refine ⟨rfl, wIv (w' := X) (by intro c Y; cases Y) (by intro c Y; cases Y) ?_ ⟨_, Below.refl _ _, (fun _ h => by cases h; rfl), rfl⟩⟩;clear Z S;generalize V.eval = ρ at *;simp [execOp, go_sem, *]
  ·injection U with U; subst U
   have Q : V.eval (.tmp 71) = .bool true := S.has 22 _ 71 rfl rfl (Z ⟨22, .guard⟩ (by simp) rfl);refine ⟨wof rfl rfl rfl Q, wIv (w' := X) (by intro c Y; cases Y) (by intro c Y; cases Y) ?_ ⟨_, Below.refl _ _, (fun _ h => by cases h; rfl), rfl⟩⟩;clear Z S;generalize V.eval = ρ at *;simp [execOp, go_sem, *]
  ·injection U with U; subst U
   have zw : V.eval (.tmp 72) = .int .i64 0 := S.has 23 _ 72 rfl rfl (Z ⟨23, .data⟩ (by simp) rfl);have Q : V.eval (.tmp 71) = .bool true := S.has 22 _ 71 rfl rfl (Z ⟨22, .guard⟩ (by simp) rfl);refine ⟨wof rfl rfl rfl Q, wIv (w' := X) (by intro c Y; cases Y) (by intro c Y; cases Y) ?_ ⟨_, Below.refl _ _, (fun _ h => by cases h; rfl), rfl⟩⟩;clear Z S;have R : ∀ v, V.eval (.const v) = v := fun _ => rfl;generalize V.eval = ρ at *;simp [execOp, go_sem, *]
  ·injection U with U; subst U
   have zv : V.eval (.tmp 71) = .bool true := S.has 22 _ 71 rfl rfl (Z ⟨22, .data⟩ (by simp) rfl);have zx : V.eval (.tmp 73) = .bool true := S.has 24 _ 73 rfl rfl (Z ⟨24, .data⟩ (by simp) rfl);refine ⟨rfl, wIv (w' := X) (by intro c Y; cases Y) (by intro c Y; cases Y) ?_ ⟨_, Below.refl _ _, (fun _ h => by cases h; rfl), rfl⟩⟩;clear Z S;have R : ∀ v, V.eval (.const v) = v := fun _ => rfl;generalize V.eval = ρ at *;simp [execOp, go_sem, *]
  ·injection U with U; subst U
   have zy : V.eval (.tmp 74) = .bool true := S.has 25 _ 74 rfl rfl (Z ⟨25, .data⟩ (by simp) rfl);refine ⟨rfl, wIv (w' := X) (by intro c Y; cases Y) (by intro c Y; cases Y) ?_ ⟨_, Below.refl _ _, (fun _ h => by cases h; rfl), rfl⟩⟩;clear Z S;generalize V.eval = ρ at *;simp [execOp, go_sem, *]
  ·injection U with U; subst U
   have Q : V.eval (.tmp 75) = .bool true := S.has 26 _ 75 rfl rfl (Z ⟨26, .guard⟩ (by simp) rfl);refine ⟨wof rfl rfl rfl Q, wIv (w' := X) (by intro c Y; cases Y) (by intro c Y; cases Y) ?_ ⟨_, Below.refl _ _, (fun _ h => by cases h; rfl), rfl⟩⟩;clear Z S;generalize V.eval = ρ at *;simp [execOp, go_sem, *]
  ·injection U with U; subst U
   have zA : V.eval (.tmp 76) = .string ⟨#[52, 56]⟩ := S.has 27 _ 76 rfl rfl (Z ⟨27, .data⟩ (by simp) rfl);have Q : V.eval (.tmp 75) = .bool true := S.has 26 _ 75 rfl rfl (Z ⟨26, .guard⟩ (by simp) rfl);refine ⟨wof rfl rfl rfl Q, wIv (w' := X) (by intro c Y; cases Y) (by intro c Y; cases Y) ?_ ⟨_, Below.refl _ _, (fun _ h => by cases h; rfl), rfl⟩⟩;clear Z S;have R : ∀ v, V.eval (.const v) = v := fun _ => rfl;generalize V.eval = ρ at *;simp [execOp, go_sem, *]
  ·injection U with U; subst U
   have zz : V.eval (.tmp 75) = .bool true := S.has 26 _ 75 rfl rfl (Z ⟨26, .data⟩ (by simp) rfl);have zB : V.eval (.tmp 77) = .bool true := S.has 28 _ 77 rfl rfl (Z ⟨28, .data⟩ (by simp) rfl);refine ⟨rfl, wIv (w' := X) (by intro c Y; cases Y) (by intro c Y; cases Y) ?_ ⟨_, Below.refl _ _, (fun _ h => by cases h; rfl), rfl⟩⟩;clear Z S;have R : ∀ v, V.eval (.const v) = v := fun _ => rfl;generalize V.eval = ρ at *;simp [execOp, go_sem, *]
  ·injection U with U; subst U
   have zC : V.eval (.tmp 78) = .bool true := S.has 29 _ 78 rfl rfl (Z ⟨29, .data⟩ (by simp) rfl);refine ⟨rfl, wIv (w' := X) (by intro c Y; cases Y) (by intro c Y; cases Y) ?_ ⟨_, Below.refl _ _, (fun _ h => by cases h; rfl), rfl⟩⟩;clear Z S;generalize V.eval = ρ at *;simp [execOp, go_sem, *]
  ·injection U with U; subst U
   have Q : V.eval (.tmp 79) = .bool true := S.has 30 _ 79 rfl rfl (Z ⟨30, .guard⟩ (by simp) rfl);refine ⟨wof rfl rfl rfl Q, wIv (w' := X) (by intro c Y; cases Y) (by intro c Y; cases Y) ?_ ⟨_, Below.refl _ _, (fun _ h => by cases h; rfl), rfl⟩⟩;clear Z S;generalize V.eval = ρ at *;simp [execOp, go_sem, *]
  ·injection U with U; subst U
   have zE : V.eval (.tmp 80) = .int .i64 0 := S.has 31 _ 80 rfl rfl (Z ⟨31, .data⟩ (by simp) rfl);have Q : V.eval (.tmp 79) = .bool true := S.has 30 _ 79 rfl rfl (Z ⟨30, .guard⟩ (by simp) rfl);refine ⟨wof rfl rfl rfl Q, wIv (w' := X) (by intro c Y; cases Y) (by intro c Y; cases Y) ?_ ⟨_, Below.refl _ _, (fun _ h => by cases h; rfl), rfl⟩⟩;clear Z S;have R : ∀ v, V.eval (.const v) = v := fun _ => rfl;generalize V.eval = ρ at *;simp [execOp, go_sem, *]
  ·injection U with U; subst U
   have zD : V.eval (.tmp 79) = .bool true := S.has 30 _ 79 rfl rfl (Z ⟨30, .data⟩ (by simp) rfl);have zF : V.eval (.tmp 81) = .bool true := S.has 32 _ 81 rfl rfl (Z ⟨32, .data⟩ (by simp) rfl);refine ⟨rfl, wIv (w' := X) (by intro c Y; cases Y) (by intro c Y; cases Y) ?_ ⟨_, Below.refl _ _, (fun _ h => by cases h; rfl), rfl⟩⟩;clear Z S;have R : ∀ v, V.eval (.const v) = v := fun _ => rfl;generalize V.eval = ρ at *;simp [execOp, go_sem, *]
  ·injection U with U; subst U
   have zG : V.eval (.tmp 82) = .bool true := S.has 33 _ 82 rfl rfl (Z ⟨33, .data⟩ (by simp) rfl);refine ⟨rfl, wIv (w' := X) (by intro c Y; cases Y) (by intro c Y; cases Y) ?_ ⟨_, Below.refl _ _, (fun _ h => by cases h; rfl), rfl⟩⟩;clear Z S;generalize V.eval = ρ at *;simp [execOp, go_sem, *]
  ·injection U with U; subst U
   have Q : V.eval (.tmp 83) = .bool true := S.has 34 _ 83 rfl rfl (Z ⟨34, .guard⟩ (by simp) rfl);refine ⟨wof rfl rfl rfl Q, wIv (w' := X) (by intro c Y; cases Y) (by intro c Y; cases Y) ?_ ⟨_, Below.refl _ _, (fun _ h => by cases h; rfl), rfl⟩⟩;clear Z S;generalize V.eval = ρ at *;simp [execOp, go_sem, *]
  ·injection U with U; subst U
   have Q : V.eval (.tmp 83) = .bool true := S.has 34 _ 83 rfl rfl (Z ⟨34, .guard⟩ (by simp) rfl);refine ⟨wof rfl rfl rfl Q, ?_⟩;refine wIc (f := 36) (args := #[.string ⟨#[48]⟩]) (w' := X) (by intro c Y; cases Y) (fun _ _ => trivial) ?_ ⟨fun h => by simp [Fence.wide] at h, ?_⟩
   ·have ef : V.eval (.func 36) = .func (.func 36) #[] #[] := rfl
    have R : ∀ v, V.eval (.const v) = v := fun _ => rfl;clear Z S;generalize V.eval = ρ at *;simp [execOp, go_sem, *]
   ·refine CallsIn.mono (callsIn_wide.2 (hz.out X)) ?_
    rintro e X2 ⟨_, rfl, ⟨p, c, rfl, hr⟩, J⟩;exact ⟨_, rfl, _, J, (fun _ h => by cases h; exact ⟨p, c, rfl, hr⟩), rfl⟩
  ·injection U with U; subst U
   have Q : V.eval (.tmp 83) = .bool true := S.has 34 _ 83 rfl rfl (Z ⟨34, .guard⟩ (by simp) rfl);refine ⟨wof rfl rfl rfl Q, ?_⟩;refine wIv (v := .slice (some ⟨X.heap.size, 0, none⟩) 4 4) (w' := X.alloc (.cells #[.string ⟨#[97]⟩, .string ⟨#[100]⟩, .string ⟨#[98]⟩, .string ⟨#[99]⟩] 9)) (by intro c Y; cases Y) (by intro c Y; cases Y) ?_ ⟨_, (Below.refl _ _).alloc (Nat.le_refl _) _, (fun _ h => by cases h; exact ⟨_, _, rfl, RdS.fresh X [⟨#[97]⟩, ⟨#[100]⟩, ⟨#[98]⟩, ⟨#[99]⟩] _ #[.string ⟨#[97]⟩, .string ⟨#[100]⟩, .string ⟨#[98]⟩, .string ⟨#[99]⟩] rfl (by decide) 4 rfl _ rfl⟩), rfl⟩;clear Z S;have R : ∀ v, V.eval (.const v) = v := fun _ => rfl;generalize V.eval = ρ at *;simp [execOp, go_sem, *]
  ·injection U with U; subst U
   have Q : V.eval (.tmp 83) = .bool true := S.has 34 _ 83 rfl rfl (Z ⟨34, .guard⟩ (by simp) rfl);refine ⟨wof rfl rfl rfl Q, ?_⟩;refine wIc (f := 36) (args := #[.string ⟨#[50]⟩]) (w' := X) (by intro c Y; cases Y) (fun _ _ => trivial) ?_ ⟨fun h => by simp [Fence.wide] at h, ?_⟩
   ·have ef : V.eval (.func 36) = .func (.func 36) #[] #[] := rfl
    have R : ∀ v, V.eval (.const v) = v := fun _ => rfl;clear Z S;generalize V.eval = ρ at *;simp [execOp, go_sem, *]
   ·refine CallsIn.mono (callsIn_wide.2 (hA.out X)) ?_
    rintro e X2 ⟨_, rfl, ⟨p, c, rfl, hr⟩, J⟩;exact ⟨_, rfl, _, J, (fun _ h => by cases h; exact ⟨p, c, rfl, hr⟩), rfl⟩
  ·injection U with U; subst U
   have Q : V.eval (.tmp 83) = .bool true := S.has 34 _ 83 rfl rfl (Z ⟨34, .guard⟩ (by simp) rfl);refine ⟨wof rfl rfl rfl Q, ?_⟩;refine wIc (f := 36) (args := #[.string ⟨#[51]⟩]) (w' := X) (by intro c Y; cases Y) (fun _ _ => trivial) ?_ ⟨fun h => by simp [Fence.wide] at h, ?_⟩
   ·have ef : V.eval (.func 36) = .func (.func 36) #[] #[] := rfl
    have R : ∀ v, V.eval (.const v) = v := fun _ => rfl;clear Z S;generalize V.eval = ρ at *;simp [execOp, go_sem, *]
   ·refine CallsIn.mono (callsIn_wide.2 (hw.out X)) ?_
    rintro e X2 ⟨_, rfl, ⟨p, c, rfl, hr⟩, J⟩;exact ⟨_, rfl, _, J, (fun _ h => by cases h; exact ⟨p, c, rfl, hr⟩), rfl⟩
  ·injection U with U; subst U
   have Q : V.eval (.tmp 83) = .bool true := S.has 34 _ 83 rfl rfl (Z ⟨34, .guard⟩ (by simp) rfl);refine ⟨wof rfl rfl rfl Q, ?_⟩;refine wIc (f := 36) (args := #[.string ⟨#[54]⟩]) (w' := X) (by intro c Y; cases Y) (fun _ _ => trivial) ?_ ⟨fun h => by simp [Fence.wide] at h, ?_⟩
   ·have ef : V.eval (.func 36) = .func (.func 36) #[] #[] := rfl
    have R : ∀ v, V.eval (.const v) = v := fun _ => rfl;clear Z S;generalize V.eval = ρ at *;simp [execOp, go_sem, *]
   ·refine CallsIn.mono (callsIn_wide.2 (hy.out X)) ?_
    rintro e X2 ⟨_, rfl, ⟨p, c, rfl, hr⟩, J⟩;exact ⟨_, rfl, _, J, (fun _ h => by cases h; exact ⟨p, c, rfl, hr⟩), rfl⟩
  ·injection U with U; subst U
   have za := S.has 38 _ 87 rfl rfl (Z ⟨38, .data⟩ (by simp) rfl);have zb := S.has 39 _ 88 rfl rfl (Z ⟨39, .data⟩ (by simp) rfl);have zc := S.has 40 _ 89 rfl rfl (Z ⟨40, .data⟩ (by simp) rfl);have Q : V.eval (.tmp 83) = .bool true := S.has 34 _ 83 rfl rfl (Z ⟨34, .guard⟩ (by simp) rfl);refine ⟨wof rfl rfl rfl Q, ?_⟩;obtain ⟨H, c2, e2, r2⟩ := za;obtain ⟨t, x, e3, r3⟩ := zb;obtain ⟨p6, c6, e6, r6⟩ := zc;rw [e2] at r2;rw [e3] at r3;rw [e6] at r6;have l : Below X.heap.size X (X.alloc (.cells #[.slice H 4 c2, .slice t 4 x, .slice p6 4 c6] 33)) := zal _ _;have b := BoxN.new X #[.slice H 4 c2, .slice t 4 x, .slice p6 4 c6] 33 _ rfl;refine wIv (v := .slice (some ⟨X.heap.size, 0, none⟩) 3 3) (w' := X.alloc (.cells #[.slice H 4 c2, .slice t 4 x, .slice p6 4 c6] 33)) (by intro c Y; cases Y) (by intro c Y; cases Y) ?_ ⟨_, l, (fun _ h => by cases h; exact ⟨_, _, rfl, rFt (b.cell 0 rfl) (b.cell 1 rfl) (b.cell 2 rfl) (RdC.below r2 l) (RdC.below r3 l) (RdC.below r6 l) (Nat.le_refl _) (by decide)⟩), rfl⟩;clear Z S r2 r3 r6 l b;generalize V.eval = ρ at *;simp [execOp, go_sem, *]
  ·injection U with U; subst U
   have z8 := S.has 36 _ 85 rfl rfl (Z ⟨36, .data⟩ (by simp) rfl);have z9 := S.has 37 _ 86 rfl rfl (Z ⟨37, .data⟩ (by simp) rfl);have zd := S.has 41 _ 90 rfl rfl (Z ⟨41, .data⟩ (by simp) rfl);have Q : V.eval (.tmp 83) = .bool true := S.has 34 _ 83 rfl rfl (Z ⟨34, .guard⟩ (by simp) rfl);refine ⟨wof rfl rfl rfl Q, ?_⟩;obtain ⟨p1, c1, e1, r1⟩ := z8;obtain ⟨H, c2, e2, r2⟩ := z9;obtain ⟨t, x, e3, r3⟩ := zd;rw [e1] at r1;rw [e2] at r2;rw [e3] at r3;refine wIv (v := .agg #[.slice p1 4 c1, .slice H 4 c2, .slice t 3 x]) (w' := X) (by intro c Y; cases Y) (by intro c Y; cases Y) ?_ ⟨_, Below.refl _ _, (fun _ h => by cases h; exact ⟨_, _, _, _, _, _, rfl, ⟨r1.toS, r2, r3.toTx⟩⟩), rfl⟩;clear Z S r1 r2 r3;generalize V.eval = ρ at *;simp [execOp, go_sem, *]
  ·injection U with U; subst U
   have zI : V.eval (.tmp 84) = .agg #[.slice i1 4 j1, .slice i2 4 j2, .slice i3 3 j3] := S.has 35 _ 84 rfl rfl (Z ⟨35, .data⟩ (by simp) rfl);have ze := S.has 42 _ 91 rfl rfl (Z ⟨42, .data⟩ (by simp) rfl);have Q : V.eval (.tmp 83) = .bool true := S.has 34 _ 83 rfl rfl (Z ⟨34, .guard⟩ (by simp) rfl);refine ⟨wof rfl rfl rfl Q, ?_⟩;obtain ⟨p1, c1, H, c2, t, x, e1, r1⟩ := ze;refine wIc (f := 37) (args := #[.agg #[.slice i1 4 j1, .slice i2 4 j2, .slice i3 3 j3], .agg #[.slice p1 4 c1, .slice H 4 c2, .slice t 3 x]]) (w' := X) (by intro c Y; cases Y) (fun _ _ => trivial) ?_ ⟨fun h => by simp [Fence.wide] at h, ?_⟩
   ·have ef : V.eval (.func 37) = .func (.func 37) #[] #[] := rfl
    clear Z S r1;generalize V.eval = ρ at *;simp [execOp, go_sem, *]
   ·refine CallsIn.mono (callsIn_wide.2 (sEa X _ _ _ _ _ _ _ _ _ _ _ _ (HR.out.below hX) r1)) ?_
    rintro e X2 ⟨_, rfl, rfl, J⟩;exact ⟨_, rfl, _, J, (fun _ h => by cases h; exact congrArg Value.bool (decide_eq_true ⟨rfl, rfl, rfl⟩)), rfl⟩
  ·injection U with U; subst U
   have zH : V.eval (.tmp 83) = .bool true := S.has 34 _ 83 rfl rfl (Z ⟨34, .data⟩ (by simp) rfl);have zJ : V.eval (.tmp 92) = .bool true := S.has 43 _ 92 rfl rfl (Z ⟨43, .data⟩ (by simp) rfl);refine ⟨rfl, wIv (w' := X) (by intro c Y; cases Y) (by intro c Y; cases Y) ?_ ⟨_, Below.refl _ _, (fun _ h => by cases h; rfl), rfl⟩⟩;clear Z S;have R : ∀ v, V.eval (.const v) = v := fun _ => rfl;generalize V.eval = ρ at *;simp [execOp, go_sem, *]
  ·injection U with U; subst U
   have zK : V.eval (.tmp 93) = .bool true := S.has 44 _ 93 rfl rfl (Z ⟨44, .data⟩ (by simp) rfl);refine ⟨rfl, wIv (w' := X) (by intro c Y; cases Y) (by intro c Y; cases Y) ?_ ⟨_, Below.refl _ _, (fun _ h => by cases h; rfl), rfl⟩⟩;clear Z S;generalize V.eval = ρ at *;simp [execOp, go_sem, *]
  ·exact absurd U (by simp)
 ·intro h4 V X h5 S zh hF
  have e0 : V.eval (.tmp 0) = .bool true := S.has 45 _ 0 rfl rfl (h5 45 (by simp));have hX := S.below;have qX := ((zbt q8 y)).trans (hX.mono (by have := q8.size; have := y.size; omega));have hG : V.defers = [] := hF;replace e0 : V.tmps.getD 0 undef = .bool true := e0;rw [Array.getD_eq_getD_getElem?] at e0;clear S h5 hF zh;go_wp2_with fail;refine bodyPost_ret (v := .bool true) (by simp [results, Tryz.results7, go_sem, e0]) hG ⟨_, rfl, rfl, qX⟩
theorem sPt (k : Nat) : 2 <= (sPP k).length := by unfold sPP; split <;> decide
theorem sl0 (k : Nat) : (sTT k).length <= 8 := by unfold sTT; split <;> decide
theorem pIf {P : List PtQ} (h : ∀ p ∈ P, FrP 2 26 p) (z : Int) : FrP 2 26 (ptI P z) := by
 unfold ptI;cases h1 : P[z.toNat]? with
 | none => exact ⟨Fr.zero _ _, Fr.zero _ _⟩
 | some p => exact h p (List.mem_of_getElem? h1)
end Go.Proofs.YtmcbeajdloaliaaGreatDoor
