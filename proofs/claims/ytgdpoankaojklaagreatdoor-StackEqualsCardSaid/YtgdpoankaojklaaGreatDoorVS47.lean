import Derived.Test.YtgdpoankaojklaaGreatDoorVS45
/- A drawn region in which the world only grows klippelaw28.known -/
namespace Go.Proofs.YtgdpoankaojklaaGreatDoor
open Go Go.RowKit Go.Lib Go.Shelf
theorem wanted_of {ops : Array Oper} {o ok : Oper} {a : Act} {k d : Nat} {b : Bool} (hg : o.guard = some (k, b)) (hk : ops[k]? = some ok) (hd : ok.dst = some d) (he : a.eval (.tmp d) = .bool b) : Region.wanted o (yielded ops a.tmps) = true := by
 have h : a.tmps[d]? = some (.bool b) := by
  replace he : a.tmps.getD d undef = .bool b := he;rw [Array.getD_eq_getD_getElem?] at he;cases hc : a.tmps[d]? with
  | none => rw [hc] at he; cases he
  | some v => rw [hc] at he; exact congrArg some he
 cases b <;> simp [Region.wanted, yielded, hg, hk, hd, h]
theorem wpIn_val2 {n : Nat} {P : Program} {Q : Exit -> Act -> World -> Prop} {o : Oper} {a : Act} {w w' : World} {K : Act -> World -> Prop} {v : Value} (hd : ∀ c, o.op ≠ .defer c) (hr : (execOp a.eval o).run P w = .ok (.value v) w') (hK : K (a.put o.dst v) w') : o.wpIn Fence.wide n P a w K Q := by
 refine ⟨fun _ _ => trivial, ?_⟩;rw [Oper.semAt_eq _ _ _ hd, hr]; exact hK
section
variable {P : Program} {Q : Exit -> Act -> World -> Prop}
structure Mono (ops : Array Oper) (V : Nat -> World -> Value -> Prop) (W : World) (a0 : Act) (listed : Array Bool) (a : Act) (X : World) : Prop where
 below : Below W.heap.size W X
 has : ∀ j oj d, ops[j]? = some oj -> oj.dst = some d -> listed.getD j false = true -> V j X (a.eval (.tmp d))
 old : ∀ s, (∀ (j : Nat) (oj : Oper), ops[j]? = some oj -> oj.dst ≠ some s) -> a.eval (.tmp s) = a0.eval (.tmp s)
theorem wp_region_mono {id : Nat} {l : List Oper} {a : Act} {w : World} (V : Nat -> World -> Value -> Prop) (hV : ∀ i X X' v, V i X v -> Below X.heap.size X X' -> V i X' v) (hm : P.follows .mixedOrders = true) (ht : tidyB l.toArray a.tmps.size = true)
 (hstep : ∀ listed a' X i o, l.toArray[i]? = some o -> (∀ e ∈ o.after, Region.binds .any e = true -> listed.getD e.on false = true) -> Mono l.toArray V w a listed a' X ->
   Region.wanted o (yielded l.toArray a'.tmps) = true /\ o.wpIn Fence.wide 1 P a' X (fun a'' X' => ∃ v, Below X.heap.size X X' /\ (∀ d, o.dst = some d -> V i X' v) /\ a'' = a'.put o.dst v) Q)
 (hend : ∀ listed a' X, (∀ i, i < l.toArray.size -> listed.getD i false = true) -> Mono l.toArray V w a listed a' X -> a'.tmps.size = a.tmps.size -> a'.defers = a.defers -> Q .normal a' X) :
 (Code.region id l.toArray true).wp P Q a w := by
 refine (wpIn_wide (n := 1)).1 ?_;refine wpIn_region_drawnA (fun _ _ => True) (fun listed a' X => Mono l.toArray V w a listed a' X) hm ht ⟨below_drewN w 1, fun j oj d hj _ hl => ?_, fun _ _ => rfl⟩ ?_ ?_
 ·simp [Array.getD_eq_getD_getElem?] at hl
  have hj2 := (Array.getElem?_eq_some_iff.1 hj).1;simp at hj2;simp [hj2] at hl
 ·intro listed a' X i o ho hl hdep hD hC
  obtain ⟨h1, h2⟩ := hstep listed a' X i o ho hdep hC;refine ⟨h1, Oper.wpIn_mono (fun a'' X' h => ?_) h2⟩;obtain ⟨v, hb, hv, rfl⟩ := h;refine ⟨v, trivial, rfl, hC.below.trans (hb.mono hC.below.size), fun j oj d hj hd hlj => ?_, fun s hs => ?_⟩
  ·by_cases hji : i = j
   ·subst hji
    rw [ho] at hj;cases hj;rw [hd, eval_put_self (by rw [hD.tsize]; exact tidy_dst ht ho hd)];exact hv d hd
   ·rw [getD_ne _ _ _ hji] at hlj
    have hne : o.dst ≠ some d := fun e => tidy_apart ht ho hj e hd hji rfl;have h5 := hV j X X' _ (hC.has j oj d hj hd hlj) hb;cases hod : o.dst with
    | none => exact h5
    | some d' =>
      rw [eval_put_other (fun e => hne (by rw [hod, e]))];exact h5
  ·cases hod : o.dst with
   | none => exact hC.old s hs
   | some d' => rw [eval_put_other (fun e => hs i o ho (by rw [hod, e]))]; exact hC.old s hs
 ·intro listed a' X hall hD hC
  exact hend listed a' X hall hC hD.tsize hD.defers
end
end Go.Proofs.YtgdpoankaojklaaGreatDoor
namespace Go.Proofs.YtgdpoankaojklaaGreatDoor
open Go.RowKit Go.Lib Go.Shelf
theorem k28_rs : RS 0 = ⟨#[48]⟩ /\ RS 1 = ⟨#[49]⟩ /\ RS 2 = ⟨#[50]⟩ /\ RS 3 = ⟨#[51]⟩ /\ RS 5 = ⟨#[53]⟩ /\ RS 6 = ⟨#[54]⟩ /\ RS 4 = ⟨#[52]⟩ /\ RS 48 = ⟨#[52, 56]⟩ := by decide +kernel
theorem k28_value {w : World} {vp vt vf : Value} {c : Rat} (hp : RdP w vp (strP pP28)) (ht : RdT w vt tT28) (hf : RdQ w vf [c, c, c, c]) (hc : c = 0 \/ c = 2 \/ c = 5) (hg : Good w) :
 Calls Tryz.prog 30 #[.agg #[vp, vt], vf, .agg #[.string ⟨#[49]⟩, .string ⟨#[49]⟩]] w (Ret (fun r _ => r = .tuple #[.string (RS c), .int .i64 0]) w) := by
 obtain ⟨v1, v2, v3, v4, v5, v6⟩ := k28_vals;have key : slopeT pP28 [c, c, c, c] (0, 1, 2) = (0, 0) /\ onQ pP28 [c, c, c, c] (0, 1, 2) (1, 1) = c := by
  rcases hc with rfl | rfl | rfl
  ·exact ⟨v1, v4⟩
  ·exact ⟨v2, v5⟩
  ·exact ⟨v3, v6⟩
 have hsz : Sz 2 c := by
  rcases hc with rfl | rfl | rfl
  ·exact sz2n 0 (by omega)
  ·exact sz2n 2 (by omega)
  ·exact sz2n 5 (by omega)
 have h1 : Sz 200 (1 : Rat) := (sz1 1 (by omega)).mono (by omega);have h := value_in w vp vt vf pP28 tT28 2 [c, c, c, c] ⟨hp, ht, k28_mesh, hf, fun q hq => by simp at hq; subst hq; exact hsz, rfl⟩ (1, 1) ⟨h1, h1⟩ 0 [1] k28_loc (by decide) (by
  show SzP 200 (slopeT pP28 [c, c, c, c] (0, 1, 2));rw [key.1]; exact ⟨Sz.zero _ (by omega), Sz.zero _ (by omega)⟩) (by
  show Sz 200 (onQ pP28 [c, c, c, c] (0, 1, 2) (1, 1));rw [key.2]; exact hsz.mono (by omega)) hg
 have e : onQ pP28 [c, c, c, c] tT28[0] (1, 1) = c := key.2;rw [e] at h;rw [show RS ((1 : Rat), (1 : Rat)).1 = ⟨#[49]⟩ from k28_rs.2.1] at h;exact h
def hH28 : List Rat := [0, 2, 5]
structure K28 (w : World) (pp pt pb pu ps : Option Addr) (cp ct cb cu cs : Nat) : Prop where
 n : DepN w (.slice pp 4 cp) (.slice pt 2 ct) (.slice pb 4 cb) (.slice pu 3 cu) (.slice ps 2 cs) pP28 tT28 2 [0, 0, 0, 0] uU28 [[2, 2, 2, 2], [5, 5, 5, 5]]
theorem K28.below {w w' : World} {pp pt pb pu ps : Option Addr} {cp ct cb cu cs : Nat} (h : K28 w pp pt pb pu ps cp ct cb cu cs) (hb : Below w.heap.size w w') : K28 w' pp pt pb pu ps cp ct cb cu cs := ⟨h.n.below hb⟩
theorem fld28 (i : Nat) (h : i <= 2) : fldN [0, 0, 0, 0] [[2, 2, 2, 2], [5, 5, 5, 5]] i = [hH28[i]?.getD 0, hH28[i]?.getD 0, hH28[i]?.getD 0, hH28[i]?.getD 0] /\ (hH28[i]?.getD 0 = 0 \/ hH28[i]?.getD 0 = 2 \/ hH28[i]?.getD 0 = 5) := by
 rcases (by omega : i = 0 \/ i = 1 \/ i = 2) with rfl | rfl | rfl <;> decide +kernel
theorem K28.surf {w : World} {pp pt pb pu ps : Option Addr} {cp ct cb cu cs : Nat} (h : K28 w pp pt pb pu ps cp ct cb cu cs) : ∃ (fp : Nat -> Option Addr) (fc : Nat -> Nat),
 (∀ i : Nat, i < 3 -> ∀ w', Below w.heap.size w w' -> Calls Tryz.prog 65 #[.agg #[.slice pb 4 cb, .slice pu 3 cu, .slice ps 2 cs], .int .i64 (i : Int)] w' (Ret (fun r _ => r = .slice (fp i) 4 (fc i)) w')) /\
 (∀ i : Nat, i < 3 -> ∀ w', Below w.heap.size w w' -> Good w' -> Calls Tryz.prog 30 #[.agg #[.slice pp 4 cp, .slice pt 2 ct], .slice (fp i) 4 (fc i), .agg #[.string ⟨#[49]⟩, .string ⟨#[49]⟩]] w' (Ret (fun r _ => r = .tuple #[.string (RS (hH28[i]?.getD 0)), .int .i64 0]) w')) := by
 have hs : ∀ i : Nat, ∃ pc : Option Addr × Nat, i < 3 -> RdQ w (.slice pc.1 4 pc.2) (fldN [0, 0, 0, 0] [[2, 2, 2, 2], [5, 5, 5, 5]] i) /\ ∀ w', Below w.heap.size w w' -> Calls Tryz.prog 65 #[.agg #[.slice pb 4 cb, .slice pu 3 cu, .slice ps 2 cs], .int .i64 (i : Int)] w' (Ret (fun r _ => r = .slice pc.1 4 pc.2) w') := fun i => by
  by_cases hi : i < 3
  ·obtain ⟨p, c, h1, h2⟩ := h.n.surface i (by show i <= 2; omega)
   exact ⟨(p, c), fun _ => ⟨h1, h2⟩⟩
  ·exact ⟨(none, 0), fun h' => absurd h' hi⟩
 obtain ⟨pc, hpc⟩ : ∃ pc : Nat -> Option Addr × Nat, ∀ i : Nat, i < 3 -> RdQ w (.slice (pc i).1 4 (pc i).2) (fldN [0, 0, 0, 0] [[2, 2, 2, 2], [5, 5, 5, 5]] i) /\ ∀ w', Below w.heap.size w w' -> Calls Tryz.prog 65 #[.agg #[.slice pb 4 cb, .slice pu 3 cu, .slice ps 2 cs], .int .i64 (i : Int)] w' (Ret (fun r _ => r = .slice (pc i).1 4 (pc i).2) w') := ⟨fun i => (hs i).choose, fun i => (hs i).choose_spec⟩;refine ⟨fun i => (pc i).1, fun i => (pc i).2, fun i hi => (hpc i hi).2, fun i hi w' hb hg => ?_⟩;have h1 := (hpc i hi).1;obtain ⟨e1, e2⟩ := fld28 i (by omega);rw [e1] at h1;exact k28_value (RdC.below h.n.p hb) (RdC.below h.n.t hb) (RdC.below h1 hb) e2 hg
theorem k28_place {w : World} {pp pt pb pu ps : Option Addr} {cp ct cb cu cs : Nat} (h : K28 w pp pt pb pu ps cp ct cb cu cs) (z : Rat) (hz : Sz 200 z) (hg : Good w) :
 Calls Tryz.prog 78 #[.agg #[.slice pp 4 cp, .slice pt 2 ct], .agg #[.slice pb 4 cb, .slice pu 3 cu, .slice ps 2 cs], .agg #[.string ⟨#[49]⟩, .string ⟨#[49]⟩, .string (RS z)]] w (Ret (fun r _ => r = .int .i64 0) w) := by
 have h1 : Sz 200 (1 : Rat) := (sz1 1 (by omega)).mono (by omega);have h2 := checkPlace_ok w _ _ _ _ _ pP28 tT28 2 _ _ _ h.n (1, 1) z ⟨h1, h1⟩ hz hg;rw [show RS ((1 : Rat), (1 : Rat)).1 = ⟨#[49]⟩ from k28_rs.2.1, if_neg (by rw [k28_loc]; simp)] at h2;exact h2
theorem k28_At {w : World} {pp pt pb pu ps : Option Addr} {cp ct cb cu cs : Nat} (h : K28 w pp pt pb pu ps cp ct cb cu cs) (hg : Good w) :
 Calls Tryz.prog 29 #[.agg #[.slice pp 4 cp, .slice pt 2 ct], .agg #[.slice pb 4 cb, .slice pu 3 cu, .slice ps 2 cs], .agg #[.string ⟨#[49]⟩, .string ⟨#[49]⟩, .string ⟨#[50]⟩]] w (Ret (fun r _ => r = .tuple #[.string ⟨#[98]⟩, .bool false, .int .i64 0]) w) := by
 obtain ⟨fp, fc, h1, h2⟩ := h.surf;have h3 := at_ok w hg pp pt pb pu ps 4 2 2 cp ct cb cu cs ⟨#[49]⟩ ⟨#[49]⟩ 2 uU28 hH28 rfl (by decide) (by decide +kernel) h.n.unit 2 (by omega) (by omega) (by
  intro q hq;have hq' : q ∈ ([0, 2, 5] : List Rat) := hq;simp only [List.mem_cons, List.not_mem_nil, or_false] at hq';rcases hq' with rfl | rfl | rfl
  ·exact sz2n 0 (by omega)
  ·exact sz2n 2 (by omega)
  ·exact sz2n 5 (by omega)) (sz2n 2 (by omega)) fp fc (hid fun w' hb hg' => k28_place (h.below hb) 2 ((sz2n 2 (by omega)).mono (by omega)) hg') (hid h1) (hid h2)
 rw [show unitAt uU28 hH28 2 = ⟨#[98]⟩ from k28_at.1, show decide (countH hH28 2 = 0) = false from k28_count, k28_rs.2.2.1] at h3;exact h3
theorem k28_Log {w : World} {pp pt pb pu ps : Option Addr} {cp ct cb cu cs : Nat} (h : K28 w pp pt pb pu ps cp ct cb cu cs) (hg : Good w) :
 Calls Tryz.prog 28 #[.agg #[.slice pp 4 cp, .slice pt 2 ct], .agg #[.slice pb 4 cb, .slice pu 3 cu, .slice ps 2 cs], .agg #[.string ⟨#[49]⟩, .string ⟨#[49]⟩, .string ⟨#[54]⟩]] w (Ret (fun r w' => ∃ v, r = .tuple #[v, .int .i64 0] /\ w'.ownsRow w.heap.size 79 3 v 3 (cellsIv [⟨⟨#[99]⟩, 0, 1⟩, ⟨⟨#[98]⟩, 1, 4⟩, ⟨⟨#[97]⟩, 4, 6⟩])) w) := by
 obtain ⟨fp, fc, h1, h2⟩ := h.surf;have h3 := log_ok w hg pp pt pb pu ps 4 2 2 cp ct cb cu cs ⟨#[49]⟩ ⟨#[49]⟩ 6 uU28 hH28 rfl (by decide) (by decide) h.n.unit 2 (by omega) (by omega) (by
  intro q hq;have hq' : q ∈ ([0, 2, 5] : List Rat) := hq;simp only [List.mem_cons, List.not_mem_nil, or_false] at hq';rcases hq' with rfl | rfl | rfl
  ·exact sz2n 0 (by omega)
  ·exact sz2n 2 (by omega)
  ·exact sz2n 5 (by omega)) (sz2n 6 (by omega)) fp fc (hid fun w' hb hg' => k28_place (h.below hb) 6 ((sz2n 6 (by omega)).mono (by omega)) hg') (hid h1) (hid h2)
 rw [show logL uU28 hH28 6 = _ from k28_log, k28_rs.2.2.2.2.2.1] at h3;exact h3
theorem k28_Vol {w : World} {pp pt pb pu ps : Option Addr} {cp ct cb cu cs : Nat} (h : K28 w pp pt pb pu ps cp ct cb cu cs) (hg : Good w) :
 Calls Tryz.prog 39 #[.agg #[.slice pp 4 cp, .slice pt 2 ct], .agg #[.slice pb 4 cb, .slice pu 3 cu, .slice ps 2 cs], .string ⟨#[98]⟩] w (Ret (fun r _ => r = .tuple #[.string ⟨#[52, 56]⟩, .int .i64 0]) w) := by
 have h3 := svolume_ok w _ _ _ _ _ pP28 tT28 2 _ _ _ h.n ⟨#[98]⟩ 1 (by decide) (by decide +kernel) 48 (fun w' vf vg hf hg2 hgw => by
  have h4 := fexcess_ok w' _ _ vf vg pP28 tT28 2 _ _ hf hg2 (by omega) (by decide) (by
   show Sz 200 (volTo pP28 tT28 (subQ [5, 5, 5, 5] [2, 2, 2, 2]) 0 tT28.length);rw [k28_vol]; exact ⟨by decide +kernel, by decide +kernel⟩) hgw
  rw [show volTo pP28 tT28 (subQ ([[2, 2, 2, 2], [5, 5, 5, 5]] : List (List Rat))[1] (fldN [0, 0, 0, 0] [[2, 2, 2, 2], [5, 5, 5, 5]] 1)) 0 tT28.length = 48 from k28_vol] at h4;exact h4) hg
 rw [k28_rs.2.2.2.2.2.2.2] at h3;exact h3
theorem k28_Ins {w : World} {pp pt pb pu ps px : Option Addr} {cp ct cb cu cs cx : Nat} (h : K28 w pp pt pb pu ps cp ct cb cu cs) (hx : RdQ w (.slice px 4 cx) [1, 1, 1, 1]) (hg : Good w) :
 Calls Tryz.prog 19 #[.agg #[.slice pp 4 cp, .slice pt 2 ct], .agg #[.slice pb 4 cb, .slice pu 3 cu, .slice ps 2 cs], .agg #[.string ⟨#[100]⟩, .int .i64 1, .slice px 4 cx]] w (Ret (fun r w' => ∃ v1 v2 v3, r = .tuple #[.agg #[v1, v2, v3], .int .i64 0] /\ DepR w' v1 v2 v3 (([0, 0, 0, 0] : List Rat).map RS) [⟨#[97]⟩, ⟨#[100]⟩, ⟨#[98]⟩, ⟨#[99]⟩] (([[2, 2, 2, 2], [3, 3, 3, 3], [6, 6, 6, 6]] : List (List Rat)).map fun F => F.map RS)) w) := by
 have h1 : ∀ q ∈ ([1, 1, 1, 1] : List Rat), Sz 2 q := fun q hq => by simp at hq; subst hq; exact sz2n 1 (by omega)
 have hE : errF 4 (([1, 1, 1, 1] : List Rat).map RS) = 0 := errF_ok rfl (fun q hq => (h1 q hq).mono (by omega));have hN : (([1, 1, 1, 1] : List Rat).map RS).map numT = [1, 1, 1, 1] := numT_map _;have hU : unitE pP28.length uU28 ⟨#[100]⟩ 1 (([1, 1, 1, 1] : List Rat).map RS) = 0 := by
  unfold unitE;rw [if_neg (by decide +kernel), if_neg (by decide +kernel), if_neg (by decide), if_neg (by rw [show pP28.length = 4 from rfl, hE]; simp), hN, if_neg (by decide +kernel), if_neg (by decide)]
 have h3 := sinsert_any w _ _ _ _ _ pP28 tT28 2 _ _ _ h.n (by omega) ⟨#[100]⟩ 1 (.slice px 4 cx) (([1, 1, 1, 1] : List Rat).map RS) hx.toS ⟨size_ok (by omega) (by omega) h1, by simp⟩ (fun _ => ⟨[1, 1, 1, 1], rfl, rfl, h1⟩) hg;refine h3.mono ?_;rintro e w' ⟨v, rfl, hv, hb⟩;rcases hv with ⟨hv, _⟩ | ⟨_, v1, v2, v3, rfl, r1, r2, r3⟩
 ·exact absurd hU hv
 ·rw [hN, show (1 : Int).toNat = 1 from rfl, k28_ins] at r3
  exact ⟨_, rfl, ⟨v1, v2, v3, rfl, ⟨r1.toS, r2, r3.toTx⟩⟩, hb⟩
end Go.Proofs.YtgdpoankaojklaaGreatDoor
