import Derived.Test.YtmcbeajdloaliaaGreatDoorRows
import Derived.Test.YtmcbeajdloaliaaGreatDoorUB2
import Derived.ProofKit
import Derived.LaidMore
import Derived.MakeChecks
import Derived.Stop.LaidErr
import Derived.HandedShaped
import Derived.Below
import Derived.Carry
import Derived.ChangeSame
import Derived.Shelf.Vars
/- The arguments of rows. -/
namespace Go.Proofs.YtmcbeajdloaliaaGreatDoor
open Go.ChangeShapes Go.WideShapes Go.ChangeAt Go.RowKit Go.Lib
theorem own : ownKnob Tryz.prog.godebug = none := by kernel_rfl
theorem lOt : laidOutB Tryz.prog = true := by kernel_rfl
section
variable {P : Program} {w : World} {r : Reach} {b : Nat}
theorem cit {t : TypeId} {k : IntKind} {v : Value} (Z : P.underlying t = some (.int k)) (h : Cell.okWide P w r b t v) : ∃ n, v = .int k n /\ k.has n := by
 unfold Cell.okWide at h;rw [Z] at h;cases v <;> simp_all [Cell.ok]
theorem cbl {t : TypeId} {v : Value} (Z : P.underlying t = some .bool) (h : Cell.okWide P w r b t v) : ∃ x, v = .bool x := by
 unfold Cell.okWide at h;rw [Z] at h;cases v <;> simp_all [Cell.ok]
theorem csr {t : TypeId} {v : Value} (Z : P.underlying t = some .string) (h : Cell.okWide P w r b t v) : ∃ s, v = .string s /\ s.size <= maxLen := by
 unfold Cell.okWide at h;rw [Z] at h;cases v with
 | string s =>
   refine ⟨s, rfl, ?_⟩;have Y : (s.size : Int) <= IntKind.i64.max := by simpa [Cell.ok, Z] using h
   have e : IntKind.i64.max = 9223372036854775807 := by decide
   rw [e] at Y;unfold maxLen;omega
 | _ => simp [Cell.ok, Z] at h
theorem acs {t : TypeId} {fs : Array Field} {ts : List TypeId} {v : Value} (N : P.underlying t = some (.struct fs)) (R : P.cellTypes P.depth t = some ts) (Q : P.cellsOf t = ts.length) (h : Value.okWide P w r b t v) :
 ∃ cs : Array Value, v = .agg cs /\ cs.size = ts.length /\ ∀ (i : Nat) (u : TypeId), ts[i]? = some u -> ∃ x, cs[i]? = some x /\ Cell.okWide P w r b u x := by
 simp only [Value.okWide, N] at h;obtain ⟨cs, rfl, S, M, Z, _, Y⟩ := h;rw [R] at Z;obtain rfl := Option.some.inj Z;refine ⟨cs, rfl, S.trans Q, fun i u hu => ?_⟩;have O : i < ts.length := (List.getElem?_eq_some_iff.1 hu).1;have X : i < cs.size := by omega
 obtain ⟨L, V, U⟩ := Y i cs[i] (Array.getElem?_eq_getElem X);rw [Nat.mod_eq_of_lt O, hu] at V;obtain rfl := Option.some.inj V;exact ⟨cs[i], Array.getElem?_eq_getElem X, U⟩
end
theorem hi8 {n : Int} (h : IntKind.i8.has n) : -128 <= n /\ n <= 127 := by
 simp [IntKind.has, IntKind.min, IntKind.max, IntKind.signed, IntKind.bits] at h;omega
theorem hu8 {n : Int} (h : IntKind.u8.has n) : 0 <= n /\ n <= 255 := by
 simp [IntKind.has, IntKind.min, IntKind.max, IntKind.signed, IntKind.bits] at h;omega
theorem lVm {P : Program} {W : World} {n : String} {d : DataW Unit} : ∀ {l : List (String × DataW Unit)} {ps : List MemPlace}, DataW.LaidVars P W l ps -> (n, d) ∈ l ->
 ∃ g t cs fuel p, P.globalNamed n = some g /\ (P.globals[g]?).map (·.type) = some t /\ W.var? P n = some cs /\ DataW.trod (fun _ => ()) P W 0 (fun _ => true) false fuel t cs.toList = some (d, p)
 | [], _, _, h => by simp at h
 | (n', d') :: l, ps, ⟨g, t, cs, fuel, p, q, h1, h2, h3, h4, h5, _⟩, h => by
   rcases List.mem_cons.1 h with e | h
   ·cases e
    exact ⟨g, t, cs, fuel, p, h1, h2, h3, h4⟩
   ·exact lVm h5 h
theorem tIo {P : Program} {W : World} {name : String} {k : IntKind} {zs : List Int} {l : List (String × DataW Unit)} {g : Nat} {t e : TypeId} {n : Nat}
 (O : P.globalNamed name = some g) (S : (P.globals[g]?).map (·.type) = some t) (M : P.underlying t = some (.array n e)) (Q : P.underlying e = some (.int k)) (Y : P.cellsOf e = 1) (X : P.cellsOf t = n)
 (N : (name, tabData k zs) ∈ l) (h : laidMet P l W) : TabIs P W name k zs := by
 obtain ⟨J, L, _⟩ := h;obtain ⟨K, I, cs, fuel, p, V, U, Z, R⟩ := lVm L N;obtain rfl := Option.some.inj (O.symm.trans V);obtain rfl := Option.some.inj (S.symm.trans U);unfold TabIs;rw [Z, <- cells_of_tab M Q Y X R]
theorem pda : Rows.laid_internal_strconv_uint64pow10 = (tabData .u64 pow10Tab : DataW Unit) := by kernel_rfl
theorem gof {W : World} {l : List (String × DataW Unit)} (X : ("internal/strconv.uint64pow10", Rows.laid_internal_strconv_uint64pow10) ∈ l) (V : (l.all fun x => x.2.handleName?.isNone) = true) (Y : laidMetH Tryz.prog l W) (Z : W.ShapedOpen Tryz.prog) : Good W := by
 rw [MakeChecks.laidMetH_plain _ _ _ V] at Y;rw [pda] at X;refine ⟨tIo gTb (t := 285) (by kernel_rfl) (e := 193) (n := 20) (by kernel_rfl) (by kernel_rfl) (by kernel_rfl) (by kernel_rfl) X Y, ?_⟩;exact Go.Proofs.cell_of_shapedOpen_int (zero := #[.int .i64 0]) (t := 3) Z (of_decide_eq_true (by kernel_rfl)) (by kernel_rfl) rfl (by kernel_rfl) (by kernel_rfl) (by kernel_rfl)
theorem dmt (os : Os) (args : Array Value) : laidMetH Tryz.prog Rows.stackInsertsRow.laid ((World.doorLaid Tryz.prog 62 os).forCall (fun _ _ => 0) ⟨#[], args, []⟩).memory :=
 laidMetH_of_parts3 (fuel := 8) (laidMet_of_run' 8 (by kernel_rfl) (by kernel_rfl)) (by kernel_rfl) (by kernel_rfl)
section
variable {H : Type} {enc : TypeId × Value -> H}
theorem ras {a : Assume} {C : Checked} {os : Os} {f : FuncId} {fn : Func} {s : ChangeSpec} {conds : List PathCond} {apart fresh handsOn again : Bool} {X : World -> Array Value -> Prop}
 (E : ∀ (w w' : World) (args : Array Value), w.heap = w'.heap -> X w args -> X w' args)
 (own : ownKnob C.prog.godebug = none) (V : os.Started) (S : C.prog.inits.idxOf? f = none) (K : C.prog.funcs[f]? = some fn)
 (U : ∃ (w : World) (tape : Tape) (i : Input), w.os = os /\ (w.forCall tape i).Shaped C.prog /\ i.vars = [] /\ Input.okWide C.prog (w.forCall tape i) .any w.heap.size f i /\
   ((s.pre enc C.prog fn conds apart (w.forCall tape i).memory i.args /\ X (w.forCall tape i).memory i.args) /\ sizedMet enc C.prog fn (OpenSpec.ofChange s) apart (w.forCall tape i).memory i.args) /\ a.holds C.prog (lone (Frame.enter C.prog f i.args .normal) [] (w.forCall tape i)))
 (Y : ∀ (W : World) (base : Nat) (args : Array Value) (N L : List (DataW H)) (Z : List MemPlace),
   (∀ (j : Nat) t v, fn.params[j]? = some t -> args[j]? = some v -> Value.okWide C.prog W .any base t v) ->
   DataW.Whole enc C.prog fn.params.toList s.vars apart W args.toList N L Z ->
   X W args -> W.ShapedOpen C.prog ->
   Calls C.prog f args W fun e W' => ∃ v, e = .returned v /\ s.post enc C.prog fn apart fresh handsOn again W args v W') :
 ReturnsInHanded a C os f .any (fun w args => (s.pre enc C.prog fn conds apart w args /\ X w args) /\ sizedMet enc C.prog fn (OpenSpec.ofChange s) apart w args) (s.post enc C.prog fn apart fresh handsOn again) := by
 refine returnsInHanded_of_calls own V S U ?_;intro w tape i _ I _ J Q _;obtain ⟨_, _, _, M, R, _, _, _, _, O⟩ := J;have e : M = fn := Option.some.inj (R.symm.trans K);subst e;obtain ⟨⟨⟨N, L, Z, hw, _⟩, hx⟩, _⟩ := Q;have G := DataW.Whole.of_heap (w' := w.forCall tape i) (by rfl) hw;refine (Y (w.forCall tape i) w.heap.size i.args N L Z O G (E _ _ _ (by rfl) hx) I).mono fun e W' ⟨v, he, hp⟩ => ?_
 subst he;exact ChangeSpec.post_blind hp
variable {P : Program}
theorem pob {f : Func} {s : ChangeSpec} {apart fresh handsOn again : Bool} {W W' : World} {args : Array Value} {v : Value} {ds gs : List (DataW H)} {before pa pv : List MemPlace}
 (N : DataW.Whole enc P f.params.toList s.vars apart W args.toList ds gs before)
 (S : ∀ (b : Nat) (R : Nat -> Bool) (J : Bool), DataW.TrodAll enc P W' b R J f.resultTypes.toList (v.resultList f.resultTypes.size) (s.fn H (ds ++ gs)).results [])
 (Z : ∀ R : Nat -> Bool, (∀ p ∈ before, R p.block = true) -> DataW.TrodAll enc P W' 0 R true f.params.toList args.toList (s.fn H (ds ++ gs)).args pa)
 (X : ∀ R : Nat -> Bool, (∀ p ∈ before, R p.block = true) -> DataW.TrodVars enc P W' R s.vars (s.fn H (ds ++ gs)).vars pv)
 (V : before = pa ++ pv) (L : Below W.heap.size W W')
 (M : ∀ (j : Nat) (t : TypeId) (r : Value), f.resultTypes[j]? = some t -> (v.resultList f.resultTypes.size)[j]? = some r -> Value.okWide P W' .any 0 t r) :
 s.post enc P f apart fresh handsOn again W args v W' := by
 have O : ∀ p ∈ before, p.block < W.heap.size := fun p Y => N.lt p Y;have U : ∀ p ∈ before, (fun b => decide (b < W.heap.size)) p.block = true := fun p Y => by simpa using O p Y
 refine ⟨ds, gs, before, [], pa, pv, N, S _ _ _, Z _ U, X _ U, World.keptBut_mono (fun p Y => ⟨Y, ?_⟩) (L.frame (·∈ before)), fun _ => ?_⟩
 ·rw [V, List.mem_append] at Y
  exact Or.inr Y
 ·obtain ⟨_, _, _, _, _, G, I⟩ := N
  refine ⟨M, _, _, ([] ++ pa) ++ pv, ⟨[] ++ pa, pv, trodAll_append (Z _ (fun _ _ => rfl)) (S _ _ _), X _ (fun _ _ => rfl), rfl, ?_, ?_⟩, ?_⟩
  ·intro b off Y
   have Q : MemPlace.cell b off ∈ before := by rw [V]; simpa using Y
   rw [L.frozen (O _ Q)];exact G b off Q
  ·intro K
   have := I K;rw [V] at this;simpa using this
  ·intro p Y _
   rw [V];simpa using Y
theorem tAb (Y : laidOutB P = true) {W W' : World} {sp : Nat -> Bool} (Z : Below W.heap.size W W') : ∀ {ts : List TypeId} {vs : List Value} {ds : List (DataW H)} {ps : List MemPlace}, (∀ t ∈ ts, P.readableRec t = true /\ t < P.types.size) ->
 DataW.TrodAll enc P W 0 (fun _ => true) true ts vs ds ps -> (∀ p ∈ ps, p.block < W.heap.size) -> (∀ p ∈ ps, sp p.block = true) -> DataW.TrodAll enc P W' 0 sp true ts vs ds ps
 | [], [], [], _, _, h, _, _ => h
 | _ :: _, _ :: _, _ :: _, _, hT, ⟨p, q, h1, h2, e⟩, hlt, hs =>
   ⟨p, q, WideElems.Trod_stays Y (hT _ (List.mem_cons.2 (Or.inl rfl))).1 (hT _ (List.mem_cons.2 (Or.inl rfl))).2 h1 (fun x hx => Z.same (hlt x (by rw [e]; exact List.mem_append_left _ hx))) (fun x hx => hs x (by rw [e]; exact List.mem_append_left _ hx)),
    tAb Y Z (fun t ht => hT t (List.mem_cons.2 (Or.inr ht))) h2 (fun x hx => hlt x (by rw [e]; exact List.mem_append_right _ hx)) (fun x hx => hs x (by rw [e]; exact List.mem_append_right _ hx)), e⟩
theorem pe0 {f : Func} {s : ChangeSpec} {W W' : World} {args : Array Value} {ds gs : List (DataW H)} {before : List MemPlace} (J : laidOutB P = true)
 (U : DataW.Whole enc P f.params.toList s.vars false W args.toList ds gs before) (M : s.vars = []) {bt : TypeId} (Z : P.underlying bt = some .bool) (N : f.resultTypes = #[bt])
 (K : (f.params.toList.all fun t => P.readableRec t && decide (t < P.types.size)) = true)
 (R : s.fn H ds = { results := [.lit (.bool true)], args := ds }) (O : Below W.heap.size W W') : s.post enc P f false true false false W args (.bool true) W' := by
 have S := U;have Y : ∀ p ∈ before, p.block < W.heap.size := fun p hp => U.lt p hp;obtain ⟨p, q, hA, Q, rfl, _, _⟩ := U;rw [M] at Q;obtain ⟨rfl, rfl⟩ := trodVars_none Q;rw [List.append_nil] at Y;have V : ∀ t ∈ f.params.toList, P.readableRec t = true /\ t < P.types.size := fun t ht => by
  have := List.all_eq_true.1 K t ht;simpa using this
 refine pob (pa := p) (pv := []) S ?_ ?_ ?_ rfl O ?_
 ·intro b L I
  rw [List.append_nil, R, N];exact trodAll_mk1 (shut_bool Z true)
 ·intro L X
  rw [List.append_nil, R];exact tAb J O V hA Y (fun x hx => X x (by rw [List.append_nil]; exact hx))
 ·intro L X
  rw [List.append_nil, R, M];rfl
 ·exact ok_one N rfl (okWide_bool_mk Z true)
end
end Go.Proofs.YtmcbeajdloaliaaGreatDoor
namespace Go.Proofs.YtmcbeajdloaliaaGreatDoor
open Go.ChangeShapes Go.WideShapes Go.ChangeAt Go.RowKit Go.Lib
theorem u8T : (Tryz.prog).underlying 5 = some (.int .u8) := by kernel_rfl
theorem i8T : (Tryz.prog).underlying 22 = some (.int .i8) := by kernel_rfl
theorem boolT : (Tryz.prog).underlying 4 = some .bool := by kernel_rfl
theorem ratT : (Tryz.prog).underlying 55 = some .string := by kernel_rfl
section
variable {P : Program} {w : World} {r : Reach} {b : Nat}
end
end Go.Proofs.YtmcbeajdloaliaaGreatDoor
