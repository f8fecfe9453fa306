import Derived.Test.YtbfcmipplhkkeaaGreatDoorRows
import Derived.Test.YtbfcmipplhkkeaaGreatDoorRB2
import Derived.ProofKit
import Derived.LaidMore
import Derived.MakeChecks
import Derived.Stop.LaidErr
import Derived.HandedShaped
import Derived.Below
import Derived.Carry
import Derived.ChangeSame
import Derived.Shelf.Vars
/- The arguments of rows. -/
namespace Go.Proofs.YtbfcmipplhkkeaaGreatDoor
open Go.ChangeShapes Go.WideShapes Go.ChangeAt Go.RowKit Go.Lib
theorem own : ownKnob Tryz.prog.godebug = none := by kernel_rfl
theorem laidOut : laidOutB Tryz.prog = true := by kernel_rfl
section
variable {P : Program} {w : World} {r : Reach} {b : Nat}
theorem cell_int {t : TypeId} {k : IntKind} {v : Value} (ht : P.underlying t = some (.int k)) (h : Cell.okWide P w r b t v) : ∃ n, v = .int k n /\ k.has n := by
 unfold Cell.okWide at h;rw [ht] at h;cases v <;> simp_all [Cell.ok]
theorem cell_bool {t : TypeId} {v : Value} (ht : P.underlying t = some .bool) (h : Cell.okWide P w r b t v) : ∃ x, v = .bool x := by
 unfold Cell.okWide at h;rw [ht] at h;cases v <;> simp_all [Cell.ok]
theorem agg_cells {t : TypeId} {fs : Array Field} {ts : List TypeId} {v : Value} (ht : P.underlying t = some (.struct fs)) (hts : P.cellTypes P.depth t = some ts) (hC : P.cellsOf t = ts.length) (h : Value.okWide P w r b t v) :
 ∃ cs : Array Value, v = .agg cs /\ cs.size = ts.length /\ ∀ (i : Nat) (u : TypeId), ts[i]? = some u -> ∃ x, cs[i]? = some x /\ Cell.okWide P w r b u x := by
 simp only [Value.okWide, ht] at h;obtain ⟨cs, rfl, hsz, ts', hts', _, hall⟩ := h;rw [hts] at hts';obtain rfl := Option.some.inj hts';refine ⟨cs, rfl, hsz.trans hC, fun i u hu => ?_⟩;have hi : i < ts.length := (List.getElem?_eq_some_iff.1 hu).1;have hi2 : i < cs.size := by omega
 obtain ⟨u', hu', hok⟩ := hall i cs[i] (Array.getElem?_eq_getElem hi2);rw [Nat.mod_eq_of_lt hi, hu] at hu';obtain rfl := Option.some.inj hu';exact ⟨cs[i], Array.getElem?_eq_getElem hi2, hok⟩
end
theorem has_i8 {n : Int} (h : IntKind.i8.has n) : -128 <= n /\ n <= 127 := by
 simp [IntKind.has, IntKind.min, IntKind.max, IntKind.signed, IntKind.bits] at h;omega
theorem has_u8 {n : Int} (h : IntKind.u8.has n) : 0 <= n /\ n <= 255 := by
 simp [IntKind.has, IntKind.min, IntKind.max, IntKind.signed, IntKind.bits] at h;omega
theorem laidVars_mem {P : Program} {W : World} {n : String} {d : DataW Unit} : ∀ {l : List (String × DataW Unit)} {ps : List MemPlace}, DataW.LaidVars P W l ps -> (n, d) ∈ l ->
 ∃ g t cs fuel p, P.globalNamed n = some g /\ (P.globals[g]?).map (·.type) = some t /\ W.var? P n = some cs /\ DataW.trod (fun _ => ()) P W 0 (fun _ => true) false fuel t cs.toList = some (d, p)
 | [], _, _, h => by simp at h
 | (n', d') :: l, ps, ⟨g, t, cs, fuel, p, q, h1, h2, h3, h4, h5, _⟩, h => by
   rcases List.mem_cons.1 h with e | h
   ·cases e
    exact ⟨g, t, cs, fuel, p, h1, h2, h3, h4⟩
   ·exact laidVars_mem h5 h
theorem tabIs_of_mem {P : Program} {W : World} {name : String} {k : IntKind} {zs : List Int} {l : List (String × DataW Unit)} {g : Nat} {t e : TypeId} {n : Nat}
 (hg : P.globalNamed name = some g) (hty : (P.globals[g]?).map (·.type) = some t) (ht : P.underlying t = some (.array n e)) (he : P.underlying e = some (.int k)) (hce : P.cellsOf e = 1) (hct : P.cellsOf t = n)
 (hm : (name, tabData k zs) ∈ l) (h : laidMet P l W) : TabIs P W name k zs := by
 obtain ⟨ps, hv, _⟩ := h;obtain ⟨g', t', cs, fuel, p, hg', ht', hvar, hd⟩ := laidVars_mem hv hm;obtain rfl := Option.some.inj (hg.symm.trans hg');obtain rfl := Option.some.inj (hty.symm.trans ht');unfold TabIs;rw [hvar, <- cells_of_tab ht he hce hct hd]
theorem pow_data : Rows.laid_internal_strconv_uint64pow10 = (tabData .u64 pow10Tab : DataW Unit) := by kernel_rfl
theorem good_of {W : World} {l : List (String × DataW Unit)} (hm : ("internal/strconv.uint64pow10", Rows.laid_internal_strconv_uint64pow10) ∈ l) (hp : (l.all fun x => x.2.handleName?.isNone) = true) (hL : laidMetH Tryz.prog l W) (hsh : W.ShapedOpen Tryz.prog) : Good W := by
 rw [MakeChecks.laidMetH_plain _ _ _ hp] at hL;rw [pow_data] at hm;refine ⟨tabIs_of_mem globalTab (t := 286) (by kernel_rfl) (e := 235) (n := 20) (by kernel_rfl) (by kernel_rfl) (by kernel_rfl) (by kernel_rfl) hm hL, ?_⟩;exact Go.Proofs.cell_of_shapedOpen_int (zero := #[.int .i64 0]) (t := 3) hsh (of_decide_eq_true (by kernel_rfl)) (by kernel_rfl) rfl (by kernel_rfl) (by kernel_rfl) (by kernel_rfl)
theorem door_met (os : Os) (args : Array Value) : laidMetH Tryz.prog Rows.fieldRoundsRow.laid ((World.doorLaid Tryz.prog 62 os).forCall (fun _ _ => 0) ⟨#[], args, []⟩).memory :=
 laidMetH_of_parts3 (fuel := 8) (laidMet_of_run' 8 (by kernel_rfl) (by kernel_rfl)) (by kernel_rfl) (by kernel_rfl)
section
variable {H : Type} {enc : TypeId × Value -> H}
theorem returns_and_shaped {a : Assume} {C : Checked} {os : Os} {f : FuncId} {fn : Func} {s : ChangeSpec} {conds : List PathCond} {apart fresh handsOn again : Bool} {X : World -> Array Value -> Prop}
 (hX : ∀ (w w' : World) (args : Array Value), w.heap = w'.heap -> X w args -> X w' args)
 (own : ownKnob C.prog.godebug = none) (started : os.Started) (noInit : C.prog.inits.idxOf? f = none) (hfn : C.prog.funcs[f]? = some fn)
 (witness : ∃ (w : World) (tape : Tape) (i : Input), w.os = os /\ (w.forCall tape i).Shaped C.prog /\ i.vars = [] /\ Input.okWide C.prog (w.forCall tape i) .any w.heap.size f i /\
   ((s.pre enc C.prog fn conds apart (w.forCall tape i).memory i.args /\ X (w.forCall tape i).memory i.args) /\ sizedMet enc C.prog fn (OpenSpec.ofChange s) apart (w.forCall tape i).memory i.args) /\ a.holds C.prog (lone (Frame.enter C.prog f i.args .normal) [] (w.forCall tape i)))
 (contract : ∀ (W : World) (base : Nat) (args : Array Value) (ds gs : List (DataW H)) (before : List MemPlace),
   (∀ (j : Nat) t v, fn.params[j]? = some t -> args[j]? = some v -> Value.okWide C.prog W .any base t v) ->
   DataW.Whole enc C.prog fn.params.toList s.vars apart W args.toList ds gs before ->
   X W args -> W.ShapedOpen C.prog ->
   Calls C.prog f args W fun e W' => ∃ v, e = .returned v /\ s.post enc C.prog fn apart fresh handsOn again W args v W') :
 ReturnsInHanded a C os f .any (fun w args => (s.pre enc C.prog fn conds apart w args /\ X w args) /\ sizedMet enc C.prog fn (OpenSpec.ofChange s) apart w args) (s.post enc C.prog fn apart fresh handsOn again) := by
 refine returnsInHanded_of_calls own started noInit witness ?_;intro w tape i _ hsh _ hok hpre _;obtain ⟨_, _, _, fn', hfn', _, _, _, _, hval⟩ := hok;have e : fn' = fn := Option.some.inj (hfn'.symm.trans hfn);subst e;obtain ⟨⟨⟨ds, gs, before, hw, _⟩, hx⟩, _⟩ := hpre;have hw' := DataW.Whole.of_heap (w' := w.forCall tape i) (by rfl) hw;refine (contract (w.forCall tape i) w.heap.size i.args ds gs before hval hw' (hX _ _ _ (by rfl) hx) hsh).mono fun e W' ⟨v, he, hp⟩ => ?_
 subst he;exact ChangeSpec.post_blind hp
variable {P : Program}
theorem post_of_below {f : Func} {s : ChangeSpec} {apart fresh handsOn again : Bool} {W W' : World} {args : Array Value} {v : Value} {ds gs : List (DataW H)} {before pa pv : List MemPlace}
 (hW : DataW.Whole enc P f.params.toList s.vars apart W args.toList ds gs before)
 (hres : ∀ (b : Nat) (sp : Nat -> Bool) (hd : Bool), DataW.TrodAll enc P W' b sp hd f.resultTypes.toList (v.resultList f.resultTypes.size) (s.fn H (ds ++ gs)).results [])
 (hargs : ∀ sp : Nat -> Bool, (∀ p ∈ before, sp p.block = true) -> DataW.TrodAll enc P W' 0 sp true f.params.toList args.toList (s.fn H (ds ++ gs)).args pa)
 (hvars : ∀ sp : Nat -> Bool, (∀ p ∈ before, sp p.block = true) -> DataW.TrodVars enc P W' sp s.vars (s.fn H (ds ++ gs)).vars pv)
 (hps : before = pa ++ pv) (hb : Below W.heap.size W W')
 (hok : ∀ (j : Nat) (t : TypeId) (r : Value), f.resultTypes[j]? = some t -> (v.resultList f.resultTypes.size)[j]? = some r -> Value.okWide P W' .any 0 t r) :
 s.post enc P f apart fresh handsOn again W args v W' := by
 have hlt : ∀ p ∈ before, p.block < W.heap.size := fun p hp => hW.lt p hp;have hold : ∀ p ∈ before, (fun b => decide (b < W.heap.size)) p.block = true := fun p hp => by simpa using hlt p hp
 refine ⟨ds, gs, before, [], pa, pv, hW, hres _ _ _, hargs _ hold, hvars _ hold, World.keptBut_mono (fun p hp => ⟨hp, ?_⟩) (hb.frame (·∈ before)), fun _ => ?_⟩
 ·rw [hps, List.mem_append] at hp
  exact Or.inr hp
 ·obtain ⟨_, _, _, _, _, hz, hn⟩ := hW
  refine ⟨hok, _, _, ([] ++ pa) ++ pv, ⟨[] ++ pa, pv, trodAll_append (hargs _ (fun _ _ => rfl)) (hres _ _ _), hvars _ (fun _ _ => rfl), rfl, ?_, ?_⟩, ?_⟩
  ·intro b off hp
   have hin : MemPlace.cell b off ∈ before := by rw [hps]; simpa using hp
   rw [hb.frozen (hlt _ hin)];exact hz b off hin
  ·intro ha
   have := hn ha;rw [hps] at this;simpa using this
  ·intro p hp _
   rw [hps];simpa using hp
theorem trodAll_below (hl : laidOutB P = true) {W W' : World} {sp : Nat -> Bool} (hb : Below W.heap.size W W') : ∀ {ts : List TypeId} {vs : List Value} {ds : List (DataW H)} {ps : List MemPlace}, (∀ t ∈ ts, P.readableRec t = true /\ t < P.types.size) ->
 DataW.TrodAll enc P W 0 (fun _ => true) true ts vs ds ps -> (∀ p ∈ ps, p.block < W.heap.size) -> (∀ p ∈ ps, sp p.block = true) -> DataW.TrodAll enc P W' 0 sp true ts vs ds ps
 | [], [], [], _, _, h, _, _ => h
 | _ :: _, _ :: _, _ :: _, _, hT, ⟨p, q, h1, h2, e⟩, hlt, hs =>
   ⟨p, q, WideElems.Trod_stays hl (hT _ (List.mem_cons.2 (Or.inl rfl))).1 (hT _ (List.mem_cons.2 (Or.inl rfl))).2 h1 (fun x hx => hb.same (hlt x (by rw [e]; exact List.mem_append_left _ hx))) (fun x hx => hs x (by rw [e]; exact List.mem_append_left _ hx)),
    trodAll_below hl hb (fun t ht => hT t (List.mem_cons.2 (Or.inr ht))) h2 (fun x hx => hlt x (by rw [e]; exact List.mem_append_right _ hx)) (fun x hx => hs x (by rw [e]; exact List.mem_append_right _ hx)), e⟩
theorem post_true {f : Func} {s : ChangeSpec} {W W' : World} {args : Array Value} {ds gs : List (DataW H)} {before : List MemPlace} (hl : laidOutB P = true)
 (hW : DataW.Whole enc P f.params.toList s.vars false W args.toList ds gs before) (hv : s.vars = []) {bt : TypeId} (hbt : P.underlying bt = some .bool) (hr : f.resultTypes = #[bt])
 (hT : (f.params.toList.all fun t => P.readableRec t && decide (t < P.types.size)) = true)
 (hs : s.fn H ds = { results := [.lit (.bool true)], args := ds }) (hb : Below W.heap.size W W') : s.post enc P f false true false false W args (.bool true) W' := by
 have hW' := hW;have hlt : ∀ p ∈ before, p.block < W.heap.size := fun p hp => hW.lt p hp;obtain ⟨p, q, hA, hV, rfl, _, _⟩ := hW;rw [hv] at hV;obtain ⟨rfl, rfl⟩ := trodVars_none hV;rw [List.append_nil] at hlt;have hT' : ∀ t ∈ f.params.toList, P.readableRec t = true /\ t < P.types.size := fun t ht => by
  have := List.all_eq_true.1 hT t ht;simpa using this
 refine post_of_below (pa := p) (pv := []) hW' ?_ ?_ ?_ rfl hb ?_
 ·intro b sp hd
  rw [List.append_nil, hs, hr];exact trodAll_mk1 (shut_bool hbt true)
 ·intro sp hsp
  rw [List.append_nil, hs];exact trodAll_below hl hb hT' hA hlt (fun x hx => hsp x (by rw [List.append_nil]; exact hx))
 ·intro sp hsp
  rw [List.append_nil, hs, hv];rfl
 ·exact ok_one hr rfl (okWide_bool_mk hbt true)
end
end Go.Proofs.YtbfcmipplhkkeaaGreatDoor
namespace Go.Proofs.YtbfcmipplhkkeaaGreatDoor
open Go.ChangeShapes Go.WideShapes Go.ChangeAt Go.RowKit Go.Lib
theorem u8T : (Tryz.prog).underlying 5 = some (.int .u8) := by kernel_rfl
theorem i8T : (Tryz.prog).underlying 22 = some (.int .i8) := by kernel_rfl
theorem boolT : (Tryz.prog).underlying 4 = some .bool := by kernel_rfl
theorem okWide_cell {P : Program} {w : World} {r : Reach} {b : Nat} {t : TypeId} {d : TypeDesc} {v : Value} (ht : P.underlying t = some d) (h1 : ∀ fs, d ≠ .struct fs) (h2 : ∀ n e, d ≠ .array n e) (h : Value.okWide P w r b t v) : Cell.okWide P w r b t v := by
 unfold Value.okWide at h;rw [ht] at h;cases d with
 | struct fs => exact absurd rfl (h1 fs)
 | array n e => exact absurd rfl (h2 n e)
 | _ => exact h
theorem okWide_cell_int {P : Program} {w : World} {r : Reach} {b : Nat} {t : TypeId} {k : IntKind} {v : Value} (ht : P.underlying t = some (.int k)) (h : Value.okWide P w r b t v) : Cell.okWide P w r b t v :=
 okWide_cell ht (by intro _ e; cases e) (by intro _ _ e; cases e) h
section
variable {P : Program} {w : World} {r : Reach} {b : Nat}
end
end Go.Proofs.YtbfcmipplhkkeaaGreatDoor
