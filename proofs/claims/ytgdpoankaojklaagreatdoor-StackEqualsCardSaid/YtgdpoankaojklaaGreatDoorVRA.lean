import Derived.Test.YtgdpoankaojklaaGreatDoorRows
import Derived.Test.YtgdpoankaojklaaGreatDoorVB2
import Derived.ProofKit
import Derived.LaidMore
import Derived.MakeChecks
import Derived.Stop.LaidErr
import Derived.HandedShaped
import Derived.Below
import Derived.Carry
import Derived.ChangeSame
import Derived.Shelf.Vars
/- The arguments of rows. -/
set_option maxRecDepth 100000
namespace Go.Proofs.YtgdpoankaojklaaGreatDoor
open Go.ChangeShapes Go.WideShapes Go.ChangeAt Go.RowKit Go.Lib
theorem own : ownKnob Tryz.prog.godebug = none := by kernel_rfl
theorem laidOut : laidOutB Tryz.prog = true := by kernel_rfl
section
variable {P : Program} {w : World} {r : Reach} {b : Nat}
theorem cell_int {t : TypeId} {k : IntKind} {v : Value} (ht : P.underlying t = some (.int k)) (h : Cell.okWide P w r b t v) : ∃ n, v = .int k n /\ k.has n := by
 unfold Cell.okWide at h;rw [ht] at h;cases v <;> simp_all [Cell.ok]
theorem cell_bool {t : TypeId} {v : Value} (ht : P.underlying t = some .bool) (h : Cell.okWide P w r b t v) : ∃ x, v = .bool x := by
 unfold Cell.okWide at h;rw [ht] at h;cases v <;> simp_all [Cell.ok]
theorem cell_str {t : TypeId} {v : Value} (ht : P.underlying t = some .string) (h : Cell.okWide P w r b t v) : ∃ s, v = .string s /\ s.size <= maxLen := by
 unfold Cell.okWide at h;rw [ht] at h;cases v with
 | string s =>
   refine ⟨s, rfl, ?_⟩;have h' : (s.size : Int) <= IntKind.i64.max := by simpa [Cell.ok, ht] using h
   have e : IntKind.i64.max = 9223372036854775807 := by decide
   rw [e] at h';unfold maxLen;omega
 | _ => simp [Cell.ok, ht] at h
theorem agg_cells {t : TypeId} {fs : Array Field} {ts : List TypeId} {v : Value} (ht : P.underlying t = some (.struct fs)) (hts : P.cellTypes P.depth t = some ts) (hC : P.cellsOf t = ts.length) (h : Value.okWide P w r b t v) :
 ∃ cs : Array Value, v = .agg cs /\ cs.size = ts.length /\ ∀ (i : Nat) (u : TypeId), ts[i]? = some u -> ∃ x, cs[i]? = some x /\ Cell.okWide P w r b u x := by
 simp only [Value.okWide, ht] at h;obtain ⟨cs, rfl, hsz, ts', hts', _, hall⟩ := h;rw [hts] at hts';obtain rfl := Option.some.inj hts';refine ⟨cs, rfl, hsz.trans hC, fun i u hu => ?_⟩;have hi : i < ts.length := (List.getElem?_eq_some_iff.1 hu).1;have hi2 : i < cs.size := by omega
 obtain ⟨u', hu', hok⟩ := hall i cs[i] (Array.getElem?_eq_getElem hi2);rw [Nat.mod_eq_of_lt hi, hu] at hu';obtain rfl := Option.some.inj hu';exact ⟨cs[i], Array.getElem?_eq_getElem hi2, hok⟩
end
theorem has_i8 {n : Int} (h : IntKind.i8.has n) : -128 <= n /\ n <= 127 := by
 simp [IntKind.has, IntKind.min, IntKind.max, IntKind.signed, IntKind.bits] at h;omega
theorem has_u8 {n : Int} (h : IntKind.u8.has n) : 0 <= n /\ n <= 255 := by
 simp [IntKind.has, IntKind.min, IntKind.max, IntKind.signed, IntKind.bits] at h;omega
theorem has_i64 {n : Int} (h : IntKind.i64.has n) : -9223372036854775808 <= n /\ n <= 9223372036854775807 := by
 simp [IntKind.has, IntKind.min, IntKind.max, IntKind.signed, IntKind.bits] at h;omega
theorem laidVars_mem {P : Program} {W : World} {n : String} {d : DataW Unit} : ∀ {l : List (String × DataW Unit)} {ps : List MemPlace}, DataW.LaidVars P W l ps -> (n, d) ∈ l ->
 ∃ g t cs fuel p, P.globalNamed n = some g /\ (P.globals[g]?).map (·.type) = some t /\ W.var? P n = some cs /\ DataW.trod (fun _ => ()) P W 0 (fun _ => true) false fuel t cs.toList = some (d, p)
 | [], _, _, h => by simp at h
 | (n', d') :: l, ps, ⟨g, t, cs, fuel, p, q, h1, h2, h3, h4, h5, _⟩, h => by
   rcases List.mem_cons.1 h with e | h
   ·cases e
    exact ⟨g, t, cs, fuel, p, h1, h2, h3, h4⟩
   ·exact laidVars_mem h5 h
theorem tabIs_of_mem {P : Program} {W : World} {name : String} {k : IntKind} {zs : List Int} {l : List (String × DataW Unit)} {g : Nat} {t e : TypeId} {n : Nat}
 (hg : P.globalNamed name = some g) (hty : (P.globals[g]?).map (·.type) = some t) (ht : P.underlying t = some (.array n e)) (he : P.underlying e = some (.int k)) (hce : P.cellsOf e = 1) (hct : P.cellsOf t = n)
 (hm : (name, tabData k zs) ∈ l) (h : laidMet P l W) : TabIs P W name k zs := by
 obtain ⟨ps, hv, _⟩ := h;obtain ⟨g', t', cs, fuel, p, hg', ht', hvar, hd⟩ := laidVars_mem hv hm;obtain rfl := Option.some.inj (hg.symm.trans hg');obtain rfl := Option.some.inj (hty.symm.trans ht');unfold TabIs;rw [hvar, <- cells_of_tab ht he hce hct hd]
theorem pow_data : Rows.laid_internal_strconv_uint64pow10 = (tabData .u64 pow10Tab : DataW Unit) := by kernel_rfl
theorem good_of {W : World} {l : List (String × DataW Unit)} (hm : ("internal/strconv.uint64pow10", Rows.laid_internal_strconv_uint64pow10) ∈ l) (hp : (l.all fun x => x.2.handleName?.isNone) = true) (hL : laidMetH Tryz.prog l W) (hsh : W.ShapedOpen Tryz.prog) : Good W := by
 rw [MakeChecks.laidMetH_plain _ _ _ hp] at hL;rw [pow_data] at hm;refine ⟨tabIs_of_mem globalTab (t := 300) (by kernel_rfl) (e := 215) (n := 20) (by kernel_rfl) (by kernel_rfl) (by kernel_rfl) (by kernel_rfl) hm hL, ?_⟩;exact Go.Proofs.cell_of_shapedOpen_int (zero := #[.int .i64 0]) (t := 3) hsh (of_decide_eq_true (by kernel_rfl)) (by kernel_rfl) rfl (by kernel_rfl) (by kernel_rfl) (by kernel_rfl)
theorem door_met (os : Os) (args : Array Value) : laidMetH Tryz.prog Rows.stackEqualsRow.laid ((World.doorLaid Tryz.prog 62 os).forCall (fun _ _ => 0) ⟨#[], args, []⟩).memory :=
 laidMetH_of_parts3 (fuel := 8) (laidMet_of_run' 8 (by kernel_rfl) (by kernel_rfl)) (by kernel_rfl) (by kernel_rfl)
section
variable {H : Type} {enc : TypeId × Value -> H}
theorem returns_and_shaped {a : Assume} {C : Checked} {os : Os} {f : FuncId} {fn : Func} {s : ChangeSpec} {conds : List PathCond} {apart fresh handsOn again : Bool} {X : World -> Array Value -> Prop}
 (hX : ∀ (w w' : World) (args : Array Value), w.heap = w'.heap -> X w args -> X w' args)
 (own : ownKnob C.prog.godebug = none) (started : os.Started) (noInit : C.prog.inits.idxOf? f = none) (hfn : C.prog.funcs[f]? = some fn)
 (witness : ∃ (w : World) (tape : Tape) (i : Input), w.os = os /\ (w.forCall tape i).Shaped C.prog /\ i.vars = [] /\ Input.okWide C.prog (w.forCall tape i) .any w.heap.size f i /\
   ((s.pre enc C.prog fn conds apart (w.forCall tape i).memory i.args /\ X (w.forCall tape i).memory i.args) /\ sizedMet enc C.prog fn (OpenSpec.ofChange s) apart (w.forCall tape i).memory i.args) /\ a.holds C.prog (lone (Frame.enter C.prog f i.args .normal) [] (w.forCall tape i)))
 (contract : ∀ (W : World) (base : Nat) (args : Array Value) (ds gs : List (DataW H)) (before : List MemPlace),
   (∀ (j : Nat) t v, fn.params[j]? = some t -> args[j]? = some v -> Value.okWide C.prog W .any base t v) ->
   DataW.Whole enc C.prog fn.params.toList s.vars apart W args.toList ds gs before ->
   X W args -> W.ShapedOpen C.prog ->
   Calls C.prog f args W fun e W' => ∃ v, e = .returned v /\ s.post enc C.prog fn apart fresh handsOn again W args v W') :
 ReturnsInHanded a C os f .any (fun w args => (s.pre enc C.prog fn conds apart w args /\ X w args) /\ sizedMet enc C.prog fn (OpenSpec.ofChange s) apart w args) (s.post enc C.prog fn apart fresh handsOn again) := by
 refine returnsInHanded_of_calls own started noInit witness ?_;intro w tape i _ hsh _ hok hpre _;obtain ⟨_, _, _, fn', hfn', _, _, _, _, hval⟩ := hok;have e : fn' = fn := Option.some.inj (hfn'.symm.trans hfn);subst e;obtain ⟨⟨⟨ds, gs, before, hw, _⟩, hx⟩, _⟩ := hpre;have hw' := DataW.Whole.of_heap (w' := w.forCall tape i) (by rfl) hw;refine (contract (w.forCall tape i) w.heap.size i.args ds gs before hval hw' (hX _ _ _ (by rfl) hx) hsh).mono fun e W' ⟨v, he, hp⟩ => ?_
 subst he;exact ChangeSpec.post_blind hp
variable {P : Program}
theorem post_of_below {f : Func} {s : ChangeSpec} {apart fresh handsOn again : Bool} {W W' : World} {args : Array Value} {v : Value} {ds gs : List (DataW H)} {before pa pv : List MemPlace}
 (hW : DataW.Whole enc P f.params.toList s.vars apart W args.toList ds gs before)
 (hres : ∀ (b : Nat) (sp : Nat -> Bool) (hd : Bool), DataW.TrodAll enc P W' b sp hd f.resultTypes.toList (v.resultList f.resultTypes.size) (s.fn H (ds ++ gs)).results [])
 (hargs : ∀ sp : Nat -> Bool, (∀ p ∈ before, sp p.block = true) -> DataW.TrodAll enc P W' 0 sp true f.params.toList args.toList (s.fn H (ds ++ gs)).args pa)
 (hvars : ∀ sp : Nat -> Bool, (∀ p ∈ before, sp p.block = true) -> DataW.TrodVars enc P W' sp s.vars (s.fn H (ds ++ gs)).vars pv)
 (hps : before = pa ++ pv) (hb : Below W.heap.size W W')
 (hok : ∀ (j : Nat) (t : TypeId) (r : Value), f.resultTypes[j]? = some t -> (v.resultList f.resultTypes.size)[j]? = some r -> Value.okWide P W' .any 0 t r) :
 s.post enc P f apart fresh handsOn again W args v W' := by
 have hlt : ∀ p ∈ before, p.block < W.heap.size := fun p hp => hW.lt p hp;have hold : ∀ p ∈ before, (fun b => decide (b < W.heap.size)) p.block = true := fun p hp => by simpa using hlt p hp
 refine ⟨ds, gs, before, [], pa, pv, hW, hres _ _ _, hargs _ hold, hvars _ hold, World.keptBut_mono (fun p hp => ⟨hp, ?_⟩) (hb.frame (·∈ before)), fun _ => ?_⟩
 ·rw [hps, List.mem_append] at hp
  exact Or.inr hp
 ·obtain ⟨_, _, _, _, _, hz, hn⟩ := hW
  refine ⟨hok, _, _, ([] ++ pa) ++ pv, ⟨[] ++ pa, pv, trodAll_append (hargs _ (fun _ _ => rfl)) (hres _ _ _), hvars _ (fun _ _ => rfl), rfl, ?_, ?_⟩, ?_⟩
  ·intro b off hp
   have hin : MemPlace.cell b off ∈ before := by rw [hps]; simpa using hp
   rw [hb.frozen (hlt _ hin)];exact hz b off hin
  ·intro ha
   have := hn ha;rw [hps] at this;simpa using this
  ·intro p hp _
   rw [hps];simpa using hp
theorem trodAll_below (hl : laidOutB P = true) {W W' : World} {sp : Nat -> Bool} (hb : Below W.heap.size W W') : ∀ {ts : List TypeId} {vs : List Value} {ds : List (DataW H)} {ps : List MemPlace}, (∀ t ∈ ts, P.readableRec t = true /\ t < P.types.size) ->
 DataW.TrodAll enc P W 0 (fun _ => true) true ts vs ds ps -> (∀ p ∈ ps, p.block < W.heap.size) -> (∀ p ∈ ps, sp p.block = true) -> DataW.TrodAll enc P W' 0 sp true ts vs ds ps
 | [], [], [], _, _, h, _, _ => h
 | _ :: _, _ :: _, _ :: _, _, hT, ⟨p, q, h1, h2, e⟩, hlt, hs =>
   ⟨p, q, WideElems.Trod_stays hl (hT _ (List.mem_cons.2 (Or.inl rfl))).1 (hT _ (List.mem_cons.2 (Or.inl rfl))).2 h1 (fun x hx => hb.same (hlt x (by rw [e]; exact List.mem_append_left _ hx))) (fun x hx => hs x (by rw [e]; exact List.mem_append_left _ hx)),
    trodAll_below hl hb (fun t ht => hT t (List.mem_cons.2 (Or.inr ht))) h2 (fun x hx => hlt x (by rw [e]; exact List.mem_append_right _ hx)) (fun x hx => hs x (by rw [e]; exact List.mem_append_right _ hx)), e⟩
theorem post_true {f : Func} {s : ChangeSpec} {W W' : World} {args : Array Value} {ds gs : List (DataW H)} {before : List MemPlace} (hl : laidOutB P = true)
 (hW : DataW.Whole enc P f.params.toList s.vars false W args.toList ds gs before) (hv : s.vars = []) {bt : TypeId} (hbt : P.underlying bt = some .bool) (hr : f.resultTypes = #[bt])
 (hT : (f.params.toList.all fun t => P.readableRec t && decide (t < P.types.size)) = true)
 (hs : s.fn H ds = { results := [.lit (.bool true)], args := ds }) (hb : Below W.heap.size W W') : s.post enc P f false true false false W args (.bool true) W' := by
 have hW' := hW;have hlt : ∀ p ∈ before, p.block < W.heap.size := fun p hp => hW.lt p hp;obtain ⟨p, q, hA, hV, rfl, _, _⟩ := hW;rw [hv] at hV;obtain ⟨rfl, rfl⟩ := trodVars_none hV;rw [List.append_nil] at hlt;have hT' : ∀ t ∈ f.params.toList, P.readableRec t = true /\ t < P.types.size := fun t ht => by
  have := List.all_eq_true.1 hT t ht;simpa using this
 refine post_of_below (pa := p) (pv := []) hW' ?_ ?_ ?_ rfl hb ?_
 ·intro b sp hd
  rw [List.append_nil, hs, hr];exact trodAll_mk1 (shut_bool hbt true)
 ·intro sp hsp
  rw [List.append_nil, hs];exact trodAll_below hl hb hT' hA hlt (fun x hx => hsp x (by rw [List.append_nil]; exact hx))
 ·intro sp hsp
  rw [List.append_nil, hs, hv];rfl
 ·exact ok_one hr rfl (okWide_bool_mk hbt true)
end
end Go.Proofs.YtgdpoankaojklaaGreatDoor
namespace Go.Proofs.YtgdpoankaojklaaGreatDoor
open Go.ChangeShapes Go.WideShapes Go.ChangeAt Go.RowKit Go.Lib
theorem u8T : (Tryz.prog).underlying 5 = some (.int .u8) := by kernel_rfl
theorem i8T : (Tryz.prog).underlying 22 = some (.int .i8) := by kernel_rfl
theorem boolT : (Tryz.prog).underlying 4 = some .bool := by kernel_rfl
theorem ratT : (Tryz.prog).underlying 57 = some .string := by kernel_rfl
theorem intT : (Tryz.prog).underlying 3 = some (.int .i64) := by kernel_rfl
theorem vec_types : (Tryz.prog).cellTypes (Tryz.prog).depth 70 = some [57, 57, 57] := by kernel_rfl
theorem vec_cells : (Tryz.prog).cellsOf 70 = 3 := by kernel_rfl
theorem open_vec {w : World} {r : Reach} {b : Nat} {v : Value} (h : Value.okWide Tryz.prog w r b 70 v) :
 ∃ x y z : ByteArray, v = .agg #[.string x, .string y, .string z] /\ x.size <= maxLen /\ y.size <= maxLen /\ z.size <= maxLen := by
 obtain ⟨cs, rfl, hsz, hc⟩ := agg_cells Tryz.underlying70 vec_types vec_cells h;obtain ⟨x, hx, hok⟩ := hc 0 _ rfl;obtain ⟨s0, rfl, l0⟩ := cell_str ratT hok;obtain ⟨x, hx1, hok⟩ := hc 1 _ rfl;obtain ⟨s1, rfl, l1⟩ := cell_str ratT hok;obtain ⟨x, hx2, hok⟩ := hc 2 _ rfl;obtain ⟨s2, rfl, l2⟩ := cell_str ratT hok;refine ⟨s0, s1, s2, ?_, l0, l1, l2⟩;congr 1;apply Array.ext_getElem?;intro i
 match i with
 | 0 => exact hx
 | 1 => exact hx1
 | 2 => exact hx2
 | j + 3 => rw [Array.getElem?_eq_none (by have : cs.size = 3 := hsz; omega), Array.getElem?_eq_none (by simp)]
theorem okWide_cell {P : Program} {w : World} {r : Reach} {b : Nat} {t : TypeId} {d : TypeDesc} {v : Value} (ht : P.underlying t = some d) (h1 : ∀ fs, d ≠ .struct fs) (h2 : ∀ n e, d ≠ .array n e) (h : Value.okWide P w r b t v) : Cell.okWide P w r b t v := by
 unfold Value.okWide at h;rw [ht] at h;cases d with
 | struct fs => exact absurd rfl (h1 fs)
 | array n e => exact absurd rfl (h2 n e)
 | _ => exact h
theorem okWide_cell_int {P : Program} {w : World} {r : Reach} {b : Nat} {t : TypeId} {k : IntKind} {v : Value} (ht : P.underlying t = some (.int k)) (h : Value.okWide P w r b t v) : Cell.okWide P w r b t v :=
 okWide_cell ht (by intro _ e; cases e) (by intro _ _ e; cases e) h
theorem okWide_cell_str {P : Program} {w : World} {r : Reach} {b : Nat} {t : TypeId} {v : Value} (ht : P.underlying t = some .string) (h : Value.okWide P w r b t v) : Cell.okWide P w r b t v :=
 okWide_cell ht (by intro _ e; cases e) (by intro _ _ e; cases e) h
theorem open_i64 {w : World} {r : Reach} {b : Nat} {v : Value} (h : Value.okWide Tryz.prog w r b 3 v) : ∃ n, v = .int .i64 n /\ -9223372036854775808 <= n /\ n <= 9223372036854775807 := by
 have h' := okWide_cell_int intT h;obtain ⟨n, rfl, hn⟩ := cell_int intT h';exact ⟨n, rfl, has_i64 hn⟩
theorem open_u8 {w : World} {r : Reach} {b : Nat} {v : Value} (h : Value.okWide Tryz.prog w r b 5 v) : ∃ n, v = .int .u8 n /\ 0 <= n /\ n <= 255 := by
 have h' := okWide_cell_int u8T h;obtain ⟨n, rfl, hn⟩ := cell_int u8T h';exact ⟨n, rfl, has_u8 hn⟩
theorem open_rat {w : World} {r : Reach} {b : Nat} {v : Value} (h : Value.okWide Tryz.prog w r b 57 v) : ∃ s, v = .string s /\ s.size <= maxLen := by
 have h' := okWide_cell_str ratT h;exact cell_str ratT h'
theorem point_types : (Tryz.prog).cellTypes (Tryz.prog).depth 63 = some [57, 57] := by kernel_rfl
theorem point_cells : (Tryz.prog).cellsOf 63 = 2 := by kernel_rfl
theorem open_point {w : World} {r : Reach} {b : Nat} {v : Value} (h : Value.okWide Tryz.prog w r b 63 v) :
 ∃ x y : ByteArray, v = .agg #[.string x, .string y] /\ x.size <= maxLen /\ y.size <= maxLen := by
 obtain ⟨cs, rfl, hsz, hc⟩ := agg_cells Tryz.underlying63 point_types point_cells h;obtain ⟨x, hx, hok⟩ := hc 0 _ rfl;obtain ⟨s0, rfl, l0⟩ := cell_str ratT hok;obtain ⟨x, hx1, hok⟩ := hc 1 _ rfl;obtain ⟨s1, rfl, l1⟩ := cell_str ratT hok;refine ⟨s0, s1, ?_, l0, l1⟩;congr 1;apply Array.ext_getElem?;intro i
 match i with
 | 0 => exact hx
 | 1 => exact hx1
 | j + 2 => rw [Array.getElem?_eq_none (by have : cs.size = 2 := hsz; omega), Array.getElem?_eq_none (by simp)]
section
variable {P : Program} {w : World} {r : Reach} {b : Nat}
theorem arr_cells {t : TypeId} {n : Nat} {e : TypeId} {ts : List TypeId} {v : Value} (ht : P.underlying t = some (.array n e)) (hts : P.cellTypes P.depth t = some ts) (hC : P.cellsOf t = ts.length) (h : Value.okWide P w r b t v) :
 ∃ cs : Array Value, v = .agg cs /\ cs.size = ts.length /\ ∀ (i : Nat) (u : TypeId), ts[i]? = some u -> ∃ x, cs[i]? = some x /\ Cell.okWide P w r b u x := by
 simp only [Value.okWide, ht] at h;obtain ⟨cs, rfl, hsz, ts', hts', _, hall⟩ := h;rw [hts] at hts';obtain rfl := Option.some.inj hts';refine ⟨cs, rfl, hsz.trans hC, fun i u hu => ?_⟩;have hi : i < ts.length := (List.getElem?_eq_some_iff.1 hu).1;have hi2 : i < cs.size := by omega
 obtain ⟨u', hu', hok⟩ := hall i cs[i] (Array.getElem?_eq_getElem hi2);rw [Nat.mod_eq_of_lt hi, hu] at hu';obtain rfl := Option.some.inj hu';exact ⟨cs[i], Array.getElem?_eq_getElem hi2, hok⟩
end
theorem sheet_types : (Tryz.prog).cellTypes (Tryz.prog).depth 25 = some [5, 22, 22, 4] := by kernel_rfl
theorem sheet_cells : (Tryz.prog).cellsOf 25 = 4 := by kernel_rfl
theorem open_sheet {w : World} {r : Reach} {b : Nat} {v : Value} (h : Value.okWide Tryz.prog w r b 25 v) :
 ∃ (kz s0 s1 : Int) (half : Bool), v = .agg #[.int .u8 kz, .int .i8 s0, .int .i8 s1, .bool half] /\ (0 <= kz /\ kz <= 255) /\ (-128 <= s0 /\ s0 <= 127) /\ (-128 <= s1 /\ s1 <= 127) := by
 obtain ⟨cs, rfl, hsz, hc⟩ := agg_cells Tryz.underlying25 sheet_types sheet_cells h;obtain ⟨x, hx, hok⟩ := hc 0 _ rfl;obtain ⟨kz, rfl, l0⟩ := cell_int u8T hok;obtain ⟨x, hx1, hok⟩ := hc 1 _ rfl;obtain ⟨s0, rfl, l1⟩ := cell_int i8T hok;obtain ⟨x, hx2, hok⟩ := hc 2 _ rfl;obtain ⟨s1, rfl, l2⟩ := cell_int i8T hok;obtain ⟨x, hx3, hok⟩ := hc 3 _ rfl;obtain ⟨half, rfl⟩ := cell_bool boolT hok;refine ⟨kz, s0, s1, half, ?_, has_u8 l0, has_i8 l1, has_i8 l2⟩;congr 1;apply Array.ext_getElem?;intro i
 match i with
 | 0 => exact hx
 | 1 => exact hx1
 | 2 => exact hx2
 | 3 => exact hx3
 | j + 4 => rw [Array.getElem?_eq_none (by have : cs.size = 4 := hsz; omega), Array.getElem?_eq_none (by simp)]
theorem b2_types : (Tryz.prog).cellTypes (Tryz.prog).depth 23 = some [22, 22] := by kernel_rfl
theorem b2_cells : (Tryz.prog).cellsOf 23 = 2 := by kernel_rfl
theorem open_b2 {w : World} {r : Reach} {b : Nat} {v : Value} (h : Value.okWide Tryz.prog w r b 23 v) :
 ∃ x y : Int, v = .agg #[.int .i8 x, .int .i8 y] /\ (-128 <= x /\ x <= 127) /\ (-128 <= y /\ y <= 127) := by
 obtain ⟨cs, rfl, hsz, hc⟩ := arr_cells Tryz.underlying23 b2_types b2_cells h;obtain ⟨x, hx, hok⟩ := hc 0 _ rfl;obtain ⟨s0, rfl, l0⟩ := cell_int i8T hok;obtain ⟨x, hx1, hok⟩ := hc 1 _ rfl;obtain ⟨s1, rfl, l1⟩ := cell_int i8T hok;refine ⟨s0, s1, ?_, has_i8 l0, has_i8 l1⟩;congr 1;apply Array.ext_getElem?;intro i
 match i with
 | 0 => exact hx
 | 1 => exact hx1
 | j + 2 => rw [Array.getElem?_eq_none (by have : cs.size = 2 := hsz; omega), Array.getElem?_eq_none (by simp)]
theorem i2_types : (Tryz.prog).cellTypes (Tryz.prog).depth 164 = some [3, 3] := by kernel_rfl
theorem i2_cells : (Tryz.prog).cellsOf 164 = 2 := by kernel_rfl
theorem open_i2 {w : World} {r : Reach} {b : Nat} {v : Value} (h : Value.okWide Tryz.prog w r b 164 v) :
 ∃ x y : Int, v = .agg #[.int .i64 x, .int .i64 y] /\ (-9223372036854775808 <= x /\ x <= 9223372036854775807) /\ (-9223372036854775808 <= y /\ y <= 9223372036854775807) := by
 obtain ⟨cs, rfl, hsz, hc⟩ := arr_cells Tryz.underlying164 i2_types i2_cells h;obtain ⟨x, hx, hok⟩ := hc 0 _ rfl;obtain ⟨s0, rfl, l0⟩ := cell_int intT hok;obtain ⟨x, hx1, hok⟩ := hc 1 _ rfl;obtain ⟨s1, rfl, l1⟩ := cell_int intT hok;refine ⟨s0, s1, ?_, has_i64 l0, has_i64 l1⟩;congr 1;apply Array.ext_getElem?;intro i
 match i with
 | 0 => exact hx
 | 1 => exact hx1
 | j + 2 => rw [Array.getElem?_eq_none (by have : cs.size = 2 := hsz; omega), Array.getElem?_eq_none (by simp)]
end Go.Proofs.YtgdpoankaojklaaGreatDoor
