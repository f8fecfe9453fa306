import Derived.Test.YtmcbeajdloaliaaGreatDoorZS42
import Derived.Test.YtmcbeajdloaliaaGreatDoorZS83
/- stack.Log Plain A drawn region in which the world only grows klippelaw28.known A plan's deposit is right What a plan's Make gives to the laws of a deposit. -/
set_option maxHeartbeats 16000000
set_option maxRecDepth 100000
namespace Go.Proofs.YtmcbeajdloaliaaGreatDoor
open Go.RowKit Go.Lib Go.Shelf
attribute [local go_sem] Oper.semAt_some
theorem yal {H : List Rat} {ys : List (IxR H)} (h : ys.map Subtype.val = List.range H.length) : (ys.map fun q : IxR H => Value.string (RS (H[q.1]'(q.2)))) = cFd H := by
 have e : (ys.map fun q : IxR H => Value.string (RS (H[q.1]'(q.2)))) = (ys.map Subtype.val).map fun i => Value.string (RS (H[i]?.getD 0)) := by
  rw [List.map_map];refine List.map_congr_left fun q _ => ?_;show _ = Value.string (RS (H[q.1]?.getD 0));rw [List.getElem?_eq_getElem q.2]; rfl
 rw [e, h];unfold cFd;refine List.ext_getElem? fun i => ?_;rw [List.getElem?_map, List.getElem?_map];rcases Nat.lt_or_ge i H.length with Z | Z
 ·rw [List.getElem?_range Z, List.getElem?_eq_getElem Z]
  simp [Z]
 ·rw [List.getElem?_eq_none (by rw [List.length_range]; exact Z), List.getElem?_eq_none Z]; rfl
theorem lin (n : Nat) (hn : 6 <= n) (w : World) (hg : Good w) (pp pt pb pu ps : Option Addr) (np nt ns cp ct cb cu cs : Nat) (x y : ByteArray) (z : Rat) (U : List ByteArray) (H : List Rat) (hH : H.length = U.length) (ym : 0 < U.length) (yn : U.length <= 1000) (hU : RdS w (.slice pu U.length cu) U)
 (k : Nat) (hk : 0 < k) (xl : k <= 90) (zI : ∀ q ∈ H, Sz k q) (y5 : Sz k z) (fp : Nat -> Option Addr) (fc : Nat -> Nat)
 (y7 : Hid (∀ w', Below w.heap.size w w' -> Good w' -> Calls Tryz.prog 64 #[.agg #[.slice pp np cp, .slice pt nt ct], .agg #[.slice pb np cb, .slice pu U.length cu, .slice ps ns cs], .agg #[.string x, .string y, .string (RS z)]] w' (Ret (fun r _ => r = .int .i64 0) w')))
 (yc : Hid (∀ i, i < U.length -> ∀ w', Below w.heap.size w w' -> Calls Tryz.prog 48 #[.agg #[.slice pb np cb, .slice pu U.length cu, .slice ps ns cs], .int .i64 (i : Int)] w' (Ret (fun r _ => r = .slice (fp i) np (fc i)) w')))
 (yd : Hid (∀ i, i < U.length -> ∀ w', Below w.heap.size w w' -> Good w' -> Calls Tryz.prog 114 #[.agg #[.slice pp np cp, .slice pt nt ct], .slice (fp i) np (fc i), .agg #[.string x, .string y]] w' (Ret (fun r _ => r = .tuple #[.string (RS ((H[i]?).getD 0)), .int .i64 0]) w'))) :
 CallsIn Fence.wide n Tryz.prog 31 #[.agg #[.slice pp np cp, .slice pt nt ct], .agg #[.slice pb np cb, .slice pu U.length cu, .slice ps ns cs], .agg #[.string x, .string y, .string (RS z)]] w (Ret (fun r w' => ∃ v, r = .tuple #[v, .int .i64 0] /\ w'.ownsRow w.heap.size 99 3 v (logL U H z).length (cIv (logL U H z))) w) := by
 have h1 : 1 <= n := by omega
 have HU := hid hU;have zt := hid zI;have hP := hid y5;have hw := hid hH;clear hU zI y5 hH;refine callsIn_of_wp_marks Tryz.func31 rfl trivial ?_ rfl;simp only [Tryz.ntmps31, List.size_toArray, List.length_cons, List.length_nil, Nat.reduceAdd, Nat.reduceSub, Array.replicate_succ, Array.replicate_zero, List.push_toArray, List.append_toArray, List.nil_append, List.cons_append];gi_wp2_with fail;obtain ⟨W, hW⟩ := zex (((((w.alloc (.cells #[.slice pp np cp, .slice pt nt ct] 41)).alloc (.cells #[.slice pb np cb, .slice pu U.length cu, .slice ps ns cs] 45)).alloc (.cells #[.string x, .string y, .string (RS z)] 83)).alloc (.cells #[.slice none 0 0] 84)).alloc (.cells #[.int .i64 0] 49));have hB : Below w.heap.size w W := by rw [hW]; exact (((((Below.refl _ _).alloc (Nat.le_refl _) _).alloc (by simp) _).alloc (by simp; omega) _).alloc (by simp; omega) _).alloc (by simp; omega) _
 have b3 : BoxN W w.heap.size 41 [.slice pp np cp, .slice pt nt ct] := by rw [hW]; exact ((((BoxN.new w #[.slice pp np cp, .slice pt nt ct] 41 _ rfl).alloc _).alloc _).alloc _).alloc _
 have b4 : BoxN W (w.heap.size + 1) 45 [.slice pb np cb, .slice pu U.length cu, .slice ps ns cs] := by rw [hW]; exact (((BoxN.new _ #[.slice pb np cb, .slice pu U.length cu, .slice ps ns cs] _ _ (by simp)).alloc _).alloc _).alloc _
 have b5 : BoxN W (w.heap.size + 2) 83 [.string x, .string y, .string (RS z)] := by rw [hW]; exact ((BoxN.new _ #[.string x, .string y, .string (RS z)] _ _ (by simp)).alloc _).alloc _
 have b6 : BoxN W (w.heap.size + 3) 84 [.slice none 0 0] := by rw [hW]; exact (BoxN.new _ #[.slice none 0 0] _ _ (by simp)).alloc _
 have b7 : BoxN W (w.heap.size + 4) 49 [.int .i64 0] := by rw [hW]; exact BoxN.new _ #[.int .i64 0] _ _ (by simp)
 rw [<- hW];clear hW;refine ⟨trivial, ?_⟩;refine CallsIn.mono (callsIn_wide.2 (y7.out W hB (hg.below hB))) ?_;rintro e w1 ⟨_, rfl, rfl, h4⟩;have zD := zbt hB h4;replace b3 := b3.bl h4;replace b4 := b4.bl h4;replace b5 := b5.bl h4;replace b6 := b6.bl h4;replace b7 := b7.bl h4;clear h4 hB;have v2 := cal (.cells #[.slice none 0 0] 84) (b5.cell 2 rfl);obtain ⟨W3, hy⟩ := zex (((w1.alloc (.cells #[.slice none 0 0] 84)).alloc (.cells #[.string (RS z)] 55)).alloc (.cells #[.slice none 0 0] 32));have hx : Below w1.heap.size w1 W3 := by rw [hy]; exact (((Below.refl _ _).alloc (Nat.le_refl _) _).alloc (by simp) _).alloc (by simp; omega) _
 have b9 : BoxN W3 w1.heap.size 84 [.slice none 0 0] := by rw [hy]; exact ((BoxN.new w1 #[.slice none 0 0] _ _ rfl).alloc _).alloc _
 have hQ : BoxN W3 (w1.heap.size + 1) 55 [.string (RS z)] := by rw [hy]; exact (BoxN.new _ #[.string (RS z)] _ _ (by simp)).alloc _
 have hJ : BoxN W3 (w1.heap.size + 2) 32 [.slice none 0 0] := by rw [hy]; exact BoxN.new _ #[.slice none 0 0] _ _ (by simp)
 have yI := b7.lt;replace b3 := b3.bl hx;replace b4 := b4.bl hx;replace b5 := b5.bl hx;replace b6 := b6.bl hx;replace b7 := b7.bl hx;have zF := zbt zD hx;obtain ⟨m0, m1⟩ := zk2 b3;obtain ⟨d0, d1, d2⟩ := zk3 b4;obtain ⟨v0, v1⟩ := zk2 b5;have zZ := hJ.lt;rw [hy] at m0 m1 d0 d1 d2 v0 v1;gi_wp2_with fail;rw [<- hy];refine ⟨trivial, ?_⟩;refine CallsIn.mono (callsIn_wide.2 (hay _ _ _ _ pp pt pb pu ps np nt np U.length ns cp ct cb cu cs x y rfl rfl rfl)) ?_;rintro e w2 ⟨rfl, hA⟩;have c1 : BoxN w2 W3.heap.size 41 [.slice pp np cp, .slice pt nt ct] := by rw [<- hA]; exact ((BoxN.new W3 #[.slice pp np cp, .slice pt nt ct] _ _ rfl).alloc _).alloc _
 have c2 : BoxN w2 (W3.heap.size + 1) 45 [.slice pb np cb, .slice pu U.length cu, .slice ps ns cs] := by rw [<- hA]; exact (BoxN.new _ #[.slice pb np cb, .slice pu U.length cu, .slice ps ns cs] _ _ (by simp)).alloc _
 have c3 : BoxN w2 (W3.heap.size + 2) 73 [.string x, .string y] := by rw [<- hA]; exact BoxN.new _ #[.string x, .string y] _ _ (by simp)
 have m : Below W3.heap.size W3 w2 := by rw [<- hA]; exact (((Below.refl _ _).alloc (Nat.le_refl _) _).alloc (by simp) _).alloc (by simp; omega) _
 have hZ := zbt zF m;replace b4 := b4.bl m;replace b5 := b5.bl m;replace b6 := b6.bl m;replace b7 := b7.bl m;replace b9 := b9.bl m;replace hQ := hQ.bl m;replace hJ := hJ.bl m;have xp : W3.heap.size + 3 <= w2.heap.size := by have := c3.lt; omega
 obtain ⟨a, ha⟩ := zex (w1.heap.size);have xq : w.heap.size + 5 <= a := by omega
 have yT : a + 3 <= W3.heap.size := by omega
 rw [<- ha] at b9 hQ hJ ⊢;clear hA m b3 m0 m1 d0 d1 d2 v0 v1 v2 hy hx zD zF ha zZ yI;clear w1;obtain ⟨i0, yy, yF, yG, yH⟩ := info_parts isr;gi_wp2_with fail;refine wpIn_rangeFunc_ownF rfl h1 (gf := 113) (lb := #[.pointer (some ⟨W3.heap.size + 1, 0, none⟩), .pointer (some ⟨W3.heap.size, 0, none⟩), .pointer (some ⟨W3.heap.size + 2, 0, none⟩)]) rfl trivial (enters_of Tryz.func113 (by kernel_rfl) rfl)
  (ht0 (n - 1) (by omega) W3.heap.size w hg pp pt pb pu ps np nt U.length ns cp ct cb cu cs x y H hw.out yn fp fc yc yd w2 hZ c1 c2 c3) (fun h k => Keep3.trans h k) (k3b (by have := hZ.size; omega) (by omega)) (Below.refl _ _) (fun _ => rfl)
  (fun (pre : List (IxR H)) W => ((BoxN W (w.heap.size + 1) 45 [.slice pb np cb, .slice pu U.length cu, .slice ps ns cs] /\ BoxN W (w.heap.size + 2) 83 [.string x, .string y, .string (RS z)] /\ BoxN W (w.heap.size + 3) 84 [.slice none 0 0] /\ BoxN W (w.heap.size + 4) 49 [.int .i64 0] /\ BoxN W a 84 [.slice none 0 0] /\ BoxN W (a + 1) 55 [.string (RS z)]) /\
    (∃ v, BoxN W (a + 2) 32 [v] /\ W.ownsRow w2.heap.size 55 1 v pre.length (pre.map fun q => Value.string (RS (H[q.1]'(q.2))))) /\ w2.heap.size <= W.heap.size) /\ Below w.heap.size w W)
  (fun _ _ _ => False)
  (OwnFrom.and (Own.from (fun s A B row hs hg' hr => by
    obtain ⟨⟨e1, e2, e3, e4, e5, e6⟩, ⟨v, e7, C⟩, e9⟩ := hs;exact ⟨⟨bNk e1 hg' hr, bNk e2 hg' hr, bNk e3 hg' hr, bNk e4 hg' hr, bNk e5 hg' hr, bNk e6 hg' hr⟩, ⟨v, bNk e7 hg' hr, okt C hg' hr⟩, Nat.le_trans e9 hg'.size⟩) _) (ownFrom_below (Nat.le_refl _) (by have := hZ.size; omega)))
  (fun _ _ _ _ _ hs _ _ => hs)
  ⟨⟨⟨b4, b5, b6, b7, b9, hQ⟩, ⟨_, hJ, World.ownsRow_nil _ _ _ _⟩, Nat.le_refl _⟩, hZ⟩
  ?a1 ?assign ?body ?done ?stop
 case assign =>
  intro l x W K hK;dsimp only [encH]
  gi_wp2
  exact hK
 case body =>
  rintro l pre G W ⟨⟨⟨e1, e2, e3, e4, e5, e6⟩, ⟨v, e7, C⟩, e9⟩, zg⟩ yB;have z7 := G.2;have hf : (H[G.1]?).getD 0 = H[G.1] := by rw [List.getElem?_eq_getElem z7]; rfl
  rw [hf];have yb : Hid ((pre ++ [G]).map (fun q : IxR H => Value.string (RS (H[q.1]'(q.2)))) = pre.map (fun q : IxR H => Value.string (RS (H[q.1]'(q.2)))) ++ [Value.string (RS H[G.1])]) := by unfold Hid; rw [List.map_append]; rfl
  generalize RS H[G.1] = hstr at *;obtain ⟨pv, cv, rfl⟩ := oRs C;have x0 := cal (.cells #[.string hstr] 55) (e7.cell 0 rfl);have xv := e7.cell 0 rfl;have zZ := e7.lt;have zz := e7.alloc (.cells #[.string hstr] 55);have zA := C.alloc (.cells #[.string hstr] 55);have zr := obN zA zz (by decide);have yR : pre.length <= 1000 := by omega
  clear hf
  gi_wp2_with (gi_at_builtin; refine wpListIn_append_own _ rfl _ _ 32 rfl w2.heap.size 55 i0 (.string ⟨#[]⟩) 1 16 Tryz.underlying32 yy yF yG yH rfl (by decide) _ _ _ rfl zA ⟨W.heap.size, 0, none⟩ 1 1 [.string hstr] rfl rfl (cell_one_new _ _ _) (by intro u hu; simp at hu; subst hu; rfl) (by unfold maxLen; omega) (by omega) (by simp; omega) ?_
               intro v8 w8 f8 hd _;have f7 := zz.gb hd (fun e => zr e.symm);have y0 := f7.cell 0 rfl;have yN := f7.frozen 0;obtain ⟨p8, c8, rfl⟩ := oRs f8)
  have zU := hd.size;simp at zU;have L : ∀ j, j < W.heap.size -> (∀ r, (Value.slice pv pre.length cv).ownBlock = some r -> j ≠ r) -> j ≠ a + 2 -> (w8.setCell ⟨a + 2, 0, none⟩ (.slice p8 (pre.length + 1) c8)).heap[j]? = W.heap[j]? := fun j V hr J => by
   rw [Below.heap_setCell _ _ _ j (fun e => J e), hd.block j (by simp; omega) (fun e => hr j e.symm rfl)];exact ho0 _ _ _ V
  have d : ∀ j, j < w2.heap.size -> ∀ r, (Value.slice pv pre.length cv).ownBlock = some r -> j ≠ r := fun j V r hr => by have := (C.lt r hr).1; omega
  have z5 : Below w.heap.size w w8 := (zg.alloc (by omega) (.cells #[.string hstr] 55)).grown hd (by simp; omega) (fun j V => by have := (C.lt j V).1; omega);have t := z5.setCell (p := ⟨a + 2, 0, none⟩) (by show w.heap.size <= a + 2; omega) (.slice p8 (pre.length + 1) c8);have f9 := f7.set 0 (.slice p8 (pre.length + 1) c8);have g8 := World.ownsRow.kept f8 (gst (grl w8 (some (a + 2))) 0 (.slice p8 (pre.length + 1) c8)) (.inr (fun e => obN f8 f7 (by decide) e.symm));have zn := e1.lt;have zo := e2.lt;have z8 := e3.lt;have z9 := e4.lt;have yA := e5.lt;have zp := e6.lt;have zh : KeepsOthers W (w8.setCell ⟨a + 2, 0, none⟩ (.slice p8 (pre.length + 1) c8)) := ⟨by simp; omega, fun j o V R => by
   have zl := (Array.getElem?_eq_some_iff.1 V).1;refine (L j zl (fun r hr e => ?_) (fun e => ?_)).trans V
   ·subst e
    rcases C.2 with ⟨h0, _⟩ | ⟨g, cap, ye, h0, hb, zj, _⟩
    ·rw [h0] at hr; cases hr
    ·injection h0 with h0 _ _
     rw [h0] at hr;cases hr;rw [zj] at V;cases V;cases R
   ·subst e
    unfold BoxN at e7;rw [e7] at V;cases V;cases R⟩
  refine ⟨zh, ⟨?_, L _ (by omega) (fun r hr => by have := (C.lt r hr).1; omega) (by omega), L _ (by omega) (fun r hr => by have := (C.lt r hr).1; omega) (by omega), L _ (by omega) (fun r hr => by have := (C.lt r hr).1; omega) (by omega)⟩, ⟨⟨⟨(L _ zn (d _ (by omega)) (by omega)).trans e1, (L _ zo (d _ (by omega)) (by omega)).trans e2, (L _ z8 (d _ (by omega)) (by omega)).trans e3, (L _ z9 (d _ (by omega)) (by omega)).trans e4, (L _ yA (d _ (by omega)) (by omega)).trans e5, (L _ zp (d _ (by omega)) (by omega)).trans e6⟩, ⟨_, f9, ?_⟩, by simp; omega⟩, t⟩⟩
  ·refine ((((Below.refl _ W).alloc (by omega) (.cells #[.string hstr] 55)).grown hd (by simp; omega) (fun j V => by have := (C.lt j V).1; omega)).setCell (p := ⟨a + 2, 0, none⟩) (by show w.heap.size <= a + 2; omega) (.slice p8 (pre.length + 1) c8))
  ·rw [yb.out, List.length_append]
   exact g8
 case done =>
  rintro D ys W Y hF ⟨⟨⟨e1, e2, e3, e4, e5, e6⟩, ⟨v, e7, C⟩, e9⟩, zg⟩ hK;have zX : ys.length = U.length := by have h5 := congrArg List.length hF; rwa [List.length_map, List.length_range] at h5
  rw [<- hw.out] at hF;rw [yal hF, zX] at C;obtain ⟨g, cv, lv, rfl, xj, z6, yr, yt, yu, zO⟩ := boo C ym;unfold maxLen at yt;have hG : ∀ (i : Nat) (hi : i < H.length), W.cell? ⟨g, 0 + i, none⟩ = some (.string (RS H[i])) := fun i hi => by
   rw [Nat.zero_add];refine z6.cell i ?_;have h6 : (lv.take U.length)[i]? = (cFd H)[i]? := by rw [zO]
   rw [List.getElem?_take, if_pos (by have := hw.out; omega)] at h6;rw [h6];unfold cFd;rw [List.getElem?_map, List.getElem?_eq_getElem hi]; rfl
  have yU := hid z6;have yx := z6.lt;have x0 := e7.cell 0 rfl;have xh := e7.lt;clear hF zX b4 b5 b6 b7 b9 hQ hJ c1 c2 c3 e7 C yu zO z6 yr;gi_wp2_with fail;refine ⟨trivial, ?_⟩;refine CallsIn.mono (callsIn_wide.2 (bb0 _ _ _ _)) ?_;rintro e W4 ⟨rfl, zi⟩;have k1 : BoxN W4 W.heap.size 32 [.slice (some ⟨g, 0, none⟩) U.length cv] := by rw [<- zi]; exact BoxN.new _ #[.slice (some ⟨g, 0, none⟩) U.length cv] _ _ rfl
  have hh : Below W.heap.size W W4 := by rw [<- zi]; exact zal _ _
  have zG := zbt zg hh;replace e1 := e1.bl hh;replace e2 := e2.bl hh;replace e3 := e3.bl hh;replace e4 := e4.bl hh;replace e5 := e5.bl hh;replace e6 := e6.bl hh;have yj := (Array.getElem?_eq_some_iff.1 hK).1;have yk : W4.heap[D]? = some (.deferred (some [])) := (hh.block D yj).trans hK;have zN : ∀ (i : Nat) (hi : i < H.length), W4.cell? ⟨g, 0 + i, none⟩ = some (.string (RS H[i])) := fun i hi => (zcq hh yx (hG i hi) :);have zY := k1.lt;have zQ := k1.cell 0 rfl;rw [<- hw.out] at zQ;clear zi hK x0 hG;obtain ⟨i2, yz, yD, yE, hA⟩ := info_parts iIv;gi_wp2_with fail;refine wpIn_rangeFunc_ownF rfl h1 (gf := 115) (lb := #[.pointer (some ⟨W.heap.size, 0, none⟩)]) rfl trivial (enters_of Tryz.func115 (by kernel_rfl) rfl)
   (bRs (n - 1) (by omega) W.heap.size g cv H (by have := hw.out; omega) W4 zY (by omega) zQ zN) (fun h k => Keep2.trans h k) (k2b (by omega) zY) (Below.refl _ _) (fun _ => rfl)
   (fun (pre : List (IxR H)) W => ((BoxN W (w.heap.size + 1) 45 [.slice pb np cb, .slice pu U.length cu, .slice ps ns cs] /\ BoxN W (w.heap.size + 2) 83 [.string x, .string y, .string (RS z)] /\ BoxN W (w.heap.size + 3) 84 [.slice none 0 0] /\ BoxN W (w.heap.size + 4) 49 [.int .i64 0] /\ BoxN W (a + 1) 55 [.string (RS (logTo U H z (pre.map Subtype.val)).2)]) /\
     (∃ v, BoxN W a 84 [v] /\ W.ownsRow W4.heap.size 99 3 v (logTo U H z (pre.map Subtype.val)).1.length (cIv (logTo U H z (pre.map Subtype.val)).1)) /\ W4.heap.size <= W.heap.size /\ W.heap[D]? = some (.deferred (some []))) /\ Below w.heap.size w W)
   (fun _ _ _ => False)
   (OwnFrom.and (fun s A B row hs hg' hr => by
     obtain ⟨⟨e1, e2, e3, e4, e6⟩, ⟨v, e7, C⟩, e9, h7⟩ := hs;have hz : ∀ r, row = some r -> ∃ o : Obj, A.heap[r]? = some o /\ o.isCells = false := fun r e => (hr r e).2;exact ⟨⟨bNk e1 hg' hz, bNk e2 hg' hz, bNk e3 hg' hz, bNk e4 hg' hz, bNk e6 hg' hz⟩, ⟨v, bNk e7 hg' hz, okt C hg' hz⟩, Nat.le_trans e9 hg'.size, (hg'.block D (Array.getElem?_eq_some_iff.1 h7).1 (fun e => by have := (hr D e.symm).1; omega)).trans h7⟩) (ownFrom_below (Nat.le_refl _) (by have := zG.size; omega)))
   (fun _ _ _ _ _ hs _ _ => hs)
   ⟨⟨⟨e1, e2, e3, e4, e6⟩, ⟨_, e5, World.ownsRow_nil _ _ _ _⟩, Nat.le_refl _, yk⟩, zG⟩
   ?a1' ?assign' ?body' ?done' ?stop'
  case assign' =>
   intro l x W K hK;dsimp only [eBR]
   gi_wp2
   exact hK
  case body' =>
   rintro l pre G W5 ⟨⟨⟨e1, e2, e3, e4, e6⟩, ⟨v, e7, C⟩, e9, h7⟩, z3⟩ yB;have z7 := G.2;have zc : G.1 < U.length := by have := hw.out; omega
   have hf : (H[G.1]?).getD 0 = H[G.1] := by rw [List.getElem?_eq_getElem z7]; rfl
   have hO := lTs U H z (pre.map Subtype.val) G.1;have hT := lTl U H z (pre.map Subtype.val);rw [List.length_map] at hT;have hV := lTS (U := U) hk zt.out hP.out (pre.map Subtype.val);have zv : Hid ((pre ++ [G]).map Subtype.val = pre.map Subtype.val ++ [G.1]) := by unfold Hid; rw [List.map_append]; rfl
   unfold lSp at hO;rw [hf] at hO;have zk := zt.out _ (List.getElem_mem z7);obtain ⟨st, I, zq⟩ : ∃ st I, logTo U H z (pre.map Subtype.val) = (st, I) := ⟨_, _, rfl⟩;rw [zq] at e6 C hO hT hV;dsimp only at e6 C hO hT hV;have yV := hid zq;have hX := hid hO;rw [hf];generalize H[G.1] = hq at *;have zs : Hid (∀ w', Good w' -> _) := fun w' hg' => rCa hq I k hk (by omega) zk hV w' hg'
   have zw : Hid (∀ w', Good w' -> _) := fun w' hg' => rSa z I k hk (by omega) hP.out hV w' hg'
   have zx : Hid (∀ w', Good w' -> _) := fun w' hg' => rSa z hq k hk (by omega) hP.out zk w' hg'
   have y8 : Hid (∀ w', Good w' -> _) := fun w' hg' => rCo (z - I) ((hP.out.sub hV).mono (by omega)) w' hg'
   have y9 : Hid (∀ w', Good w' -> _) := fun w' hg' => rCo (z - hq) ((hP.out.sub zk).mono (by omega)) w' hg'
   have t0 := e6.cell 0 rfl;have yv := hg.below z3;have zp := e6.lt;clear zq hO hf;gi_wp2_with fail;refine ⟨trivial, by intro; omega, ?_⟩;refine CallsIn.mono (CallsIn.inRound l (callsIn_wide.2 (zs.out W5 yv))) ?_;rintro e W6 ⟨_, rfl, rfl, h2⟩;have hL := zbt z3 h2;have xm := h2.size;have ze := ka0 h2;have yi := (Array.getElem?_eq_some_iff.1 h7).1;replace h7 : W6.heap[D]? = _ := (h2.block D yi).trans h7;replace e1 := e1.bl h2;replace e2 := e2.bl h2;replace e3 := e3.bl h2;replace e4 := e4.bl h2;replace e6 := e6.bl h2;replace e7 := e7.bl h2;replace C := WRA C h2;have zd : Keep2 g W.heap.size W5 W6 := ⟨h2.block _ (by omega), h2.block _ (by omega)⟩;clear zs t0;by_cases hlt : hq < I
   ·have zM : cmpQ hq I = -1 := by unfold cmpQ; rw [if_pos hlt]
    have yq : decide (0 <= cmpQ hq I) = false := decide_eq_false (by omega);have hm : Hid (logTo U H z ((pre ++ [G]).map Subtype.val) = (st ++ [⟨U[G.1]?.getD ⟨#[]⟩, z - I, z - hq⟩], hq)) := by
     unfold Hid; rw [zv.out, hX.out, if_pos hlt]
    generalize cmpQ hq I = cz at *;clear hX hlt;gi_wp2_with fail;obtain ⟨bu, ou, yW, yC, yp, xi, hv⟩ := HU.out.cells (by omega);injection yC with hv1 hv2 hv3
    subst hv1 hv3;have zW : U[G.1]?.getD ⟨#[]⟩ = U[G.1] := by rw [List.getElem?_eq_getElem zc]; rfl
    have zy := hid zW;have xu := hv G.1 zc;generalize U[G.1] = un at *;have xk : (G.1 : Int) < (U.length : Int) := by omega
    have zu : Hid (∀ X, Below W6.heap.size W6 X -> X.cell? ⟨w.heap.size + 1, 1, none⟩ = some (.slice (some ⟨bu, ou, none⟩) U.length cu) /\ X.cell? ⟨bu, ou + G.1, none⟩ = some (.string un) /\ X.cell? ⟨w.heap.size + 2, 2, none⟩ = some (.string (RS z)) /\ X.cell? ⟨a + 1, 0, none⟩ = some (.string (RS I))) := fun X hb =>
     ⟨(e1.bl hb).cell 1 rfl, (((zbt hL hb)).cell (p := ⟨bu, ou + G.1, none⟩) yp).trans xu, (e2.bl hb).cell 2 rfl, (e6.bl hb).cell 0 rfl⟩
    have zf : Hid (∀ X, Below W6.heap.size W6 X -> Good X) := fun X hb => hg.below ((zbt hL hb));clear hv xu zW;refine wIr (fun i v => match i with
     | 0 => v = .pointer (some ⟨w.heap.size + 1, 1, none⟩) | 1 => v = .slice (some ⟨bu, ou, none⟩) U.length cu | 2 => v = .int .i64 (G.1 : Int) | 3 => v = .pointer (some ⟨bu, ou + G.1, none⟩) | 4 => v = .string un | 5 => v = .pointer (some ⟨w.heap.size + 2, 2, none⟩) | 6 => v = .string (RS z) | 7 => v = .string (RS I) | 8 => v = .string (RS (z - I)) | 9 => v = .pointer (some ⟨w.heap.size + 2, 2, none⟩) | 10 => v = .string (RS z) | 11 => v = .string (RS hq) | 12 => v = .string (RS (z - hq)) | 13 => v = .agg #[.string un, .string (RS (z - I)), .string (RS (z - hq))] | 14 => ∃ b, v = .pointer (some ⟨b, 0, none⟩) | _ => v = undef)
     (C14 W6 [.string un, .string (RS (z - I)), .string (RS (z - hq))]) (by kernel_rfl) (by kernel_rfl) ⟨bdN W6 1, fun h => by simp at h⟩ ?_ ?_
    ·intro hl M X i o R zm Z Y O
     have J := ga0 hl;obtain ⟨x1, xU, x2, x3⟩ := zu.out X O.1;have zP := zf.out X O.1;have o4 : M.eval (.tmp 4) = .pointer (some ⟨w.heap.size + 1, 0, none⟩) := Y.old 4 (by intro j oj V; rcases j with _|_|_|_|_|_|_|_|_|_|_|_|_|_|_|_|j <;> first | (injection V with V; subst V; simp) | exact absurd V (by simp));have o5 : M.eval (.tmp 5) = .pointer (some ⟨w.heap.size + 2, 0, none⟩) := Y.old 5 (by intro j oj V; rcases j with _|_|_|_|_|_|_|_|_|_|_|_|_|_|_|_|j <;> first | (injection V with V; subst V; simp) | exact absurd V (by simp));have xr : M.eval (.tmp 10) = .pointer (some ⟨a + 1, 0, none⟩) := Y.old 10 (by intro j oj V; rcases j with _|_|_|_|_|_|_|_|_|_|_|_|_|_|_|_|j <;> first | (injection V with V; subst V; simp) | exact absurd V (by simp));have xs : M.eval (.tmp 14) = .int .i64 (G.1 : Int) := Y.old 14 (by intro j oj V; rcases j with _|_|_|_|_|_|_|_|_|_|_|_|_|_|_|_|j <;> first | (injection V with V; subst V; simp) | exact absurd V (by simp));have xt : M.eval (.tmp 15) = .string (RS hq) := Y.old 15 (by intro j oj V; rcases j with _|_|_|_|_|_|_|_|_|_|_|_|_|_|_|_|j <;> first | (injection V with V; subst V; simp) | exact absurd V (by simp));rcases i with _|_|_|_|_|_|_|_|_|_|_|_|_|_|_|_|i
     ·injection R with R; subst R
      refine ⟨rfl, wIv (w' := X) (by intro c S; cases S) (by intro c S; cases S) ?_ ⟨_, rfl, rfl, O.put (Below.refl _ _) 0 48 _ (by decide) (by decide) (by decide)⟩⟩;clear Z Y J O;generalize M.eval = ρ at *;simp [execOp, go_sem, *]
     ·injection R with R; subst R
      have yX : M.eval (.tmp 48) = .pointer (some ⟨w.heap.size + 1, 1, none⟩) := Y.has 0 _ 48 rfl rfl (Z ⟨0, .data⟩ (by simp) rfl);refine ⟨rfl, wIv (w' := X) (by intro c S; cases S) (by intro c S; cases S) ?_ ⟨_, rfl, rfl, O.put (Below.refl _ _) 1 49 _ (by decide) (by decide) (by decide)⟩⟩;clear Z Y J O;generalize M.eval = ρ at *;simp [execOp, go_sem, *]
     ·injection R with R; subst R
      refine ⟨rfl, wIv (w' := X) (by intro c S; cases S) (by intro c S; cases S) ?_ ⟨_, rfl, rfl, O.put (Below.refl _ _) 2 50 _ (by decide) (by decide) (by decide)⟩⟩;clear Z Y J O;generalize M.eval = ρ at *;simp [execOp, go_sem, *]
     ·injection R with R; subst R
      have yY : M.eval (.tmp 49) = .slice (some ⟨bu, ou, none⟩) U.length cu := Y.has 1 _ 49 rfl rfl (Z ⟨1, .data⟩ (by simp) rfl);have yZ : M.eval (.tmp 50) = .int .i64 (G.1 : Int) := Y.has 2 _ 50 rfl rfl (Z ⟨2, .data⟩ (by simp) rfl);refine ⟨rfl, wIv (w' := X) (by intro c S; cases S) (by intro c S; cases S) ?_ ⟨_, rfl, rfl, O.put (Below.refl _ _) 3 51 _ (by decide) (by decide) (by decide)⟩⟩;clear Z Y J O;generalize M.eval = ρ at *;simp [execOp, go_sem, *]
     ·injection R with R; subst R
      have x4 : M.eval (.tmp 51) = .pointer (some ⟨bu, ou + G.1, none⟩) := Y.has 3 _ 51 rfl rfl (Z ⟨3, .data⟩ (by simp) rfl);refine ⟨rfl, wIv (w' := X) (by intro c S; cases S) (by intro c S; cases S) ?_ ⟨_, rfl, rfl, O.put (Below.refl _ _) 4 52 _ (by decide) (by decide) (by decide)⟩⟩;clear Z Y J O;generalize M.eval = ρ at *;simp [execOp, go_sem, *]
     ·injection R with R; subst R
      refine ⟨rfl, wIv (w' := X) (by intro c S; cases S) (by intro c S; cases S) ?_ ⟨_, rfl, rfl, O.put (Below.refl _ _) 5 53 _ (by decide) (by decide) (by decide)⟩⟩;clear Z Y J O;generalize M.eval = ρ at *;simp [execOp, go_sem, *]
     ·injection R with R; subst R
      have x6 : M.eval (.tmp 53) = .pointer (some ⟨w.heap.size + 2, 2, none⟩) := Y.has 5 _ 53 rfl rfl (Z ⟨5, .data⟩ (by simp) rfl);refine ⟨rfl, wIv (w' := X) (by intro c S; cases S) (by intro c S; cases S) ?_ ⟨_, rfl, rfl, O.put (Below.refl _ _) 6 54 _ (by decide) (by decide) (by decide)⟩⟩;clear Z Y J O;generalize M.eval = ρ at *;simp [execOp, go_sem, *]
     ·injection R with R; subst R
      refine ⟨rfl, wIv (w' := X) (by intro c S; cases S) (by intro c S; cases S) ?_ ⟨_, rfl, rfl, O.put (Below.refl _ _) 7 55 _ (by decide) (by decide) (by decide)⟩⟩;clear Z Y J O;generalize M.eval = ρ at *;simp [execOp, go_sem, *]
     ·injection R with R; subst R
      have x7 : M.eval (.tmp 54) = .string (RS z) := Y.has 6 _ 54 rfl rfl (Z ⟨6, .data⟩ (by simp) rfl);have x8 : M.eval (.tmp 55) = .string (RS I) := Y.has 7 _ 55 rfl rfl (Z ⟨7, .data⟩ (by simp) rfl);refine ⟨rfl, wIc (f := 23) (args := #[.string (RS z), .string (RS I)]) (w' := X) (by intro c S; cases S) (fun _ _ => trivial) ?_ ⟨fun _ => by omega, ?_⟩⟩
      ·have ef : M.eval (.func 23) = .func (.func 23) #[] #[] := rfl
       clear Z Y J O;generalize M.eval = ρ at *;simp [execOp, go_sem, *]
      ·refine CallsIn.mono (CallsIn.inRound l (callsIn_wide.2 (zw.out X zP))) ?_
       rintro e X2 ⟨_, rfl, rfl, h3⟩;exact ⟨_, rfl, _, rfl, rfl, O.put h3 8 56 _ (by decide) (by decide) (by decide)⟩
     ·injection R with R; subst R
      refine ⟨rfl, wIv (w' := X) (by intro c S; cases S) (by intro c S; cases S) ?_ ⟨_, rfl, rfl, O.put (Below.refl _ _) 9 57 _ (by decide) (by decide) (by decide)⟩⟩;clear Z Y J O;generalize M.eval = ρ at *;simp [execOp, go_sem, *]
     ·injection R with R; subst R
      have xa : M.eval (.tmp 57) = .pointer (some ⟨w.heap.size + 2, 2, none⟩) := Y.has 9 _ 57 rfl rfl (Z ⟨9, .data⟩ (by simp) rfl);refine ⟨rfl, wIv (w' := X) (by intro c S; cases S) (by intro c S; cases S) ?_ ⟨_, rfl, rfl, O.put (Below.refl _ _) 10 58 _ (by decide) (by decide) (by decide)⟩⟩;clear Z Y J O;generalize M.eval = ρ at *;simp [execOp, go_sem, *]
     ·injection R with R; subst R
      refine ⟨rfl, wIv (w' := X) (by intro c S; cases S) (by intro c S; cases S) ?_ ⟨_, rfl, rfl, O.put (Below.refl _ _) 11 59 _ (by decide) (by decide) (by decide)⟩⟩;clear Z Y J O;generalize M.eval = ρ at *;simp [execOp, go_sem, *]
     ·injection R with R; subst R
      have xb : M.eval (.tmp 58) = .string (RS z) := Y.has 10 _ 58 rfl rfl (Z ⟨10, .data⟩ (by simp) rfl);have xc : M.eval (.tmp 59) = .string (RS hq) := Y.has 11 _ 59 rfl rfl (Z ⟨11, .data⟩ (by simp) rfl);refine ⟨rfl, wIc (f := 23) (args := #[.string (RS z), .string (RS hq)]) (w' := X) (by intro c S; cases S) (fun _ _ => trivial) ?_ ⟨fun _ => by omega, ?_⟩⟩
      ·have ef : M.eval (.func 23) = .func (.func 23) #[] #[] := rfl
       clear Z Y J O;generalize M.eval = ρ at *;simp [execOp, go_sem, *]
      ·refine CallsIn.mono (CallsIn.inRound l (callsIn_wide.2 (zx.out X zP))) ?_
       rintro e X2 ⟨_, rfl, rfl, h3⟩;exact ⟨_, rfl, _, rfl, rfl, O.put h3 12 60 _ (by decide) (by decide) (by decide)⟩
     ·injection R with R; subst R
      have x5 : M.eval (.tmp 52) = .string un := Y.has 4 _ 52 rfl rfl (Z ⟨4, .data⟩ (by simp) rfl);have x9 : M.eval (.tmp 56) = .string (RS (z - I)) := Y.has 8 _ 56 rfl rfl (Z ⟨8, .data⟩ (by simp) rfl);have xd : M.eval (.tmp 60) = .string (RS (z - hq)) := Y.has 12 _ 60 rfl rfl (Z ⟨12, .data⟩ (by simp) rfl);refine ⟨rfl, wIv (w' := X) (by intro c S; cases S) (by intro c S; cases S) ?_ ⟨_, rfl, rfl, O.put (Below.refl _ _) 13 61 _ (by decide) (by decide) (by decide)⟩⟩;clear Z Y J O;generalize M.eval = ρ at *;simp [execOp, go_sem, *]
     ·injection R with R; subst R
      have yg : hl.getD 15 false = false := Bool.eq_false_iff.2 fun h => by
       have h5 := Y.closed 15 _ rfl h ⟨14, .data⟩ (by simp) rfl;rw [gDf zm] at h5; cases h5
      refine ⟨rfl, wIv (v := .pointer (some ⟨X.heap.size, 0, none⟩)) (w' := X.alloc (.cells #[.string ⟨#[]⟩, .string ⟨#[]⟩, .string ⟨#[]⟩] 99)) (by intro c S; cases S) (by intro c S; cases S) ?_ ⟨_, ⟨_, rfl⟩, rfl, O.1.alloc O.1.size _, fun _ => ⟨X.heap.size, O.1.size, eps (by rw [Y.tsize]; simp), ?_⟩⟩⟩
      ·clear Z Y J O
       generalize M.eval = ρ at *;simp [execOp, go_sem, *]
      ·rw [J 14 15 (by decide), yg, if_neg (by decide)]
       exact BoxN.new X #[.string ⟨#[]⟩, .string ⟨#[]⟩, .string ⟨#[]⟩] _ _ rfl
     ·injection R with R; subst R
      have xe : M.eval (.tmp 61) = .agg #[.string un, .string (RS (z - I)), .string (RS (z - hq))] := Y.has 13 _ 61 rfl rfl (Z ⟨13, .data⟩ (by simp) rfl);obtain ⟨b, h4, yo, hM⟩ := O.2 (Z ⟨14, .data⟩ (by simp) rfl);rw [gDf zm, if_neg (by decide)] at hM;obtain ⟨y0, y1, y2⟩ := zk3 hM;have z0 := hM.frozen 0;have z1 := hM.frozen 1;have z2 := hM.frozen 2;refine ⟨rfl, wIs (w' := ((X.setCell ⟨b, 0, none⟩ (.string un)).setCell ⟨b, 1, none⟩ (.string (RS (z - I)))).setCell ⟨b, 2, none⟩ (.string (RS (z - hq)))) (by intro c S; cases S) (by intro c S; cases S) ?_ ⟨_, rfl, rfl, ((O.1.setCell (p := ⟨b, 0, none⟩) h4 _).setCell (p := ⟨b, 1, none⟩) h4 _).setCell (p := ⟨b, 2, none⟩) h4 _, fun _ => ⟨b, h4, yo, ?_⟩⟩⟩
      ·clear Z Y J O
       generalize M.eval = ρ at *;simp [execOp, go_sem, *]
      ·rw [gDn zm, if_pos rfl]
       exact ((hM.set 0 _).set 1 _).set 2 _
     ·exact absurd R (by simp)
    ·intro hl M X Q Y O
     obtain ⟨bi, yQ, zb, ht⟩ := O.2 (Q 14 (by simp));rw [Q 15 (by simp), if_pos rfl] at ht;have z4 := O.1;have za := aof M [(48, .pointer (some ⟨w.heap.size + 1, 1, none⟩)), (49, .slice (some ⟨bu, ou, none⟩) U.length cu), (50, .int .i64 (G.1 : Int)), (51, .pointer (some ⟨bu, ou + G.1, none⟩)), (52, .string un), (53, .pointer (some ⟨w.heap.size + 2, 2, none⟩)), (54, .string (RS z)), (55, .string (RS I)), (56, .string (RS (z - I))), (57, .pointer (some ⟨w.heap.size + 2, 2, none⟩)), (58, .string (RS z)), (59, .string (RS hq)), (60, .string (RS (z - hq))), (61, .agg #[.string un, .string (RS (z - I)), .string (RS (z - hq))]), (16, .pointer (some ⟨bi, 0, none⟩))] _ Y.tsize Y.defers (fun s hs => Y.old s (by
      simp at hs;intro j oj V; rcases j with _|_|_|_|_|_|_|_|_|_|_|_|_|_|_|_|j <;> first | (injection V with V; subst V; simp; omega) | (injection V with V; subst V; simp; done) | exact absurd V (by simp))) ?_ (by simp)
     rotate_left
     ·intro p hp
      simp only [List.mem_cons, List.not_mem_nil, or_false] at hp;rcases hp with rfl|rfl|rfl|rfl|rfl|rfl|rfl|rfl|rfl|rfl|rfl|rfl|rfl|rfl|rfl
      ·exact Y.has 0 _ 48 rfl rfl (Q 0 (by simp))
      ·exact Y.has 1 _ 49 rfl rfl (Q 1 (by simp))
      ·exact Y.has 2 _ 50 rfl rfl (Q 2 (by simp))
      ·exact Y.has 3 _ 51 rfl rfl (Q 3 (by simp))
      ·exact Y.has 4 _ 52 rfl rfl (Q 4 (by simp))
      ·exact Y.has 5 _ 53 rfl rfl (Q 5 (by simp))
      ·exact Y.has 6 _ 54 rfl rfl (Q 6 (by simp))
      ·exact Y.has 7 _ 55 rfl rfl (Q 7 (by simp))
      ·exact Y.has 8 _ 56 rfl rfl (Q 8 (by simp))
      ·exact Y.has 9 _ 57 rfl rfl (Q 9 (by simp))
      ·exact Y.has 10 _ 58 rfl rfl (Q 10 (by simp))
      ·exact Y.has 11 _ 59 rfl rfl (Q 11 (by simp))
      ·exact Y.has 12 _ 60 rfl rfl (Q 12 (by simp))
      ·exact Y.has 13 _ 61 rfl rfl (Q 13 (by simp))
      ·exact zb
     rw [za];clear za Q Y O zb;simp only [List.foldl_cons, List.foldl_nil, Act.put, List.setIfInBounds_toArray, List.set_cons_zero, List.set_cons_succ];have yw := zf.out X z4;have yO := zbt hL z4;have xn := z4.size;have i1 := ht.cell 1 rfl;have yJ := ht.cell 2 rfl;clear zu zf zw zx;gi_wp2_with fail;refine ⟨trivial, by intro; omega, ?_⟩;refine CallsIn.mono (CallsIn.inRound l (callsIn_wide.2 (y8.out X yw))) ?_;rintro e X2 ⟨_, rfl, rfl, h3⟩;have hS := ht.bl h3;have z5 := zbt z4 h3;have zU := h3.size;have i3 := hS.cell 2 rfl;clear h3 i1 yJ ht;gi_wp2_with fail;refine ⟨trivial, by intro; omega, ?_⟩;refine CallsIn.mono (CallsIn.inRound l (callsIn_wide.2 (y9.out X2 (hg.below ((zbt hL z5)))))) ?_;rintro e X3 ⟨_, rfl, rfl, h3⟩;have zL := hS.bl h3;have t := zbt z5 h3;have xo := h3.size;clear h3 i3 hS;have hR := zbt hL t;have f1 := e1.bl t;have f2 := e2.bl t;have f3 := e3.bl t;have f4 := e4.bl t;have f6 := e6.bl t;have f7 := e7.bl t;have f8 := WRA C t;have zB : X3.heap[D]? = _ := (t.block D (Array.getElem?_eq_some_iff.1 h7).1).trans h7;obtain ⟨pv, he, rfl⟩ := oRs f8;obtain ⟨N, hN⟩ := zex (X3.alloc (.cells #[.string un, .string (RS (z - I)), .string (RS (z - hq))] 99));obtain ⟨j0, j1, j2⟩ := zk3 zL;have j7 := f7.cell 0 rfl;have zC := f7.alloc (.cells #[.string un, .string (RS (z - I)), .string (RS (z - hq))] 99);have hY := f8.alloc (.cells #[.string un, .string (RS (z - I)), .string (RS (z - hq))] 99);have zr := obN hY zC (by decide);have zp := f6.lt;have yS : st.length <= 1000 := by have := hw.out; omega
     gi_wp2_with (gi_at_builtin; refine wpListIn_append_own _ rfl _ _ 84 rfl W4.heap.size 99 i2 (.agg #[.string ⟨#[]⟩, .string ⟨#[]⟩, .string ⟨#[]⟩]) 3 48 Tryz.underlying84 yz yD yE hA rfl (by decide) _ _ _ rfl hY ⟨X3.heap.size, 0, none⟩ 1 1 [.string un, .string (RS (z - I)), .string (RS (z - hq))] rfl rfl (cte _ _ _ _ _) (by intro u hu; simp at hu; rcases hu with rfl | rfl | rfl <;> rfl) (by unfold maxLen; omega) (by omega) (by simp; omega) ?_
                  intro v8 w8 h8 hd _;have r7 := zC.gb hd (fun e => zr e.symm);have y0 := r7.cell 0 rfl;have yN := r7.frozen 0;have r6 := (f6.alloc (.cells #[.string un, .string (RS (z - I)), .string (RS (z - hq))] 99)).gb hd (fun e => obN hY (f6.alloc (.cells #[.string un, .string (RS (z - I)), .string (RS (z - hq))] 99)) (by decide) e.symm);have y6 := r6.cell 0 rfl;have xy := r6.frozen 0;obtain ⟨p8, c8, rfl⟩ := oRs h8)
     have zT := hd.size;simp at zT;have L : ∀ j, j < X3.heap.size -> (∀ r, (Value.slice pv st.length he).ownBlock = some r -> j ≠ r) -> j ≠ a -> j ≠ a + 1 -> ((w8.setCell ⟨a, 0, none⟩ (.slice p8 (st.length + 1) c8)).setCell ⟨a + 1, 0, none⟩ (.string (RS hq))).heap[j]? = X3.heap[j]? := fun j V hr hn1 hn2 => by
      rw [Below.heap_setCell _ _ _ j (fun e => hn2 e), Below.heap_setCell _ _ _ j (fun e => hn1 e), hd.block j (by simp; omega) (fun e => hr j e.symm rfl)];exact ho0 _ _ _ V
     have d : ∀ j, j < W4.heap.size -> ∀ r, (Value.slice pv st.length he).ownBlock = some r -> j ≠ r := fun j V r hr => by have := (f8.lt r hr).1; omega
     have zh : KeepsOthers X3 ((w8.setCell ⟨a, 0, none⟩ (.slice p8 (st.length + 1) c8)).setCell ⟨a + 1, 0, none⟩ (.string (RS hq))) := ⟨by simp; omega, fun j o V R => by
      have zl := (Array.getElem?_eq_some_iff.1 V).1;refine (L j zl (fun r hr e => ?_) (fun e => ?_) (fun e => ?_)).trans V
      ·subst e
       rcases f8.2 with ⟨h0, _⟩ | ⟨g', cap, ye, h0, hb, zj, _⟩
       ·rw [h0] at hr; cases hr
       ·injection h0 with h0 _ _
        rw [h0] at hr;cases hr;rw [zj] at V;cases V;cases R
      ·subst e
       unfold BoxN at f7;rw [f7] at V;cases V;cases R
      ·subst e
       unfold BoxN at f6;rw [f6] at V;cases V;cases R⟩
     have zn := f1.lt;have zo := f2.lt;have z8 := f3.lt;have z9 := f4.lt;have yM := bKf (i := 0) (v := .string (RS hq)) (r7.set 0 (.slice p8 (st.length + 1) c8)) (show a ≠ a + 1 by omega);have yK := (bKf (i := 0) (v := .slice p8 (st.length + 1) c8) r6 (show a + 1 ≠ a by omega)).set 0 (.string (RS hq));have h9 := World.ownsRow.kept h8 (gst (grl w8 (some a)) 0 (.slice p8 (st.length + 1) c8)) (.inr (fun e => obN h8 r7 (by decide) e.symm));have yL := bKf (i := 0) (v := .slice p8 (st.length + 1) c8) r6 (show a + 1 ≠ a by omega);have yf := World.ownsRow.kept h9 (gst (grl _ (some (a + 1))) 0 (.string (RS hq))) (.inr (fun e => obN h9 yL (by decide) e.symm));have zH := (Array.getElem?_eq_some_iff.1 zB).1;have zE : Below w.heap.size w ((w8.setCell ⟨a, 0, none⟩ (.slice p8 (st.length + 1) c8)).setCell ⟨a + 1, 0, none⟩ (.string (RS hq))) := (((hR.alloc hR.size (.cells #[.string un, .string (RS (z - I)), .string (RS (z - hq))] 99)).grown hd (by have := hR.size; simp; omega) (fun j V => by have := (hY.lt j V).1; omega)).setCell (p := ⟨a, 0, none⟩) (by show w.heap.size <= a; omega) _).setCell (p := ⟨a + 1, 0, none⟩) (by show w.heap.size <= a + 1; omega) _;have zS : Keep2 g W.heap.size W6 ((w8.setCell ⟨a, 0, none⟩ (.slice p8 (st.length + 1) c8)).setCell ⟨a + 1, 0, none⟩ (.string (RS hq))) := ⟨(L g (by omega) (d g (by omega)) (by omega) (by omega)).trans (t.block _ (by omega)), (L _ (by omega) (d _ (by omega)) (by omega) (by omega)).trans (t.block _ (by omega))⟩;refine ⟨(ze.trans (ka0 t)).trans zh, zd.trans zS, ⟨⟨⟨(L _ zn (d _ (by omega)) (by omega) (by omega)).trans f1, (L _ zo (d _ (by omega)) (by omega) (by omega)).trans f2, (L _ z8 (d _ (by omega)) (by omega) (by omega)).trans f3, (L _ z9 (d _ (by omega)) (by omega) (by omega)).trans f4, ?_⟩, ⟨.slice p8 (st.length + 1) c8, ?_, ?_⟩, by simp; omega, (L D zH (d D (by omega)) (by omega) (by omega)).trans zB⟩, zE⟩⟩
     ·rw [hm.out]; exact yK
     ·exact yM
     ·rw [hm.out]
      show World.ownsRow _ _ _ _ _ (st ++ [_]).length (cIv (st ++ [_]));rw [cIs, List.length_append, zy.out];exact yf
   ·have zM : 0 <= cmpQ hq I := by unfold cmpQ; rw [if_neg hlt]; split <;> omega
    have yq : decide (0 <= cmpQ hq I) = true := decide_eq_true zM;have hm : Hid (logTo U H z ((pre ++ [G]).map Subtype.val) = (st, I)) := by
     unfold Hid; rw [zv.out, hX.out, if_neg hlt]
    generalize cmpQ hq I = cz at *;clear hX hlt;gi_wp2_with fail;refine ⟨ze, zd, ⟨⟨⟨e1, e2, e3, e4, ?_⟩, ⟨v, e7, ?_⟩, by omega, h7⟩, hL⟩⟩
    ·rw [hm.out]; exact e6
    ·rw [hm.out]; exact C
  case done' =>
   rintro D2 ys W5 xf hF ⟨⟨⟨e1, e2, e3, e4, e6⟩, ⟨v, e7, C⟩, e9, h7⟩, z3⟩ zJ;rw [hF] at C;have ya : Hid ((logTo U H z (bwd H.length H.length)).1 = logL U H z) := rfl;rw [ya.out] at C;obtain ⟨pv, he, rfl⟩ := oRs C;have x0 := e7.cell 0 rfl;have y3 := e3.cell 0 rfl;have xw := e3.frozen 0;have y4 := e4.cell 0 rfl;have xx := e4.frozen 0;have z8 := e3.lt;have z9 := e4.lt;have yP := (Array.getElem?_eq_some_iff.1 zJ).1;clear hF;gi_wp2_with fail;have zK : ∀ E : Nat, E ≠ w.heap.size + 3 -> E ≠ w.heap.size + 4 -> ((W5.setCell ⟨w.heap.size + 3, 0, none⟩ (.slice pv (logL U H z).length he)).setCell ⟨w.heap.size + 4, 0, none⟩ (.int .i64 0)).heap[E]? = W5.heap[E]? := fun E n1 n2 => by
    rw [Below.heap_setCell _ _ _ E (fun e => n2 e), Below.heap_setCell _ _ _ E (fun e => n1 e)]
   have r3 := bKf (i := 0) (v := .int .i64 0) (e3.set 0 (.slice pv (logL U H z).length he)) (show w.heap.size + 3 ≠ w.heap.size + 4 by omega);have r4 := (bKf (i := 0) (v := .slice pv (logL U H z).length he) e4 (show w.heap.size + 4 ≠ w.heap.size + 3 by omega)).set 0 (.int .i64 0);have o1 := World.ownsRow.kept C (gst (grl W5 (some (w.heap.size + 3))) 0 (.slice pv (logL U H z).length he)) (.inr (fun e => by have := (C.lt _ e).1; omega));have o2 := World.ownsRow.kept o1 (gst (grl _ (some (w.heap.size + 4))) 0 (.int .i64 0)) (.inr (fun e => by have := (C.lt _ e).1; omega));have yh := (z3.setCell (p := ⟨w.heap.size + 3, 0, none⟩) (by show w.heap.size <= w.heap.size + 3; omega) (.slice pv (logL U H z).length he)).setCell (p := ⟨w.heap.size + 4, 0, none⟩) (by show w.heap.size <= w.heap.size + 4; omega) (.int .i64 0);have xg : D ≠ D2 := by omega
   have zV : w2.heap.size <= W5.heap.size := by omega
   refine lms (B := w2.heap.size) ⟨[D2, D], rfl, (by simp; omega), fun E hE => by
    rcases List.mem_cons.1 hE with rfl | hE
    ·exact ⟨by omega, (zK _ (by omega) (by omega)).trans zJ⟩
    ·rw [List.mem_singleton] at hE; subst hE; exact ⟨Y, (zK _ (by omega) (by omega)).trans h7⟩⟩ fun w' hw' => ?_
   have q3 : BoxN w' (w.heap.size + 3) 84 [.slice pv (logL U H z).length he] := (hw'.block _ (.inl (by omega)) r3.lt).trans r3;have q4 : BoxN w' (w.heap.size + 4) 49 [.int .i64 0] := (hw'.block _ (.inl (by omega)) r4.lt).trans r4;have k3 := q3.cell 0 rfl;have k4 := q4.cell 0 rfl;refine ⟨.tuple #[.slice pv (logL U H z).length he, .int .i64 0], by simp [results, Tryz.results31, go_sem, k3, k4], ?_⟩;refine ⟨_, rfl, ⟨_, rfl, oRb (osk o2 hw') (by omega)⟩, yh.trans ((hw'.below (by simpa using zV)).mono (by omega))⟩
  case stop' =>
   rintro D c pre W Y yl h hK;exact h.elim
 case stop =>
  rintro D c pre W Y yl h hK;exact h.elim
theorem lj0 (w : World) (n : Good w) (M K N X L : Option Addr) (Z O Q S R V Y cs : Nat) (x y : ByteArray) (z : Rat) (U : List ByteArray) (H : List Rat) (p : H.length = U.length) (B : 0 < U.length) (A : U.length <= 1000) (o : RdS w (.slice X U.length Y) U)
 (k : Nat) (m : 0 < k) (t : k <= 90) (C : ∀ q ∈ H, Sz k q) (s : Sz k z) (D : Nat -> Option Addr) (E : Nat -> Nat)
 (J : Hid (∀ w', Below w.heap.size w w' -> Good w' -> Calls Tryz.prog 64 #[.agg #[.slice M Z S, .slice K O R], .agg #[.slice N Z V, .slice X U.length Y, .slice L Q cs], .agg #[.string x, .string y, .string (RS z)]] w' (Ret (fun r _ => r = .int .i64 0) w')))
 (I : Hid (∀ i, i < U.length -> ∀ w', Below w.heap.size w w' -> Calls Tryz.prog 48 #[.agg #[.slice N Z V, .slice X U.length Y, .slice L Q cs], .int .i64 (i : Int)] w' (Ret (fun r _ => r = .slice (D i) Z (E i)) w')))
 (G : Hid (∀ i, i < U.length -> ∀ w', Below w.heap.size w w' -> Good w' -> Calls Tryz.prog 114 #[.agg #[.slice M Z S, .slice K O R], .slice (D i) Z (E i), .agg #[.string x, .string y]] w' (Ret (fun r _ => r = .tuple #[.string (RS ((H[i]?).getD 0)), .int .i64 0]) w'))) :
 Calls Tryz.prog 31 #[.agg #[.slice M Z S, .slice K O R], .agg #[.slice N Z V, .slice X U.length Y, .slice L Q cs], .agg #[.string x, .string y, .string (RS z)]] w (Ret (fun r w' => ∃ v, r = .tuple #[v, .int .i64 0] /\ w'.ownsRow w.heap.size 99 3 v (logL U H z).length (cIv (logL U H z))) w) :=
 callsIn_wide.1 (lin 6 (by omega) w n M K N X L Z O Q S R V Y cs x y z U H p B A o k m t C s D E J I G)
end Go.Proofs.YtmcbeajdloaliaaGreatDoor
namespace Go.Proofs.YtmcbeajdloaliaaGreatDoor
open Go.RowKit Go.Lib
theorem dEr {P : List PtQ} {T : List Tri} {B : List Rat} {U : List ByteArray} {S : List (List Rat)} (R : T ≠ []) (Q : ∀ F ∈ B :: S, F.length = P.length) (M : ∀ F ∈ B :: S, ∀ q ∈ F, Sz 200 q) (L : U.length = S.length + 1) (V : U.length <= 60)
 (O : ∀ i (h : i < U.length), nameQ U[i] = true /\ hasS (U.take i) U[i] = false) (N : ∀ i, i < S.length -> belowB (fldN B S i) (fldN B S (i + 1)) = true) : depE P T (B.map RS) U (S.map fun F => F.map RS) = 0 := by
 have Z : ∀ F ∈ B :: S, errF P.length (F.map RS) = 0 := fun F hF => eFo (Q F hF) (M F hF);rw [dk0 R (Z B (by simp)), if_neg (by omega), if_neg (by omega)];rw [fEn (fun j hj => by
  obtain ⟨Y, X⟩ := O j hj;exact uBo hj Y X), if_neg (by simp), if_neg (by rw [List.length_map]; omega)]
 refine fEn fun j hj => ?_;rw [List.length_map] at hj;unfold sBd;rw [fTm, fTm, if_neg (by rw [Z _ (fNm B S (by omega))]; simp), nTm, nTm, if_pos (N j hj)]
def pP28 : List PtQ := [(0, 0), (4, 0), (4, 4), (0, 4)]
def tT28 : List Tri := [(0, 1, 2), (0, 2, 3)]
theorem k28_P : sb0 0 0 0 false = pP28 := by decide +kernel
theorem k28_T : sTT 0 = tT28 := by decide +kernel
theorem k2m : MeshOK pP28 tT28 2 := by rw [<- k28_P, <- k28_T]; exact sm0 0 0 0 false
theorem k2l : locN pP28 tT28 (1, 1) tT28.length = ((0 : Nat) : Int) :: [1] := by decide +kernel
theorem k2v : volTo pP28 tT28 (subQ [5, 5, 5, 5] [2, 2, 2, 2]) 0 tT28.length = 48 := by decide +kernel
def uU28 : List ByteArray := [⟨#[97]⟩, ⟨#[98]⟩, ⟨#[99]⟩]
theorem k2n : ∀ i (h : i < uU28.length), nameQ uU28[i] = true /\ hasS (uU28.take i) uU28[i] = false := by
 intro i h
 match i, h with
 | 0, _ => exact ⟨show nameQ ⟨#[97]⟩ = true by decide +kernel, show hasS [] ⟨#[97]⟩ = false by decide +kernel⟩
 | 1, _ => exact ⟨show nameQ ⟨#[98]⟩ = true by decide +kernel, show hasS [⟨#[97]⟩] ⟨#[98]⟩ = false by decide +kernel⟩
 | 2, _ => exact ⟨show nameQ ⟨#[99]⟩ = true by decide +kernel, show hasS [⟨#[97]⟩, ⟨#[98]⟩] ⟨#[99]⟩ = false by decide +kernel⟩
theorem sz2n (n : Nat) (h : n < 10) : Sz 2 ((n : Int) : Rat) := (sz1 n h).mono (by omega)
theorem k2s {F : List Rat} (h : F ∈ [([0, 0, 0, 0] : List Rat), [2, 2, 2, 2], [5, 5, 5, 5]]) : ∀ q ∈ F, Sz 2 q := by
 intro q hq;simp only [List.mem_cons, List.not_mem_nil, or_false] at h;rcases h with rfl | rfl | rfl <;> simp at hq <;> subst hq
 ·exact sz2n 0 (by omega)
 ·exact sz2n 2 (by omega)
 ·exact sz2n 5 (by omega)
theorem k2d : depE pP28 tT28 (([0, 0, 0, 0] : List Rat).map RS) uU28 (([[2, 2, 2, 2], [5, 5, 5, 5]] : List (List Rat)).map fun F => F.map RS) = 0 :=
 dEr (by decide) (by decide) (fun F hF q hq => (k2s hF q hq).mono (by omega)) rfl (by decide) k2n (by decide +kernel)
theorem k28_n {w : World} {vp vt vb vu vs : Value} (Y : RdP w vp (strP pP28)) (V : RdT w vt tT28) (Z : RdQ w vb [0, 0, 0, 0]) (U : RdS w vu uU28) (X : RdF w vs [[2, 2, 2, 2], [5, 5, 5, 5]]) : DepN w vp vt vb vu vs pP28 tT28 2 [0, 0, 0, 0] uU28 [[2, 2, 2, 2], [5, 5, 5, 5]] :=
 ⟨Y, V, k2m, Z, U, X, by decide, fun F hF => k2s hF, rfl, by decide, k2d⟩
theorem k28_at : uAt uU28 [0, 2, 5] 2 = ⟨#[98]⟩ /\ cHH [0, 2, 5] 2 = 2 := by decide +kernel
theorem k2c : decide (cHH [0, 2, 5] 2 = 0) = false := by decide +kernel
theorem kf0 : logL uU28 [0, 2, 5] 6 = [⟨⟨#[99]⟩, 0, 1⟩, ⟨⟨#[98]⟩, 1, 4⟩, ⟨⟨#[97]⟩, 4, 6⟩] := by decide +kernel
theorem k2i : insS [0, 0, 0, 0] [[2, 2, 2, 2], [5, 5, 5, 5]] [1, 1, 1, 1] 1 = [[2, 2, 2, 2], [3, 3, 3, 3], [6, 6, 6, 6]] := by decide +kernel
theorem kd0 : se0 pP28 [0, 0, 0, 0] (0, 1, 2) = (0, 0) /\ se0 pP28 [2, 2, 2, 2] (0, 1, 2) = (0, 0) /\ se0 pP28 [5, 5, 5, 5] (0, 1, 2) = (0, 0) /\ onQ pP28 [0, 0, 0, 0] (0, 1, 2) (1, 1) = 0 /\ onQ pP28 [2, 2, 2, 2] (0, 1, 2) (1, 1) = 2 /\ onQ pP28 [5, 5, 5, 5] (0, 1, 2) (1, 1) = 5 := by decide +kernel
open Go Go.Shelf
theorem wof {ops : Array Oper} {o ok : Oper} {a : Act} {k d : Nat} {b : Bool} (X : o.guard = some (k, b)) (V : ops[k]? = some ok) (Y : ok.dst = some d) (Z : a.eval (.tmp d) = .bool b) : Region.wanted o (yielded ops a.tmps) = true := by
 have h : a.tmps[d]? = some (.bool b) := by
  replace Z : a.tmps.getD d undef = .bool b := Z;rw [Array.getD_eq_getD_getElem?] at Z;cases hc : a.tmps[d]? with
  | none => rw [hc] at Z; cases Z
  | some v => rw [hc] at Z; exact congrArg some Z
 cases b <;> simp [Region.wanted, yielded, X, V, Y, h]
theorem wd0 {n : Nat} {P : Program} {Q : Exit -> Act -> World -> Prop} {o : Oper} {a : Act} {w w' : World} {K : Act -> World -> Prop} {v : Value} (Y : ∀ c, o.op ≠ .defer c) (X : (execOp a.eval o).run P w = .ok (.value v) w') (Z : K (a.put o.dst v) w') : o.wpIn Fence.wide n P a w K Q := by
 refine ⟨fun _ _ => trivial, ?_⟩;rw [Oper.semAt_eq _ _ _ Y, X]; exact Z
section
variable {P : Program} {Q : Exit -> Act -> World -> Prop}
structure Mono (ops : Array Oper) (V : Nat -> World -> Value -> Prop) (W : World) (a0 : Act) (listed : Array Bool) (a : Act) (X : World) : Prop where
 below : Below W.heap.size W X
 has : ∀ j oj d, ops[j]? = some oj -> oj.dst = some d -> listed.getD j false = true -> V j X (a.eval (.tmp d))
 old : ∀ s, (∀ (j : Nat) (oj : Oper), ops[j]? = some oj -> oj.dst ≠ some s) -> a.eval (.tmp s) = a0.eval (.tmp s)
theorem wrm {id : Nat} {l : List Oper} {a : Act} {w : World} (V : Nat -> World -> Value -> Prop) (B : ∀ i X X' v, V i X v -> Below X.heap.size X X' -> V i X' v) (A : P.follows .mixedOrders = true) (H : tidyB l.toArray a.tmps.size = true)
 (S : ∀ Z Y X i o, l.toArray[i]? = some o -> (∀ e ∈ o.after, Region.binds .any e = true -> Z.getD e.on false = true) -> Mono l.toArray V w a Z Y X ->
   Region.wanted o (yielded l.toArray Y.tmps) = true /\ o.wpIn Fence.wide 1 P Y X (fun a'' X' => ∃ v, Below X.heap.size X X' /\ (∀ d, o.dst = some d -> V i X' v) /\ a'' = Y.put o.dst v) Q)
 (N : ∀ Z Y X, (∀ i, i < l.toArray.size -> Z.getD i false = true) -> Mono l.toArray V w a Z Y X -> Y.tmps.size = a.tmps.size -> Y.defers = a.defers -> Q .normal Y X) :
 (Code.region id l.toArray true).wp P Q a w := by
 refine (wpIn_wide (n := 1)).1 ?_;refine wIr (fun _ _ => True) (fun Z Y X => Mono l.toArray V w a Z Y X) A H ⟨bdN w 1, fun j oj d hj _ J => ?_, fun _ _ => rfl⟩ ?_ ?_
 ·simp [Array.getD_eq_getD_getElem?] at J
  have M := (Array.getElem?_eq_some_iff.1 hj).1;simp at M;simp [M] at J
 ·intro Z Y X i o L J O K U
  obtain ⟨D, C⟩ := S Z Y X i o L O U;refine ⟨D, Oper.wpIn_mono (fun a'' X' h => ?_) C⟩;obtain ⟨v, E, z, rfl⟩ := h;refine ⟨v, trivial, rfl, (zbt U.below E), fun j oj d hj hd hlj => ?_, fun s hs => ?_⟩
  ·by_cases hji : i = j
   ·subst hji
    rw [L] at hj;cases hj;rw [hd, eps (by rw [K.tsize]; exact tdt H L hd)];exact z d hd
   ·rw [ga0 _ _ _ hji] at hlj
    have I : o.dst ≠ some d := fun e => tat H L hj e hd hji rfl;have G := B j X X' _ (U.has j oj d hj hd hlj) E;cases hod : o.dst with
    | none => exact G
    | some d' =>
      rw [epo (fun e => I (by rw [hod, e]))];exact G
  ·cases hod : o.dst with
   | none => exact U.old s hs
   | some d' => rw [epo (fun e => hs i o L (by rw [hod, e]))]; exact U.old s hs
 ·intro Z Y X R K U
  exact N Z Y X R U K.tsize K.defers
end
end Go.Proofs.YtmcbeajdloaliaaGreatDoor
namespace Go.Proofs.YtmcbeajdloaliaaGreatDoor
open Go.RowKit Go.Lib Go.Shelf
theorem k28_rs : RS 0 = ⟨#[48]⟩ /\ RS 1 = ⟨#[49]⟩ /\ RS 2 = ⟨#[50]⟩ /\ RS 3 = ⟨#[51]⟩ /\ RS 5 = ⟨#[53]⟩ /\ RS 6 = ⟨#[54]⟩ /\ RS 4 = ⟨#[52]⟩ /\ RS 48 = ⟨#[52, 56]⟩ := by decide +kernel
theorem kc0 {w : World} {vp vt vf : Value} {c : Rat} (S : RdP w vp (strP pP28)) (R : RdT w vt tT28) (V : RdQ w vf [c, c, c, c]) (X : c = 0 \/ c = 2 \/ c = 5) (U : Good w) :
 Calls Tryz.prog 114 #[.agg #[vp, vt], vf, .agg #[.string ⟨#[49]⟩, .string ⟨#[49]⟩]] w (Ret (fun r _ => r = .tuple #[.string (RS c), .int .i64 0]) w) := by
 obtain ⟨v1, v2, Q, O, N, M⟩ := kd0;have key : se0 pP28 [c, c, c, c] (0, 1, 2) = (0, 0) /\ onQ pP28 [c, c, c, c] (0, 1, 2) (1, 1) = c := by
  rcases X with rfl | rfl | rfl
  ·exact ⟨v1, O⟩
  ·exact ⟨v2, N⟩
  ·exact ⟨Q, M⟩
 have Z : Sz 2 c := by
  rcases X with rfl | rfl | rfl
  ·exact sz2n 0 (by omega)
  ·exact sz2n 2 (by omega)
  ·exact sz2n 5 (by omega)
 have Y : Sz 200 (1 : Rat) := (sz1 1 (by omega)).mono (by omega);have h := vin w vp vt vf pP28 tT28 2 [c, c, c, c] ⟨S, R, k2m, V, fun q hq => by simp at hq; subst hq; exact Z, rfl⟩ (1, 1) ⟨Y, Y⟩ 0 [1] k2l (by decide) (by
  show SzP 200 (se0 pP28 [c, c, c, c] (0, 1, 2));rw [key.1]; exact ⟨Sz.zero _ (by omega), Sz.zero _ (by omega)⟩) (by
  show Sz 200 (onQ pP28 [c, c, c, c] (0, 1, 2) (1, 1));rw [key.2]; exact Z.mono (by omega)) U
 have e : onQ pP28 [c, c, c, c] tT28[0] (1, 1) = c := key.2;rw [e] at h;rw [show RS ((1 : Rat), (1 : Rat)).1 = ⟨#[49]⟩ from k28_rs.2.1] at h;exact h
def hH28 : List Rat := [0, 2, 5]
structure K28 (w : World) (pp pt pb pu ps : Option Addr) (cp ct cb cu cs : Nat) : Prop where
 n : DepN w (.slice pp 4 cp) (.slice pt 2 ct) (.slice pb 4 cb) (.slice pu 3 cu) (.slice ps 2 cs) pP28 tT28 2 [0, 0, 0, 0] uU28 [[2, 2, 2, 2], [5, 5, 5, 5]]
theorem K28.below {w w' : World} {pp pt pb pu ps : Option Addr} {cp ct cb cu cs : Nat} (h : K28 w pp pt pb pu ps cp ct cb cu cs) (Z : Below w.heap.size w w') : K28 w' pp pt pb pu ps cp ct cb cu cs := ⟨h.n.below Z⟩
theorem fld28 (i : Nat) (h : i <= 2) : fldN [0, 0, 0, 0] [[2, 2, 2, 2], [5, 5, 5, 5]] i = [hH28[i]?.getD 0, hH28[i]?.getD 0, hH28[i]?.getD 0, hH28[i]?.getD 0] /\ (hH28[i]?.getD 0 = 0 \/ hH28[i]?.getD 0 = 2 \/ hH28[i]?.getD 0 = 5) := by
 rcases (by omega : i = 0 \/ i = 1 \/ i = 2) with rfl | rfl | rfl <;> decide +kernel
theorem K28.surf {w : World} {pp pt pb pu ps : Option Addr} {cp ct cb cu cs : Nat} (h : K28 w pp pt pb pu ps cp ct cb cu cs) : ∃ (U : Nat -> Option Addr) (V : Nat -> Nat),
 (∀ i : Nat, i < 3 -> ∀ w', Below w.heap.size w w' -> Calls Tryz.prog 48 #[.agg #[.slice pb 4 cb, .slice pu 3 cu, .slice ps 2 cs], .int .i64 (i : Int)] w' (Ret (fun r _ => r = .slice (U i) 4 (V i)) w')) /\
 (∀ i : Nat, i < 3 -> ∀ w', Below w.heap.size w w' -> Good w' -> Calls Tryz.prog 114 #[.agg #[.slice pp 4 cp, .slice pt 2 ct], .slice (U i) 4 (V i), .agg #[.string ⟨#[49]⟩, .string ⟨#[49]⟩]] w' (Ret (fun r _ => r = .tuple #[.string (RS (hH28[i]?.getD 0)), .int .i64 0]) w')) := by
 have S : ∀ i : Nat, ∃ Z : Option Addr × Nat, i < 3 -> RdQ w (.slice Z.1 4 Z.2) (fldN [0, 0, 0, 0] [[2, 2, 2, 2], [5, 5, 5, 5]] i) /\ ∀ w', Below w.heap.size w w' -> Calls Tryz.prog 48 #[.agg #[.slice pb 4 cb, .slice pu 3 cu, .slice ps 2 cs], .int .i64 (i : Int)] w' (Ret (fun r _ => r = .slice Z.1 4 Z.2) w') := fun i => by
  by_cases hi : i < 3
  ·obtain ⟨p, c, X, O⟩ := h.n.surface i (by show i <= 2; omega)
   exact ⟨(p, c), fun _ => ⟨X, O⟩⟩
  ·exact ⟨(none, 0), fun h' => absurd h' hi⟩
 obtain ⟨Z, Y⟩ : ∃ Z : Nat -> Option Addr × Nat, ∀ i : Nat, i < 3 -> RdQ w (.slice (Z i).1 4 (Z i).2) (fldN [0, 0, 0, 0] [[2, 2, 2, 2], [5, 5, 5, 5]] i) /\ ∀ w', Below w.heap.size w w' -> Calls Tryz.prog 48 #[.agg #[.slice pb 4 cb, .slice pu 3 cu, .slice ps 2 cs], .int .i64 (i : Int)] w' (Ret (fun r _ => r = .slice (Z i).1 4 (Z i).2) w') := ⟨fun i => (S i).choose, fun i => (S i).choose_spec⟩;refine ⟨fun i => (Z i).1, fun i => (Z i).2, fun i hi => (Y i hi).2, fun i hi w' hb hg => ?_⟩;have X := (Y i hi).1;obtain ⟨R, Q⟩ := fld28 i (by omega);rw [R] at X;exact kc0 (RdC.below h.n.p hb) (RdC.below h.n.t hb) (RdC.below X hb) Q hg
theorem k2p {w : World} {pp pt pb pu ps : Option Addr} {cp ct cb cu cs : Nat} (h : K28 w pp pt pb pu ps cp ct cb cu cs) (z : Rat) (V : Sz 200 z) (X : Good w) :
 Calls Tryz.prog 64 #[.agg #[.slice pp 4 cp, .slice pt 2 ct], .agg #[.slice pb 4 cb, .slice pu 3 cu, .slice ps 2 cs], .agg #[.string ⟨#[49]⟩, .string ⟨#[49]⟩, .string (RS z)]] w (Ret (fun r _ => r = .int .i64 0) w) := by
 have Z : Sz 200 (1 : Rat) := (sz1 1 (by omega)).mono (by omega);have Y := cPo w _ _ _ _ _ pP28 tT28 2 _ _ _ h.n (1, 1) z ⟨Z, Z⟩ V X;rw [show RS ((1 : Rat), (1 : Rat)).1 = ⟨#[49]⟩ from k28_rs.2.1, if_neg (by rw [k2l]; simp)] at Y;exact Y
theorem k2A {w : World} {pp pt pb pu ps : Option Addr} {cp ct cb cu cs : Nat} (h : K28 w pp pt pb pu ps cp ct cb cu cs) (R : Good w) :
 Calls Tryz.prog 30 #[.agg #[.slice pp 4 cp, .slice pt 2 ct], .agg #[.slice pb 4 cb, .slice pu 3 cu, .slice ps 2 cs], .agg #[.string ⟨#[49]⟩, .string ⟨#[49]⟩, .string ⟨#[50]⟩]] w (Ret (fun r _ => r = .tuple #[.string ⟨#[98]⟩, .bool false, .int .i64 0]) w) := by
 obtain ⟨V, X, U, S⟩ := h.surf;have Y := at_ok w R pp pt pb pu ps 4 2 2 cp ct cb cu cs ⟨#[49]⟩ ⟨#[49]⟩ 2 uU28 hH28 rfl (by decide) (by decide +kernel) h.n.unit 2 (by omega) (by omega) (by
  intro q hq;have Z : q ∈ ([0, 2, 5] : List Rat) := hq;simp only [List.mem_cons, List.not_mem_nil, or_false] at Z;rcases Z with rfl | rfl | rfl
  ·exact sz2n 0 (by omega)
  ·exact sz2n 2 (by omega)
  ·exact sz2n 5 (by omega)) (sz2n 2 (by omega)) V X (hid fun w' hb hg' => k2p (h.below hb) 2 ((sz2n 2 (by omega)).mono (by omega)) hg') (hid U) (hid S)
 rw [show uAt uU28 hH28 2 = ⟨#[98]⟩ from k28_at.1, show decide (cHH hH28 2 = 0) = false from k2c, k28_rs.2.2.1] at Y;exact Y
theorem k2L {w : World} {pp pt pb pu ps : Option Addr} {cp ct cb cu cs : Nat} (h : K28 w pp pt pb pu ps cp ct cb cu cs) (R : Good w) :
 Calls Tryz.prog 31 #[.agg #[.slice pp 4 cp, .slice pt 2 ct], .agg #[.slice pb 4 cb, .slice pu 3 cu, .slice ps 2 cs], .agg #[.string ⟨#[49]⟩, .string ⟨#[49]⟩, .string ⟨#[54]⟩]] w (Ret (fun r w' => ∃ v, r = .tuple #[v, .int .i64 0] /\ w'.ownsRow w.heap.size 99 3 v 3 (cIv [⟨⟨#[99]⟩, 0, 1⟩, ⟨⟨#[98]⟩, 1, 4⟩, ⟨⟨#[97]⟩, 4, 6⟩])) w) := by
 obtain ⟨V, X, U, S⟩ := h.surf;have Y := lj0 w R pp pt pb pu ps 4 2 2 cp ct cb cu cs ⟨#[49]⟩ ⟨#[49]⟩ 6 uU28 hH28 rfl (by decide) (by decide) h.n.unit 2 (by omega) (by omega) (by
  intro q hq;have Z : q ∈ ([0, 2, 5] : List Rat) := hq;simp only [List.mem_cons, List.not_mem_nil, or_false] at Z;rcases Z with rfl | rfl | rfl
  ·exact sz2n 0 (by omega)
  ·exact sz2n 2 (by omega)
  ·exact sz2n 5 (by omega)) (sz2n 6 (by omega)) V X (hid fun w' hb hg' => k2p (h.below hb) 6 ((sz2n 6 (by omega)).mono (by omega)) hg') (hid U) (hid S)
 rw [show logL uU28 hH28 6 = _ from kf0, k28_rs.2.2.2.2.2.1] at Y;exact Y
theorem k2V {w : World} {pp pt pb pu ps : Option Addr} {cp ct cb cu cs : Nat} (h : K28 w pp pt pb pu ps cp ct cb cu cs) (X : Good w) :
 Calls Tryz.prog 21 #[.agg #[.slice pp 4 cp, .slice pt 2 ct], .agg #[.slice pb 4 cb, .slice pu 3 cu, .slice ps 2 cs], .string ⟨#[98]⟩] w (Ret (fun r _ => r = .tuple #[.string ⟨#[52, 56]⟩, .int .i64 0]) w) := by
 have Z := sok w _ _ _ _ _ pP28 tT28 2 _ _ _ h.n ⟨#[98]⟩ 1 (by decide) (by decide +kernel) 48 (fun w' vf vg hf hg2 hgw => by
  have Y := fe0 w' _ _ vf vg pP28 tT28 2 _ _ hf hg2 (by omega) (by decide) (by
   show Sz 200 (volTo pP28 tT28 (subQ [5, 5, 5, 5] [2, 2, 2, 2]) 0 tT28.length);rw [k2v]; exact ⟨by decide +kernel, by decide +kernel⟩) hgw
  rw [show volTo pP28 tT28 (subQ ([[2, 2, 2, 2], [5, 5, 5, 5]] : List (List Rat))[1] (fldN [0, 0, 0, 0] [[2, 2, 2, 2], [5, 5, 5, 5]] 1)) 0 tT28.length = 48 from k2v] at Y;exact Y) X
 rw [k28_rs.2.2.2.2.2.2.2] at Z;exact Z
theorem k2I {w : World} {pp pt pb pu ps px : Option Addr} {cp ct cb cu cs cx : Nat} (h : K28 w pp pt pb pu ps cp ct cb cu cs) (hx : RdQ w (.slice px 4 cx) [1, 1, 1, 1]) (N : Good w) :
 Calls Tryz.prog 11 #[.agg #[.slice pp 4 cp, .slice pt 2 ct], .agg #[.slice pb 4 cb, .slice pu 3 cu, .slice ps 2 cs], .agg #[.string ⟨#[100]⟩, .int .i64 1, .slice px 4 cx]] w (Ret (fun r w' => ∃ v1 v2 Z, r = .tuple #[.agg #[v1, v2, Z], .int .i64 0] /\ DepR w' v1 v2 Z (([0, 0, 0, 0] : List Rat).map RS) [⟨#[97]⟩, ⟨#[100]⟩, ⟨#[98]⟩, ⟨#[99]⟩] (([[2, 2, 2, 2], [3, 3, 3, 3], [6, 6, 6, 6]] : List (List Rat)).map fun F => F.map RS)) w) := by
 have Y : ∀ q ∈ ([1, 1, 1, 1] : List Rat), Sz 2 q := fun q hq => by simp at hq; subst hq; exact sz2n 1 (by omega)
 have R : errF 4 (([1, 1, 1, 1] : List Rat).map RS) = 0 := eFo rfl (fun q hq => (Y q hq).mono (by omega));have V : (([1, 1, 1, 1] : List Rat).map RS).map numT = [1, 1, 1, 1] := nTm _;have Q : unitE pP28.length uU28 ⟨#[100]⟩ 1 (([1, 1, 1, 1] : List Rat).map RS) = 0 := by
  unfold unitE;rw [if_neg (by decide +kernel), if_neg (by decide +kernel), if_neg (by decide), if_neg (by rw [show pP28.length = 4 from rfl, R]; simp), V, if_neg (by decide +kernel), if_neg (by decide)]
 have S := sr0 w _ _ _ _ _ pP28 tT28 2 _ _ _ h.n (by omega) ⟨#[100]⟩ 1 (.slice px 4 cx) (([1, 1, 1, 1] : List Rat).map RS) hx.toS ⟨sq0 (by omega) (by omega) Y, by simp⟩ (fun _ => ⟨[1, 1, 1, 1], rfl, rfl, Y⟩) N;refine S.mono ?_;rintro e w' ⟨v, rfl, X, O⟩;rcases X with ⟨X, _⟩ | ⟨_, v1, v2, Z, rfl, M, L, U, -⟩
 ·exact absurd Q X
 ·rw [V, show (1 : Int).toNat = 1 from rfl, k2i] at U
  exact ⟨_, rfl, ⟨v1, v2, Z, rfl, ⟨M.toS, L, U.toTx⟩⟩, O⟩
theorem ua0 (n : Nat) (Z : n <= 3) : ∀ i (h : i < (uTo (n + 1)).length), nameQ (uTo (n + 1))[i] = true /\ hasS ((uTo (n + 1)).take i) (uTo (n + 1))[i] = false := by
 rcases (by omega : n = 0 \/ n = 1 \/ n = 2 \/ n = 3) with rfl | rfl | rfl | rfl <;> decide +kernel
theorem uTl (m : Nat) : (uTo m).length = m := by unfold uTo; simp
theorem tTu (n : Nat) (B : List Rat) (H : List StepQ) (Z : B.length = n) (i : Nat) (z : Int) : hI (topTo n B H i) z <= hI (topTo n B H (i + 1)) z := by
 unfold hI;have X := tTl n B H Z i;have Y := tTl n B H Z (i + 1);rcases Nat.lt_or_ge z.toNat n with h | h
 ·have U := sFl n (H[i]?.getD ([], false))
  have V : 0 <= (stepF n (H[i]?.getD ([], false)))[z.toNat]'(by omega) := by
   unfold stepF;rw [List.getElem_map];exact Rat.abs_nonneg
  have e : (topTo n B H (i + 1))[z.toNat]? = some ((topTo n B H i)[z.toNat]'(by omega) + (stepF n (H[i]?.getD ([], false)))[z.toNat]'(by omega)) := by
   show (List.zipWith (·+ ·) (topTo n B H i) (stepF n (H[i]?.getD ([], false))))[z.toNat]? = _;rw [List.getElem?_zipWith, List.getElem?_eq_getElem (by omega), List.getElem?_eq_getElem (by omega)]
  rw [e, List.getElem?_eq_getElem (by omega)];show (topTo n B H i)[z.toNat]'(by omega) <= (topTo n B H i)[z.toNat]'(by omega) + (stepF n (H[i]?.getD ([], false)))[z.toNat]'(by omega);grind
 ·rw [List.getElem?_eq_none (by omega), List.getElem?_eq_none (by omega)]
  exact Rat.le_refl
theorem fNt (n : Nat) (B : List Rat) (H : List StepQ) (m i : Nat) (Z : i <= m) : fldN B (sTo n B H m) i = topTo n B H i := by
 unfold fldN sTo;cases i with
 | zero => rfl
 | succ i =>
   rw [List.getElem?_cons_succ, List.getElem?_map, List.getElem?_range (by omega)];rfl
theorem tmm {n : Nat} {B : List Rat} {H : List StepQ} {m : Nat} {F : List Rat} (h : F ∈ B :: sTo n B H m) : ∃ i, i <= m /\ F = topTo n B H i := by
 rcases List.mem_cons.1 h with rfl | h
 ·exact ⟨0, by omega, rfl⟩
 ·unfold sTo at h
  obtain ⟨i, Z, rfl⟩ := List.mem_map.1 h;exact ⟨i + 1, by have := List.mem_range.1 Z; omega, rfl⟩
theorem pnn {w : World} {vp vt vb vu vs : Value} (k : Nat) (N M : Int) (Y : Bool) (A : List Int) (L : Bool) (H : List StepQ) (I : H.length <= 3) (P : List PtQ) (G : P = sb0 k N M Y) (T : List Tri) (E : T = sTT k) (B : List Rat) (Q : B = hFF A L P.length)
 (C : RdP w vp (strP P)) (z : RdT w vt T) (D : RdQ w vb B) (y : RdS w vu (uTo (H.length + 1))) (x : RdF w vs (sTo P.length B H H.length)) :
 DepN w vp vt vb vu vs P T 3 B (uTo (H.length + 1)) (sTo P.length B H H.length) := by
 have O : MeshOK P T 2 := by rw [G, E]; exact sm0 k N M Y
 have Z : B.length = P.length := by rw [Q, he0]
 have S : ∀ q ∈ B, Fr 2 38 q := by rw [Q]; exact fht _ _ _
 have X : ∀ F ∈ B :: sTo P.length B H H.length, F.length = P.length := fun F hF => by
  obtain ⟨i, R, rfl⟩ := tmm hF;exact tTl _ _ _ Z i
 have V : ∀ F ∈ B :: sTo P.length B H H.length, ∀ q ∈ F, Sz 3 q := fun F hF q hq => by
  obtain ⟨i, R, rfl⟩ := tmm hF;exact s3o ((ftp _ _ _ S i q hq).mono (by omega))
 have U : (uTo (H.length + 1)).length = (sTo P.length B H H.length).length + 1 := by rw [uTl, sTl]
 refine ⟨C, z, O.up (by omega) (by omega), D, y, x, X, V, U, by rw [uTl]; omega, ?_⟩;refine dEr ?_ X (fun F hF q hq => (V F hF q hq).mono (by omega)) U (by rw [uTl]; omega) (ua0 _ I) (fun i R => ?_)
 ·intro e
  have := O.some;simp [e] at this
 ·rw [sTl] at R
  rw [fNt _ _ _ _ _ (by omega), fNt _ _ _ _ _ (by omega), bBi _ _ (by rw [tTl _ _ _ Z, tTl _ _ _ Z])];intro j K J;have := tTu P.length B H Z i (j : Int);rw [hh0 _ _ K, hh0 _ _ J] at this;exact this
def MadeO (base : Nat) (k : Nat) (s0 s1 : Int) (half : Bool) (r : Value) (w' : World) : Prop := ∃ pp cp pt ct pb cb pu cu ps cs P T B H U n, r = .tuple #[.agg #[.slice pp (List.length P) cp, .slice pt (List.length T) ct], .agg #[.slice pb (List.length P) cb, .slice pu (List.length U) cu, .slice ps n cs]] /\ P = sb0 k s0 s1 half /\ T = sTT k /\ n <= 3 /\ List.length B = List.length P /\ U = uTo (n + 1) /\ DepN w' (.slice pp P.length cp) (.slice pt T.length ct) (.slice pb P.length cb) (.slice pu U.length cu) (.slice ps n cs) P T 3 B U (sTo P.length B H n) /\ (∀ F ∈ B :: sTo P.length B H n, ∀ q ∈ F, Fr 2 152 q) /\ FlsV 33 w' base (.slice ps n cs) (sTo P.length B H n)
theorem m2o (w : World) (S V U : Int) (Z : Bool) (L : Nat) (n : S.tmod 8 = (L : Int)) (G : 0 <= S) (E : S <= 255) (D : -128 <= V /\ V <= 127) (C : -128 <= U /\ U <= 127) (a0 R Q O N M : Int) (K : Bool) (s : ∀ x ∈ [a0, R, Q, O, N, M], -128 <= x /\ x <= 127) (B : Value) (H : List StepQ) (t : RdSt w B H) (Y : H.length <= 3) (o : Good w) :
 Calls Tryz.prog 9 #[.agg #[.int .u8 S, .int .i8 V, .int .i8 U, .bool Z, .int .i8 a0, .int .i8 R, .int .i8 Q, .int .i8 O, .int .i8 N, .int .i8 M, .bool K, B]] w (Ret (fun r w' => MadeO w.heap.size L V U Z r w') w) := by
 refine (m2a w S V U Z L n G E D C a0 R Q O N M K s B H t Y _ rfl _ rfl o).mono ?_;rintro e w' ⟨_, rfl, ⟨vp, vt, a, vu, vs, rfl, m, k, p, j, X⟩, J⟩;have l := X.rd;have I := pnn L V U Z [a0, R, Q, O, N, M] K H Y _ rfl _ rfl _ rfl m k p j l;obtain ⟨g, z, d, y, h, A, c, v, f, cs, rfl, rfl, rfl, rfl, rfl⟩ := I.open;rw [sTl] at I X ⊢;exact ⟨_, rfl, ⟨g, z, d, y, h, A, c, v, f, cs, _, _, _, H, _, _, rfl, rfl, rfl, Y, he0 _ _ _, rfl, I, (fun F hF q hq => by
  obtain ⟨i, b, rfl⟩ := tmm hF;exact (ftp _ _ _ (fht _ _ _) i q hq).mono (by omega)), X⟩, J⟩
end Go.Proofs.YtmcbeajdloaliaaGreatDoor
