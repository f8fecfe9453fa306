import Derived.Test.YtegiemcnfbchoaaGreatDoorF5
/- The walk over field.checks of two fields. Plain The walks over field.combine with rational.Sub, field.Excess. klippelaw12.Place by 3 The walks over klipperef05.Area, klippelaw13.corners, klippelaw13.On. The walks over klipperef09.Less, Begin. -/
set_option maxHeartbeats 4000000
set_option maxRecDepth 100000
namespace Go.Proofs.YtegiemcnfbchoaaGreatDoor
open Go.RowKit Go.Lib
theorem checks_two (w : World) (vp vt vf vg : Value) (P : List PtQ) (T : List Tri) (k : Nat) (F G : List Rat) (h : FieldIn w vp vt vf P T k F) (h2 : FieldIn w vp vt vg P T k G) (b : Nat) (hb0 : w.cell? ⟨b, 0, none⟩ = some vf) (hb1 : w.cell? ⟨b, 1, none⟩ = some vg) (hg : Good w) :
 Calls Tryz.prog 32 #[.agg #[vp, vt], .slice (some ⟨b, 0, none⟩) 2 2] w (Ret (fun r _ => r = .int .i64 0) w) := by
 have HFS : Hid (∀ j : Nat, j < 2 -> ∃ (pf : Option Addr) (cf : Nat) (l : List Rat), w.cell? ⟨b, j, none⟩ = some (.slice pf P.length cf) /\ l.length = P.length /\ (l ≠ [] -> ∃ bf off, pf = some ⟨bf, off, none⟩ /\ bf < w.heap.size /\ ∀ i (hi : i < l.length), w.cell? ⟨bf, off + i, none⟩ = some (.string (RS l[i]))) /\ (∀ q ∈ l, (RS q).size < 1000000000 /\ rightQ (RS q).data.toList = true)) := fun j hj => by
  have key : ∀ (v : Value) (L : List Rat), FieldIn w vp vt v P T k L -> w.cell? ⟨b, j, none⟩ = some v -> ∃ (pf : Option Addr) (cf : Nat) (l : List Rat), w.cell? ⟨b, j, none⟩ = some (.slice pf P.length cf) /\ l.length = P.length /\ (l ≠ [] -> ∃ bf off, pf = some ⟨bf, off, none⟩ /\ bf < w.heap.size /\ ∀ i (hi : i < l.length), w.cell? ⟨bf, off + i, none⟩ = some (.string (RS l[i]))) /\ (∀ q ∈ l, (RS q).size < 1000000000 /\ rightQ (RS q).data.toList = true) := fun v L hL hv => by
   obtain ⟨pf, cf, rfl, -, -, hr⟩ := hL.f.open;rw [hL.fl] at hv;refine ⟨pf, cf, L, hv, hL.fl, hr, fun q hq => ⟨?_, ?_⟩⟩
   ·have := (hL.fs q hq).size hL.m.kpos; have := hL.m.klim2; omega
   ·rw [RS_list]; exact rightQ_RL ((hL.fs q hq).mono (by have := hL.m.klim2; omega))
  rcases (by omega : j = 0 \/ j = 1) with rfl | rfl
  ·exact key vf F h hb0
  ·exact key vg G h2 hb1
 have HP := hid h.p;have HT := hid h.t;have HM := hid h.m;have hbl := World.block_lt_of_cell? w _ hb0;obtain ⟨pp, cp, pt, ct, pf, cf, rfl, rfl, rfl⟩ := h.open;have hpl := h.m.plen;dsimp only at hbl;clear h h2 hb0 hb1;go_enter Tryz.func32, Tryz.ntmps32;go_wp2_with fail;obtain ⟨W0, hW0⟩ : ∃ W0, W0 = w.alloc (.cells #[.slice pp P.length cp, .slice pt T.length ct] 38) := ⟨_, rfl⟩;have hB0 : Below w.heap.size w W0 := by rw [hW0]; exact zal _ _
 have b2 : BoxN W0 w.heap.size 38 [.slice pp P.length cp, .slice pt T.length ct] := by rw [hW0]; exact BoxN.new _ _ _ _ rfl
 rw [<- hW0];clear hW0;refine (check_any W0 _ _ P T k (RdC.below HP.out hB0) (RdC.below HT.out hB0) HM.out (hg.below hB0)).mono ?_;rintro e w1 ⟨_, rfl, rfl, hb1⟩;have hB1 : Below w.heap.size w w1 := hB0.trans (hb1.mono hB0.size);have b3 := b2.below hb1 b2.lt;clear hb1 hB0 b2;go_wp2_with fail;go_loopw [18] (fun t18 wr => ∃ j : Nat, j <= 2 /\ t18 = .int .i64 (j : Int) /\ Below w1.heap.size w1 wr) (fun t18 _ => 2 - (RowKit.intOf t18).toNat)
 case atStart => exact ⟨0, by omega, rfl, Below.refl _ _⟩
 case round =>
  obtain ⟨j, hj, rfl, hB⟩ := hrel;have hBw : Below w.heap.size w wr := hB1.trans (hB.mono hB1.size);rcases Nat.lt_or_ge j 2 with hj2 | hj2
  ·obtain ⟨pf, cf, l, hcell, hll, hrd, hrt⟩ := HFS.out j hj2
   have b4 := b3.below hB b3.lt;have u0 := b4.cell 0 rfl;have u1 := zcq hBw hbl hcell;have hjz : (j : Int) < 2 := by omega
   have HRD := hid hrd;have HRT := hid hrt;have HBW := hid hBw;have hlP : l.length <= P.length := by omega
   have HLE := hid hll;have hnb : ((P.length : Int) != (P.length : Int)) = false := by simp
   clear hcell hrd hrt hll hBw;go_wp2_with fail;obtain ⟨wo, hwo⟩ : ∃ wo : World, wo = wr := ⟨_, rfl⟩;subst hwo;go_loopw [30] (fun t30 wr => ∃ (i : Nat), t30 = .int .i64 i /\ i <= P.length /\ Below wo.heap.size wo wr) (fun t30 _ => P.length - (RowKit.intOf t30).toNat)
   case atStart => exact ⟨0, rfl, Nat.zero_le _, Below.refl _ _⟩
   case round =>
    obtain ⟨i, rfl, hi, hbl2⟩ := hrel;have hBi := HBW.out.trans (hbl2.mono HBW.out.size);rcases Nat.lt_or_ge i P.length with hlt | hlt
    ·have hil : i < l.length := by have := HLE.out; omega
     obtain ⟨bf, off, rfl, hbs, hcell⟩ := HRD.out (by intro e; rw [e] at hil; simp at hil);have hc := zcq hBi hbs (hcell i hil);have hzx := HRT.out l[i] (List.getElem_mem hil);obtain ⟨x, hx⟩ : ∃ x, x = RS l[i] := ⟨_, rfl⟩;rw [<- hx] at hc hzx;have hgr := hg.below hBi;have hiz : (i : Int) < (P.length : Int) := by omega
     have HZ := hid hzx;clear hx hcell hil hzx;go_wp2_with fail;refine (checkQ_any x HZ.out.1 _ hgr).mono ?_;rintro e w2 ⟨_, rfl, rfl, hb2⟩;have hb3 := hbl2.trans (hb2.mono hbl2.size);rw [HZ.out.2, show errNum true = 0 from rfl];clear hb2 hgr;go_wp2_with fail;go_roundw
     case rel => exact ⟨i + 1, by go_num, hlt, hb3⟩
     case measure => simp [RowKit.intOf]; omega
    ·go_wp2_with fail
     go_roundw
     case rel => exact ⟨j + 1, by omega, by go_num, hB.trans (hbl2.mono hB.size)⟩
     case measure => simp [RowKit.intOf]; omega
  ·obtain rfl : j = 2 := by omega
   rw [show ((2 : Nat) : Int) = 2 from rfl];go_wp2_with fail;go_ret;exact ⟨_, rfl, rfl, hBw⟩
section
variable {A x y w V V' : Rat}
def TipP (A x y w V : Rat) : Prop := CapP A x y w V \/ NotP A x y w V
theorem TipP.sgn (h : TipP A x y w V) : ((y < 0 \/ w < 0) /\ 0 < x /\ y <= 0 /\ w <= 0) \/ ((0 < y \/ 0 < w) /\ x < 0 /\ 0 <= y /\ 0 <= w) := by
 rcases h with ⟨g0, g1, g2, g3, -⟩ | ⟨g0, g1, g2, g3, -⟩
 ·exact .inl ⟨g0, g1, g2, g3⟩
 ·exact .inr ⟨g0, g1, g2, g3⟩
end
end Go.Proofs.YtegiemcnfbchoaaGreatDoor
namespace Go.Proofs.YtegiemcnfbchoaaGreatDoor
open Go.RowKit Go.Lib
def subQ (F G : List Rat) : List Rat := List.zipWith (fun a b => a - b) F G
theorem subQ_length (F G : List Rat) (h : F.length = G.length) : (subQ F G).length = G.length := by unfold subQ; rw [List.length_zipWith]; omega
theorem subQ_get (F G : List Rat) (i : Nat) (h1 : i < F.length) (h2 : i < G.length) : (subQ F G)[i]? = some (F[i] - G[i]) := by
 unfold subQ;rw [List.getElem?_zipWith];simp [h1, h2]
theorem combine_sub (w : World) (vf vg : Value) (k : Nat) (F G : List Rat) (hk : 0 < k) (hk2 : k <= 20000) (hL : RdQ w vf F) (hU : RdQ w vg G) (hlen : F.length = G.length) (hn : G.length <= 1000000) (hsL : ∀ q ∈ F, Sz k q) (hsU : ∀ q ∈ G, Sz k q) (hg : Good w) :
 Calls Tryz.prog 52 #[vf, vg, .func (.func 53) #[] #[]] w (Ret (fun r w' => RdQ w' r (subQ F G) /\ FreshV w.heap.size r) w) := by
 obtain ⟨pl, cl, rfl, hlc, hlm, hlr⟩ := hL.open;obtain ⟨pu, cu, rfl, huc, hum, hur⟩ := hU.open;obtain ⟨n, hn0⟩ : ∃ n, n = G.length := ⟨_, rfl⟩;have HLR := hid hlr;have HUR := hid hur;have HL := hid hsL;have HU := hid hsU;have HN1 : Hid (F.length = n) := by unfold Hid; omega
 have HN2 : Hid (G.length = n) := hn0.symm;rw [hlen, <- hn0];rw [<- hn0] at hn huc;have hlc' : n <= cl := by omega
 clear hL hU hlr hur hsL hsU hlen hn0 hlc;obtain ⟨i0, hi, hz0, hz1, hz2⟩ := info_parts info_str;go_enter Tryz.func52, Tryz.ntmps52;go_wp2_with fail;go_loopw [7, 12] (fun t7 t12 wr => ∃ (i : Nat), t12 = .int .i64 i /\ i <= n /\ wr.ownsRow w.heap.size 31 1 t7 i (((subQ F G).take i).map fun q => Value.string (RS q)) /\ Below w.heap.size w wr) (fun _ t12 _ => n - (RowKit.intOf t12).toNat)
 case atStart => exact ⟨0, rfl, Nat.zero_le _, World.ownsRow_nil _ _ _ _, Below.refl _ _⟩
 case round =>
  obtain ⟨i, rfl, hin, hown, hbr⟩ := hrel;obtain ⟨p3, c3', rfl⟩ := ownsRow_shape hown;rcases Nat.lt_or_ge i n with h | h
  ·obtain ⟨bl, ol, rfl, hbl, hlc⟩ := HLR.out (by intro e; have := HN1.out; rw [e] at this; simp at this; omega)
   obtain ⟨bu, ou, rfl, hbu, huc⟩ := HUR.out (by intro e; have := HN2.out; rw [e] at this; simp at this; omega);have l1 := hlc i (by have := HN1.out; omega);have u1 := huc i (by have := HN2.out; omega);have hq := subQ_get F G i (by have := HN1.out; omega) (by have := HN2.out; omega);have zl := HL.out _ (List.getElem_mem (show i < F.length by have := HN1.out; omega));have zu := HU.out _ (List.getElem_mem (show i < G.length by have := HN2.out; omega));generalize F[i]'_ = l at *;generalize G[i]'_ = u at *;have HTK := hid (take_snoc _ _ _ hq);have HZL := hid zl;have HZU := hid zu;have xl := zcq hbr hbl l1;have xu := zcq hbr hbu u1;have hgr : Good wr := hg.below hbr;have hiz : (i : Int) < (n : Int) := by omega
   clear hlc huc l1 u1 hq zl zu;go_wp2_with fail;refine (ratSub_any l u k hk hk2 HZL.out HZU.out _ hgr).mono ?_;rintro e w2 ⟨_, rfl, rfl, hb2⟩;have hown2 := World.ownsRow.belowAll hown hb2;have hbr2 : Below w.heap.size w w2 := hbr.trans (hb2.mono hbr.size);have hzw := hbr.size;have hz2' : w.heap.size <= w2.heap.size := hbr2.size;clear hb2 hown hbr hgr xl xu
   go_wp2_with (at_builtin; refine wpList_append_own _ rfl _ _ 41 rfl w.heap.size 31 i0 (.string ⟨#[]⟩) 1 16 Tryz.underlying41 hi hz0 hz1 hz2 rfl (by decide) _ _ _ rfl (hown2.alloc _) ⟨w2.heap.size, 0, none⟩ 1 1 [.string (RS (l - u))] rfl rfl (cell_one_str _ _ _) (one_cell_str _) (by unfold maxLen; omega) (by omega) (by simp; omega) ?_
                intro v2 w3 hown3 hgrow3 _;have hzw3 := hgrow3.size;have hbr3 : Below w.heap.size w w3 := (hbr2.alloc (by omega) _).grown hgrow3 (by simp; omega) (fun j hj => by have := (hown2.lt j hj).1; omega);clear hgrow3)
   go_roundw
   case rel => exact ⟨i + 1, by go_num, by omega, by rw [HTK.out, List.map_append]; exact hown3, hbr3⟩
   case measure =>
    show n - ((i : Int) + 1).toNat < n - (i : Int).toNat;omega
  ·obtain rfl : i = n := by omega
   have hfr : FreshV w.heap.size (.slice p3 i c3') := FreshV.of_owns hown;have hrd : RdQ wr (.slice p3 i c3') (subQ F G) := by
    have hl : (subQ F G).length = i := by rw [subQ_length _ _ (by rw [HN1.out, HN2.out]), HN2.out]
    have h1 : RdC 1 wr (.slice p3 i c3') i ((List.take i (subQ F G)).map fun q => Value.string (RS q)) := RdC.of_owns hown;rw [List.take_of_length_le (by omega)] at h1;unfold RdQ;rw [hl];exact h1
   go_wp2_with fail;go_ret;exact ⟨_, rfl, ⟨hrd, hfr⟩, hbr⟩
theorem subQ_Sz {F G : List Rat} {k : Nat} (hF : ∀ q ∈ F, Sz k q) (hG : ∀ q ∈ G, Sz k q) : ∀ q ∈ subQ F G, Sz (2 * k + 1) q := fun q hq => by
 unfold subQ at hq;obtain ⟨i, hi, rfl⟩ := List.getElem_of_mem hq;rw [List.getElem_zipWith];rw [List.length_zipWith] at hi;exact ((hF _ (List.getElem_mem (by omega))).sub (hG _ (List.getElem_mem (by omega)))).mono (by omega)
theorem MeshOK.up {P : List PtQ} {T : List Tri} {k m : Nat} (h : MeshOK P T k) (hkm : k <= m) (hm : m <= 200) : MeshOK P T m :=
 { kpos := by have := h.kpos; omega, klim := by omega, sz := fun p hp => ⟨(h.sz p hp).1.mono hkm, (h.sz p hp).2.mono hkm⟩, plen := h.plen, tlen := h.tlen, idx := h.idx, klim2 := hm, some := h.some, apart := h.apart, turns := h.turns, whole := h.whole }
theorem volTo_Sz {P : List PtQ} {T : List Tri} {F : List Rat} {z : Rat} {k m c : Nat} (hk : 0 < k) (hs : ∀ tr ∈ T, ∀ x ∈ idxOf tr, SzP k (ptI P x) /\ Sz k (hI F x)) (hz : Sz m z) (hc : (14 * (6 * k + m + 4) + 14) * 4 + 1 <= c) : ∀ t, t <= T.length -> Sz (t * (c + 1) + 1) (volTo P T F z t)
 | 0, _ => Sz.zero _ (by omega)
 | t + 1, ht => by
   have h0 := volTo_Sz hk hs hz hc t (by omega);have hps : ∀ d ∈ partT P F z (triI T t), SzP (6 * k + m + 4) d.1 /\ Sz (6 * k + m + 4) d.2 := fun d hd => by
    have := partT_Sz2 (hs (triI T t) (by rw [triI_nat T t (by omega)]; exact List.getElem_mem (by omega))) hz d hd;exact ⟨this.1, this.2.mono (by omega)⟩
   have h1 : Sz c (integ (partT P F z (triI T t)) z) := by
    have := fanI_Sz (l := partT P F z (triI T t)) (z := z) (k := 6 * k + m + 4) (by omega) hps (hz.mono (by omega)) ((partT P F z (triI T t)).length - 2);refine this.mono (Nat.le_trans (Nat.add_le_add_right (Nat.mul_le_mul_left _ ?_) 1) hc);have := partT_len P F z (triI T t);omega
   show Sz _ (volTo P T F z t + integ (partT P F z (triI T t)) z);exact (h0.add h1).mono (by rw [Nat.add_mul]; omega)
theorem fexcess_ok (w : World) (vp vt vf vg : Value) (P : List PtQ) (T : List Tri) (k : Nat) (F G : List Rat) (h : FieldIn w vp vt vf P T k F) (h2 : FieldIn w vp vt vg P T k G) (hk : k <= 2) (hT : T.length <= 8) (hVE : Sz 200 (volTo P T (subQ F G) 0 T.length)) (hg : Good w) :
 Calls Tryz.prog 15 #[.agg #[vp, vt], vf, vg] w (Ret (fun r _ => r = .tuple #[.string (RS (volTo P T (subQ F G) 0 T.length)), .int .i64 0]) w) := by
 have HF := hid h;have HG := hid h2;have hkp := h.m.kpos;have hfl := h.fl;have hgl := h2.fl;have hpl := h.m.plen;have hsl : (subQ F G).length = P.length := by rw [subQ_length _ _ (by omega), hgl]
 have HSL := hid hsl;have hss := subQ_Sz h.fs h2.fs;have HFI : Hid (∀ w' v, RdP w' vp (strP P) -> RdT w' vt T -> RdQ w' v (subQ F G) -> FieldIn w' vp vt v P T (2 * k + 1) (subQ F G)) := fun w' v hp ht hv => ⟨hp, ht, h.m.up (by omega) (by omega), hv, hss, hsl⟩
 have hsz : ∀ tr ∈ T, ∀ x ∈ idxOf tr, SzP (2 * k + 1) (ptI P x) /\ Sz (2 * k + 1) (hI (subQ F G) x) := fun tr htr x hx => by
  obtain ⟨h0, h1⟩ := h.m.idx tr htr x hx;obtain ⟨q, rfl⟩ : ∃ q : Nat, x = (q : Int) := ⟨x.toNat, by omega⟩;rw [ptI_nat P q (by omega), hI_nat (subQ F G) q (by omega)];exact ⟨⟨(h.m.sz _ (List.getElem_mem _)).1.mono (by omega), (h.m.sz _ (List.getElem_mem _)).2.mono (by omega)⟩, hss _ (List.getElem_mem _)⟩
 have hV : ∀ t, t <= T.length -> Sz 20000 (volTo P T (subQ F G) 0 t) := fun t ht => (volTo_Sz (k := 2 * k + 1) (m := 1) (c := 2017) (by omega) hsz (Sz.zero _ (by omega)) (by omega) t ht).mono (by
  have : t <= 8 := by omega
  rcases (by omega : t = 0 \/ t = 1 \/ t = 2 \/ t = 3 \/ t = 4 \/ t = 5 \/ t = 6 \/ t = 7 \/ t = 8) with e | e | e | e | e | e | e | e | e <;> rw [e] <;> omega)
 have HVO : Hid (∀ w' v, FieldIn w' vp vt v P T (2 * k + 1) (subQ F G) -> Good w' -> _) := fun w' v h hg => fvolume_any w' vp vt v P T (2 * k + 1) (subQ F G) h 0 1 20000 (Sz.zero _ (by omega)) (by omega) (Nat.le_refl _) (by omega) hV hg
 have HNU : Hid (∀ w', Good w' -> _) := fun w' hg' => fnumber_ok (volTo P T (subQ F G) 0 T.length) hVE w' hg';have HCO : Hid (∀ w', Below w.heap.size w w' -> Good w' -> _) := fun w' hb hg' => combine_sub w' vf vg k F G hkp (by omega) (HF.out.below hb).f (HG.out.below hb).f (by omega) (by omega) h.fs h2.fs hg'
 have HPT : Hid (∀ w', Below w.heap.size w w' -> RdP w' vp (strP P) /\ RdT w' vt T) := fun w' hb => ⟨RdC.below h.p hb, RdC.below h.t hb⟩;rw [RS_zero] at HVO;obtain ⟨pp, cp, pt, ct, pf, cf, rfl, rfl, rfl⟩ := h.open;obtain ⟨_, _, _, _, pg, cg, -, -, rfl⟩ := h2.open;generalize volTo P T (subQ F G) 0 T.length = res at *;clear h h2 hVE hV hsz hss hsl hfl hgl;go_enter Tryz.func15, Tryz.ntmps15;go_wp2_with fail;obtain ⟨W, hW⟩ : ∃ W, W = (w.alloc (.cells #[.slice pp P.length cp, .slice pt T.length ct] 38)).alloc (.cells #[.slice pf F.length cf, .slice pg G.length cg] 41) := ⟨_, rfl⟩;have hB : Below w.heap.size w W := by rw [hW]; exact zal2 _ _ _
 have b0 : BoxN W w.heap.size 38 [.slice pp P.length cp, .slice pt T.length ct] := by rw [hW]; exact (BoxN.new _ _ _ _ rfl).alloc _
 have b2 : BoxN W (w.heap.size + 1) 41 [.slice pf F.length cf, .slice pg G.length cg] := by rw [hW]; exact BoxN.new _ _ _ _ (by simp)
 rw [<- hW];clear hW;refine (checks_two W _ _ _ _ P T k F G (HF.out.below hB) (HG.out.below hB) (w.heap.size + 1) (b2.cell 0 rfl) (b2.cell 1 rfl) (hg.below hB)).mono ?_;rintro e w1 ⟨_, rfl, rfl, hb1⟩;have hB1 := hB.trans (hb1.mono hB.size);have b1 := b0.below hb1 b0.lt;clear hb1 b2 hB b0;have x0 := b1.cell 0 rfl;have x1 := b1.cell 1 rfl;have lm := b1.lt;go_upto_region 4 with fail;go_cut [6, 7] (fun s6 s7 wx => s6 = .string (RS res) /\ s7 = .int .i64 0 /\ Below w1.heap.size w1 wx)
 case first =>
  have hgd : Good w1.drew := (hg.below hB1).drewN 1;have hBd : Below w.heap.size w w1.drew := hB1.trans ((below_drewN w1 1).mono hB1.size);go_region_held3 (fun w' => w'.cell? ⟨w.heap.size, 0, none⟩ = some (.slice pp P.length cp) /\ w'.cell? ⟨w.heap.size, 1, none⟩ = some (.slice pt T.length ct))
   (first | exact ⟨x0, x1⟩ | exact ⟨p_1_0, p_1_1⟩ | exact ⟨p_2_0, p_2_1⟩ | exact ⟨p_3_0, p_3_1⟩)
   (first
   | (go_at_call 50; refine (HNU.out _ pg2).mono ?_; rintro e pw3 ⟨_, rfl, rfl, pb3⟩
      have p_3_0 := zct pb3 p_2_0;have p_3_1 := zct pb3 p_2_1;have ps3 := pb3.size;have pg3 := pg2.below pb3)
   | (go_at_call 51; refine (HVO.out _ _ (HFI.out _ _ (HPT.out _ (hBd.trans (pb1.mono hBd.size))).1 (HPT.out _ (hBd.trans (pb1.mono hBd.size))).2 HV.out) pg1).mono ?_; rintro e pw2 ⟨_, rfl, rfl, pb2⟩
      have p_2_0 := zct pb2 p_1_0;have p_2_1 := zct pb2 p_1_1;have ps2 := pb2.size;have pg2 := pg1.below pb2)
   | (go_at_call 52; refine (HCO.out _ hBd hgd).mono ?_; rintro e pw1 ⟨v, rfl, ⟨hv, -⟩, pb1⟩
      have p_1_0 := zct pb1 x0;have p_1_1 := zct pb1 x1;have ps1 : w1.heap.size <= pw1.heap.size := pb1.size;have pg1 := hgd.below pb1;have HV := hid hv))
  have pB : Below w1.heap.size w1 pw3 := zbt (zbt (zbt (below_drewN w1 1) pb1) pb2) pb3;go_wp2_with fail;go_meet;exact ⟨rfl, rfl, pB⟩
 case rest =>
 obtain ⟨rfl, rfl, hbx⟩ := hcut;go_wp2_with fail;go_ret2;exact ⟨_, rfl, rfl, hB1.trans (hbx.mono hB1.size)⟩
theorem RdQ.cells {w : World} {v : Value} {l : List Rat} (h : RdQ w v l) (hn : 0 < l.length) : ∃ b o c : Nat, v = .slice (some ⟨b, o, none⟩) l.length c /\ b < w.heap.size /\ ∀ i : Nat, i < l.length -> w.cell? ⟨b, o + i, none⟩ = some (.string (RS (hI l i))) := by
 obtain ⟨p, c, rfl, -, -, hr⟩ := h.open;obtain ⟨b, o, rfl, hb, hc⟩ := hr (List.ne_nil_of_length_pos hn);exact ⟨b, o, c, rfl, hb, fun i hi => by rw [hI_nat l i hi]; exact hc i hi⟩
theorem RdP.cells {w : World} {v : Value} {P : List PtQ} (h : RdP w v (strP P)) (hn : 0 < P.length) : ∃ b o c : Nat, v = .slice (some ⟨b, o, none⟩) P.length c /\ b < w.heap.size /\ ∀ i : Nat, i < P.length -> w.cell? ⟨b, o + i * 2, none⟩ = some (.string (RS (ptI P i).1)) /\ w.cell? ⟨b, o + i * 2 + 1, none⟩ = some (.string (RS (ptI P i).2)) := by
 obtain ⟨p, c, rfl, -, -, hr⟩ := h.open;obtain ⟨b, o, rfl, hb, hc⟩ := hr (List.ne_nil_of_length_pos (by rw [strP_length]; exact hn));refine ⟨b, o, c, by rw [strP_length], hb, fun i hi => ?_⟩;have h1 := hc i (by rw [strP_length]; exact hi);rw [strP_get P i hi] at h1;rw [ptI_nat P i hi];exact h1
theorem RdT.cells {w : World} {v : Value} {T : List Tri} (h : RdT w v T) (hn : 0 < T.length) : ∃ b o c : Nat, v = .slice (some ⟨b, o, none⟩) T.length c /\ b < w.heap.size /\ ∀ t : Nat, t < T.length -> w.cell? ⟨b, o + t * 3, none⟩ = some (.int .i64 (triI T t).1) /\ w.cell? ⟨b, o + t * 3 + 1, none⟩ = some (.int .i64 (triI T t).2.1) /\ w.cell? ⟨b, o + t * 3 + 2, none⟩ = some (.int .i64 (triI T t).2.2) := by
 obtain ⟨p, c, rfl, -, -, hr⟩ := h.open;obtain ⟨b, o, rfl, hb, hc⟩ := hr (List.ne_nil_of_length_pos hn);refine ⟨b, o, c, rfl, hb, fun t ht => ?_⟩;rw [triI_nat T t ht];exact hc t ht
theorem sz_of_fr {q : Rat} (h : Fr 2 76 q) : Sz 2 q := by
 obtain ⟨n, h1, h2⟩ := h;exact sz_of_div (n := 2) (m := n) (by decide) (by omega) (by decide) (by rw [<- h1]; rfl)
theorem fr_subQ {F G : List Rat} (hF : ∀ q ∈ F, Fr 2 38 q) (hG : ∀ q ∈ G, Fr 2 38 q) : ∀ q ∈ subQ F G, Fr 2 76 q := fun q hq => by
 unfold subQ at hq;obtain ⟨i, hi, rfl⟩ := List.getElem_of_mem hq;rw [List.getElem_zipWith];rw [List.length_zipWith] at hi;exact (hF _ (List.getElem_mem (by omega))).sub (hG _ (List.getElem_mem (by omega)))
theorem minor05_any (a b c d : Rat) (k : Nat) (hk : 0 < k) (hk2 : k <= 4000) (ha : Sz k a) (hb : Sz k b) (hc : Sz k c) (hd : Sz k d) (w : World) (hg : Good w) :
 Calls Tryz.prog 72 #[.string (RS a), .string (RS b), .string (RS c), .string (RS d)] w (Ret (fun r _ => r = .string (RS (a * b - c * d))) w) := by
 have H1 := hid fun w hg => mulQ_any a b k hk (by omega) ha hb w hg
 have H2 := hid fun w hg => mulQ_any c d k hk (by omega) hc hd w hg
 have z1 : Sz (2 * k) (a * b) := (ha.mul hb).mono (by omega);have z2 : Sz (2 * k) (c * d) := (hc.mul hd).mono (by omega);have H3 := hid fun w hg => subQ_any (a * b) (c * d) (2 * k) (by omega) (by omega) z1 z2 w hg
 generalize a * b = x at *;generalize c * d = y at *;clear ha hb hc hd z1 z2;go_enter Tryz.func72, Tryz.ntmps72;go_wp2_with fail;refine (H1.out w hg).mono ?_;rintro e w1 ⟨_, rfl, rfl, hb1⟩;go_wp2_with fail;refine (H2.out w1 (hg.below hb1)).mono ?_;rintro e w2 ⟨_, rfl, rfl, hb2⟩;have hB2 := hb1.trans (hb2.mono hb1.size);go_wp2_with fail;refine (H3.out w2 (hg.below hB2)).mono ?_;rintro e w3 ⟨_, rfl, rfl, hb3⟩;go_wp2_with fail;go_ret;exact ⟨_, rfl, rfl, hB2.trans (hb3.mono hB2.size)⟩
theorem area05_any (a b c : PtQ) (k : Nat) (hk : 0 < k) (hk2 : k <= 1000) (ha : SzP k a) (hb : SzP k b) (hc : SzP k c) (w : World) (hg : Good w) :
 Calls Tryz.prog 25 #[VP a, VP b, VP c] w (Ret (fun r _ => r = .string (RS (areaQ a b c))) w) := by
 obtain ⟨W, hW, ⟨a0, a1⟩, ⟨b0, b1⟩, ⟨c0, c1⟩, hbW, hsz⟩ := three_boxes w a b c 33;have hgW := hg.below hbW;obtain ⟨ax, ay⟩ := a;obtain ⟨bx, bY⟩ := b;obtain ⟨cx, cy⟩ := c;unfold VP areaQ;dsimp only [SzP] at *;have HW := hid hW;have H1 := hid fun w hg => subQ_any bx ax k hk (by omega) hb.1 ha.1 w hg
 have H2 := hid fun w hg => subQ_any cy ay k hk (by omega) hc.2 ha.2 w hg
 have H3 := hid fun w hg => subQ_any bY ay k hk (by omega) hb.2 ha.2 w hg
 have H4 := hid fun w hg => subQ_any cx ax k hk (by omega) hc.1 ha.1 w hg
 have d1 : Sz (2 * k + 1) (bx - ax) := (hb.1.sub ha.1).mono (by omega);have d2 : Sz (2 * k + 1) (cy - ay) := (hc.2.sub ha.2).mono (by omega);have d3 : Sz (2 * k + 1) (bY - ay) := (hb.2.sub ha.2).mono (by omega);have d4 : Sz (2 * k + 1) (cx - ax) := (hc.1.sub ha.1).mono (by omega);have H5 := hid fun w hg => minor05_any (bx - ax) (cy - ay) (bY - ay) (cx - ax) (2 * k + 1) (by omega) (by omega) d1 d2 d3 d4 w hg
 generalize bx - ax = x1 at *;generalize cy - ay = x2 at *;generalize bY - ay = x3 at *;generalize cx - ax = x4 at *;clear hW ha hb hc d1 d2 d3 d4;go_enter Tryz.func25, Tryz.ntmps25;have hgd : Good W.drew := hgW.drewN 1;go_upto_region 1 with fail;rw [<- HW.out];go_region_held3 (fun w' => w'.cell? ⟨w.heap.size, 0, none⟩ = some (.string (RS ax)) /\ w'.cell? ⟨w.heap.size, 1, none⟩ = some (.string (RS ay)) /\ w'.cell? ⟨w.heap.size + 1, 0, none⟩ = some (.string (RS bx)) /\ w'.cell? ⟨w.heap.size + 1, 1, none⟩ = some (.string (RS bY)) /\ w'.cell? ⟨w.heap.size + 2, 0, none⟩ = some (.string (RS cx)) /\ w'.cell? ⟨w.heap.size + 2, 1, none⟩ = some (.string (RS cy)))
  (first | exact ⟨a0, a1, b0, b1, c0, c1⟩ | exact ⟨p_1_0, p_1_1, p_1_2, p_1_3, p_1_4, p_1_5⟩ | exact ⟨p_2_0, p_2_1, p_2_2, p_2_3, p_2_4, p_2_5⟩ | exact ⟨p_3_0, p_3_1, p_3_2, p_3_3, p_3_4, p_3_5⟩ | exact ⟨p_4_0, p_4_1, p_4_2, p_4_3, p_4_4, p_4_5⟩ | exact ⟨p_5_0, p_5_1, p_5_2, p_5_3, p_5_4, p_5_5⟩)
  (first
  | (go_at_call 72; refine (H5.out _ pg4).mono ?_; rintro e pw5 ⟨_, rfl, rfl, pb5⟩
     have p_5_0 := zct pb5 p_4_0;have p_5_1 := zct pb5 p_4_1;have p_5_2 := zct pb5 p_4_2;have p_5_3 := zct pb5 p_4_3;have p_5_4 := zct pb5 p_4_4;have p_5_5 := zct pb5 p_4_5;have ps5 := pb5.size;have pg5 := pg4.below pb5)
  | (go_at_call 16; refine (H4.out _ pg3).mono ?_; rintro e pw4 ⟨_, rfl, rfl, pb4⟩
     have p_4_0 := zct pb4 p_3_0;have p_4_1 := zct pb4 p_3_1;have p_4_2 := zct pb4 p_3_2;have p_4_3 := zct pb4 p_3_3;have p_4_4 := zct pb4 p_3_4;have p_4_5 := zct pb4 p_3_5;have ps4 := pb4.size;have pg4 := pg3.below pb4)
  | (go_at_call 16; refine (H3.out _ pg2).mono ?_; rintro e pw3 ⟨_, rfl, rfl, pb3⟩
     have p_3_0 := zct pb3 p_2_0;have p_3_1 := zct pb3 p_2_1;have p_3_2 := zct pb3 p_2_2;have p_3_3 := zct pb3 p_2_3;have p_3_4 := zct pb3 p_2_4;have p_3_5 := zct pb3 p_2_5;have ps3 := pb3.size;have pg3 := pg2.below pb3)
  | (go_at_call 16; refine (H2.out _ pg1).mono ?_; rintro e pw2 ⟨_, rfl, rfl, pb2⟩
     have p_2_0 := zct pb2 p_1_0;have p_2_1 := zct pb2 p_1_1;have p_2_2 := zct pb2 p_1_2;have p_2_3 := zct pb2 p_1_3;have p_2_4 := zct pb2 p_1_4;have p_2_5 := zct pb2 p_1_5;have ps2 := pb2.size;have pg2 := pg1.below pb2)
  | (go_at_call 16; refine (H1.out _ hgd).mono ?_; rintro e pw1 ⟨_, rfl, rfl, pb1⟩
     have p_1_0 := zct pb1 a0;have p_1_1 := zct pb1 a1;have p_1_2 := zct pb1 b0;have p_1_3 := zct pb1 b1;have p_1_4 := zct pb1 c0;have p_1_5 := zct pb1 c1;have ps1 : W.heap.size <= pw1.heap.size := pb1.size;have pg1 := hgd.below pb1))
 have pB : Below W.heap.size W pw5 := zbt (zbt (zbt (zbt (zbt (below_drewN W 1) pb1) pb2) pb3) pb4) pb5;have hB7 := hbW.trans (pB.mono hbW.size);go_wp2_with fail;go_ret;exact ⟨_, rfl, rfl, hB7⟩
theorem lcorn13_any (w : World) (vp vt : Value) (P : List PtQ) (T : List Tri) (k : Nat) (hp : RdP w vp (strP P)) (ht : RdT w vt T) (hm : MeshIn P T k) (t : Nat) (htl : t < T.length) (tr : Tri) (htr : tr = T[t]) (_hg : Good w) :
 Calls Tryz.prog 23 #[.agg #[vp, vt], .int .i64 (t : Int)] w (Ret (fun r w' => RdP w' r (strP [ptI P tr.1, ptI P tr.2.1, ptI P tr.2.2])) w) := by
 obtain ⟨pp, cp, rfl, hpc, hpm, hpr⟩ := hp.open;obtain ⟨pt, ct, rfl, htc, htm, htr'⟩ := ht.open;rw [strP_length] at hpc ⊢;obtain ⟨bt, ot, rfl, hbt, hcell⟩ := htr' (List.ne_nil_of_length_pos (by omega));obtain ⟨e0, e1, e2⟩ := hcell t htl;rw [<- htr] at e0 e1 e2;have hidx := hm.idx tr (by rw [htr]; exact List.getElem_mem htl);obtain ⟨q0z, q1z, q2z⟩ := tr;dsimp only at hidx e0 e1 e2 ⊢;obtain ⟨a00, a01⟩ := hidx q0z (by simp [idxOf]);obtain ⟨a10, a11⟩ := hidx q1z (by simp [idxOf]);obtain ⟨a20, a21⟩ := hidx q2z (by simp [idxOf]);obtain ⟨q0, rfl⟩ : ∃ q : Nat, q0z = (q : Int) := ⟨q0z.toNat, by omega⟩;obtain ⟨q1, rfl⟩ : ∃ q : Nat, q1z = (q : Int) := ⟨q1z.toNat, by omega⟩;obtain ⟨q2, rfl⟩ : ∃ q : Nat, q2z = (q : Int) := ⟨q2z.toNat, by omega⟩;have g0 : q0 < P.length := by omega
 have g1 : q1 < P.length := by omega
 have g2 : q2 < P.length := by omega
 obtain ⟨bp, op, rfl, hbp, hpc'⟩ := hpr (by intro e; have h := strP_length P; rw [e] at h; simp at h; omega);rw [ptI_nat P q0 g0, ptI_nat P q1 g1, ptI_nat P q2 g2];obtain ⟨k00, k01⟩ := hpc' q0 (by rw [strP_length]; exact g0);obtain ⟨k10, k11⟩ := hpc' q1 (by rw [strP_length]; exact g1);obtain ⟨k20, k21⟩ := hpc' q2 (by rw [strP_length]; exact g2);rw [strP_get P q0 g0] at k00 k01;rw [strP_get P q1 g1] at k10 k11;rw [strP_get P q2 g2] at k20 k21;dsimp only at k00 k01 k10 k11 k20 k21;have f0 : (q0 : Int) < (P.length : Int) := by omega
 have f1 : (q1 : Int) < (P.length : Int) := by omega
 have f2 : (q2 : Int) < (P.length : Int) := by omega
 generalize P[q0] = p0 at *;generalize P[q1] = p1 at *;generalize P[q2] = p2 at *;have htz : (t : Int) < (T.length : Int) := by omega
 have hwt : IntKind.i64.wrap (t : Int) = (t : Int) := IntWalk.i64_in _ (by have := hm.tlen; omega);clear htr hidx hpr hpc' hp hm ht htr' hcell a00 a01 a10 a11 a20 a21;go_enter Tryz.func23, Tryz.ntmps23;go_upto_region 1 with fail;obtain ⟨W, hW⟩ : ∃ W, W = w.alloc (.cells #[.slice (some ⟨bp, op, none⟩) P.length cp, .slice (some ⟨bt, ot, none⟩) T.length ct] 38) := ⟨_, rfl⟩;have hB : Below w.heap.size w W := by rw [hW]; exact zal _ _
 have b1 : BoxN W w.heap.size 38 [.slice (some ⟨bp, op, none⟩) P.length cp, .slice (some ⟨bt, ot, none⟩) T.length ct] := by rw [hW]; exact BoxN.new _ _ _ _ rfl
 rw [<- hW];clear hW;have m0 := b1.cell 0 rfl;have m1 := b1.cell 1 rfl;have t0 := zcq hB hbt e0;have t1 := zcq hB hbt e1;have t2 := zcq hB hbt e2;go_upto_region 2 with fail;obtain ⟨V, hV⟩ : ∃ V, V = W.alloc (.cells #[.int .i64 (q0 : Int), .int .i64 (q1 : Int), .int .i64 (q2 : Int)] 71) := ⟨_, rfl⟩;have hbV : Below W.heap.size W V := by rw [hV]; exact zal _ _
 have bT : BoxN V W.heap.size 71 [.int .i64 (q0 : Int), .int .i64 (q1 : Int), .int .i64 (q2 : Int)] := by rw [hV]; exact BoxN.new _ _ _ _ rfl
 rw [<- hV];clear hV m0 m1 t0 t1 t2;have hB2 := hB.trans (hbV.mono hB.size);have b2 := b1.below hbV b1.lt;have m0 := b2.cell 0 rfl;have t0 := bT.cell 0 rfl;have t1 := bT.cell 1 rfl;have t2 := bT.cell 2 rfl;have l00 := zcq hB2 hbp k00;have l01 := zcq hB2 hbp k01;have l10 := zcq hB2 hbp k10;have l11 := zcq hB2 hbp k11;have l20 := zcq hB2 hbp k20;have l21 := zcq hB2 hbp k21;have lb := b2.lt;have lt := bT.lt;have lp : bp < V.heap.size := Nat.lt_of_lt_of_le hbp hB2.size;have HS : Hid (∀ w', Below V.heap.size V w' -> w'.cell? ⟨w.heap.size, 0, none⟩ = some (.slice (some ⟨bp, op, none⟩) P.length cp) /\ w'.cell? ⟨W.heap.size, 0, none⟩ = some (.int .i64 (q0 : Int)) /\ w'.cell? ⟨W.heap.size, 1, none⟩ = some (.int .i64 (q1 : Int)) /\ w'.cell? ⟨W.heap.size, 2, none⟩ = some (.int .i64 (q2 : Int)) /\ w'.cell? ⟨bp, op + q0 * 2, none⟩ = some (.string (RS p0.1)) /\ w'.cell? ⟨bp, op + q0 * 2 + 1, none⟩ = some (.string (RS p0.2)) /\ w'.cell? ⟨bp, op + q1 * 2, none⟩ = some (.string (RS p1.1)) /\ w'.cell? ⟨bp, op + q1 * 2 + 1, none⟩ = some (.string (RS p1.2)) /\ w'.cell? ⟨bp, op + q2 * 2, none⟩ = some (.string (RS p2.1)) /\ w'.cell? ⟨bp, op + q2 * 2 + 1, none⟩ = some (.string (RS p2.2))) := fun w' hb => ⟨(zcq hb lb m0 :), (zcq hb lt t0 :), (zcq hb lt t1 :), (zcq hb lt t2 :), (zcq hb lp l00 :), (zcq hb lp l01 :), (zcq hb lp l10 :), (zcq hb lp l11 :), (zcq hb lp l20 :), (zcq hb lp l21 :)⟩;have hq00 : Below V.heap.size V V.drew := below_drewN V 1;clear k00 k01 k10 k11 k20 k21 e0 e1 e2 b1 b2 bT hbt hbp;go_region_held3 (fun w' => w'.cell? ⟨w.heap.size, 0, none⟩ = some (.slice (some ⟨bp, op, none⟩) P.length cp) /\ w'.cell? ⟨W.heap.size, 0, none⟩ = some (.int .i64 (q0 : Int)) /\ w'.cell? ⟨W.heap.size, 1, none⟩ = some (.int .i64 (q1 : Int)) /\ w'.cell? ⟨W.heap.size, 2, none⟩ = some (.int .i64 (q2 : Int)) /\ w'.cell? ⟨bp, op + q0 * 2, none⟩ = some (.string (RS p0.1)) /\ w'.cell? ⟨bp, op + q0 * 2 + 1, none⟩ = some (.string (RS p0.2)) /\ w'.cell? ⟨bp, op + q1 * 2, none⟩ = some (.string (RS p1.1)) /\ w'.cell? ⟨bp, op + q1 * 2 + 1, none⟩ = some (.string (RS p1.2)) /\ w'.cell? ⟨bp, op + q2 * 2, none⟩ = some (.string (RS p2.1)) /\ w'.cell? ⟨bp, op + q2 * 2 + 1, none⟩ = some (.string (RS p2.2)))
  ((refine HS.out _ ?_; repeat (first | with_reducible exact hq00 | with_reducible exact Below.refl _ _ | with_reducible refine Below.drew ?_ | ((with_reducible refine Below.setCell ?_ ?_ _); rotate_left; (first | omega | (simp <;> omega))) | ((with_reducible refine Below.alloc ?_ ?_ _); rotate_left; (first | exact Nat.le_refl _ | omega | (simp <;> omega))))))
  (first | fail)
 all_goals
  go_wp2_with fail;have hBV : Below w.heap.size w V.drew := hB2.trans ((below_drewN V 1).mono hB2.size);go_ret;first
   | exact ⟨_, rfl, RdC.fresh 2 _ _ _ 3 rfl (by omega) _ rfl _ rfl, hBV.alloc hBV.size _⟩
   | exact ⟨_, rfl, (RdC.fresh 2 _ _ _ 3 rfl (by omega) _ rfl _ rfl).below (below_drewN _ 1), (hB2.alloc hB2.size _).trans ((below_drewN _ 1).mono (hB2.alloc hB2.size _).size)⟩
theorem ptF_sz {P : List PtQ} {m : Nat} (h : ∀ p ∈ P, SzP m p) (hk : 0 < m) (z : Int) : SzP m (ptI P z) := by
 unfold ptI;rcases Nat.lt_or_ge z.toNat P.length with h1 | h1
 ·rw [List.getElem?_eq_getElem h1]; exact h _ (List.getElem_mem h1)
 ·rw [List.getElem?_eq_none h1]; exact ⟨Sz.zero _ hk, Sz.zero _ hk⟩
def lonA (P : List PtQ) (tr : Tri) : Nat -> PtQ | 0 => ptI P tr.1 | 1 => ptI P tr.2.1 | _ => ptI P tr.2.2
def lonF (F : List Rat) (tr : Tri) : Nat -> Rat | 0 => hI F tr.1 | 1 => hI F tr.2.1 | _ => hI F tr.2.2
def lonTo (P : List PtQ) (F : List Rat) (tr : Tri) (p : PtQ) : Nat -> Rat
 | 0 => 0
 | i + 1 => lonTo P F tr p i + areaQ p (lonA P tr ((i + 1) % 3)) (lonA P tr ((i + 2) % 3)) * lonF F tr i
theorem lonT_to (P : List PtQ) (F : List Rat) (tr : Tri) (p : PtQ) : lonT P F tr p = lonTo P F tr p 3 / areaQ (ptI P tr.1) (ptI P tr.2.1) (ptI P tr.2.2) := rfl
theorem lon13_any (w : World) (vp vt vf : Value) (P : List PtQ) (T : List Tri) (k : Nat) (F : List Rat) (h : FieldIn w vp vt vf P T k F) (t : Nat) (htl : t < T.length) (tr : Tri) (htr : tr = T[t]) (p : PtQ) (m : Nat) (hm : m <= 700) (hp : SzP m p) (hkm : k <= m) (hg : Good w) :
 Calls Tryz.prog 39 #[.agg #[vp, vt], vf, .int .i64 (t : Int), .agg #[.string (RS p.1), .string (RS p.2)]] w (Ret (fun r _ => r = .string (RS (lonT P F tr p))) w) := by
 have hm0 : 0 < m := by have := h.m.kpos; omega
 have hmem : tr ∈ T := by rw [htr]; exact List.getElem_mem htl
 have hidx := h.m.idx tr hmem;have hfl := h.fl;have hAne : areaQ (ptI P tr.1) (ptI P tr.2.1) (ptI P tr.2.2) ≠ 0 := by have := areaQ_pos h.m hmem; intro e; rw [e] at this; exact absurd this (by decide)
 have zP : ∀ i, SzP m (lonA P tr i) := fun i => by
  have hs : ∀ p ∈ P, SzP m p := fun p hp => ⟨(h.m.sz p hp).1.mono hkm, (h.m.sz p hp).2.mono hkm⟩;unfold lonA; split <;> exact ptF_sz hs hm0 _
 have zF : ∀ i, Sz m (lonF F tr i) := fun i => by
  have hs : ∀ z : Int, Sz m (hI F z) := fun z => by
   unfold hI;rcases Nat.lt_or_ge z.toNat F.length with h1 | h1
   ·rw [List.getElem?_eq_getElem h1]; exact (h.fs _ (List.getElem_mem h1)).mono hkm
   ·rw [List.getElem?_eq_none h1]; exact Sz.zero _ hm0
  unfold lonF; split <;> exact hs _
 have zS : ∀ i j, Sz (8 * m + 6) (areaQ p (lonA P tr i) (lonA P tr j)) := fun i j => (areaQ_Sz hp (zP i) (zP j)).mono (by omega)
 have zT : ∀ i, Sz ((9 * m + 7) * i + 1) (lonTo P F tr p i) := fun i => by
  induction i with
  | zero => exact Sz.zero 1 (by omega)
  | succ i ih => exact (ih.add ((zS _ _).mul (zF i))).mono (by rw [Nat.mul_add]; omega)
 have HCN : Hid (∀ w', Below w.heap.size w w' -> Good w' -> Calls Tryz.prog 23 #[.agg #[vp, vt], .int .i64 (t : Int)] w' (Ret (fun r w' => RdP w' r (strP [ptI P tr.1, ptI P tr.2.1, ptI P tr.2.2])) w')) := fun w' hb hg => lcorn13_any w' vp vt P T k (RdC.below h.p hb) (RdC.below h.t hb) h.m.toMeshIn t htl tr htr hg;have HAR : Hid (∀ (i j : Nat) (w : World), Good w -> _) := fun i j w hg => area05_any p (lonA P tr i) (lonA P tr j) m hm0 (by omega) hp (zP i) (zP j) w hg
 have HA2 := hid fun w hg => area05_any (lonA P tr 0) (lonA P tr 1) (lonA P tr 2) m hm0 (by omega) (zP 0) (zP 1) (zP 2) w hg
 have HMU : Hid (∀ (i : Nat) (w : World), Good w -> _) := fun i w hg => mulQ_any (areaQ p (lonA P tr ((i + 1) % 3)) (lonA P tr ((i + 2) % 3))) (lonF F tr i) (9 * m + 6) (by omega) (by omega) ((zS _ _).mono (by omega)) ((zF i).mono (by omega)) w hg
 have HAD : Hid (∀ (i : Nat), i < 3 -> ∀ (w : World), Good w -> _) := fun i hi w hg => addQ_any (lonTo P F tr p i) (areaQ p (lonA P tr ((i + 1) % 3)) (lonA P tr ((i + 2) % 3)) * lonF F tr i) ((9 * m + 7) * 3 + 1) (by omega) (by omega) ((zT i).mono (by have := Nat.mul_le_mul_left (9 * m + 7) (show i <= 3 by omega); omega)) (((zS _ _).mul (zF i)).mono (by omega)) w hg
 have HDV := hid fun w hg => divQ_any (lonTo P F tr p 3) (areaQ (lonA P tr 0) (lonA P tr 1) (lonA P tr 2)) ((9 * m + 7) * 3 + 1) (by omega) (by omega) (zT 3) ((areaQ_Sz (zP 0) (zP 1) (zP 2)).mono (by omega)) hAne w hg
 rw [lonT_to];rw [show areaQ (ptI P tr.1) (ptI P tr.2.1) (ptI P tr.2.2) = areaQ (lonA P tr 0) (lonA P tr 1) (lonA P tr 2) from rfl];obtain ⟨bt, ot, ct, rfl, hbt, e0, e1, e2⟩ := h.tri t htl;have HFT : Hid (∀ i : Nat, i < 3 -> ∃ (q : Nat) (bf of cf : Nat), q < F.length /\ vf = .slice (some ⟨bf, of, none⟩) F.length cf /\ bf < w.heap.size /\ w.cell? ⟨bt, ot + t * 3 + i, none⟩ = some (.int .i64 (q : Int)) /\ w.cell? ⟨bf, of + q, none⟩ = some (.string (RS (lonF F tr i)))) := fun i hi => by
  rw [<- htr] at e0 e1 e2;have key : ∀ z : Int, 0 <= z -> z < P.length -> ∃ (q : Nat) (bf of cf : Nat), z = (q : Int) /\ q < F.length /\ vf = .slice (some ⟨bf, of, none⟩) F.length cf /\ bf < w.heap.size /\ w.cell? ⟨bf, of + q, none⟩ = some (.string (RS (hI F z))) := fun z h0 h1 => by
   obtain ⟨q, rfl⟩ : ∃ q : Nat, z = (q : Int) := ⟨z.toNat, by omega⟩;obtain ⟨bf, of, cf, hv, hbf, ef⟩ := h.hgt q (by omega);exact ⟨q, bf, of, cf, rfl, by omega, hv, hbf, ef⟩
  rcases (by omega : i = 0 \/ i = 1 \/ i = 2) with rfl | rfl | rfl
  ·obtain ⟨q, bf, of, cf, hq, x1, x2, x3, x4⟩ := key tr.1 (hidx _ (by simp [idxOf])).1 (hidx _ (by simp [idxOf])).2
   exact ⟨q, bf, of, cf, x1, x2, x3, by rw [<- hq]; exact e0, x4⟩
  ·obtain ⟨q, bf, of, cf, hq, x1, x2, x3, x4⟩ := key tr.2.1 (hidx _ (by simp [idxOf])).1 (hidx _ (by simp [idxOf])).2
   exact ⟨q, bf, of, cf, x1, x2, x3, by rw [<- hq]; exact e1, x4⟩
  ·obtain ⟨q, bf, of, cf, hq, x1, x2, x3, x4⟩ := key tr.2.2 (hidx _ (by simp [idxOf])).1 (hidx _ (by simp [idxOf])).2
   exact ⟨q, bf, of, cf, x1, x2, x3, by rw [<- hq]; exact e2, x4⟩
 obtain ⟨pp, cp, rfl, -, -, -⟩ := h.p.open;rw [strP_length] at *;rw [show strP [ptI P tr.1, ptI P tr.2.1, ptI P tr.2.2] = strP [lonA P tr 0, lonA P tr 1, lonA P tr 2] from rfl] at HCN;have HTO : Hid (∀ i, lonTo P F tr p (i + 1) = lonTo P F tr p i + areaQ p (lonA P tr ((i + 1) % 3)) (lonA P tr ((i + 2) % 3)) * lonF F tr i) := fun i => rfl;have hto0 : lonTo P F tr p 0 = 0 := rfl;have htz : (t : Int) < (T.length : Int) := by omega
 have hwt : IntKind.i64.wrap (t : Int) = (t : Int) := IntWalk.i64_in _ (by have := h.m.tlen; omega);have hT8 := h.m.tlen;unfold VP at HAR HA2;generalize lonTo P F tr p = LT at *;generalize lonA P tr = A at *;generalize lonF F tr = Fz at *;clear h hidx htr hmem e0 e1 e2 hAne zP zF zS zT hp hfl;go_enter Tryz.func39, Tryz.ntmps39;go_upto_region 1 with fail;obtain ⟨W, hW⟩ : ∃ W, W = (w.alloc (.cells #[.slice pp P.length cp, .slice (some ⟨bt, ot, none⟩) T.length ct] 38)).alloc (.cells #[.string (RS p.1), .string (RS p.2)] 33) := ⟨_, rfl⟩;have hB : Below w.heap.size w W := by rw [hW]; exact zal2 _ _ _
 have b7 : BoxN W (w.heap.size + 1) 33 [.string (RS p.1), .string (RS p.2)] := by rw [hW]; exact BoxN.new _ _ _ _ (by simp)
 have b4 : BoxN W w.heap.size 38 [.slice pp P.length cp, .slice (some ⟨bt, ot, none⟩) T.length ct] := by
  rw [hW];have h1 := (BoxN.new w #[.slice pp P.length cp, .slice (some ⟨bt, ot, none⟩) T.length ct] 38 _ rfl);exact h1.below (zal _ _) h1.lt
 rw [<- hW];clear hW;have m0 := b4.cell 0 rfl;have m1 := b4.cell 1 rfl;go_wp2_with fail;refine (HCN.out W hB (hg.below hB)).mono ?_;rintro e w1 ⟨_, rfl, hrc, hb1⟩;have hB1 := hB.trans (hb1.mono hB.size);have b71 := b7.below hb1 b7.lt;have b41 := b4.below hb1 b4.lt;obtain ⟨pc, cc, rfl, -, -, hcc⟩ := hrc.open;obtain ⟨bc, oc, rfl, hbc, hcel⟩ := hcc (by simp [strP]);have HCC : Hid (∀ i : Nat, i < 3 -> w1.cell? ⟨bc, oc + i * 2, none⟩ = some (.string (RS (A i).1)) /\ w1.cell? ⟨bc, oc + i * 2 + 1, none⟩ = some (.string (RS (A i).2))) := fun i hi => by
  rcases (by omega : i = 0 \/ i = 1 \/ i = 2) with rfl | rfl | rfl
  ·exact hcel 0 (by simp [strP])
  ·exact hcel 1 (by simp [strP])
  ·exact hcel 2 (by simp [strP])
 rw [show (strP [A 0, A 1, A 2]).length = 3 from rfl];have HJ : Hid (∀ i : Nat, i < 3 -> ∃ jb jc : Nat, jb < 3 /\ jc < 3 /\ jb = (i + 1) % 3 /\ jc = (i + 2) % 3 /\ ((i : Int) + 1).tmod 3 = (jb : Int) /\ ((i : Int) + 2).tmod 3 = (jc : Int)) := fun i hi => by
  rcases (by omega : i = 0 \/ i = 1 \/ i = 2) with rfl | rfl | rfl
  ·exact ⟨1, 2, by omega, by omega, rfl, rfl, by decide, by decide⟩
  ·exact ⟨2, 0, by omega, by omega, rfl, rfl, by decide, by decide⟩
  ·exact ⟨0, 1, by omega, by omega, rfl, rfl, by decide, by decide⟩
 clear hb1 hB b7 b4 m0 m1 hrc hcc hcel HCN;go_wp2_with fail;go_loopw [10, 11] (fun t10 t11 wr => ∃ i : Nat, t11 = .int .i64 i /\ i <= 3 /\ t10 = .string (RS (LT i)) /\ Below w1.heap.size w1 wr) (fun _ t11 _ => 3 - (RowKit.intOf t11).toNat)
 case atStart => exact ⟨0, rfl, Nat.zero_le _, by rw [hto0, RS_zero], Below.refl _ _⟩
 case round =>
  obtain ⟨i, rfl, hi, rfl, hbr⟩ := hrel;have hBr := hB1.trans (hbr.mono hB1.size);have hbcr : bc < wr.heap.size := Nat.lt_of_lt_of_le hbc hbr.size;rcases Nat.lt_or_ge i 3 with h3 | h3
  ·have hiz : (i : Int) < 3 := by omega
   obtain ⟨jb, jc, hjb, hjc, ejb, ejc, hr1, hr2⟩ := HJ.out i h3;obtain ⟨q, bf, of, cf, hqF, rfl, hbf, ct0, cf0⟩ := HFT.out i h3;have HS1 := hid (HTO.out i);rw [<- ejb, <- ejc] at HS1;have HA1 := hid fun w hg => HAR.out jb jc w hg;have HM1 := hid fun w hg => HMU.out i w hg;have HD1 := hid fun w hg => HAD.out i h3 w hg;rw [<- ejb, <- ejc] at HM1 HD1;have x0 := zcq hbr hbc (HCC.out jb hjb).1;have x1 := zcq hbr hbc (HCC.out jb hjb).2;have x2 := zcq hbr hbc (HCC.out jc hjc).1;have x3 := zcq hbr hbc (HCC.out jc hjc).2;have b7r := b71.below hbr b71.lt;have b4r := b41.below hbr b41.lt;have y0 := b7r.cell 0 rfl;have y1 := b7r.cell 1 rfl;have hl7 := b7r.lt;have hgd : Good wr.drew := (hg.below hBr).drewN 1;have hw1 : IntKind.i64.wrap ((i : Int) + 1) = (i : Int) + 1 := IntWalk.i64_in _ (by omega);have hw2 : IntKind.i64.wrap ((i : Int) + 2) = (i : Int) + 2 := IntWalk.i64_in _ (by omega);have hw3 : IntKind.i64.wrap (jb : Int) = (jb : Int) := IntWalk.i64_in _ (by omega);have hw4 : IntKind.i64.wrap (jc : Int) = (jc : Int) := IntWalk.i64_in _ (by omega);have hjbz : (jb : Int) < 3 := by omega
   have hjcz : (jc : Int) < 3 := by omega
   generalize areaQ p (A jb) (A jc) = ar at *;generalize A jb = pb at *;generalize A jc = pd at *;clear ejb ejc;go_wp2_with fail;go_region_held3 (fun w' => w'.cell? ⟨w.heap.size + 1, 0, none⟩ = some (.string (RS p.1)) /\ w'.cell? ⟨w.heap.size + 1, 1, none⟩ = some (.string (RS p.2)) /\ w'.cell? ⟨bc, oc + jb * 2, none⟩ = some (.string (RS pb.1)) /\ w'.cell? ⟨bc, oc + jb * 2 + 1, none⟩ = some (.string (RS pb.2)) /\ w'.cell? ⟨bc, oc + jc * 2, none⟩ = some (.string (RS pd.1)) /\ w'.cell? ⟨bc, oc + jc * 2 + 1, none⟩ = some (.string (RS pd.2)))
    (first | exact ⟨y0, y1, x0, x1, x2, x3⟩ | exact ⟨p_1_0, p_1_1, p_1_2, p_1_3, p_1_4, p_1_5⟩)
    (first
    | (go_at_call 25; refine (HA1.out _ hgd).mono ?_; rintro e pw1 ⟨_, rfl, rfl, pb1⟩
       have p_1_0 := zct pb1 y0;have p_1_1 := zct pb1 y1;have p_1_2 := zct pb1 x0;have p_1_3 := zct pb1 x1;have p_1_4 := zct pb1 x2;have p_1_5 := zct pb1 x3;have ps1 : wr.heap.size <= pw1.heap.size := pb1.size;have pg1 := hgd.below pb1))
   have pB : Below wr.heap.size wr pw1 := zbt (below_drewN wr 1) pb1;have hbq := hbr.trans (pB.mono hbr.size);have hBq := hBr.trans (pB.mono hBr.size);have b4q := b4r.below pB b4r.lt;have m1 := b4q.cell 1 rfl;have c0 := zcq hBq hbt ct0;have c1 := zcq hBq hbf cf0;have hqz : (q : Int) < (F.length : Int) := by omega
   clear x0 x1 x2 x3 y0 y1 b7r b4r hw1 hw2 hw3 hw4 hr1 hr2 hgd HA1;go_wp2_with fail;refine (HM1.out _ (hg.below hBq)).mono ?_;rintro e w3 ⟨_, rfl, rfl, hb3⟩;have hbq3 := hbq.trans (hb3.mono hbq.size);have hBq3 := hBq.trans (hb3.mono hBq.size);clear m1 c0 c1 hb3;go_wp2_with fail;refine (HD1.out _ (hg.below hBq3)).mono ?_;rintro e w4 ⟨_, rfl, rfl, hb4⟩;have hbq4 := hbq3.trans (hb4.mono hbq3.size);go_wp2_with fail;go_roundw
   case rel => exact ⟨i + 1, by go_num, by omega, by rw [HS1.out], hbq4⟩
   case measure => simp [RowKit.intOf]; omega
  ·have hin : ¬ (i : Int) < 3 := by omega
   have HI : Hid (i = 3) := by unfold Hid; omega
   rw [HI.out];have x0 := (hbr.cell (p := ⟨bc, oc + 0 * 2, none⟩) hbc).trans (HCC.out 0 (by omega)).1;have x1 := (hbr.cell (p := ⟨bc, oc + 0 * 2 + 1, none⟩) hbc).trans (HCC.out 0 (by omega)).2;have x2 := (hbr.cell (p := ⟨bc, oc + 1 * 2, none⟩) hbc).trans (HCC.out 1 (by omega)).1;have x3 := (hbr.cell (p := ⟨bc, oc + 1 * 2 + 1, none⟩) hbc).trans (HCC.out 1 (by omega)).2;have x4 := (hbr.cell (p := ⟨bc, oc + 2 * 2, none⟩) hbc).trans (HCC.out 2 (by omega)).1;have x5 := (hbr.cell (p := ⟨bc, oc + 2 * 2 + 1, none⟩) hbc).trans (HCC.out 2 (by omega)).2;simp only [Nat.zero_mul, Nat.one_mul, Nat.reduceMul, Nat.add_zero, Nat.add_assoc, Nat.reduceAdd] at x0 x1 x2 x3 x4 x5;have hgd : Good wr.drew := (hg.below hBr).drewN 1;obtain ⟨ar, har⟩ : ∃ a, a = areaQ (A 0) (A 1) (A 2) := ⟨_, rfl⟩;rw [<- har] at HA2 HDV;have HAE := hid har;clear hi h3 har;go_wp2_with fail;go_region_held3 (fun w' => w'.cell? ⟨bc, oc, none⟩ = some (.string (RS (A 0).1)) /\ w'.cell? ⟨bc, oc + 1, none⟩ = some (.string (RS (A 0).2)) /\ w'.cell? ⟨bc, oc + 2, none⟩ = some (.string (RS (A 1).1)) /\ w'.cell? ⟨bc, oc + 3, none⟩ = some (.string (RS (A 1).2)) /\ w'.cell? ⟨bc, oc + 4, none⟩ = some (.string (RS (A 2).1)) /\ w'.cell? ⟨bc, oc + 5, none⟩ = some (.string (RS (A 2).2)))
    (first | exact ⟨x0, x1, x2, x3, x4, x5⟩ | exact ⟨p_1_0, p_1_1, p_1_2, p_1_3, p_1_4, p_1_5⟩ | exact ⟨p_2_0, p_2_1, p_2_2, p_2_3, p_2_4, p_2_5⟩)
    (first
    | (go_at_call 86; refine (HDV.out _ pg1).mono ?_; rintro e pw2 ⟨_, rfl, rfl, pb2⟩
       have p_2_0 := zct pb2 p_1_0;have p_2_1 := zct pb2 p_1_1;have p_2_2 := zct pb2 p_1_2;have p_2_3 := zct pb2 p_1_3;have p_2_4 := zct pb2 p_1_4;have p_2_5 := zct pb2 p_1_5;have ps2 := pb2.size;have pg2 := pg1.below pb2)
    | (go_at_call 25; refine (HA2.out _ hgd).mono ?_; rintro e pw1 ⟨_, rfl, rfl, pb1⟩
       have p_1_0 := zct pb1 x0;have p_1_1 := zct pb1 x1;have p_1_2 := zct pb1 x2;have p_1_3 := zct pb1 x3;have p_1_4 := zct pb1 x4;have p_1_5 := zct pb1 x5;have ps1 : wr.heap.size <= pw1.heap.size := pb1.size;have pg1 := hgd.below pb1))
   have pB : Below wr.heap.size wr pw2 := zbt (zbt (below_drewN wr 1) pb1) pb2;go_wp2_with fail;go_ret;exact ⟨_, rfl, (by rw [HAE.out]; exact rfl), hBr.trans (pB.mono hBr.size)⟩
theorem info_pt9 : ((Tryz.prog).info? 33).map (fun i => (i.zero, i.size, i.bytes)) = some (some (.agg #[.string ⟨#[]⟩, .string ⟨#[]⟩]), 2, 32) := by kernel_rfl
theorem less09_any (a b : PtQ) (k : Nat) (hk : 0 < k) (hk2 : k <= 20000) (ha : SzP k a) (hb : SzP k b) (w : World) (hg : Good w) :
 Calls Tryz.prog 160 #[.agg #[.string (RS a.1), .string (RS a.2)], .agg #[.string (RS b.1), .string (RS b.2)]] w (Ret (fun r _ => ∃ c : Bool, r = .bool c) w) := by
 have H1 := hid fun w hg => compareQ_any a.1 b.1 k hk hk2 ha.1 hb.1 w hg;have H2 := hid fun w hg => compareQ_any a.2 b.2 k hk hk2 ha.2 hb.2 w hg;clear ha hb;generalize cmpQ a.1 b.1 = c1 at *;generalize cmpQ a.2 b.2 = c2 at *;go_enter Tryz.func160, Tryz.ntmps160;go_wp2_with fail;obtain ⟨W, hW⟩ : ∃ W, W = (w.alloc (.cells #[.string (RS a.1), .string (RS a.2)] 33)).alloc (.cells #[.string (RS b.1), .string (RS b.2)] 33) := ⟨_, rfl⟩;have hB : Below w.heap.size w W := by rw [hW]; exact zal2 _ _ _
 have e3 : BoxN W (w.heap.size + 1) 33 [.string (RS b.1), .string (RS b.2)] := by rw [hW]; exact BoxN.new _ _ _ _ (by simp)
 have e2 : BoxN W w.heap.size 33 [.string (RS a.1), .string (RS a.2)] := by
  rw [hW];have h1 := BoxN.new w #[.string (RS a.1), .string (RS a.2)] 33 _ rfl;exact h1.below (zal _ _) h1.lt
 rw [<- hW];clear hW;refine (H1.out W (hg.below hB)).mono ?_;rintro e w1 ⟨_, rfl, rfl, hb1⟩;have hB1 := hB.trans (hb1.mono hB.size);have x1 := (e2.below hb1 e2.lt).cell 1 rfl;have y1 := (e3.below hb1 e3.lt).cell 1 rfl;clear e2 e3 hb1 hB;by_cases hc : c1 < 0
 ·have hcd : decide (c1 < 0) = true := decide_eq_true hc
  go_wp2_with fail;go_ret;exact ⟨_, rfl, ⟨_, rfl⟩, hB1⟩
 ·have hcd : decide (c1 < 0) = false := decide_eq_false hc
  by_cases h0 : c1 = 0
  ·subst h0
   go_wp2_with fail;refine (H2.out w1 (hg.below hB1)).mono ?_;rintro e w2 ⟨_, rfl, rfl, hb2⟩;go_wp2_with fail;go_ret;exact ⟨_, rfl, ⟨_, rfl⟩, hB1.trans (hb2.mono hB1.size)⟩
  ·have h0d : (c1 == 0) = false := by simpa using h0
   go_wp2_with fail;go_ret;exact ⟨_, rfl, ⟨_, rfl⟩, hB1⟩
theorem cellsPS_length (l : List PtQ) : (cellsP (strP l)).length = l.length * 2 := by
 induction l with
 | nil => rfl
 | cons a l ih => rw [show cellsP (strP (a :: l)) = [Value.string (RS a.1), .string (RS a.2)] ++ cellsP (strP l) from rfl, List.length_append, ih, List.length_cons]; simp; omega
theorem cellsPS_one (l : List PtQ) : ∀ u ∈ cellsP (strP l), u.oneCell' = true := fun u hu => by
 unfold cellsP at hu;obtain ⟨p, -, hp⟩ := List.mem_flatMap.1 hu;rcases List.mem_cons.1 hp with rfl | hp
 ·rfl
 ·rcases List.mem_cons.1 hp with rfl | hp
  ·rfl
  ·cases hp
theorem news_pts {w : World} {b o : Nat} {l : List PtQ} (n m : Nat) (hnm : n + m <= l.length) (h : ∀ i : Nat, i < l.length -> w.cell? ⟨b, o + i * 2, none⟩ = some (.string (RS (ptI l i).1)) /\ w.cell? ⟨b, o + i * 2 + 1, none⟩ = some (.string (RS (ptI l i).2))) :
 ∀ (j : Nat) (u : Value), (cellsP (strP ((l.drop n).take m)))[j]? = some u -> w.cell? ((⟨b, o + n * 2, none⟩ : Addr).add j) = some u := fun j u hu => by
 have hj : j < m * 2 := by
  have h1 := (List.getElem?_eq_some_iff.1 hu).1;rw [cellsPS_length, List.length_take, List.length_drop] at h1;have : min m (l.length - n) <= m := Nat.min_le_left _ _;omega
 have hA : (⟨b, o + n * 2, none⟩ : Addr).add j = ⟨b, o + n * 2 + j, none⟩ := by
  unfold Addr.add;split
  ·rename_i h0; rw [h0]; rfl
  ·rfl
 have hd : j = j / 2 * 2 + j % 2 := by omega
 have hi : n + j / 2 < l.length := by omega
 unfold cellsP at hu;rw [hd, getElem?_flatMap_const _ 2 (fun _ => rfl) _ _ _ (by omega)] at hu;have hg : (strP ((l.drop n).take m))[j / 2]? = some (RS (ptI l ((n + j / 2 : Nat) : Int)).1, RS (ptI l ((n + j / 2 : Nat) : Int)).2) := by
  unfold strP;rw [List.getElem?_map, List.getElem?_take_of_lt (by omega), List.getElem?_drop, List.getElem?_eq_getElem hi, ptI_nat l _ hi];rfl
 rw [hg] at hu;obtain ⟨c0, c1⟩ := h (n + j / 2) hi;rcases (by omega : j % 2 = 0 \/ j % 2 = 1) with e | e
 ·rw [e] at hu
  have hu' : some (Value.string (RS (ptI l ((n + j / 2 : Nat) : Int)).1)) = some u := hu;rw [<- hu', <- c0];rw [hA, show o + n * 2 + j = o + (n + j / 2) * 2 by omega]
 ·rw [e] at hu
  have hu' : some (Value.string (RS (ptI l ((n + j / 2 : Nat) : Int)).2)) = some u := hu;rw [<- hu', <- c1];rw [hA, show o + n * 2 + j = o + (n + j / 2) * 2 + 1 by omega]
theorem cellsPS_app (a b : List (ByteArray × ByteArray)) : cellsP (a ++ b) = cellsP a ++ cellsP b := by simp [cellsP]
theorem strP_append (a b : List PtQ) : strP (a ++ b) = strP a ++ strP b := by unfold strP; exact List.map_append
theorem owns_empty (w : World) (base t s : Nat) (hb : base <= w.heap.size) : (w.alloc (.cells #[] t)).drew.ownsRow base t s (.slice (some ⟨w.heap.size, 0, none⟩) 0 0) 0 [] := by
 refine ⟨by simp, .inr ⟨w.heap.size, 0, #[], rfl, hb, ?_, Nat.le_refl _, Nat.zero_le _, by simp, by simp⟩⟩;have := BoxN.new w #[] t w.heap.size rfl;exact this
theorem begin09_any (w : World) (v : Value) (l : List PtQ) (k : Nat) (hk : 0 < k) (hk2 : k <= 20000) (hl : 0 < l.length) (hl2 : l.length <= 100) (hs : ∀ p ∈ l, SzP k p) (hv : RdP w v (strP l)) (hg : Good w) :
 Calls Tryz.prog 104 #[v] w (Ret (fun r w' => ∃ n, n < l.length /\ RdP w' r (strP (begL l n))) w) := by
 have hmax : l.length <= maxLen := by unfold maxLen; omega
 have hcap : ∀ p c, v = .slice p l.length c -> l.length <= c /\ c <= maxLen := fun p c e => by
  obtain ⟨p', c', e', h1, h2, -⟩ := hv.open;rw [e] at e';rw [strP_length] at e' h1;injection e' with _ _ e3
  rw [e3];exact ⟨h1, h2⟩
 obtain ⟨b, o, c, rfl, hb, hc⟩ := hv.cells hl;obtain ⟨hc1, hc2⟩ := hcap _ _ rfl;have HLE : Hid (∀ i j : Nat, i < l.length -> j < l.length -> ∀ w, Good w -> Calls Tryz.prog 160 #[.agg #[.string (RS (ptI l i).1), .string (RS (ptI l i).2)], .agg #[.string (RS (ptI l j).1), .string (RS (ptI l j).2)]] w (Ret (fun r _ => ∃ c : Bool, r = .bool c) w)) := fun i j hi hj w hg => less09_any (ptI l i) (ptI l j) k hk hk2 (ptF_sz hs hk _) (ptF_sz hs hk _) w hg;have HCC := hid hc;obtain ⟨i0, hi, hzz0, hzz1, hzz2⟩ := info_parts info_pt9;clear hs hc hcap hv;go_enter Tryz.func104, Tryz.ntmps104;go_wp2_with fail;go_loopw [3, 4] (fun t3 t4 wr => ∃ i n : Nat, t4 = .int .i64 i /\ t3 = .int .i64 n /\ i <= l.length /\ n < l.length /\ Below w.heap.size w wr) (fun _ t4 _ => l.length - (RowKit.intOf t4).toNat)
 case atStart => exact ⟨1, 0, rfl, rfl, hl, hl, Below.refl _ _⟩
 case round =>
  obtain ⟨i, n, rfl, rfl, hil, hnl, hbr⟩ := hrel;have hgr := hg.below hbr;rcases Nat.lt_or_ge i l.length with h | h
  ·have hiz : (i : Int) < (l.length : Int) := by omega
   have hnz : (n : Int) < (l.length : Int) := by omega
   have HL1 : Hid (∀ w, Good w -> _) := HLE.out i n h hnl;obtain ⟨x0, x1⟩ := HCC.out i h;obtain ⟨y0, y1⟩ := HCC.out n hnl;generalize ptI l (i : Int) = p at *;generalize ptI l (n : Int) = q at *;have x0 := zcq hbr hb x0;have x1 := zcq hbr hb x1;have y0 := zcq hbr hb y0;have y1 := zcq hbr hb y1;have lb : b < wr.heap.size := Nat.lt_of_lt_of_le hb hbr.size;have hgd : Good wr.drew := hgr.drewN 1;go_wp2_with fail;go_region_held3 (fun w' => w'.cell? ⟨b, o + i * 2, none⟩ = some (.string (RS p.1)) /\ w'.cell? ⟨b, o + i * 2 + 1, none⟩ = some (.string (RS p.2)) /\ w'.cell? ⟨b, o + n * 2, none⟩ = some (.string (RS q.1)) /\ w'.cell? ⟨b, o + n * 2 + 1, none⟩ = some (.string (RS q.2)))
    (first | exact ⟨x0, x1, y0, y1⟩ | exact ⟨p_1_0, p_1_1, p_1_2, p_1_3⟩)
    (first
    | (go_at_call 160; refine (HL1.out _ hgd).mono ?_; rintro e pw1 ⟨_, rfl, ⟨cb, rfl⟩, pb1⟩
       have p_1_0 := zct pb1 x0;have p_1_1 := zct pb1 x1;have p_1_2 := zct pb1 y0;have p_1_3 := zct pb1 y1;have ps1 : wr.heap.size <= pw1.heap.size := pb1.size;have pg1 := hgd.below pb1))
   have pB : Below wr.heap.size wr pw1 := zbt (below_drewN wr 1) pb1;have hbq := hbr.trans (pB.mono hbr.size);clear x0 x1 y0 y1 hgd;cases cb
   ·go_wp2_with fail
    go_roundw
    case rel => exact ⟨i + 1, n, by go_num, rfl, by omega, hnl, hbq⟩
    case measure => simp [RowKit.intOf]; omega
   ·go_wp2_with fail
    go_roundw
    case rel => exact ⟨i + 1, i, by go_num, rfl, by omega, h, hbq⟩
    case measure => simp [RowKit.intOf]; omega
  ·have hige : ¬ (i : Int) < (l.length : Int) := by omega
   have hnz : (n : Int) <= (l.length : Int) := by omega
   have hn0 : (0 : Int) <= (n : Int) := by omega
   have hnc : n <= c := by omega
   have hcn : ¬ c = n := by omega
   have HLD : Hid ((cellsP (strP ((l.drop n).take (l.length - n)))).length = (l.length - n) * 2) := by unfold Hid; rw [cellsPS_length, List.length_take, List.length_drop, Nat.min_self]
   have HLT : Hid ((cellsP (strP ((l.drop 0).take n))).length = n * 2) := by unfold Hid; rw [cellsPS_length, List.length_take, List.length_drop]; congr 1; omega
   have HRD : Hid (∀ (v' : Value) (w' : World), w'.ownsRow w.heap.size 33 2 v' (0 + (l.length - n) + n) ([] ++ cellsP (strP ((l.drop n).take (l.length - n))) ++ cellsP (strP ((l.drop 0).take n))) -> RdP w' v' (strP (begL l n))) := fun v' w' h => by
    have e1 : [] ++ cellsP (strP ((l.drop n).take (l.length - n))) ++ cellsP (strP ((l.drop 0).take n)) = cellsP (strP (begL l n)) := by
     rw [List.nil_append, <- cellsPS_app, <- strP_append, List.take_of_length_le (by rw [List.length_drop]; omega), List.drop_zero];rfl
    have e2 : 0 + (l.length - n) + n = (strP (begL l n)).length := by
     rw [strP_length];unfold begL;rw [List.length_append, List.length_drop, List.length_take];omega
    have := RdC.of_owns h;rw [e1, e2] at this;exact this
   have HCW : Hid (∀ w', Below w.heap.size w w' -> ∀ i : Nat, i < l.length -> w'.cell? ⟨b, o + i * 2, none⟩ = some (.string (RS (ptI l i).1)) /\ w'.cell? ⟨b, o + i * 2 + 1, none⟩ = some (.string (RS (ptI l i).2))) := fun w' hw i hi => ⟨(zcq hw hb (HCC.out i hi).1 :), (zcq hw hb (HCC.out i hi).2 :)⟩;have hb0 : Below w.heap.size w wr.drew := hbr.trans ((below_drewN wr 1).mono hbr.size);have hb1 : Below w.heap.size w (wr.alloc (.cells #[] 33)).drew := (hbr.alloc hbr.size _).trans ((below_drewN _ 1).mono (hbr.alloc hbr.size _).size);go_upto_region 7 with fail;refine AnyL.region (S := Till 4 (fun w' => Below w.heap.size w w') (fun _ => True)) (by kernel_rfl) ?_;have hHeld : Till 4 (fun w' => Below w.heap.size w w') (fun _ => True) (Array.replicate 10 false) _ := ⟨hb0, fun _ => trivial⟩;refine zlk 1 hHeld ?_;try simp only [Act.put]
   refine zlk 2 hHeld ?_;try simp only [Act.put]
   refine zlk 3 hHeld ?_;try simp only [Act.put]
   refine zlk 5 hHeld ?_;try simp only [Act.put]
   refine zlk 6 hHeld ?_;try simp only [Act.put]
   refine zlk 7 hHeld ?_;try simp only [Act.put]
   refine AnyL.one (i := 0) (o := _) (by kernel_rfl) rfl (fun K hK => ?_);go_simp;refine hK.out _ _ ⟨hb1, fun hk => trivial⟩ (fun hHeld => ?_);clear hK K;try simp only [Act.put]
   refine AnyL.one (i := 4) (o := _) (by kernel_rfl) rfl (fun K hK => ?_)
   (rw [if_pos (by simp [Region.wanted])]; refine wp_append_own _ (.tmp 21) (.tmp 24) 35 (by rfl) w.heap.size 33 i0 (.agg #[.string ⟨#[]⟩, .string ⟨#[]⟩]) 2 32 Tryz.underlying35 hi hzz0 hzz1 hzz2 rfl (by decide) _ 0 [] (by simp [Act.eval]) (owns_empty wr w.heap.size _ 2 hbr.size) ⟨b, o + n * 2, none⟩ (l.length - n) (c - n) (cellsP (strP ((l.drop n).take (l.length - n)))) (by simp [Act.eval]) (HLD.out) (news_pts n (l.length - n) (by omega) (HCW.out _ hb1)) (cellsPS_one _) (by unfold maxLen; omega) (by omega) hb1.size ?_; intro v4 w4 hown4 hgr4 _; have hb4 := hb1.grown hgr4 hb1.size (fun j hj => by have := ((owns_empty wr w.heap.size 33 2 hbr.size).lt j hj).1; omega))
   refine hK.out _ _ ⟨hb4, fun hk => trivial⟩ (fun hHeld => ?_);clear hK K;try simp only [Act.put]
   refine AnyL.one (i := 8) (o := _) (by kernel_rfl) rfl (fun K hK => ?_)
   (rw [if_pos (by simp [Region.wanted])]; refine wp_append_own _ (.tmp 25) (.tmp 28) 35 (by rfl) w.heap.size 33 i0 (.agg #[.string ⟨#[]⟩, .string ⟨#[]⟩]) 2 32 Tryz.underlying35 hi hzz0 hzz1 hzz2 rfl (by decide) _ _ _ (by simp [Act.eval]) hown4 ⟨b, o, none⟩ n c (cellsP (strP ((l.drop 0).take n))) (by simp [Act.eval]) (HLT.out) (news_pts 0 n (by omega) (HCW.out _ hb4)) (cellsPS_one _) (by unfold maxLen; omega) (by omega) hb4.size ?_; intro v8 w8 hown8 hgr8 _; have hb8 := hb4.grown hgr8 hb4.size (fun j hj => by have := (hown4.lt j hj).1; omega))
   refine hK.out _ _ ⟨hb8, fun hk => trivial⟩ (fun hHeld => ?_);clear hK K;try simp only [Act.put]
   refine AnyL.take (i := 9) (oi := _) (v := ?_) rfl (by kernel_rfl) (by kernel_rfl) (by kernel_rfl) (by decide) (fun _ _ _ h => h) (Or.inl ⟨by rfl, ?_⟩) ⟨hHeld.1, fun hk => (by simp at hk)⟩ ?_;rotate_left
   ·intro w hSw; (try dsimp only at hSw); first | (go_simp; done) | (go_simp; with_reducible rfl)
   try simp only [Act.put]
   refine AnyL.done (by kernel_rfl) ?_ _;have hrd : RdP w8 v8 (strP (begL l n)) := HRD.out _ _ hown8;have hb8' : Below w.heap.size w w8 := hb8;clear hown8 hgr8 hown4 hgr4 hb8 hb4 hb1;go_wp2_with fail;go_ret;exact ⟨_, rfl, ⟨n, hnl, hrd⟩, hb8'⟩
end Go.Proofs.YtegiemcnfbchoaaGreatDoor
