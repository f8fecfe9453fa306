import Derived.Test.YtdhcliekejiegaaGreatDoorF19
import Derived.Test.YtdhcliekejiegaaGreatDoorW3
import Derived.Test.YtdhcliekejiegaaGreatDoorU1
import Derived.Test.YtdhcliekejiegaaGreatDoorF12a
import Derived.Test.YtdhcliekejiegaaGreatDoorX1
import Derived.Maps.AppendAt
import Derived.BigRegion
set_option maxHeartbeats 8000000
set_option maxRecDepth 100000
namespace Go.Proofs.YtdhcliekejiegaaGreatDoor
open Go.RowKit Go.Lib
def mulL (c : Rat) (F : List Rat) : List Rat := F.map fun a => a * c
theorem mulL_length (c : Rat) (F : List Rat) : (mulL c F).length = F.length := List.length_map ..
theorem mulL_get (c : Rat) (F : List Rat) (i : Nat) (h1 : i < F.length) : (mulL c F)[i]? = some (F[i] * c) := by
 unfold mulL
 rw [List.getElem?_map]
 simp [h1]
theorem scale1_any (w : World) (a c : Rat) (s : Value) (bk k : Nat) (hk : 0 < k) (hk2 : k ≤ 20000) (ha : Sz k a) (hc : Sz k c) (hb : w.cell? ⟨bk, 0, none⟩ = some (.string (RS c))) (hg : Good w) :
 Calls Tryz.prog 95 #[.string (RS a), s, .pointer (some ⟨bk, 0, none⟩)] w (Ret (fun r _ => r = .string (RS (a * c))) w) := by
 go_enter Tryz.func95, Tryz.ntmps95
 go_wp2_with fail
 refine (ratMul_any a c k hk hk2 ha hc w hg).mono ?_
 rintro e w1 ⟨_, rfl, rfl, hb1⟩
 go_wp2_with fail
 go_ret
 exact ⟨_, rfl, rfl, hb1⟩
theorem combine_scale (w : World) (vf vg : Value) (k : Nat) (F G : List Rat) (c : Rat) (bk : Nat) (hbk : w.cell? ⟨bk, 0, none⟩ = some (.string (RS c))) (hc : Sz k c) (hk : 0 < k) (hk2 : k ≤ 20000) (hL : RdQ w vf F) (hU : RdQ w vg G) (hlen : F.length = G.length) (hn : G.length ≤ 1000000) (hsL : ∀ q ∈ F, Sz k q) (hsU : ∀ q ∈ G, Sz k q) (hg : Good w) :
 Calls Tryz.prog 94 #[vf, vg, .func (.func 95) #[] #[.pointer (some ⟨bk, 0, none⟩)]] w (Ret (fun r w' => RdQ w' r (mulL c F) ∧ FreshV w.heap.size r) w) := by
 obtain ⟨pl, cl, rfl, hlc, hlm, hlr⟩ := hL.open
 obtain ⟨pu, cu, rfl, huc, hum, hur⟩ := hU.open
 obtain ⟨n, hn0⟩ : ∃ n, n = G.length := ⟨_, rfl⟩
 have HLR := Lib.hid hlr
 have HUR := Lib.hid hur
 have HL := Lib.hid hsL
 have HU := Lib.hid hsU
 have HN1 : Hid (F.length = n) := by unfold Hid; omega
 have HN2 : Hid (G.length = n) := hn0.symm
 have HC := Lib.hid hc
 have lk := World.block_lt_of_cell? w _ hbk
 dsimp only at lk
 rw [hlen, ← hn0]
 rw [← hn0] at hn huc
 have hlc' : n ≤ cl := by omega
 clear hL hU hlr hur hsL hsU hlen hn0 hlc
 obtain ⟨i0, hi, hz0, hz1, hz2⟩ := info_parts info_str
 go_enter Tryz.func94, Tryz.ntmps94
 go_wp2_with fail
 go_loopw [7, 12] (fun t7 t12 wr => ∃ (i : Nat), t12 = .int .i64 i ∧ i ≤ n ∧ wr.ownsRow w.heap.size 32 1 t7 i (((mulL c F).take i).map fun q => Value.string (RS q)) ∧ Below w.heap.size w wr) (fun _ t12 _ => n - (RowKit.intOf t12).toNat)
 case atStart => exact ⟨0, rfl, Nat.zero_le _, World.ownsRow_nil _ _ _ _, Below.refl _ _⟩
 case round =>
  obtain ⟨i, rfl, hin, hown, hbr⟩ := hrel
  obtain ⟨p3, c3', rfl⟩ := ownsRow_shape hown
  rcases Nat.lt_or_ge i n with h | h
  ·obtain ⟨bl, ol, rfl, hbl, hlc⟩ := HLR.out (by intro e; have := HN1.out; rw [e] at this; simp at this; omega)
   obtain ⟨bu, ou, rfl, hbu, huc⟩ := HUR.out (by intro e; have := HN2.out; rw [e] at this; simp at this; omega)
   have l1 := hlc i (by have := HN1.out; omega)
   have u1 := huc i (by have := HN2.out; omega)
   have hq := mulL_get c F i (by have := HN1.out; omega)
   have zl := HL.out _ (List.getElem_mem (show i < F.length by have := HN1.out; omega))
   have zu := HU.out _ (List.getElem_mem (show i < G.length by have := HN2.out; omega))
   generalize F[i]'_ = l at *
   generalize G[i]'_ = u at *
   have HTK := Lib.hid (take_snoc _ _ _ hq)
   have HZL := Lib.hid zl
   have HZU := Lib.hid zu
   have xl := zcq hbr hbl l1
   have xu := zcq hbr hbu u1
   have hgr : Good wr := hg.below hbr
   have hiz : (i : Int) < (n : Int) := by omega
   have xk := zcq hbr lk hbk
   clear hlc huc l1 u1 hq zl zu
   go_wp2_with fail
   refine (scale1_any _ l c _ bk k hk hk2 HZL.out HC.out xk hgr).mono ?_
   rintro e w2 ⟨_, rfl, rfl, hb2⟩
   have hown2 := World.ownsRow.belowAll hown hb2
   have hbr2 : Below w.heap.size w w2 := hbr.trans (hb2.mono hbr.size)
   have hzw := hbr.size
   have hz2' : w.heap.size ≤ w2.heap.size := hbr2.size
   clear hb2 hown hbr hgr xl xu
   go_wp2_with (at_builtin; refine wpList_append_own _ rfl _ _ 61 rfl w.heap.size 32 i0 (.string ⟨#[]⟩) 1 16 Tryz.underlying61 hi hz0 hz1 hz2 rfl (by decide) _ _ _ rfl (hown2.alloc _) ⟨w2.heap.size, 0, none⟩ 1 1 [.string (RS (l * c))] rfl rfl (cell_one_str _ _ _) (one_cell_str _) (by unfold maxLen; omega) (by omega) (by simp; omega) ?_
                intro v2 w3 hown3 hgrow3 _
                have hzw3 := hgrow3.size
                have hbr3 : Below w.heap.size w w3 := (hbr2.alloc (by omega) _).grown hgrow3 (by simp; omega) (fun j hj => by have := (hown2.lt j hj).1; omega)
                clear hgrow3)
   go_roundw
   case rel => exact ⟨i + 1, by go_num, by omega, by rw [HTK.out, List.map_append]; exact hown3, hbr3⟩
   case measure =>
    show n - ((i : Int) + 1).toNat < n - (i : Int).toNat
    omega
  ·obtain rfl : i = n := by omega
   have hfr : FreshV w.heap.size (.slice p3 i c3') := FreshV.of_owns hown
   have hrd : RdQ wr (.slice p3 i c3') (mulL c F) := by
    have hl : (mulL c F).length = i := by rw [mulL_length, HN1.out]
    have h1 : RdC 1 wr (.slice p3 i c3') i ((List.take i (mulL c F)).map fun q => Value.string (RS q)) := RdC.of_owns hown
    rw [List.take_of_length_le (by omega)] at h1
    unfold RdQ
    rw [hl]
    exact h1
   go_wp2_with fail
   go_ret
   exact ⟨_, rfl, ⟨hrd, hfr⟩, hbr⟩
theorem mulL_Sz {F : List Rat} {c : Rat} {k m : Nat} (hF : ∀ q ∈ F, Sz k q) (hc : Sz m c) : ∀ q ∈ mulL c F, Sz (k + m) q := fun q hq => by
 obtain ⟨a, ha, rfl⟩ := List.mem_map.1 hq
 exact ((hF a ha).mul hc).mono (by omega)
theorem fscale_ok (w : World) (vp vt vf : Value) (P : List PtQ) (T : List Tri) (k : Nat) (F : List Rat) (c : Rat) (h : FieldIn w vp vt vf P T k F) (hk : k ≤ 200) (hc : Sz 200 c) (hz : ∀ q ∈ mulL c F, Sz 200 q) (hg : Good w) :
 Calls Tryz.prog 36 #[.agg #[vp, vt], vf, .string (RS c)] w (Ret (fun r w' => ∃ v, r = .tuple #[v, .int .i64 0] ∧ RdQ w' v (mulL c F)) w) := by
 have HF := Lib.hid h
 have hfl := h.fl
 have hpl := h.m.plen
 have HZ := Lib.hid hz
 have HC := Lib.hid hc
 have HCE : Hid (errNum (rightQ (RS c).data.toList) = 0) := by unfold Hid; rw [RS_list, rightQ_RL hc]; rfl
 have hcs := hc.size (by omega)
 obtain ⟨pp, cp, pt, ct, pf, cf, rfl, rfl, rfl⟩ := h.open
 have HFL := Lib.hid hfl
 clear h hz hc hfl
 go_enter Tryz.func36, Tryz.ntmps36
 go_upto_region 1 with fail
 obtain ⟨W0, hW0⟩ : ∃ W, W = (w.alloc (.cells #[.slice pp P.length cp, .slice pt T.length ct] 30)).alloc (.cells #[.string (RS c)] 32) := ⟨_, rfl⟩
 have hB0 : Below w.heap.size w W0 := by rw [hW0]; exact zal2 _ _ _
 have b5 : BoxN W0 (w.heap.size + 1) 32 [.string (RS c)] := by rw [hW0]; exact BoxN.new _ _ _ _ (by simp)
 have b3 : BoxN W0 w.heap.size 30 [.slice pp P.length cp, .slice pt T.length ct] := by
  rw [hW0]
  have h1 := (BoxN.new w #[.slice pp P.length cp, .slice pt T.length ct] 30 _ rfl)
  exact h1.below (zal _ _) h1.lt
 rw [← hW0]
 clear hW0
 have m0 := b3.cell 0 rfl
 have m1 := b3.cell 1 rfl
 go_wp2_with fail
 obtain ⟨W, hW⟩ : ∃ W, W = W0.alloc (.cells #[.slice pf F.length cf] 61) := ⟨_, rfl⟩
 have h0W : Below W0.heap.size W0 W := by rw [hW]; exact zal _ _
 have hcell : W.cell? ⟨W0.heap.size, 0, none⟩ = some (.slice pf F.length cf) := by rw [hW]; exact cell_slot _ _ _ _ rfl
 rw [← hW]
 clear hW m0 m1
 have hB := hB0.trans (h0W.mono hB0.size)
 have c5 := b5.below h0W b5.lt
 refine (checks_ok (HF.out.below hB) W0.heap.size hcell (hg.below hB)).mono ?_
 rintro e w1 ⟨_, rfl, rfl, hb1⟩
 have hB1 := hB.trans (hb1.mono hB.size)
 have c51 := c5.below hb1 c5.lt
 have n0 := c51.cell 0 rfl
 clear hb1 hcell hB h0W
 go_wp2_with fail
 refine (checkQ_any (RS c) (by omega) _ (hg.below hB1)).mono ?_
 rintro e w2 ⟨_, rfl, rfl, hb2⟩
 have hB2 := hB1.trans (hb2.mono hB1.size)
 have c52 := c51.below hb2 c51.lt
 have n1 := c52.cell 0 rfl
 rw [HCE.out]
 clear hb2 n0
 go_wp2_with fail
 refine (combine_scale w2 _ _ 200 F F c (w.heap.size + 1) n1 HC.out (by omega) (by omega) (HF.out.below hB2).f (HF.out.below hB2).f rfl (by have := HFL.out; omega) (fun q hq => (HF.out.fs q hq).mono hk) (fun q hq => (HF.out.fs q hq).mono hk) (hg.below hB2)).mono ?_
 rintro e w3 ⟨v, rfl, ⟨hrd, hfr⟩, hb3⟩
 have hB3 := hB2.trans (hb3.mono hB2.size)
 have HRD := Lib.hid hrd
 obtain ⟨pv, cv, rfl, -, -, -⟩ := hrd.open
 clear hrd hfr hb3 n1
 go_wp2_with fail
 refine (ffield_any w3 _ _ HRD.out (by rw [mulL_length]; have := HFL.out; omega) HZ.out (hg.below hB3)).mono ?_
 rintro e w4 ⟨_, rfl, rfl, hb4⟩
 go_wp2_with fail
 go_ret2
 exact ⟨_, rfl, ⟨_, rfl, RdC.below HRD.out hb4⟩, hB3.trans (hb4.mono hB3.size)⟩
theorem fscale_number (w : World) (vp vt vf : Value) (P : List PtQ) (T : List Tri) (k : Nat) (F : List Rat) (s : ByteArray) (h : FieldIn w vp vt vf P T k F) (hs : s.size < 1000000000) (he : rightQ s.data.toList = false) (hg : Good w) :
 Calls Tryz.prog 36 #[.agg #[vp, vt], vf, .string s] w (Ret (fun r _ => r = .tuple #[.slice none 0 0, .int .i64 2]) w) := by
 have HF := Lib.hid h
 have HCE : Hid (errNum (rightQ s.data.toList) = 2) := by unfold Hid; rw [he]; rfl
 obtain ⟨pp, cp, pt, ct, pf, cf, rfl, rfl, rfl⟩ := h.open
 clear h he
 go_enter Tryz.func36, Tryz.ntmps36
 go_upto_region 1 with fail
 obtain ⟨W0, hW0⟩ : ∃ W, W = (w.alloc (.cells #[.slice pp P.length cp, .slice pt T.length ct] 30)).alloc (.cells #[.string s] 32) := ⟨_, rfl⟩
 have hB0 : Below w.heap.size w W0 := by rw [hW0]; exact zal2 _ _ _
 have b5 : BoxN W0 (w.heap.size + 1) 32 [.string s] := by rw [hW0]; exact BoxN.new _ _ _ _ (by simp)
 have b3 : BoxN W0 w.heap.size 30 [.slice pp P.length cp, .slice pt T.length ct] := by
  rw [hW0]
  have h1 := (BoxN.new w #[.slice pp P.length cp, .slice pt T.length ct] 30 _ rfl)
  exact h1.below (zal _ _) h1.lt
 rw [← hW0]
 clear hW0
 have m0 := b3.cell 0 rfl
 have m1 := b3.cell 1 rfl
 go_wp2_with fail
 obtain ⟨W, hW⟩ : ∃ W, W = W0.alloc (.cells #[.slice pf F.length cf] 61) := ⟨_, rfl⟩
 have h0W : Below W0.heap.size W0 W := by rw [hW]; exact zal _ _
 have hcell : W.cell? ⟨W0.heap.size, 0, none⟩ = some (.slice pf F.length cf) := by rw [hW]; exact cell_slot _ _ _ _ rfl
 rw [← hW]
 clear hW m0 m1
 have hB := hB0.trans (h0W.mono hB0.size)
 have c5 := b5.below h0W b5.lt
 refine (checks_ok (HF.out.below hB) W0.heap.size hcell (hg.below hB)).mono ?_
 rintro e w1 ⟨_, rfl, rfl, hb1⟩
 have hB1 := hB.trans (hb1.mono hB.size)
 have c51 := c5.below hb1 c5.lt
 have n0 := c51.cell 0 rfl
 clear hb1 hcell hB h0W
 go_wp2_with fail
 refine (checkQ_any s hs _ (hg.below hB1)).mono ?_
 rintro e w2 ⟨_, rfl, rfl, hb2⟩
 have hB2 := hB1.trans (hb2.mono hB1.size)
 rw [HCE.out]
 clear hb2 n0
 go_wp2_with fail
 go_ret2
 exact ⟨_, rfl, rfl, hB2⟩
def belowB (F G : List Rat) : Bool := (List.zipWith (fun a b => decide (a ≤ b)) F G).all id
theorem belowB_iff (F G : List Rat) (h : F.length = G.length) : belowB F G = true ↔ ∀ i (h1 : i < F.length) (h2 : i < G.length), F[i] ≤ G[i] := by
 unfold belowB
 rw [List.all_eq_true]
 constructor
 ·intro H i h1 h2
  have := H (decide (F[i] ≤ G[i])) (List.mem_iff_getElem?.2 ⟨i, by rw [List.getElem?_zipWith]; simp [h1, h2]⟩)
  simpa using this
 ·intro H x hx
  obtain ⟨i, hi, rfl⟩ := List.getElem_of_mem hx
  rw [List.length_zipWith] at hi
  rw [List.getElem_zipWith]
  simpa using H i (by omega) (by omega)
theorem fbelow_ok (w : World) (vp vt vf vg : Value) (P : List PtQ) (T : List Tri) (k : Nat) (F G : List Rat) (h : FieldIn w vp vt vf P T k F) (h2 : FieldIn w vp vt vg P T k G) (hg : Good w) :
 Calls Tryz.prog 37 #[.agg #[vp, vt], vf, vg] w (Ret (fun r _ => r = .tuple #[.bool (belowB F G), .int .i64 0]) w) := by
 have HF := Lib.hid h
 have HG := Lib.hid h2
 have hfl := h.fl
 have hgl := h2.fl
 have hpl := h.m.plen
 have HBI := Lib.hid (belowB_iff F G (by omega))
 obtain ⟨n, hn⟩ : ∃ n, n = F.length := ⟨_, rfl⟩
 have HFR : Hid (∀ i, i < n → ∃ (bf of cf : Nat) (x : Rat), vf = .slice (some ⟨bf, of, none⟩) n cf ∧ bf < w.heap.size ∧ w.cell? ⟨bf, of + i, none⟩ = some (.string (RS x)) ∧ F[i]? = some x ∧ Sz k x) := fun i hi => by
  obtain ⟨pf, cf, rfl, -, -, hr⟩ := h.f.open
  obtain ⟨b, off, rfl, hb, hc⟩ := hr (List.ne_nil_of_length_pos (by omega))
  exact ⟨b, off, cf, F[i]'(by omega), by rw [hn], hb, hc i (by omega), List.getElem?_eq_getElem _, h.fs _ (List.getElem_mem _)⟩
 have HGR : Hid (∀ i, i < n → ∃ (bf of cf : Nat) (x : Rat), vg = .slice (some ⟨bf, of, none⟩) n cf ∧ bf < w.heap.size ∧ w.cell? ⟨bf, of + i, none⟩ = some (.string (RS x)) ∧ G[i]? = some x ∧ Sz k x) := fun i hi => by
  obtain ⟨pf, cf, rfl, -, -, hr⟩ := h2.f.open
  obtain ⟨b, off, rfl, hb, hc⟩ := hr (List.ne_nil_of_length_pos (by omega))
  exact ⟨b, off, cf, G[i]'(by omega), by rw [hn, hfl, hgl], hb, hc i (by omega), List.getElem?_eq_getElem _, h2.fs _ (List.getElem_mem _)⟩
 obtain ⟨pp, cp, pt, ct, pf, cf, rfl, rfl, rfl⟩ := h.open
 obtain ⟨_, _, _, _, pg, cg, -, -, rfl⟩ := h2.open
 have hGn : G.length = n := by omega
 rw [← hn] at HF ⊢
 rw [hGn] at HG ⊢
 have HNF := Lib.hid hn
 have HNG := Lib.hid hGn
 have hpn : n ≤ 400 := by omega
 clear h h2 hn hGn hfl hgl
 go_enter Tryz.func37, Tryz.ntmps37
 go_wp2_with fail
 obtain ⟨W, hW⟩ : ∃ W, W = (w.alloc (.cells #[.slice pp P.length cp, .slice pt T.length ct] 30)).alloc (.cells #[.slice pf n cf, .slice pg n cg] 61) := ⟨_, rfl⟩
 have hB : Below w.heap.size w W := by rw [hW]; exact zal2 _ _ _
 have b2 : BoxN W (w.heap.size + 1) 61 [.slice pf n cf, .slice pg n cg] := by rw [hW]; exact BoxN.new _ _ _ _ (by simp)
 rw [← hW]
 clear hW
 refine (checks_two W _ _ _ _ P T k F G (HF.out.below hB) (HG.out.below hB) (w.heap.size + 1) (b2.cell 0 rfl) (b2.cell 1 rfl) (hg.below hB)).mono ?_
 rintro e w1 ⟨_, rfl, rfl, hb1⟩
 have hB1 := hB.trans (hb1.mono hB.size)
 have hk0 := HF.out.m.kpos
 have hk1 := HF.out.m.klim2
 clear hb1 b2 hB HF HG
 go_wp2_with fail
 go_loopw [21] (fun t21 wr => ∃ i : Nat, t21 = .int .i64 i ∧ i ≤ n ∧ Hid (∀ j x y, j < i → F[j]? = some x → G[j]? = some y → x ≤ y) ∧ Below w1.heap.size w1 wr) (fun t21 _ => n - (RowKit.intOf t21).toNat)
 case atStart => exact ⟨0, rfl, Nat.zero_le _, (fun j x y h => by omega), Below.refl _ _⟩
 case round =>
  obtain ⟨i, rfl, hi, HJ, hbr⟩ := hrel
  have hBr := hB1.trans (hbr.mono hB1.size)
  rcases Nat.lt_or_ge i n with hlt | hlt
  ·obtain ⟨bf, of, cf', x, e1, hbf, x0, hx, zx⟩ := HFR.out i hlt
   obtain ⟨bg, og, cg', y, e2, hbg, y0, hy, zy⟩ := HGR.out i hlt
   injection e1 with e11 e12 e13
   clear e12
   injection e2 with e21 e22 e23
   clear e22
   subst e11 e13 e21 e23
   have c0 := zcq hBr hbf x0
   have c1 := zcq hBr hbg y0
   have HCMP : Hid (∀ w, Good w → _) := fun w hg => ratCompare_any x y k hk0 (by omega) zx zy w hg
   have hiz : (i : Int) < (n : Int) := by omega
   have hgr := hg.below hBr
   by_cases hxy : x ≤ y
   ·have hc : ¬ (0 < cmpQ x y) := by
     unfold cmpQ
     rcases (by grind : x < y ∨ x = y) with h1 | h1
     ·rw [if_pos h1]; decide
     ·rw [if_neg (by rw [h1]; exact Rat.lt_irrefl), if_neg (by rw [h1]; exact Rat.lt_irrefl)]; decide
    have hcd : decide (0 < cmpQ x y) = false := decide_eq_false hc
    have HJN : Hid (∀ j x y, j < i + 1 → F[j]? = some x → G[j]? = some y → x ≤ y) := fun j a b hj ha hb => by
     rcases (by omega : j = i ∨ j < i) with rfl | h1
     ·rw [hx] at ha; rw [hy] at hb; cases ha; cases hb; exact hxy
     ·exact HJ.out j a b h1 ha hb
    generalize cmpQ x y = cz at *
    clear hx hy zx zy x0 y0 hxy hc
    go_wp2_with fail
    refine (HCMP.out wr hgr).mono ?_
    rintro e w2 ⟨_, rfl, rfl, hb2⟩
    have hbr2 := hbr.trans (hb2.mono hbr.size)
    go_wp2_with fail
    go_roundw
    case rel => exact ⟨i + 1, by go_num, hlt, HJN, hbr2⟩
    case measure => simp [RowKit.intOf]; omega
   ·have hc : 0 < cmpQ x y := by
     unfold cmpQ
     rw [if_neg (by grind), if_pos (by grind)]; decide
    have hcd : decide (0 < cmpQ x y) = true := decide_eq_true hc
    have HBF : Hid (belowB F G = false) := by
     unfold Hid
     cases hbb : belowB F G
     ·rfl
     ·obtain ⟨h1, h1'⟩ := List.getElem?_eq_some_iff.1 hx
      obtain ⟨h2, h2'⟩ := List.getElem?_eq_some_iff.1 hy
      exact absurd (by rw [← h1', ← h2']; exact HBI.out.1 hbb i h1 h2) hxy
    generalize cmpQ x y = cz at *
    clear hx hy zx zy x0 y0 hxy hc
    go_wp2_with fail
    refine (HCMP.out wr hgr).mono ?_
    rintro e w2 ⟨_, rfl, rfl, hb2⟩
    have hB2 := hBr.trans (hb2.mono hBr.size)
    go_wp2_with fail
    go_ret2
    exact ⟨_, rfl, congrArg (fun b => Value.tuple #[.bool b, .int .i64 0]) HBF.out.symm, hB2⟩
  ·have HBT : Hid (belowB F G = true) := HBI.out.2 (fun j h1 h2 => HJ.out j _ _ (by have := HNF.out; omega) (List.getElem?_eq_getElem h1) (List.getElem?_eq_getElem h2))
   go_wp2_with fail
   go_ret2
   exact ⟨_, rfl, congrArg (fun b => Value.tuple #[.bool b, .int .i64 0]) HBT.out.symm, hBr⟩
def lowQ (l : List Rat) : Rat := l.tail.foldl minQ (l.headD 0)
def highQ (l : List Rat) : Rat := l.tail.foldl maxQ (l.headD 0)
theorem lowQ_one (l : List Rat) (h : 0 < l.length) : lowQ (l.take 1) = l[0] := by
 cases l with
 | nil => simp at h
 | cons a l => simp [lowQ]
theorem highQ_one (l : List Rat) (h : 0 < l.length) : highQ (l.take 1) = l[0] := by
 cases l with
 | nil => simp at h
 | cons a l => simp [highQ]
theorem lowQ_step (l : List Rat) (i : Nat) (h1 : 1 ≤ i) (h : i < l.length) : lowQ (l.take (i + 1)) = minQ (lowQ (l.take i)) l[i] := by
 obtain ⟨j, rfl⟩ : ∃ j, i = j + 1 := ⟨i - 1, by omega⟩
 cases l with
 | nil => simp at h
 | cons a l =>
   have hj : j < l.length := by simpa using h
   show (l.take (j + 1)).foldl minQ a = minQ ((l.take j).foldl minQ a) l[j]
   rw [List.take_succ_eq_append_getElem hj, List.foldl_append]
   rfl
theorem highQ_step (l : List Rat) (i : Nat) (h1 : 1 ≤ i) (h : i < l.length) : highQ (l.take (i + 1)) = maxQ (highQ (l.take i)) l[i] := by
 obtain ⟨j, rfl⟩ : ∃ j, i = j + 1 := ⟨i - 1, by omega⟩
 cases l with
 | nil => simp at h
 | cons a l =>
   have hj : j < l.length := by simpa using h
   show (l.take (j + 1)).foldl maxQ a = maxQ ((l.take j).foldl maxQ a) l[j]
   rw [List.take_succ_eq_append_getElem hj, List.foldl_append]
   rfl
theorem minQ_lt {m x : Rat} (h : x < m) : minQ m x = x := by unfold minQ; rw [if_pos h]
theorem minQ_eq {m x : Rat} (h : x = m) : minQ m x = m := by unfold minQ; rw [if_neg (by rw [h]; exact Rat.lt_irrefl)]
theorem minQ_gt {m x : Rat} (h : m < x) : minQ m x = m := by unfold minQ; rw [if_neg (by grind)]
theorem maxQ_gt {m x : Rat} (h : m < x) : maxQ m x = x := by unfold maxQ; rw [if_pos h]
theorem maxQ_eq {m x : Rat} (h : x = m) : maxQ m x = m := by unfold maxQ; rw [if_neg (by rw [h]; exact Rat.lt_irrefl)]
theorem maxQ_lt {m x : Rat} (h : x < m) : maxQ m x = m := by unfold maxQ; rw [if_neg (by grind)]
theorem cmpQ_cases (x m : Rat) : (x < m ∧ cmpQ x m = -1) ∨ (x = m ∧ cmpQ x m = 0) ∨ (m < x ∧ cmpQ x m = 1) := by
 unfold cmpQ
 by_cases h1 : x < m
 ·exact .inl ⟨h1, by rw [if_pos h1]⟩
 ·by_cases h2 : m < x
  ·exact .inr (.inr ⟨h2, by rw [if_neg h1, if_pos h2]⟩)
  ·exact .inr (.inl ⟨Rat.le_antisymm (Rat.not_lt.1 h2) (Rat.not_lt.1 h1), by rw [if_neg h1, if_neg h2]⟩)
theorem minFunc_any (v : Value) (l : List Rat) (k : Nat) (hk : 0 < k) (hk2 : k ≤ 20000) (hs : ∀ q ∈ l, Sz k q) (w : World) (hr : RdQ w v l) (hne : l ≠ []) (hg : Good w) :
 Calls Tryz.prog 97 #[v, .func (.func 96) #[] #[]] w (Ret (fun r _ => r = .string (RS (lowQ l))) w) := by
 obtain ⟨p, c, rfl, hlc, hcm, hr'⟩ := hr.open
 obtain ⟨b, off, rfl, hbs, hcell⟩ := hr' hne
 have hl : ¬ l.length < 1 := by have := List.length_pos_iff.2 hne; omega
 have hl0 : 0 < l.length := by omega
 have x0 := hcell 0 hl0
 rw [Nat.add_zero] at x0
 have HC := Lib.hid hcell
 have HS := Lib.hid hs
 have H1 := Lib.hid (lowQ_one l hl0)
 unfold maxLen at hcm
 clear hcell hr' hs hne hr
 obtain ⟨m0, hm0⟩ : ∃ m, m = l[0] := ⟨_, rfl⟩
 rw [← hm0] at x0
 have HM0 : Hid (m0 = lowQ (l.take 1)) := by unfold Hid; rw [H1.out, hm0]
 clear hm0
 go_enter Tryz.func97, Tryz.ntmps97
 go_wp2_with fail
 go_loopw [5, 6] (fun t5 t6 wr => ∃ (i : Nat) (m : Rat), t5 = .string (RS m) ∧ t6 = .int .i64 i ∧ 1 ≤ i ∧ i ≤ l.length ∧ Hid (m = lowQ (l.take i)) ∧ Hid (Sz k m) ∧ Below w.heap.size w wr) (fun _ t6 _ => l.length - (RowKit.intOf t6).toNat)
 case atStart => exact ⟨1, m0, rfl, rfl, Nat.le_refl _, by omega, HM0, by unfold Hid; rw [HM0.out, H1.out]; exact HS.out _ (List.getElem_mem hl0), Below.refl _ _⟩
 case round =>
  obtain ⟨i, m, rfl, rfl, hi1, hi, HM, HZ, hbl⟩ := hrel
  rcases Nat.lt_or_ge i l.length with h | h
  ·have hc := zcq hbl hbs (HC.out i h)
   have zx := HS.out _ (List.getElem_mem h)
   have HN : Hid (lowQ (l.take (i + 1)) = minQ m l[i]) := by unfold Hid; rw [lowQ_step l i hi1 h, ← HM.out]
   have hin : (i : Int) < (l.length : Int) := by omega
   generalize l[i]'_ = x at *
   have HCMP : Hid (∀ w, Good w → _) := fun w hg => ratCompare_any x m k hk hk2 zx HZ.out w hg
   have HZX := Lib.hid zx
   have hgr := hg.below hbl
   rcases cmpQ_cases x m with ⟨hx, e⟩ | ⟨hx, e⟩ | ⟨hx, e⟩
   all_goals
    rw [e] at HCMP
    have HX := Lib.hid hx
    clear e zx hx
   ·have HV : Hid (x = minQ m x) := by unfold Hid; exact (minQ_lt HX.out).symm
    go_wp2_with fail
    refine (HCMP.out wr hgr).mono ?_
    rintro e w2 ⟨_, rfl, rfl, hb2⟩
    have hb3 := hbl.trans (hb2.mono hbl.size)
    have hc2 := zcq hb2 (by show b < wr.heap.size; have := hbl.size; omega) hc
    go_wp2_with fail
    go_roundw
    case rel => exact ⟨i + 1, x, rfl, by go_num, by omega, h, by unfold Hid; rw [HN.out]; exact HV.out, HZX, hb3⟩
    case measure => simp [RowKit.intOf]; omega
   ·have HV : Hid (m = minQ m x) := by unfold Hid; exact (minQ_eq HX.out).symm
    go_wp2_with fail
    refine (HCMP.out wr hgr).mono ?_
    rintro e w2 ⟨_, rfl, rfl, hb2⟩
    have hb3 := hbl.trans (hb2.mono hbl.size)
    skip
    go_wp2_with fail
    go_roundw
    case rel => exact ⟨i + 1, m, rfl, by go_num, by omega, h, by unfold Hid; rw [HN.out]; exact HV.out, HZ, hb3⟩
    case measure => simp [RowKit.intOf]; omega
   ·have HV : Hid (m = minQ m x) := by unfold Hid; exact (minQ_gt HX.out).symm
    go_wp2_with fail
    refine (HCMP.out wr hgr).mono ?_
    rintro e w2 ⟨_, rfl, rfl, hb2⟩
    have hb3 := hbl.trans (hb2.mono hbl.size)
    skip
    go_wp2_with fail
    go_roundw
    case rel => exact ⟨i + 1, m, rfl, by go_num, by omega, h, by unfold Hid; rw [HN.out]; exact HV.out, HZ, hb3⟩
    case measure => simp [RowKit.intOf]; omega
  ·have HF : Hid (m = lowQ l) := by have := HM.out; rw [List.take_of_length_le h] at this; exact this
   clear HM HZ
   go_wp2_with fail
   go_ret
   exact ⟨_, rfl, congrArg (fun z => Value.string (RS z)) HF.out, hbl⟩
theorem maxFunc_any (v : Value) (l : List Rat) (k : Nat) (hk : 0 < k) (hk2 : k ≤ 20000) (hs : ∀ q ∈ l, Sz k q) (w : World) (hr : RdQ w v l) (hne : l ≠ []) (hg : Good w) :
 Calls Tryz.prog 98 #[v, .func (.func 96) #[] #[]] w (Ret (fun r _ => r = .string (RS (highQ l))) w) := by
 obtain ⟨p, c, rfl, hlc, hcm, hr'⟩ := hr.open
 obtain ⟨b, off, rfl, hbs, hcell⟩ := hr' hne
 have hl : ¬ l.length < 1 := by have := List.length_pos_iff.2 hne; omega
 have hl0 : 0 < l.length := by omega
 have x0 := hcell 0 hl0
 rw [Nat.add_zero] at x0
 have HC := Lib.hid hcell
 have HS := Lib.hid hs
 have H1 := Lib.hid (highQ_one l hl0)
 unfold maxLen at hcm
 clear hcell hr' hs hne hr
 obtain ⟨m0, hm0⟩ : ∃ m, m = l[0] := ⟨_, rfl⟩
 rw [← hm0] at x0
 have HM0 : Hid (m0 = highQ (l.take 1)) := by unfold Hid; rw [H1.out, hm0]
 clear hm0
 go_enter Tryz.func98, Tryz.ntmps98
 go_wp2_with fail
 go_loopw [5, 6] (fun t5 t6 wr => ∃ (i : Nat) (m : Rat), t5 = .string (RS m) ∧ t6 = .int .i64 i ∧ 1 ≤ i ∧ i ≤ l.length ∧ Hid (m = highQ (l.take i)) ∧ Hid (Sz k m) ∧ Below w.heap.size w wr) (fun _ t6 _ => l.length - (RowKit.intOf t6).toNat)
 case atStart => exact ⟨1, m0, rfl, rfl, Nat.le_refl _, by omega, HM0, by unfold Hid; rw [HM0.out, H1.out]; exact HS.out _ (List.getElem_mem hl0), Below.refl _ _⟩
 case round =>
  obtain ⟨i, m, rfl, rfl, hi1, hi, HM, HZ, hbl⟩ := hrel
  rcases Nat.lt_or_ge i l.length with h | h
  ·have hc := zcq hbl hbs (HC.out i h)
   have zx := HS.out _ (List.getElem_mem h)
   have HN : Hid (highQ (l.take (i + 1)) = maxQ m l[i]) := by unfold Hid; rw [highQ_step l i hi1 h, ← HM.out]
   have hin : (i : Int) < (l.length : Int) := by omega
   generalize l[i]'_ = x at *
   have HCMP : Hid (∀ w, Good w → _) := fun w hg => ratCompare_any x m k hk hk2 zx HZ.out w hg
   have HZX := Lib.hid zx
   have hgr := hg.below hbl
   rcases cmpQ_cases x m with ⟨hx, e⟩ | ⟨hx, e⟩ | ⟨hx, e⟩
   all_goals
    rw [e] at HCMP
    have HX := Lib.hid hx
    clear e zx hx
   ·have HV : Hid (m = maxQ m x) := by unfold Hid; exact (maxQ_lt HX.out).symm
    go_wp2_with fail
    refine (HCMP.out wr hgr).mono ?_
    rintro e w2 ⟨_, rfl, rfl, hb2⟩
    have hb3 := hbl.trans (hb2.mono hbl.size)
    skip
    go_wp2_with fail
    go_roundw
    case rel => exact ⟨i + 1, m, rfl, by go_num, by omega, h, by unfold Hid; rw [HN.out]; exact HV.out, HZ, hb3⟩
    case measure => simp [RowKit.intOf]; omega
   ·have HV : Hid (m = maxQ m x) := by unfold Hid; exact (maxQ_eq HX.out).symm
    go_wp2_with fail
    refine (HCMP.out wr hgr).mono ?_
    rintro e w2 ⟨_, rfl, rfl, hb2⟩
    have hb3 := hbl.trans (hb2.mono hbl.size)
    skip
    go_wp2_with fail
    go_roundw
    case rel => exact ⟨i + 1, m, rfl, by go_num, by omega, h, by unfold Hid; rw [HN.out]; exact HV.out, HZ, hb3⟩
    case measure => simp [RowKit.intOf]; omega
   ·have HV : Hid (x = maxQ m x) := by unfold Hid; exact (maxQ_gt HX.out).symm
    go_wp2_with fail
    refine (HCMP.out wr hgr).mono ?_
    rintro e w2 ⟨_, rfl, rfl, hb2⟩
    have hb3 := hbl.trans (hb2.mono hbl.size)
    have hc2 := zcq hb2 (by show b < wr.heap.size; have := hbl.size; omega) hc
    go_wp2_with fail
    go_roundw
    case rel => exact ⟨i + 1, x, rfl, by go_num, by omega, h, by unfold Hid; rw [HN.out]; exact HV.out, HZX, hb3⟩
    case measure => simp [RowKit.intOf]; omega
  ·have HF : Hid (m = highQ l) := by have := HM.out; rw [List.take_of_length_le h] at this; exact this
   clear HM HZ
   go_wp2_with fail
   go_ret
   exact ⟨_, rfl, congrArg (fun z => Value.string (RS z)) HF.out, hbl⟩
theorem range_ok (w : World) (vp vt vf : Value) (P : List PtQ) (T : List Tri) (k : Nat) (F : List Rat) (h : FieldIn w vp vt vf P T k F) (hne : F ≠ []) (hg : Good w) :
 Calls Tryz.prog 38 #[.agg #[vp, vt], vf] w (Ret (fun r _ => r = .tuple #[.string (RS (lowQ F)), .string (RS (highQ F)), .int .i64 0]) w) := by
 have HH := Lib.hid h
 have HMIN : Hid (∀ w', Below w.heap.size w w' → Good w' → _) := fun w' hb hg' => minFunc_any vf F k h.m.kpos (by have := h.m.klim2; omega) h.fs w' (h.below hb).f hne hg'
 have HMAX : Hid (∀ w', Below w.heap.size w w' → Good w' → _) := fun w' hb hg' => maxFunc_any vf F k h.m.kpos (by have := h.m.klim2; omega) h.fs w' (h.below hb).f hne hg'
 obtain ⟨pp, cp, pt, ct, pf, cf, rfl, rfl, rfl⟩ := h.open
 generalize lowQ F = lo at *
 generalize highQ F = hi at *
 clear h hne
 go_enter Tryz.func38, Tryz.ntmps38
 go_wp2_with fail
 obtain ⟨W, hW⟩ : ∃ W, W = (w.alloc (.cells #[.slice pp P.length cp, .slice pt T.length ct] 30)).alloc (.cells #[.slice pf F.length cf] 61) := ⟨_, rfl⟩
 have hB : Below w.heap.size w W := by rw [hW]; exact zal2 _ _ _
 have bF : BoxN W (w.heap.size + 1) 61 [.slice pf F.length cf] := by rw [hW]; exact BoxN.new _ _ _ _ (by simp)
 rw [← hW]
 clear hW
 refine (checks_ok (HH.out.below hB) _ (bF.cell 0 rfl) (hg.below hB)).mono ?_
 rintro e w1 ⟨_, rfl, rfl, hb1⟩
 have hB1 := hB.trans (hb1.mono hB.size)
 clear hb1 hB bF
 go_wp2_with fail
 refine (HMIN.out w1 hB1 (hg.below hB1)).mono ?_
 rintro e w2 ⟨_, rfl, rfl, hb2⟩
 have hB2 := hB1.trans (hb2.mono hB1.size)
 clear hb2 hB1
 go_wp2_with fail
 refine (HMAX.out w2 hB2 (hg.below hB2)).mono ?_
 rintro e w3 ⟨_, rfl, rfl, hb3⟩
 have hB3 := hB2.trans (hb3.mono hB2.size)
 go_wp2_with fail
 go_ret3
 exact ⟨_, rfl, rfl, hB3⟩
def belowTo (F G : List Rat) : Nat → Bool
 | 0 => true
 | i + 1 => belowTo F G i && decide (cmpQ (hI F i) (hI G i) ≤ 0)
def lowTo (F : List Rat) : Nat → Rat
 | 0 => hI F 0
 | i + 1 => if cmpQ (hI F i) (lowTo F i) < 0 then hI F i else lowTo F i
def highTo (F : List Rat) : Nat → Rat
 | 0 => hI F 0
 | i + 1 => if 0 < cmpQ (hI F i) (highTo F i) then hI F i else highTo F i
theorem cmp_le (a b : Rat) : cmpQ a b ≤ 0 ↔ a ≤ b := by
 rcases cmpQ_cases a b with ⟨h, e⟩ | ⟨h, e⟩ | ⟨h, e⟩ <;> rw [e]
 ·simp; grind
 ·simp; grind
 ·simp; grind
theorem cmp_lt (a b : Rat) : cmpQ a b < 0 ↔ a < b := by
 rcases cmpQ_cases a b with ⟨h, e⟩ | ⟨h, e⟩ | ⟨h, e⟩ <;> rw [e]
 ·simp; grind
 ·simp; grind
 ·simp; grind
theorem cmp_gt (a b : Rat) : 0 < cmpQ a b ↔ b < a := by
 rcases cmpQ_cases a b with ⟨h, e⟩ | ⟨h, e⟩ | ⟨h, e⟩ <;> rw [e]
 ·simp; grind
 ·simp; grind
 ·simp; grind
theorem lowTo_min (F : List Rat) (i : Nat) : lowTo F (i + 1) = minQ (lowTo F i) (hI F i) := by
 show (if cmpQ (hI F i) (lowTo F i) < 0 then hI F i else lowTo F i) = _
 unfold minQ
 by_cases h : hI F i < lowTo F i
 ·rw [if_pos ((cmp_lt _ _).2 h), if_pos h]
 ·rw [if_neg (fun e => h ((cmp_lt _ _).1 e)), if_neg h]
theorem highTo_max (F : List Rat) (i : Nat) : highTo F (i + 1) = maxQ (highTo F i) (hI F i) := by
 show (if 0 < cmpQ (hI F i) (highTo F i) then hI F i else highTo F i) = _
 unfold maxQ
 by_cases h : highTo F i < hI F i
 ·rw [if_pos ((cmp_gt _ _).2 h), if_pos h]
 ·rw [if_neg (fun e => h ((cmp_gt _ _).1 e)), if_neg h]
theorem lowTo_take (F : List Rat) (hne : F ≠ []) : ∀ i, 1 ≤ i → i ≤ F.length → lowTo F i = lowQ (F.take i)
 | 0, h, _ => by omega
 | 1, _, hl => by
   rw [lowTo_min, lowQ_one F hl]
   show minQ (hI F 0) (hI F ((0 : Nat) : Int)) = _
   rw [hI_nat F 0 hl, show hI F 0 = F[0] from hI_nat F 0 hl]
   exact minQ_eq rfl
 | i + 2, _, hl => by
   rw [lowTo_min, lowTo_take F hne (i + 1) (by omega) (by omega), lowQ_step F (i + 1) (by omega) (by omega), hI_nat F (i + 1) (by omega)]
theorem highTo_take (F : List Rat) (hne : F ≠ []) : ∀ i, 1 ≤ i → i ≤ F.length → highTo F i = highQ (F.take i)
 | 0, h, _ => by omega
 | 1, _, hl => by
   rw [highTo_max, highQ_one F hl]
   show maxQ (hI F 0) (hI F ((0 : Nat) : Int)) = _
   rw [hI_nat F 0 hl, show hI F 0 = F[0] from hI_nat F 0 hl]
   exact maxQ_eq rfl
 | i + 2, _, hl => by
   rw [highTo_max, highTo_take F hne (i + 1) (by omega) (by omega), highQ_step F (i + 1) (by omega) (by omega), hI_nat F (i + 1) (by omega)]
theorem lowTo_all (F : List Rat) (hne : F ≠ []) : lowTo F F.length = lowQ F := by
 have := lowTo_take F hne F.length (List.length_pos_iff.2 hne) (Nat.le_refl _)
 rwa [List.take_length] at this
theorem highTo_all (F : List Rat) (hne : F ≠ []) : highTo F F.length = highQ F := by
 have := highTo_take F hne F.length (List.length_pos_iff.2 hne) (Nat.le_refl _)
 rwa [List.take_length] at this
theorem belowTo_iff (F G : List Rat) : ∀ i, belowTo F G i = true ↔ ∀ j, j < i → hI F j ≤ hI G j
 | 0 => ⟨fun _ j h => by omega, fun _ => rfl⟩
 | i + 1 => by
   show (belowTo F G i && decide (cmpQ (hI F i) (hI G i) ≤ 0)) = true ↔ _
   rw [Bool.and_eq_true, belowTo_iff F G i, decide_eq_true_eq, cmp_le]
   constructor
   ·rintro ⟨h1, h2⟩ j hj
    rcases (by omega : j < i ∨ j = i) with h | rfl
    ·exact h1 j h
    ·exact h2
   ·intro h
    exact ⟨fun j hj => h j (by omega), h i (by omega)⟩
theorem belowTo_all (F G : List Rat) (h : F.length = G.length) : belowTo F G F.length = belowB F G := by
 have h1 : belowTo F G F.length = true ↔ belowB F G = true := by
  rw [belowTo_iff, belowB_iff F G h]
  constructor
  ·intro H i h1 h2
   have := H i h1
   rwa [hI_nat F i h1, hI_nat G i h2] at this
  ·intro H j hj
   rw [hI_nat F j hj, hI_nat G j (by omega)]
   exact H j hj (by omega)
 cases ha : belowTo F G F.length <;> cases hb : belowB F G <;> simp_all
theorem lowTo_Sz {F : List Rat} {k : Nat} (hk : 0 < k) (h : ∀ q ∈ F, Sz k q) : ∀ i, Sz k (lowTo F i)
 | 0 => hI_Sz hk h _
 | i + 1 => by unfold lowTo; split; exact hI_Sz hk h _; exact lowTo_Sz hk h i
theorem highTo_Sz {F : List Rat} {k : Nat} (hk : 0 < k) (h : ∀ q ∈ F, Sz k q) : ∀ i, Sz k (highTo F i)
 | 0 => hI_Sz hk h _
 | i + 1 => by unfold highTo; split; exact hI_Sz hk h _; exact highTo_Sz hk h i
theorem fieldSums_long (w : World) (kz s0 s1 : Int) (half : Bool) (a0 a1 a2 a3 a4 a5 : Int) (ah : Bool) (b0 b1 b2 b3 b4 b5 : Int) (bh : Bool) (ks : ByteArray) (hl : 40 < ks.size) (hg : Good w) :
 Calls Tryz.prog 7 #[.agg #[.int .u8 kz, .int .i8 s0, .int .i8 s1, .bool half, .int .i8 a0, .int .i8 a1, .int .i8 a2, .int .i8 a3, .int .i8 a4, .int .i8 a5, .bool ah, .int .i8 b0, .int .i8 b1, .int .i8 b2, .int .i8 b3, .int .i8 b4, .int .i8 b5, .bool bh], .string ks] w (Ret (fun r _ => r = .bool true) w) := by
 go_enter Tryz.func7, Tryz.ntmps7
 go_wp2_with fail
 obtain ⟨W, hW⟩ : ∃ W, W = w.alloc (.cells #[.int .u8 kz, .int .i8 s0, .int .i8 s1, .bool half, .int .i8 a0, .int .i8 a1, .int .i8 a2, .int .i8 a3, .int .i8 a4, .int .i8 a5, .bool ah, .int .i8 b0, .int .i8 b1, .int .i8 b2, .int .i8 b3, .int .i8 b4, .int .i8 b5, .bool bh] 57) := ⟨_, rfl⟩
 have hB : Below w.heap.size w W := by rw [hW]; exact zal _ _
 rw [← hW]
 clear hW
 refine (known13_any W (hg.below hB)).mono ?_
 rintro e o1 ⟨_, rfl, rfl, hb1⟩
 have hB1 := hB.trans (hb1.mono hB.size)
 have h1d : decide ((40 : Int) < (ks.size : Int)) = true := decide_eq_true (by omega)
 go_wp2_with fail
 refine (known13_any o1 (hg.below hB1)).mono ?_
 rintro e o2 ⟨_, rfl, rfl, hb2⟩
 go_wp2_with fail
 go_ret
 exact ⟨_, rfl, rfl, hB1.trans (hb2.mono hB1.size)⟩
theorem fieldSums_right (w : World) (kz s0 s1 : Int) (half : Bool) (a0 a1 a2 a3 a4 a5 : Int) (ah : Bool) (b0 b1 b2 b3 b4 b5 : Int) (bh : Bool) (c : Rat) (zc : Sz 40 c) (hks : (RS c).size ≤ 40) (P : List PtQ) (T : List Tri) (F G : List Rat) (n : Nat) (hF : F.length = n) (hG : G.length = n) (hn0 : 0 < n) (hn6 : n ≤ 6) (zF : ∀ q ∈ F, Sz 2 q) (zG : ∀ q ∈ G, Sz 2 q)
 (HMK : Hid (∀ w, Good w → Calls Tryz.prog 9 #[.agg #[.int .u8 kz, .int .i8 s0, .int .i8 s1, .bool half]] w (Ret (fun r w' => ∃ vp vt, r = .agg #[vp, vt] ∧ RdP w' vp (strP P) ∧ RdT w' vt T) w)))
 (HMF : Hid (∀ w vp vt, RdP w vp (strP P) → RdT w vt T → Good w → Calls Tryz.prog 20 #[.agg #[vp, vt], .agg #[.int .i8 a0, .int .i8 a1, .int .i8 a2, .int .i8 a3, .int .i8 a4, .int .i8 a5, .bool ah]] w (Ret (fun r w' => FieldIn w' vp vt r P T 2 F) w)))
 (HMG : Hid (∀ w vp vt, RdP w vp (strP P) → RdT w vt T → Good w → Calls Tryz.prog 20 #[.agg #[vp, vt], .agg #[.int .i8 b0, .int .i8 b1, .int .i8 b2, .int .i8 b3, .int .i8 b4, .int .i8 b5, .bool bh]] w (Ret (fun r w' => FieldIn w' vp vt r P T 2 G) w)))
 (HSC : Hid (∀ w vp vt vf, FieldIn w vp vt vf P T 2 F → Good w → Calls Tryz.prog 36 #[.agg #[vp, vt], vf, .string (RS c)] w (Ret (fun r w' => ∃ v, r = .tuple #[v, .int .i64 0] ∧ RdQ w' v (mulL c F)) w)))
 (HRK : Hid (∀ w, Good w → Calls Tryz.prog 32 #[.string (RS c)] w (Ret (fun r _ => r = .bool true) w))) (hg : Good w) :
 Calls Tryz.prog 7 #[.agg #[.int .u8 kz, .int .i8 s0, .int .i8 s1, .bool half, .int .i8 a0, .int .i8 a1, .int .i8 a2, .int .i8 a3, .int .i8 a4, .int .i8 a5, .bool ah, .int .i8 b0, .int .i8 b1, .int .i8 b2, .int .i8 b3, .int .i8 b4, .int .i8 b5, .bool bh], .string (RS c)] w (Ret (fun r _ => r = .bool true) w) := by
 have HAD : Hid (∀ w vp vt vf vg, FieldIn w vp vt vf P T 2 F → FieldIn w vp vt vg P T 2 G → Good w → Calls Tryz.prog 34 #[.agg #[vp, vt], vf, vg] w (Ret (fun r w' => ∃ v, r = .tuple #[v, .int .i64 0] ∧ RdQ w' v (sumQ F G)) w)) := fun w vp vt vf vg h1 h2 hg => (fadd_ok w vp vt vf vg P T 2 F G h1 h2 (fun q hq => (sumQ_Sz zF zG q hq).mono (by omega)) hg).mono (by
  rintro e w' ⟨r, rfl, ⟨v, rfl, h, -⟩, hb⟩
  exact ⟨_, rfl, ⟨v, rfl, h⟩, hb⟩)
 have HBL : Hid (∀ w vp vt vf vg, FieldIn w vp vt vf P T 2 F → FieldIn w vp vt vg P T 2 G → Good w → Calls Tryz.prog 37 #[.agg #[vp, vt], vf, vg] w (Ret (fun r _ => r = .tuple #[.bool (belowB F G), .int .i64 0]) w)) := fun w vp vt vf vg h1 h2 hg => fbelow_ok w vp vt vf vg P T 2 F G h1 h2 hg
 have HRG : Hid (∀ w vp vt vf, FieldIn w vp vt vf P T 2 F → Good w → Calls Tryz.prog 38 #[.agg #[vp, vt], vf] w (Ret (fun r _ => r = .tuple #[.string (RS (lowQ F)), .string (RS (highQ F)), .int .i64 0]) w)) := fun w vp vt vf h1 hg => range_ok w vp vt vf P T 2 F h1 (by intro e; rw [e] at hF; simp at hF; omega) hg
 have HZF : Hid (∀ z : Int, Sz 2 (hI F z)) := fun z => hI_Sz (by omega) zF z
 have HZG : Hid (∀ z : Int, Sz 2 (hI G z)) := fun z => hI_Sz (by omega) zG z
 have HZL : Hid (∀ i, Sz 2 (lowTo F i)) := fun i => lowTo_Sz (by omega) zF i
 have HZH : Hid (∀ i, Sz 2 (highTo F i)) := fun i => highTo_Sz (by omega) zF i
 have HSL : Hid ((sumQ F G).length = n) := by unfold Hid; rw [sumQ_length _ _ (by omega), hG]
 have HTS : Hid (∀ i, i < n → (sumQ F G).take (i + 1) = (sumQ F G).take i ++ [hI F i + hI G i]) := fun i hi => take_snoc _ _ _ (by rw [sumQ_get F G i (by omega) (by omega), hI_nat F i (by omega), hI_nat G i (by omega)])
 have HML : Hid ((mulL c F).length = n) := by unfold Hid; rw [mulL_length, hF]
 have HTM : Hid (∀ i, i < n → (mulL c F).take (i + 1) = (mulL c F).take i ++ [hI F i * c]) := fun i hi => take_snoc _ _ _ (by rw [mulL_get c F i (by omega), hI_nat F i (by omega)])
 have HZC := Lib.hid zc
 have HLW : Hid (lowTo F n = lowQ F) := by unfold Hid; rw [← hF]; exact lowTo_all F (List.ne_nil_of_length_pos (by omega))
 have HHW : Hid (highTo F n = highQ F) := by unfold Hid; rw [← hF]; exact highTo_all F (List.ne_nil_of_length_pos (by omega))
 have HBW : Hid (belowTo F G n = belowB F G) := by unfold Hid; rw [← hF]; exact belowTo_all F G (by omega)
 have HL0 : Hid (lowTo F 0 = hI F 0) := rfl
 have HH0 : Hid (highTo F 0 = hI F 0) := rfl
 have HB0 : Hid (belowTo F G 0 = true) := rfl
 have HLS : Hid (∀ i : Nat, lowTo F (i + 1) = if cmpQ (hI F i) (lowTo F i) < 0 then hI F i else lowTo F i) := fun _ => rfl
 have HHS : Hid (∀ i : Nat, highTo F (i + 1) = if 0 < cmpQ (hI F i) (highTo F i) then hI F i else highTo F i) := fun _ => rfl
 have HBS : Hid (∀ i : Nat, belowTo F G (i + 1) = (belowTo F G i && decide (cmpQ (hI F i) (hI G i) ≤ 0))) := fun _ => rfl
 clear zF zG zc
 go_enter Tryz.func7, Tryz.ntmps7
 go_wp2_with fail
 obtain ⟨W, hW⟩ : ∃ W, W = w.alloc (.cells #[.int .u8 kz, .int .i8 s0, .int .i8 s1, .bool half, .int .i8 a0, .int .i8 a1, .int .i8 a2, .int .i8 a3, .int .i8 a4, .int .i8 a5, .bool ah, .int .i8 b0, .int .i8 b1, .int .i8 b2, .int .i8 b3, .int .i8 b4, .int .i8 b5, .bool bh] 57) := ⟨_, rfl⟩
 have hB : Below w.heap.size w W := by rw [hW]; exact zal _ _
 have bx : BoxN W w.heap.size 57 [.int .u8 kz, .int .i8 s0, .int .i8 s1, .bool half, .int .i8 a0, .int .i8 a1, .int .i8 a2, .int .i8 a3, .int .i8 a4, .int .i8 a5, .bool ah, .int .i8 b0, .int .i8 b1, .int .i8 b2, .int .i8 b3, .int .i8 b4, .int .i8 b5, .bool bh] := by rw [hW]; exact BoxN.new _ _ _ _ rfl
 rw [← hW]
 clear hW
 refine (known13_any W (hg.below hB)).mono ?_
 rintro e o1 ⟨_, rfl, rfl, hb1⟩
 have hB1 := hB.trans (hb1.mono hB.size)
 have bx1 := bx.below hb1 bx.lt
 clear hb1 hB bx
 have k0 := bx1.cell 0 rfl
 have k1 := bx1.cell 1 rfl
 have k2 := bx1.cell 2 rfl
 have k3 := bx1.cell 3 rfl
 have h1d : decide ((40 : Int) < ((RS c).size : Int)) = false := decide_eq_false (by omega)
 go_wp2_with fail
 refine (HMK.out o1 (hg.below hB1)).mono ?_
 rintro e o2 ⟨_, rfl, ⟨vp, vt, rfl, hp, ht⟩, hb2⟩
 have hB2 := hB1.trans (hb2.mono hB1.size)
 have bx2 := bx1.below hb2 bx1.lt
 obtain ⟨pp, cp, rfl, -, -, -⟩ := hp.open
 obtain ⟨pt, ct, rfl, -, -, -⟩ := ht.open
 rw [strP_length] at *
 clear hb2 hB1 bx1 k0 k1 k2 k3 HMK h1d
 go_upto_region 4 with fail
 obtain ⟨o3, ho3⟩ : ∃ W, W = o2.alloc (.cells #[.slice pp P.length cp, .slice pt T.length ct] 30) := ⟨_, rfl⟩
 have h23 : Below o2.heap.size o2 o3 := by rw [ho3]; exact zal _ _
 have zb5 : BoxN o3 o2.heap.size 30 [.slice pp P.length cp, .slice pt T.length ct] := by rw [ho3]; exact BoxN.new _ _ _ _ rfl
 have hB3 := hB2.trans (h23.mono hB2.size)
 have bx3 := bx2.below h23 bx2.lt
 rw [← ho3]
 clear ho3
 have m0 := zb5.cell 0 rfl
 have m1 := zb5.cell 1 rfl
 have k4 := bx3.cell 4 rfl
 have k5 := bx3.cell 5 rfl
 have k6 := bx3.cell 6 rfl
 have k7 := bx3.cell 7 rfl
 have k8 := bx3.cell 8 rfl
 have k9 := bx3.cell 9 rfl
 have k10 := bx3.cell 10 rfl
 have k11 := bx3.cell 11 rfl
 have k12 := bx3.cell 12 rfl
 have k13 := bx3.cell 13 rfl
 have k14 := bx3.cell 14 rfl
 have k15 := bx3.cell 15 rfl
 have k16 := bx3.cell 16 rfl
 have k17 := bx3.cell 17 rfl
 have lm := zb5.lt
 have lx := bx3.lt
 have HPT : Hid (∀ w', Below o3.heap.size o3 w' → RdP w' (.slice pp P.length cp) (strP P) ∧ RdT w' (.slice pt T.length ct) T) := fun w' hb => ⟨RdC.below (RdC.below hp h23) hb, RdC.below (RdC.below ht h23) hb⟩
 have hgd : Good o3.drew := (hg.below hB3).drewN 1
 go_cut [6, 7] (fun s6 s7 wx => ∃ (pf pg : Option Addr) (cf cg : Nat), s6 = .slice pf n cf ∧ s7 = .slice pg n cg ∧ FieldIn wx (.slice pp P.length cp) (.slice pt T.length ct) (.slice pf n cf) P T 2 F ∧ FieldIn wx (.slice pp P.length cp) (.slice pt T.length ct) (.slice pg n cg) P T 2 G ∧ Below o3.heap.size o3 wx)
 case first =>
  go_region_held3 (fun w' => w'.cell? ⟨o2.heap.size, 0, none⟩ = some (.slice pp P.length cp) ∧ w'.cell? ⟨o2.heap.size, 1, none⟩ = some (.slice pt T.length ct) ∧ w'.cell? ⟨w.heap.size, 4, none⟩ = some (.int .i8 a0) ∧ w'.cell? ⟨w.heap.size, 5, none⟩ = some (.int .i8 a1) ∧ w'.cell? ⟨w.heap.size, 6, none⟩ = some (.int .i8 a2) ∧ w'.cell? ⟨w.heap.size, 7, none⟩ = some (.int .i8 a3) ∧ w'.cell? ⟨w.heap.size, 8, none⟩ = some (.int .i8 a4) ∧ w'.cell? ⟨w.heap.size, 9, none⟩ = some (.int .i8 a5) ∧ w'.cell? ⟨w.heap.size, 10, none⟩ = some (.bool ah) ∧ w'.cell? ⟨w.heap.size, 11, none⟩ = some (.int .i8 b0) ∧ w'.cell? ⟨w.heap.size, 12, none⟩ = some (.int .i8 b1) ∧ w'.cell? ⟨w.heap.size, 13, none⟩ = some (.int .i8 b2) ∧ w'.cell? ⟨w.heap.size, 14, none⟩ = some (.int .i8 b3) ∧ w'.cell? ⟨w.heap.size, 15, none⟩ = some (.int .i8 b4) ∧ w'.cell? ⟨w.heap.size, 16, none⟩ = some (.int .i8 b5) ∧ w'.cell? ⟨w.heap.size, 17, none⟩ = some (.bool bh))
   (first | exact ⟨m0, m1, k4, k5, k6, k7, k8, k9, k10, k11, k12, k13, k14, k15, k16, k17⟩ | exact ⟨p_1_0, p_1_1, p_1_2, p_1_3, p_1_4, p_1_5, p_1_6, p_1_7, p_1_8, p_1_9, p_1_10, p_1_11, p_1_12, p_1_13, p_1_14, p_1_15⟩ | exact ⟨p_2_0, p_2_1, p_2_2, p_2_3, p_2_4, p_2_5, p_2_6, p_2_7, p_2_8, p_2_9, p_2_10, p_2_11, p_2_12, p_2_13, p_2_14, p_2_15⟩)
   (first
   | (go_at_call 20; refine (HMG.out _ _ _ (HPT.out _ ((below_drewN o3 1).trans (pb1.mono (Nat.le_refl _)))).1 (HPT.out _ ((below_drewN o3 1).trans (pb1.mono (Nat.le_refl _)))).2 pg1).mono ?_; rintro e pw2 ⟨vg, rfl, hG2, pb2⟩
      have p_2_0 := zct pb2 p_1_0
      have p_2_1 := zct pb2 p_1_1
      have p_2_2 := zct pb2 p_1_2
      have p_2_3 := zct pb2 p_1_3
      have p_2_4 := zct pb2 p_1_4
      have p_2_5 := zct pb2 p_1_5
      have p_2_6 := zct pb2 p_1_6
      have p_2_7 := zct pb2 p_1_7
      have p_2_8 := zct pb2 p_1_8
      have p_2_9 := zct pb2 p_1_9
      have p_2_10 := zct pb2 p_1_10
      have p_2_11 := zct pb2 p_1_11
      have p_2_12 := zct pb2 p_1_12
      have p_2_13 := zct pb2 p_1_13
      have p_2_14 := zct pb2 p_1_14
      have p_2_15 := zct pb2 p_1_15
      have ps2 : pw1.heap.size ≤ pw2.heap.size := pb2.size
      have pg2 : Good pw2 := pg1.below pb2
      have HG2 := Lib.hid hG2)
   | (go_at_call 20; refine (HMF.out _ _ _ (HPT.out _ (below_drewN o3 1)).1 (HPT.out _ (below_drewN o3 1)).2 hgd).mono ?_; rintro e pw1 ⟨vf, rfl, hF1, pb1⟩
      have p_1_0 := zct pb1 m0
      have p_1_1 := zct pb1 m1
      have p_1_2 := zct pb1 k4
      have p_1_3 := zct pb1 k5
      have p_1_4 := zct pb1 k6
      have p_1_5 := zct pb1 k7
      have p_1_6 := zct pb1 k8
      have p_1_7 := zct pb1 k9
      have p_1_8 := zct pb1 k10
      have p_1_9 := zct pb1 k11
      have p_1_10 := zct pb1 k12
      have p_1_11 := zct pb1 k13
      have p_1_12 := zct pb1 k14
      have p_1_13 := zct pb1 k15
      have p_1_14 := zct pb1 k16
      have p_1_15 := zct pb1 k17
      have ps1 : o3.heap.size ≤ pw1.heap.size := pb1.size
      have pg1 : Good pw1 := hgd.below pb1
      have HF1 := Lib.hid hF1))
  have pB : Below o3.heap.size o3 pw2 := zbt (zbt (below_drewN o3 1) pb1) pb2
  have hF2 := HF1.out.below pb2
  obtain ⟨_, _, _, _, pf, cf, -, -, rfl⟩ := hF2.open
  have hG2' := HG2.out
  obtain ⟨_, _, _, _, pg, cg, -, -, rfl⟩ := hG2'.open
  rw [hF] at *
  rw [hG] at *
  go_wp2_with fail
  go_meet
  exact ⟨pf, pg, cf, cg, rfl, rfl, hF2, hG2', pB⟩
 case rest =>
 obtain ⟨pf, pg, cf, cg, rfl, rfl, hF4, hG4, hb4⟩ := hcut
 have hB4 := hB3.trans (hb4.mono hB3.size)
 have zb54 := zb5.below hb4 zb5.lt
 have HF4 := Lib.hid hF4
 have HG4 := Lib.hid hG4
 clear m0 m1 k4 k5 k6 k7 k8 k9 k10 k11 k12 k13 k14 k15 k16 k17 hb4 hB3 bx3 bx2 zb5 hp ht h23 hB2 hF4 hG4 HPT hgd lm lx HMF HMG
 have m0 := zb54.cell 0 rfl
 have m1 := zb54.cell 1 rfl
 go_wp2_with fail
 refine (HAD.out wc _ _ _ _ HF4.out HG4.out (hg.below hB4)).mono ?_
 rintro e o5 ⟨_, rfl, ⟨v8, rfl, hs8⟩, hb5⟩
 have hB5 := hB4.trans (hb5.mono hB4.size)
 have zb55 := zb54.below hb5 zb54.lt
 have HF5 := Lib.hid (HF4.out.below hb5)
 have HG5 := Lib.hid (HG4.out.below hb5)
 have HS5 := Lib.hid hs8
 obtain ⟨p8, c8, rfl, -, -, -⟩ := hs8.open
 clear m0 m1 hb5 zb54 HF4 HG4 HAD hs8 hB4
 have m0 := zb55.cell 0 rfl
 have m1 := zb55.cell 1 rfl
 go_wp2_with fail
 refine (HSC.out o5 _ _ _ HF5.out (hg.below hB5)).mono ?_
 rintro e o6 ⟨_, rfl, ⟨v10, rfl, hs10⟩, hb6⟩
 have HM6 := Lib.hid hs10
 obtain ⟨p10, c10, rfl, -, -, -⟩ := hs10.open
 clear hs10
 have hB6 := hB5.trans (hb6.mono hB5.size)
 have zb56 := zb55.below hb6 zb55.lt
 have HF6 := Lib.hid (HF5.out.below hb6)
 have HG6 := Lib.hid (HG5.out.below hb6)
 have HS6 := Lib.hid (RdC.below HS5.out hb6)
 clear m0 m1 hb6 zb55 HF5 HG5 HSC HS5 hB5
 have m0 := zb56.cell 0 rfl
 have m1 := zb56.cell 1 rfl
 go_wp2_with fail
 refine (HBL.out o6 _ _ _ _ HF6.out HG6.out (hg.below hB6)).mono ?_
 rintro e o7 ⟨_, rfl, rfl, hb7⟩
 have hB7 := hB6.trans (hb7.mono hB6.size)
 have zb57 := zb56.below hb7 zb56.lt
 have HF7 := Lib.hid (HF6.out.below hb7)
 have HG7 := Lib.hid (HG6.out.below hb7)
 have HS7 := Lib.hid (RdC.below HS6.out hb7)
 have HM7 := Lib.hid (RdC.below HM6.out hb7)
 clear HM6
 clear m0 m1 hb7 zb56 HF6 HG6 HBL HS6 hB6
 have m0 := zb57.cell 0 rfl
 have m1 := zb57.cell 1 rfl
 go_wp2_with fail
 refine (HRG.out o7 _ _ _ HF7.out (hg.below hB7)).mono ?_
 rintro e o8 ⟨_, rfl, rfl, hb8⟩
 have hB8 := hB7.trans (hb8.mono hB7.size)
 have hF8 := HF7.out.below hb8
 have hG8 := HG7.out.below hb8
 have HS8 := Lib.hid (RdC.below HS7.out hb8)
 have HM8 := Lib.hid (RdC.below HM7.out hb8)
 clear HM7
 have hg8 := hg.below hB8
 have HFC : Hid (∀ i : Nat, i < n → ∃ bf of : Nat, pf = some ⟨bf, of, none⟩ ∧ bf < o8.heap.size ∧ o8.cell? ⟨bf, of + i, none⟩ = some (.string (RS (hI F i)))) := fun i hi => by
  obtain ⟨b, off, c', hv, hb, hc⟩ := hF8.hgt i (by omega)
  injection hv with hv1 hv2 hv3
  clear hv2
  exact ⟨b, off, hv1, hb, hc⟩
 have HGC : Hid (∀ i : Nat, i < n → ∃ bf of : Nat, pg = some ⟨bf, of, none⟩ ∧ bf < o8.heap.size ∧ o8.cell? ⟨bf, of + i, none⟩ = some (.string (RS (hI G i)))) := fun i hi => by
  obtain ⟨b, off, c', hv, hb, hc⟩ := hG8.hgt i (by omega)
  injection hv with hv1 hv2 hv3
  clear hv2
  exact ⟨b, off, hv1, hb, hc⟩
 clear m0 m1 hb8 zb57 HF7 HG7 HRG HS7 hB7 hF8 hG8 hF hG
 rw [← HLW.out, ← HHW.out, ← HBW.out]
 clear HLW HHW HBW
 generalize lowTo F = LO at *
 generalize highTo F = HI at *
 generalize belowTo F G = BE at *
 generalize sumQ F G = SL at *
 generalize mulL c F = ML at *
 have HFP : Hid (∃ bf of : Nat, pf = some ⟨bf, of, none⟩ ∧ bf < o8.heap.size ∧ o8.cell? ⟨bf, of, none⟩ = some (.string (RS (hI F 0)))) := by
  obtain ⟨bf, of, h1, h2, h3⟩ := HFC.out 0 hn0
  exact ⟨bf, of, h1, h2, h3⟩
 obtain ⟨i0, hi, hz0, hz1, hz2⟩ := info_parts info_str
 go_upto_region 11 with fail
 go_cut [20, 21] (fun s20 s21 wx => s20 = .string (RS (hI F 0)) ∧ s21 = .string (RS (hI F 0)) ∧ Below o8.heap.size o8 wx)
 case first =>
  obtain ⟨bf, of, rfl, hbf, c0⟩ := HFP.out
  have hnz : (0 : Int) < (n : Int) := by omega
  go_region
  all_goals
   go_wp2_with fail
   go_meet
   exact ⟨rfl, rfl, below_drewN o8 1⟩
 case rest =>
 obtain ⟨rfl, rfl, hbc⟩ := hcut
 clear HFP
 go_wp2_with fail
 go_loopw [17, 18, 19, 20, 21, 22] (fun t17 t18 t19 t20 t21 t22 wr => ∃ (i : Nat), t22 = .int .i64 i ∧ i ≤ n ∧ wr.ownsRow o8.heap.size 32 1 t17 i ((SL.take i).map fun q => Value.string (RS q)) ∧ wr.ownsRow o8.heap.size 32 1 t18 i (((ML).take i).map fun q => Value.string (RS q)) ∧ Hid (t17.ownBlock = none ∨ t17.ownBlock ≠ t18.ownBlock) ∧ t19 = .bool (BE i) ∧ t20 = .string (RS (LO i)) ∧ t21 = .string (RS (HI i)) ∧ Below o8.heap.size o8 wr) (fun _ _ _ _ _ t22 _ => n - (RowKit.intOf t22).toNat)
 case atStart => exact ⟨0, rfl, Nat.zero_le _, World.ownsRow_nil _ _ _ _, World.ownsRow_nil _ _ _ _, .inl rfl, by rw [HB0.out], by rw [HL0.out], by rw [HH0.out], hbc⟩
 case round =>
  obtain ⟨i, rfl, hin, ow, ow18, hap, rfl, rfl, rfl, hbr⟩ := hrel
  obtain ⟨p17, c17, rfl⟩ := ownsRow_shape ow
  obtain ⟨p18, c18, rfl⟩ := ownsRow_shape ow18
  have hBr := hB8.trans (hbr.mono hB8.size)
  have hzr := hbr.size
  rcases Nat.lt_or_ge i n with hlt | hlt
  ·obtain ⟨bf, of, rfl, hbf, f0⟩ := HFC.out i hlt
   obtain ⟨bg, og, rfl, hbg, g0⟩ := HGC.out i hlt
   have hiz : (i : Int) < (n : Int) := by omega
   have hw1 : IntKind.i64.wrap ((i : Int) + 1) = (i : Int) + 1 := IntWalk.i64_in _ (by omega)
   have HT1 := Lib.hid (HTS.out i hlt)
   have HT2 := Lib.hid (HTM.out i hlt)
   have HB1 := Lib.hid (HBS.out i)
   have HL1 := Lib.hid (HLS.out i)
   have HH1 := Lib.hid (HHS.out i)
   have HZx := Lib.hid (HZF.out i)
   have HZy := Lib.hid (HZG.out i)
   have HZl := Lib.hid (HZL.out i)
   have HZh := Lib.hid (HZH.out i)
   generalize hI F i = x at *
   generalize hI G i = y at *
   have HCF : Hid (∀ w', Below o8.heap.size o8 w' → w'.cell? ⟨bf, of + i, none⟩ = some (.string (RS x))) := fun w' hb => (zcq hb hbf f0 :)
   have HCG : Hid (∀ w', Below o8.heap.size o8 w' → w'.cell? ⟨bg, og + i, none⟩ = some (.string (RS y))) := fun w' hb => (zcq hb hbg g0 :)
   have HA : Hid (∀ w, Good w → _) := fun w hg => addQ_any x y 2 (by omega) (by omega) HZx.out HZy.out w hg
   have HC1 : Hid (∀ w, Good w → _) := fun w hg => compareQ_any x y 2 (by omega) (by omega) HZx.out HZy.out w hg
   have HC2 : Hid (∀ w, Good w → _) := fun w hg => compareQ_any x (LO i) 2 (by omega) (by omega) HZx.out HZl.out w hg
   have HC3 : Hid (∀ w, Good w → _) := fun w hg => compareQ_any x (HI i) 2 (by omega) (by omega) HZx.out HZh.out w hg
   have hgd : Good wr.drew := (hg.below hBr).drewN 1
   have x0 := HCF.out _ hbr
   have y0 := HCG.out _ hbr
   have hbd : Below o8.heap.size o8 wr.drew := hbr.trans ((below_drewN wr 1).mono hzr)
   clear f0 g0
   go_upto_region 15 with fail
   go_cut [17] (fun s17 wx => wx.ownsRow o8.heap.size 32 1 s17 (i + 1) ((SL.take (i + 1)).map fun q => Value.string (RS q)) ∧ wx.ownsRow o8.heap.size 32 1 (.slice p18 i c18) i ((ML.take i).map fun q => Value.string (RS q)) ∧ Hid (s17.ownBlock = none ∨ s17.ownBlock ≠ (Value.slice p18 i c18).ownBlock) ∧ Below o8.heap.size o8 wx)
   case first =>
    go_region_held3 (fun w' => w'.cell? ⟨bf, of + i, none⟩ = some (.string (RS x)) ∧ w'.cell? ⟨bg, og + i, none⟩ = some (.string (RS y)))
     (first | exact ⟨x0, y0⟩ | exact ⟨x4, y4⟩ | exact ⟨cell_alloc_l _ x4, cell_alloc_l _ y4⟩ | exact ⟨x5, y5⟩)
     (first
       | (refine step_append_lies _ (by rfl) (.tmp 82) (.tmp 92) 61 (by rfl) o8.heap.size 32 i0 (.string ⟨#[]⟩) 1 16 Tryz.underlying61 hi hz0 hz1 hz2 rfl (by decide) _ i _ (by simp [Act.eval]) (ow4.alloc _) ⟨w4.heap.size, 0, none⟩ 1 1 [.string (RS (x + y))] (by simp [Act.eval]) rfl (cell_one_str _ _ _) (one_cell_str _) (by omega) (by unfold maxLen; omega) (by omega) (by simp; omega) _ rfl ?_
          intro g5 cap5 w5 ow5 hgr5 hat5 hlt5
          have hb5 : Below o8.heap.size o8 w5 := (hb4b.alloc (by omega) _).grown hgr5 (by simp; omega) (fun j hj => by have := (ow4.lt j hj).1; omega)
          have x5 := HCF.out _ hb5
          have y5 := HCG.out _ hb5)
       | (go_at_call 28; refine (HA.out _ hgd).mono ?_; rintro e w4 ⟨_, rfl, rfl, hb4⟩
          have hb4b : Below o8.heap.size o8 w4 := hbd.trans (hb4.mono (by show o8.heap.size ≤ wr.heap.size; omega))
          have ow4 := World.ownsRow.belowAll ow ((below_drewN wr 1).trans hb4)
          have hz4 : wr.heap.size ≤ w4.heap.size := hb4.size
          have ow18b := World.ownsRow.belowAll ow18 ((below_drewN wr 1).trans hb4)
          have x4 := HCF.out _ hb4b
          have y4 := HCG.out _ hb4b))
    all_goals
     go_wp2_with fail
     go_meet
     exact ⟨by rw [HT1.out, List.map_append]; exact ow5, (ow18b.alloc _).kept hgr5 (apart_flip hap.out), apart_next hap.out hat5 (ow18b.lt) (by simp), hb5⟩
   case rest =>
   obtain ⟨ow1, ow18, hap, hb1⟩ := hcut
   obtain ⟨p17', c17', rfl⟩ := ownsRow_shape ow1
   have hB1 := hB8.trans (hb1.mono hB8.size)
   clear ow hbr hBr hzr x0 y0 hbd hgd HA
   go_wp2_with fail
   refine (HRK.out wc (hg.below hB1)).mono ?_
   rintro e w6 ⟨_, rfl, rfl, hb6⟩
   have hb16 := hb1.trans (hb6.mono hb1.size)
   have ow6 := World.ownsRow.belowAll ow1 hb6
   have ow18b := World.ownsRow.belowAll ow18 hb6
   have hB6 := hB8.trans (hb16.mono hB8.size)
   have x6 := HCF.out _ hb16
   have HM : Hid (∀ w, Good w → _) := fun w hg => mulQ_any x c 40 (by omega) (by omega) (HZx.out.mono (by omega)) HZC.out w hg
   clear ow1 ow18 hb6 hb1 hB1
   go_upto_region 17 with fail
   go_cut [18] (fun s18 wx => wx.ownsRow o8.heap.size 32 1 s18 (i + 1) ((ML.take (i + 1)).map fun q => Value.string (RS q)) ∧ wx.ownsRow o8.heap.size 32 1 (.slice p17' (i + 1) c17') (i + 1) ((SL.take (i + 1)).map fun q => Value.string (RS q)) ∧ Hid ((Value.slice p17' (i + 1) c17').ownBlock = none ∨ (Value.slice p17' (i + 1) c17').ownBlock ≠ s18.ownBlock) ∧ Below o8.heap.size o8 wx)
   case first =>
    go_wp2_with fail
    refine (HM.out w6 (hg.below hB6)).mono ?_
    rintro e w7 ⟨_, rfl, rfl, hb7⟩
    have hb17 := hb16.trans (hb7.mono hb16.size)
    have ow7 := World.ownsRow.belowAll ow6 hb7
    have ow187 := World.ownsRow.belowAll ow18b hb7
    have hz7 := hb17.size
    clear ow6 ow18b hb7 hb16 hB6 x6
    go_wp2_with (at_builtin; refine wpList_append_own_at _ rfl _ _ 61 rfl o8.heap.size 32 i0 (.string ⟨#[]⟩) 1 16 Tryz.underlying61 hi hz0 hz1 hz2 rfl (by decide) _ _ _ rfl (ow187.alloc _) ⟨w7.heap.size, 0, none⟩ 1 1 [.string (RS (x * c))] rfl rfl (cell_one_str _ _ _) (one_cell_str _) (by unfold maxLen; omega) (by omega) (by simp; omega) ?_
                 intro v18 w8 ow8 hgrow8 _ hat8
                 have hbr8 : Below o8.heap.size o8 w8 := (hb17.alloc (by omega) _).grown hgrow8 (by simp; omega) (fun j hj => by have := (ow187.lt j hj).1; omega)
                 have ow17 := (ow7.alloc _).kept hgrow8 hap.out
                 have hap8 := apart_next' hap.out hat8 (ow7.lt) (by simp)
                 clear hgrow8 hat8 ow187 ow7 hb17)
    go_meet
    exact ⟨by rw [HT2.out, List.map_append]; exact ow8, ow17, hap8, hbr8⟩
   case rest =>
   obtain ⟨ow18, ow17, hap, hb8⟩ := hcut
   obtain ⟨p18', c18', rfl⟩ := ownsRow_shape ow18
   have hB8' := hB8.trans (hb8.mono hB8.size)
   have x8 := HCF.out _ hb8
   have y8 := HCG.out _ hb8
   have hgd : Good wc.drew := (hg.below hB8').drewN 1
   have hz8 := hb8.size
   go_upto_region 18 with fail
   go_cut [19] (fun s19 wx => s19 = .bool (BE (i + 1)) ∧ Below wc.heap.size wc wx)
   case first =>
    cases hbe : BE i
    ·have HBF : Hid (BE (i + 1) = false) := by unfold Hid; rw [HB1.out, hbe]; rfl
     go_region
     all_goals
      go_wp2_with fail
      go_meet
      exact ⟨congrArg Value.bool HBF.out.symm, below_drewN _ 1⟩
    ·have HBF : Hid (BE (i + 1) = decide (cmpQ x y ≤ 0)) := by unfold Hid; rw [HB1.out, hbe]; rfl
     go_region_held3 (fun w' => w'.cell? ⟨bf, of + i, none⟩ = some (.string (RS x)) ∧ w'.cell? ⟨bg, og + i, none⟩ = some (.string (RS y)))
      (first | exact ⟨x8, y8⟩ | exact ⟨q_1_0, q_1_1⟩)
      (first
      | (go_at_call 40; refine (HC1.out _ hgd).mono ?_; rintro e qw1 ⟨_, rfl, rfl, qb1⟩
         have q_1_0 := zct qb1 x8
         have q_1_1 := zct qb1 y8
         have qs1 : wc.heap.size ≤ qw1.heap.size := qb1.size
         have qg1 : Good qw1 := hgd.below qb1))
     have qB : Below wc.heap.size wc qw1 := zbt (below_drewN wc 1) qb1
     go_wp2_with fail
     go_meet
     exact ⟨congrArg Value.bool HBF.out.symm, qB⟩
   case rest =>
   obtain ⟨rfl, hb9⟩ := hcut
   have hb19 := hb8.trans (hb9.mono hb8.size)
   have hB9 := hB8.trans (hb19.mono hB8.size)
   have ow179 := World.ownsRow.belowAll ow17 hb9
   have ow189 := World.ownsRow.belowAll ow18 hb9
   clear ow18
   have x9 := HCF.out _ hb19
   clear ow17 hb8 hb9 hB8' x8 y8 hgd hz8 HC1
   go_wp2_with fail
   refine (HC2.out _ (hg.below hB9)).mono ?_
   rintro e w10 ⟨_, rfl, rfl, hb10⟩
   have hb20 := hb19.trans (hb10.mono hb19.size)
   have hB10 := hB8.trans (hb20.mono hB8.size)
   have ow1710 := World.ownsRow.belowAll ow179 hb10
   have ow1810 := World.ownsRow.belowAll ow189 hb10
   clear ow189
   have x10 := HCF.out _ hb20
   clear ow179 hb10 hb19 hB9 x9 HC2
   go_upto_if 124 with fail
   go_cut [20] (fun s20 wx => s20 = .string (RS (LO (i + 1))) ∧ wx = w10)
   case first =>
    by_cases hc : cmpQ x (LO i) < 0
    ·have hcd : decide (cmpQ x (LO i) < 0) = true := decide_eq_true hc
     have HLN : Hid (LO (i + 1) = x) := by unfold Hid; rw [HL1.out, if_pos hc]
     clear hc HL1
     generalize cmpQ x (LO i) = cz at *
     go_wp2_with fail
     all_goals first
      | (exfalso; have hx := of_decide_eq_true hcd; omega)
      | (go_meet; exact ⟨congrArg (fun q => Value.string (RS q)) HLN.out.symm, rfl⟩)
    ·have hcd : decide (cmpQ x (LO i) < 0) = false := decide_eq_false hc
     have HLN : Hid (LO (i + 1) = LO i) := by unfold Hid; rw [HL1.out, if_neg hc]
     clear hc HL1
     generalize cmpQ x (LO i) = cz at *
     go_wp2_with fail
     all_goals first
      | (exfalso; have hx := of_decide_eq_false hcd; omega)
      | (go_meet; exact ⟨congrArg (fun q => Value.string (RS q)) HLN.out.symm, rfl⟩)
   case rest =>
   obtain ⟨rfl, rfl⟩ := hcut
   go_wp2_with fail
   refine (HC3.out _ (hg.below hB10)).mono ?_
   rintro e w11 ⟨_, rfl, rfl, hb11⟩
   have hb21 := hb20.trans (hb11.mono hb20.size)
   have hB11 := hB8.trans (hb21.mono hB8.size)
   have ow1711 := World.ownsRow.belowAll ow1710 hb11
   have ow1811 := World.ownsRow.belowAll ow1810 hb11
   clear ow1810
   have x11 := HCF.out _ hb21
   clear ow1710 hb11 hb20 hB10 x10 HC3
   by_cases hc : 0 < cmpQ x (HI i)
   ·have hcd : decide (0 < cmpQ x (HI i)) = true := decide_eq_true hc
    have HLN : Hid (HI (i + 1) = x) := by unfold Hid; rw [HH1.out, if_pos hc]
    clear hc HH1
    generalize cmpQ x (HI i) = cz at *
    go_wp2_with fail
    go_roundw
    case rel => exact ⟨i + 1, by go_num, by omega, ow1711, ow1811, hap, rfl, rfl, congrArg (fun q => Value.string (RS q)) HLN.out.symm, hb21⟩
    case measure => simp [RowKit.intOf]; omega
   ·have hcd : decide (0 < cmpQ x (HI i)) = false := decide_eq_false hc
    have HLN : Hid (HI (i + 1) = HI i) := by unfold Hid; rw [HH1.out, if_neg hc]
    clear hc HH1
    generalize cmpQ x (HI i) = cz at *
    go_wp2_with fail
    go_roundw
    case rel => exact ⟨i + 1, by go_num, by omega, ow1711, ow1811, hap, rfl, rfl, congrArg (fun q => Value.string (RS q)) HLN.out.symm, hb21⟩
    case measure => simp [RowKit.intOf]; omega
  ·obtain rfl : i = n := by omega
   have HSW : Hid (RdQ wr (.slice p17 i c17) SL) := row_rd ow HSL.out
   have HSV : Hid (RdQ wr (.slice p8 SL.length c8) SL) := RdC.below HS8.out hbr
   have HMW : Hid (RdQ wr (.slice p18 i c18) ML) := row_rd ow18 HML.out
   have HMV : Hid (RdQ wr (.slice p10 ML.length c10) ML) := RdC.below HM8.out hbr
   have HSM2 : Hid (∀ w', Below wr.heap.size wr w' → Calls Tryz.prog 35 #[.slice p10 ML.length c10, .slice p18 i c18] w' (Ret (fun r _ => r = .bool true) w')) := fun w' hb => same13_true w' _ _ ML (RdC.below HMV.out hb) (RdC.below HMW.out hb) (by rw [HML.out]; omega)
   have HSM : Hid (∀ w', Below wr.heap.size wr w' → Calls Tryz.prog 35 #[.slice p8 SL.length c8, .slice p17 i c17] w' (Ret (fun r _ => r = .bool true) w')) := fun w' hb => same13_true w' _ _ SL (RdC.below HSV.out hb) (RdC.below HSW.out hb) (by rw [HSL.out]; omega)
   have he3 : (BE i != BE i) = false := by simp
   clear ow
   go_wp2_with fail
   refine (HSM.out wr (Below.refl _ _)).mono ?_
   rintro e x1 ⟨_, rfl, rfl, hy1⟩
   have hY1 := hBr.trans (hy1.mono hBr.size)
   go_wp2_with fail
   refine (HRK.out x1 (hg.below hY1)).mono ?_
   rintro e x2 ⟨_, rfl, rfl, hy2⟩
   have hY2 := hY1.trans (hy2.mono hY1.size)
   have hy12 := hy1.trans (hy2.mono hy1.size)
   go_wp2_with fail
   refine (HSM2.out x2 hy12).mono ?_
   rintro e x3 ⟨_, rfl, rfl, hy3⟩
   go_wp2_with fail
   go_ret
   exact ⟨_, rfl, rfl, hY2.trans (hy3.mono hY2.size)⟩
end Go.Proofs.YtdhcliekejiegaaGreatDoor
