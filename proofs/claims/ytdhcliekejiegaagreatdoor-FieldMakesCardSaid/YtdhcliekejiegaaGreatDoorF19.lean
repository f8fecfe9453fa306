import Derived.Test.YtdhcliekejiegaaGreatDoorK3
import Derived.Laws.EntriesVeiled
set_option maxHeartbeats 2000000
set_option maxRecDepth 100000
namespace Go.Proofs.YtdhcliekejiegaaGreatDoor
open Go.RowKit Go.Lib
theorem same13_true (w : World) (v1 v2 : Value) (l : List Rat) (h1 : RdQ w v1 l) (h2 : RdQ w v2 l) (hl : l.length ≤ 1000) :
 Calls Tryz.prog 35 #[v1, v2] w (Ret (fun r _ => r = .bool true) w) := by
 obtain ⟨p1, c1, rfl, -, -, hr1⟩ := h1.open
 obtain ⟨p2, c2, rfl, -, -, hr2⟩ := h2.open
 have HR1 := Lib.hid hr1
 have HR2 := Lib.hid hr2
 have hll : ((l.length : Int) != (l.length : Int)) = false := bne_self_eq_false _
 clear h1 h2 hr1 hr2
 go_enter Tryz.func35, Tryz.ntmps35
 go_wp2_with fail
 go_loopw [5] (fun t5 wr => ∃ i : Nat, t5 = .int .i64 i ∧ i ≤ l.length ∧ Below w.heap.size w wr) (fun t5 _ => l.length - (RowKit.intOf t5).toNat)
 case atStart => exact ⟨0, rfl, Nat.zero_le _, Below.refl _ _⟩
 case round =>
  obtain ⟨i, rfl, hi, hbr⟩ := hrel
  rcases Nat.lt_or_ge i l.length with h | h
  ·obtain ⟨g1, o1, rfl, hg1, hc1⟩ := HR1.out (List.ne_nil_of_length_pos (by omega))
   obtain ⟨g2, o2, rfl, hg2, hc2⟩ := HR2.out (List.ne_nil_of_length_pos (by omega))
   have d1 := zcq hbr hg1 (hc1 i h)
   have d2 := zcq hbr hg2 (hc2 i h)
   generalize RS (l[i]'_) = x at *
   have hiz : (i : Int) < (l.length : Int) := by omega
   clear hc1 hc2
   go_wp2_with fail
   go_region
   all_goals
    go_wp2_with fail
    go_roundw
    case rel => exact ⟨i + 1, by go_num, by omega, hbr.trans ((below_drewN wr 1).mono hbr.size)⟩
    case measure =>
     show l.length - ((i : Int) + 1).toNat < l.length - (i : Int).toNat
     omega
  ·have hiz : (l.length : Int) ≤ (i : Int) := by omega
   go_wp2_with fail
   go_ret
   exact ⟨_, rfl, rfl, hbr⟩
theorem row_rd {w : World} {B n : Nat} {v : Value} {D : List Rat} (h : w.ownsRow B 32 1 v n ((D.take n).map fun q => Value.string (RS q))) (hn : D.length = n) : RdQ w v D := by
 have h1 : RdC 1 w v n ((D.take n).map fun q => Value.string (RS q)) := RdC.of_owns h
 rw [List.take_of_length_le (by omega)] at h1
 unfold RdQ
 rw [hn]
 exact h1
theorem apart_flip {a b : Option Nat} (h : a = none ∨ a ≠ b) : b = none ∨ b ≠ a := by
 by_cases hb : b = none
 ·exact .inl hb
 ·rcases h with rfl | h
  ·exact .inr hb
  ·exact .inr fun e => h e.symm
theorem apart_next {v v' : Value} {g H b0 H0 : Nat} {n c : Nat} (h : v.ownBlock = none ∨ v.ownBlock ≠ v'.ownBlock) (hat : v.ownBlock = some g ∨ g = H) (hlt : ∀ k, v'.ownBlock = some k → b0 ≤ k ∧ k < H0) (hH : H0 ≤ H) : Hid ((Value.slice (some ⟨g, 0, none⟩) n c).ownBlock = none ∨ (Value.slice (some ⟨g, 0, none⟩) n c).ownBlock ≠ v'.ownBlock) := by
 refine .inr fun e => ?_
 have e' : some g = v'.ownBlock := e
 rcases hat with h1 | rfl
 ·rcases h with h2 | h2
  ·rw [h1] at h2; cases h2
  ·exact h2 (h1.trans e')
 ·have := (hlt _ e'.symm).2
  omega
theorem apart_next' {v v' v'' : Value} {H b0 H0 : Nat} (h : v.ownBlock = none ∨ v.ownBlock ≠ v'.ownBlock) (hat : v''.ownBlock = v'.ownBlock ∨ v''.ownBlock = some H) (hlt : ∀ k, v.ownBlock = some k → b0 ≤ k ∧ k < H0) (hH : H0 ≤ H) : Hid (v.ownBlock = none ∨ v.ownBlock ≠ v''.ownBlock) := by
 rcases hat with h1 | h1
 ·rw [h1]; exact h
 ·by_cases hv : v.ownBlock = none
  ·exact .inl hv
  ·refine .inr fun e => ?_
   rw [h1] at e
   have := (hlt _ e).2
   omega
theorem checks_two (w : World) (vp vt vf vg : Value) (P : List PtQ) (T : List Tri) (k : Nat) (F G : List Rat) (h : FieldIn w vp vt vf P T k F) (h2 : FieldIn w vp vt vg P T k G) (b : Nat) (hb0 : w.cell? ⟨b, 0, none⟩ = some vf) (hb1 : w.cell? ⟨b, 1, none⟩ = some vg) (hg : Good w) :
 Calls Tryz.prog 69 #[.agg #[vp, vt], .slice (some ⟨b, 0, none⟩) 2 2] w (Ret (fun r _ => r = .int .i64 0) w) := by
 have HFS : Hid (∀ j : Nat, j < 2 → ∃ (pf : Option Addr) (cf : Nat) (l : List Rat), w.cell? ⟨b, j, none⟩ = some (.slice pf P.length cf) ∧ l.length = P.length ∧ (l ≠ [] → ∃ bf off, pf = some ⟨bf, off, none⟩ ∧ bf < w.heap.size ∧ ∀ i (hi : i < l.length), w.cell? ⟨bf, off + i, none⟩ = some (.string (RS l[i]))) ∧ (∀ q ∈ l, (RS q).size < 1000000000 ∧ rightQ (RS q).data.toList = true)) := fun j hj => by
  have key : ∀ (v : Value) (L : List Rat), FieldIn w vp vt v P T k L → w.cell? ⟨b, j, none⟩ = some v → ∃ (pf : Option Addr) (cf : Nat) (l : List Rat), w.cell? ⟨b, j, none⟩ = some (.slice pf P.length cf) ∧ l.length = P.length ∧ (l ≠ [] → ∃ bf off, pf = some ⟨bf, off, none⟩ ∧ bf < w.heap.size ∧ ∀ i (hi : i < l.length), w.cell? ⟨bf, off + i, none⟩ = some (.string (RS l[i]))) ∧ (∀ q ∈ l, (RS q).size < 1000000000 ∧ rightQ (RS q).data.toList = true) := fun v L hL hv => by
   obtain ⟨pf, cf, rfl, -, -, hr⟩ := hL.f.open
   rw [hL.fl] at hv
   refine ⟨pf, cf, L, hv, hL.fl, hr, fun q hq => ⟨?_, ?_⟩⟩
   ·have := (hL.fs q hq).size hL.m.kpos; have := hL.m.klim2; omega
   ·rw [RS_list]; exact rightQ_RL ((hL.fs q hq).mono (by have := hL.m.klim2; omega))
  rcases (by omega : j = 0 ∨ j = 1) with rfl | rfl
  ·exact key vf F h hb0
  ·exact key vg G h2 hb1
 have HP := Lib.hid h.p
 have HT := Lib.hid h.t
 have HM := Lib.hid h.m
 have hbl := World.block_lt_of_cell? w _ hb0
 obtain ⟨pp, cp, pt, ct, pf, cf, rfl, rfl, rfl⟩ := h.open
 have hpl := h.m.plen
 dsimp only at hbl
 clear h h2 hb0 hb1
 go_enter Tryz.func69, Tryz.ntmps69
 go_wp2_with fail
 obtain ⟨W0, hW0⟩ : ∃ W0, W0 = w.alloc (.cells #[.slice pp P.length cp, .slice pt T.length ct] 30) := ⟨_, rfl⟩
 have hB0 : Below w.heap.size w W0 := by rw [hW0]; exact zal _ _
 have b2 : BoxN W0 w.heap.size 30 [.slice pp P.length cp, .slice pt T.length ct] := by rw [hW0]; exact BoxN.new _ _ _ _ rfl
 rw [← hW0]
 clear hW0
 refine (check_any W0 _ _ P T k (RdC.below HP.out hB0) (RdC.below HT.out hB0) HM.out (hg.below hB0)).mono ?_
 rintro e w1 ⟨_, rfl, rfl, hb1⟩
 have hB1 : Below w.heap.size w w1 := hB0.trans (hb1.mono hB0.size)
 have b3 := b2.below hb1 b2.lt
 clear hb1 hB0 b2
 go_wp2_with fail
 go_loopw [18] (fun t18 wr => ∃ j : Nat, j ≤ 2 ∧ t18 = .int .i64 (j : Int) ∧ Below w1.heap.size w1 wr) (fun t18 _ => 2 - (RowKit.intOf t18).toNat)
 case atStart => exact ⟨0, by omega, rfl, Below.refl _ _⟩
 case round =>
  obtain ⟨j, hj, rfl, hB⟩ := hrel
  have hBw : Below w.heap.size w wr := hB1.trans (hB.mono hB1.size)
  rcases Nat.lt_or_ge j 2 with hj2 | hj2
  ·obtain ⟨pf, cf, l, hcell, hll, hrd, hrt⟩ := HFS.out j hj2
   have b4 := b3.below hB b3.lt
   have u0 := b4.cell 0 rfl
   have u1 := zcq hBw hbl hcell
   have hjz : (j : Int) < 2 := by omega
   have HRD := Lib.hid hrd
   have HRT := Lib.hid hrt
   have HBW := Lib.hid hBw
   have hlP : l.length ≤ P.length := by omega
   have HLE := Lib.hid hll
   have hnb : ((P.length : Int) != (P.length : Int)) = false := by simp
   clear hcell hrd hrt hll hBw
   go_wp2_with fail
   obtain ⟨wo, hwo⟩ : ∃ wo : World, wo = wr := ⟨_, rfl⟩
   subst hwo
   go_loopw [30] (fun t30 wr => ∃ (i : Nat), t30 = .int .i64 i ∧ i ≤ P.length ∧ Below wo.heap.size wo wr) (fun t30 _ => P.length - (RowKit.intOf t30).toNat)
   case atStart => exact ⟨0, rfl, Nat.zero_le _, Below.refl _ _⟩
   case round =>
    obtain ⟨i, rfl, hi, hbl2⟩ := hrel
    have hBi := HBW.out.trans (hbl2.mono HBW.out.size)
    rcases Nat.lt_or_ge i P.length with hlt | hlt
    ·have hil : i < l.length := by have := HLE.out; omega
     obtain ⟨bf, off, rfl, hbs, hcell⟩ := HRD.out (by intro e; rw [e] at hil; simp at hil)
     have hc := zcq hBi hbs (hcell i hil)
     have hzx := HRT.out l[i] (List.getElem_mem hil)
     obtain ⟨x, hx⟩ : ∃ x, x = RS l[i] := ⟨_, rfl⟩
     rw [← hx] at hc hzx
     have hgr := hg.below hBi
     have hiz : (i : Int) < (P.length : Int) := by omega
     have HZ := Lib.hid hzx
     clear hx hcell hil hzx
     go_wp2_with fail
     refine (checkQ_any x HZ.out.1 _ hgr).mono ?_
     rintro e w2 ⟨_, rfl, rfl, hb2⟩
     have hb3 := hbl2.trans (hb2.mono hbl2.size)
     rw [HZ.out.2, show errNum true = 0 from rfl]
     clear hb2 hgr
     go_wp2_with fail
     go_roundw
     case rel => exact ⟨i + 1, by go_num, hlt, hb3⟩
     case measure => simp [RowKit.intOf]; omega
    ·go_wp2_with fail
     go_roundw
     case rel => exact ⟨j + 1, by omega, by go_num, hB.trans (hbl2.mono hB.size)⟩
     case measure => simp [RowKit.intOf]; omega
  ·obtain rfl : j = 2 := by omega
   rw [show ((2 : Nat) : Int) = 2 from rfl]
   go_wp2_with fail
   go_ret
   exact ⟨_, rfl, rfl, hBw⟩
def sumQ (F G : List Rat) : List Rat := List.zipWith (fun a b => a + b) F G
theorem sumQ_length (F G : List Rat) (h : F.length = G.length) : (sumQ F G).length = G.length := by unfold sumQ; rw [List.length_zipWith]; omega
theorem sumQ_get (F G : List Rat) (i : Nat) (h1 : i < F.length) (h2 : i < G.length) : (sumQ F G)[i]? = some (F[i] + G[i]) := by
 unfold sumQ
 rw [List.getElem?_zipWith]
 simp [h1, h2]
theorem combine_add (w : World) (vf vg : Value) (k : Nat) (F G : List Rat) (hk : 0 < k) (hk2 : k ≤ 20000) (hL : RdQ w vf F) (hU : RdQ w vg G) (hlen : F.length = G.length) (hn : G.length ≤ 1000000) (hsL : ∀ q ∈ F, Sz k q) (hsU : ∀ q ∈ G, Sz k q) (hg : Good w) :
 Calls Tryz.prog 94 #[vf, vg, .func (.func 49) #[] #[]] w (Ret (fun r w' => RdQ w' r (sumQ F G) ∧ FreshV w.heap.size r) w) := by
 obtain ⟨pl, cl, rfl, hlc, hlm, hlr⟩ := hL.open
 obtain ⟨pu, cu, rfl, huc, hum, hur⟩ := hU.open
 obtain ⟨n, hn0⟩ : ∃ n, n = G.length := ⟨_, rfl⟩
 have HLR := Lib.hid hlr
 have HUR := Lib.hid hur
 have HL := Lib.hid hsL
 have HU := Lib.hid hsU
 have HN1 : Hid (F.length = n) := by unfold Hid; omega
 have HN2 : Hid (G.length = n) := hn0.symm
 rw [hlen, ← hn0]
 rw [← hn0] at hn huc
 have hlc' : n ≤ cl := by omega
 clear hL hU hlr hur hsL hsU hlen hn0 hlc
 obtain ⟨i0, hi, hz0, hz1, hz2⟩ := info_parts info_str
 go_enter Tryz.func94, Tryz.ntmps94
 go_wp2_with fail
 go_loopw [7, 12] (fun t7 t12 wr => ∃ (i : Nat), t12 = .int .i64 i ∧ i ≤ n ∧ wr.ownsRow w.heap.size 32 1 t7 i (((sumQ F G).take i).map fun q => Value.string (RS q)) ∧ Below w.heap.size w wr) (fun _ t12 _ => n - (RowKit.intOf t12).toNat)
 case atStart => exact ⟨0, rfl, Nat.zero_le _, World.ownsRow_nil _ _ _ _, Below.refl _ _⟩
 case round =>
  obtain ⟨i, rfl, hin, hown, hbr⟩ := hrel
  obtain ⟨p3, c3', rfl⟩ := ownsRow_shape hown
  rcases Nat.lt_or_ge i n with h | h
  ·obtain ⟨bl, ol, rfl, hbl, hlc⟩ := HLR.out (by intro e; have := HN1.out; rw [e] at this; simp at this; omega)
   obtain ⟨bu, ou, rfl, hbu, huc⟩ := HUR.out (by intro e; have := HN2.out; rw [e] at this; simp at this; omega)
   have l1 := hlc i (by have := HN1.out; omega)
   have u1 := huc i (by have := HN2.out; omega)
   have hq := sumQ_get F G i (by have := HN1.out; omega) (by have := HN2.out; omega)
   have zl := HL.out _ (List.getElem_mem (show i < F.length by have := HN1.out; omega))
   have zu := HU.out _ (List.getElem_mem (show i < G.length by have := HN2.out; omega))
   generalize F[i]'_ = l at *
   generalize G[i]'_ = u at *
   have HTK := Lib.hid (take_snoc _ _ _ hq)
   have HZL := Lib.hid zl
   have HZU := Lib.hid zu
   have xl := zcq hbr hbl l1
   have xu := zcq hbr hbu u1
   have hgr : Good wr := hg.below hbr
   have hiz : (i : Int) < (n : Int) := by omega
   clear hlc huc l1 u1 hq zl zu
   go_wp2_with fail
   refine (ratAdd_any l u k hk hk2 HZL.out HZU.out _ hgr).mono ?_
   rintro e w2 ⟨_, rfl, rfl, hb2⟩
   have hown2 := World.ownsRow.belowAll hown hb2
   have hbr2 : Below w.heap.size w w2 := hbr.trans (hb2.mono hbr.size)
   have hzw := hbr.size
   have hz2' : w.heap.size ≤ w2.heap.size := hbr2.size
   clear hb2 hown hbr hgr xl xu
   go_wp2_with (at_builtin; refine wpList_append_own _ rfl _ _ 61 rfl w.heap.size 32 i0 (.string ⟨#[]⟩) 1 16 Tryz.underlying61 hi hz0 hz1 hz2 rfl (by decide) _ _ _ rfl (hown2.alloc _) ⟨w2.heap.size, 0, none⟩ 1 1 [.string (RS (l + u))] rfl rfl (cell_one_str _ _ _) (one_cell_str _) (by unfold maxLen; omega) (by omega) (by simp; omega) ?_
                intro v2 w3 hown3 hgrow3 _
                have hzw3 := hgrow3.size
                have hbr3 : Below w.heap.size w w3 := (hbr2.alloc (by omega) _).grown hgrow3 (by simp; omega) (fun j hj => by have := (hown2.lt j hj).1; omega)
                clear hgrow3)
   go_roundw
   case rel => exact ⟨i + 1, by go_num, by omega, by rw [HTK.out, List.map_append]; exact hown3, hbr3⟩
   case measure =>
    show n - ((i : Int) + 1).toNat < n - (i : Int).toNat
    omega
  ·obtain rfl : i = n := by omega
   have hfr : FreshV w.heap.size (.slice p3 i c3') := FreshV.of_owns hown
   have hrd : RdQ wr (.slice p3 i c3') (sumQ F G) := by
    have hl : (sumQ F G).length = i := by rw [sumQ_length _ _ (by rw [HN1.out, HN2.out]), HN2.out]
    have h1 : RdC 1 wr (.slice p3 i c3') i ((List.take i (sumQ F G)).map fun q => Value.string (RS q)) := RdC.of_owns hown
    rw [List.take_of_length_le (by omega)] at h1
    unfold RdQ
    rw [hl]
    exact h1
   go_wp2_with fail
   go_ret
   exact ⟨_, rfl, ⟨hrd, hfr⟩, hbr⟩
theorem fieldF_any (q : Rat) (h : Sz 200 q) (w : World) (hg : Good w) :
 Calls Tryz.prog 155 #[.string (RS q)] w (Ret (fun r _ => r = .bool false) w) := by
 have hs := h.size (by omega)
 have HE : Hid (errNum (rightQ (RS q).data.toList) = 0) := by unfold Hid; rw [RS_list, rightQ_RL h]; rfl
 clear h
 go_enter Tryz.func155, Tryz.ntmps155
 go_wp2_with fail
 refine (checkQ_any (RS q) (by omega) _ hg).mono ?_
 rintro e w1 ⟨_, rfl, rfl, hb1⟩
 rw [HE.out]
 go_wp2_with fail
 go_ret
 exact ⟨_, rfl, rfl, hb1⟩
theorem indexField_any (w : World) (v : Value) (l : List Rat) (hr : RdQ w v l) (hl : l.length ≤ 1000) (hs : ∀ q ∈ l, Sz 200 q) (hg : Good w) :
 Calls Tryz.prog 202 #[v, .func (.func 155) #[] #[]] w (Ret (fun r _ => r = .int .i64 (-1)) w) := by
 obtain ⟨p, c, rfl, -, -, hr'⟩ := hr.open
 have HR := Lib.hid hr'
 have HS := Lib.hid hs
 clear hr hr' hs
 go_enter Tryz.func202, Tryz.ntmps202
 go_wp2_with fail
 go_loopw [5, 8] (fun _ t8 wr => ∃ i : Nat, t8 = .int .i64 i ∧ i ≤ l.length ∧ Below w.heap.size w wr) (fun _ t8 _ => l.length - (RowKit.intOf t8).toNat)
 case atStart => exact ⟨0, rfl, Nat.zero_le _, Below.refl _ _⟩
 case round =>
  obtain ⟨i, rfl, hi, hbr⟩ := hrel
  rcases Nat.lt_or_ge i l.length with h | h
  ·obtain ⟨b, off, rfl, hbl, hc⟩ := HR.out (List.ne_nil_of_length_pos (by omega))
   have d0 := zcq hbr hbl (hc i h)
   have HZ := Lib.hid (HS.out _ (List.getElem_mem h))
   have hiz : (i : Int) < (l.length : Int) := by omega
   generalize l[i]'_ = x at *
   have HC : Hid (∀ w, Good w → _) := fun w hg => fieldF_any x HZ.out w hg
   have hgr := hg.below hbr
   clear hc
   go_wp2_with fail
   refine (HC.out wr hgr).mono ?_
   rintro e w1 ⟨_, rfl, rfl, hb1⟩
   have hbr1 := hbr.trans (hb1.mono hbr.size)
   clear d0 hb1
   go_wp2_with fail
   go_roundw
   case rel => exact ⟨i + 1, by go_num, by omega, hbr1⟩
   case measure =>
    show l.length - ((i : Int) + 1).toNat < l.length - (i : Int).toNat
    omega
  ·have hge : (l.length : Int) ≤ (i : Int) := by omega
   go_wp2_with fail
   go_ret
   exact ⟨_, rfl, rfl, hbr⟩
theorem containsField_any (w : World) (v : Value) (l : List Rat) (hr : RdQ w v l) (hl : l.length ≤ 1000) (hs : ∀ q ∈ l, Sz 200 q) (hg : Good w) :
 Calls Tryz.prog 154 #[v, .func (.func 155) #[] #[]] w (Ret (fun r _ => r = .bool false) w) := by
 have HC := Lib.hid (indexField_any w v l hr hl hs hg)
 obtain ⟨p, c, rfl, -, -, -⟩ := hr.open
 clear hr hs
 go_enter Tryz.func154, Tryz.ntmps154
 go_wp2_with fail
 refine HC.out.mono ?_
 rintro e w1 ⟨_, rfl, rfl, hb1⟩
 go_wp2_with fail
 go_ret
 exact ⟨_, rfl, rfl, hb1⟩
theorem ffield_any (w : World) (v : Value) (l : List Rat) (hr : RdQ w v l) (hl : l.length ≤ 1000) (hs : ∀ q ∈ l, Sz 200 q) (hg : Good w) :
 Calls Tryz.prog 89 #[v] w (Ret (fun r _ => r = .tuple #[v, .int .i64 0]) w) := by
 have HC := Lib.hid (containsField_any w v l hr hl hs hg)
 obtain ⟨p, c, rfl, -, -, -⟩ := hr.open
 clear hr hs
 go_enter Tryz.func89, Tryz.ntmps89
 go_wp2_with fail
 refine HC.out.mono ?_
 rintro e w1 ⟨_, rfl, rfl, hb1⟩
 go_wp2_with fail
 go_ret2
 exact ⟨_, rfl, rfl, hb1⟩
theorem sumQ_Sz {F G : List Rat} {k : Nat} (hF : ∀ q ∈ F, Sz k q) (hG : ∀ q ∈ G, Sz k q) : ∀ q ∈ sumQ F G, Sz (2 * k + 1) q := fun q hq => by
 unfold sumQ at hq
 obtain ⟨i, hi, rfl⟩ := List.getElem_of_mem hq
 rw [List.getElem_zipWith]
 rw [List.length_zipWith] at hi
 exact ((hF _ (List.getElem_mem (by omega))).add (hG _ (List.getElem_mem (by omega)))).mono (by omega)
theorem fadd_ok (w : World) (vp vt vf vg : Value) (P : List PtQ) (T : List Tri) (k : Nat) (F G : List Rat) (h : FieldIn w vp vt vf P T k F) (h2 : FieldIn w vp vt vg P T k G) (hz : ∀ q ∈ sumQ F G, Sz 200 q) (hg : Good w) :
 Calls Tryz.prog 34 #[.agg #[vp, vt], vf, vg] w (Ret (fun r w' => ∃ v, r = .tuple #[v, .int .i64 0] ∧ RdQ w' v (sumQ F G) ∧ FreshV w.heap.size v) w) := by
 have HF := Lib.hid h
 have HG := Lib.hid h2
 have hfl := h.fl
 have hgl := h2.fl
 have hpl := h.m.plen
 have HZ := Lib.hid hz
 obtain ⟨pp, cp, pt, ct, pf, cf, rfl, rfl, rfl⟩ := h.open
 obtain ⟨_, _, _, _, pg, cg, -, -, rfl⟩ := h2.open
 have HFL := Lib.hid hfl
 have HGL := Lib.hid hgl
 clear h h2 hz hfl hgl
 go_enter Tryz.func34, Tryz.ntmps34
 go_wp2_with fail
 obtain ⟨W, hW⟩ : ∃ W, W = (w.alloc (.cells #[.slice pp P.length cp, .slice pt T.length ct] 30)).alloc (.cells #[.slice pf F.length cf, .slice pg G.length cg] 61) := ⟨_, rfl⟩
 have hB : Below w.heap.size w W := by rw [hW]; exact zal2 _ _ _
 have b2 : BoxN W (w.heap.size + 1) 61 [.slice pf F.length cf, .slice pg G.length cg] := by rw [hW]; exact BoxN.new _ _ _ _ (by simp)
 rw [← hW]
 clear hW
 refine (checks_two W _ _ _ _ P T k F G (HF.out.below hB) (HG.out.below hB) (w.heap.size + 1) (b2.cell 0 rfl) (b2.cell 1 rfl) (hg.below hB)).mono ?_
 rintro e w1 ⟨_, rfl, rfl, hb1⟩
 have hB1 := hB.trans (hb1.mono hB.size)
 clear hb1 b2 hB
 go_wp2_with fail
 refine (combine_add w1 _ _ k F G (HF.out.m.kpos) (by have := HF.out.m.klim2; omega) (HF.out.below hB1).f (HG.out.below hB1).f (by have := HFL.out; have := HGL.out; omega) (by have := HGL.out; omega) HF.out.fs HG.out.fs (hg.below hB1)).mono ?_
 rintro e w2 ⟨v, rfl, ⟨hrd, hfr⟩, hb2⟩
 have hB2 := hB1.trans (hb2.mono hB1.size)
 have HRD := Lib.hid hrd
 have HFR : Hid (FreshV w.heap.size v) := fun a l c e => Nat.le_trans hB1.size (hfr a l c e)
 obtain ⟨pv, cv, rfl, -, -, -⟩ := hrd.open
 clear hrd hfr hb2
 go_wp2_with fail
 refine (ffield_any w2 _ _ HRD.out (by have h1 := HFL.out; have h2 := HGL.out; rw [sumQ_length _ _ (by omega)]; omega) HZ.out (hg.below hB2)).mono ?_
 rintro e w3 ⟨_, rfl, rfl, hb3⟩
 go_wp2_with fail
 go_ret2
 exact ⟨_, rfl, ⟨_, rfl, RdC.below HRD.out hb3, HFR.out⟩, hB2.trans (hb3.mono hB2.size)⟩
end Go.Proofs.YtdhcliekejiegaaGreatDoor
