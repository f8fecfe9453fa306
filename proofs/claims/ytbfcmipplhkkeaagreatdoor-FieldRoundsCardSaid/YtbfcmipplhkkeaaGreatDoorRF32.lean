import Derived.Test.YtbfcmipplhkkeaaGreatDoorRF6
import Derived.Laws.StructEq
/- The walk over field.Profile. The walks over klipperef05.At, klippelaw13.example. The walk over klippelaw13.known. The beginning that the laws of klippelaw13 have alike. Plain -/
set_option maxHeartbeats 8000000
set_option maxRecDepth 100000
namespace Go.Proofs.YtbfcmipplhkkeaaGreatDoor
open Go.RowKit Go.Lib
theorem zga {α : Type} {xs : List α} {i : Nat} (h : i < xs.toArray.size) : xs.toArray[i] = xs[i]'(by simpa using h) := List.getElem_toArray h
theorem zgz {α : Type} (a : α) (l : List α) (h : 0 < (a :: l).length) : (a :: l)[0] = a := List.getElem_cons_zero ..
theorem zgs {α : Type} (a : α) (l : List α) (i : Nat) (h : i + 1 < (a :: l).length) : (a :: l)[i + 1] = l[i]'(by simpa using h) := List.getElem_cons_succ ..
theorem zsa {α : Type} (l : List α) (i : Nat) (a : α) : l.toArray.setIfInBounds i a = (l.set i a).toArray := List.setIfInBounds_toArray ..
theorem zsz {α : Type} {x : α} {xs : List α} {a : α} : (x :: xs).set 0 a = a :: xs := List.set_cons_zero ..
theorem zss {α : Type} {x : α} {xs : List α} {i : Nat} {a : α} : (x :: xs).set (i + 1) a = x :: xs.set i a := List.set_cons_succ ..
theorem idx_PP0 (a b c d : Value) (w : World) : (Instr.index 130 (.agg #[a, b, c, d]) (.int .i64 0)).run Tryz.prog w = .ok (.agg #[a, b]) w := by kernel_rfl
theorem idx_PP1 (a b c d : Value) (w : World) : (Instr.index 130 (.agg #[a, b, c, d]) (.int .i64 1)).run Tryz.prog w = .ok (.agg #[c, d]) w := by kernel_rfl
def spanI (L : List SpanQ) (i : Nat) : SpanQ := L[i]?.getD (0, 0, 0)
def profTo (P : List PtQ) (T : List Tri) (F : List Rat) (a b : PtQ) (L : List SpanQ) : Nat -> List Knt
 | 0 => []
 | i + 1 => (profTo P T F a b L i ++ if i = 0 then [knotQ P F (triI T (spanI L i).1) a b (spanI L i).2.1] else []) ++ [knotQ P F (triI T (spanI L i).1) a b (spanI L i).2.2]
theorem profTo_len (P : List PtQ) (T : List Tri) (F : List Rat) (a b : PtQ) (L : List SpanQ) (i : Nat) : (profTo P T F a b L i).length = if i = 0 then 0 else i + 1 := by
 induction i with
 | zero => rfl
 | succ i ih =>
   unfold profTo;rw [List.length_append, List.length_append, ih, if_neg (Nat.succ_ne_zero i)];by_cases h : i = 0
   ·subst h; rfl
   ·rw [if_neg h, if_neg h]; rfl
theorem cellsKn_get (l : List Knt) (i : Nat) (h : i < l.length) : (cellsKn l)[i * 2]? = some (.string (RS l[i].1)) /\ (cellsKn l)[i * 2 + 1]? = some (.string (RS l[i].2)) := by
 have e := getElem?_flatMap_const cellKn 2 (fun _ => rfl) l i;constructor
 ·have := e 0 (by omega); rw [Nat.add_zero] at this; unfold cellsKn; rw [this, List.getElem?_eq_getElem h]; rfl
 ·have := e 1 (by omega); unfold cellsKn; rw [this, List.getElem?_eq_getElem h]; rfl
theorem fprofile_ok (w : World) (vp vt vf : Value) (P : List PtQ) (T : List Tri) (k : Nat) (F : List Rat) (h : FieldIn w vp vt vf P T k F) (a b : PtQ) (m n : Nat) (hm : m <= 100) (hkm : k <= m) (hmn : m <= n) (hn : n <= 200) (ha : SzP m a) (hb : SzP m b) (L : List SpanQ)
 (HAL : Hid (∀ w', FieldIn w' vp vt vf P T k F -> Good w' -> Calls Tryz.prog 57 #[.agg #[vp, vt], .agg #[.string (RS a.1), .string (RS a.2)], .agg #[.string (RS b.1), .string (RS b.2)]] w' (Ret (fun r w2 => ∃ v, r = .tuple #[v, .int .i64 0] /\ RdSp w2 v L) w')))
 (HCA : Hid (∀ w', FieldIn w' vp vt vf P T k F -> Good w' -> Calls Tryz.prog 58 #[.agg #[vp, vt], .agg #[.string (RS a.1), .string (RS a.2)]] w' (Ret (fun r _ => r = .tuple #[.bool true, .int .i64 0]) w')))
 (HCB : Hid (∀ w', FieldIn w' vp vt vf P T k F -> Good w' -> Calls Tryz.prog 58 #[.agg #[vp, vt], .agg #[.string (RS b.1), .string (RS b.2)]] w' (Ret (fun r _ => r = .tuple #[.bool true, .int .i64 0]) w')))
 (hL : L.length <= 40) (hLs : ∀ s ∈ L, s.1 < T.length /\ Sz n s.2.1 /\ Sz n s.2.2) (hsl : ∀ tr ∈ T, SzP 600 (slopeT P F tr)) (hK : ∀ kn ∈ profTo P T F a b L L.length, Sz 200 kn.1 /\ Sz 200 kn.2) (hg : Good w) :
 Calls Tryz.prog 22 #[.agg #[vp, vt], vf, .agg #[.string (RS a.1), .string (RS a.2)], .agg #[.string (RS b.1), .string (RS b.2)]] w (Ret (fun r w' => ∃ v, r = .tuple #[v, .int .i64 0] /\ RdC 2 w' v (profTo P T F a b L L.length).length (cellsKn (profTo P T F a b L L.length))) w) := by
 have HH := hid h;have HA := hid ha;have HB := hid hb;have HLS := hid hLs;have HSL := hid hsl;have HK := hid hK;have hT8 := h.m.tlen;have i0 := idx_PP0;have i1 := idx_PP1;obtain ⟨pp, cp, pt, ct, pf, cf, rfl, rfl, rfl⟩ := h.open;clear h ha hb hLs hsl hK;go_enter Tryz.func22, Tryz.ntmps22;go_wp2_with fail;obtain ⟨W, hW⟩ : ∃ W, W = ((((w.alloc (.cells #[.slice pp P.length cp, .slice pt T.length ct] 35)).alloc (.cells #[.slice pf F.length cf] 38)).alloc (.cells #[.string (RS a.1), .string (RS a.2)] 50)).alloc (.cells #[.string (RS b.1), .string (RS b.2)] 50)).alloc (.cells #[.slice pf F.length cf] 38) := ⟨_, rfl⟩;have hB : Below w.heap.size w W := by rw [hW]; exact (((((Below.refl _ _).alloc (Nat.le_refl _) _).alloc (by simp) _).alloc (by simp; omega) _).alloc (by simp; omega) _).alloc (by simp; omega) _
 have bv : BoxN W (w.heap.size + 1 + 1 + 1 + 1) 38 [.slice pf F.length cf] := by rw [hW]; exact BoxN.new _ _ _ _ (by simp)
 have b7 : BoxN W (w.heap.size + 1 + 1 + 1) 50 [.string (RS b.1), .string (RS b.2)] := by rw [hW]; exact (BoxN.new _ _ _ _ (by simp)).alloc _
 have b6 : BoxN W (w.heap.size + 1 + 1) 50 [.string (RS a.1), .string (RS a.2)] := by rw [hW]; exact ((BoxN.new _ _ _ _ (by simp)).alloc _).alloc _
 have b5 : BoxN W (w.heap.size + 1) 38 [.slice pf F.length cf] := by rw [hW]; exact (((BoxN.new _ _ _ _ (by simp)).alloc _).alloc _).alloc _
 have b4 : BoxN W w.heap.size 35 [.slice pp P.length cp, .slice pt T.length ct] := by rw [hW]; exact ((((BoxN.new _ _ _ _ rfl).alloc _).alloc _).alloc _).alloc _
 rw [<- hW];clear hW;refine (checks_ok (HH.out.below hB) _ (bv.cell 0 rfl) (hg.below hB)).mono ?_;rintro e w1 ⟨_, rfl, rfl, hb1⟩;have hB1 := hB.trans (hb1.mono hB.size);have b71 := b7.below hb1 b7.lt;have b61 := b6.below hb1 b6.lt;have b51 := b5.below hb1 b5.lt;have b41 := b4.below hb1 b4.lt;clear hb1 hB bv b7 b6 b5 b4;have m0 := b41.cell 0 rfl;have m1 := b41.cell 1 rfl;have x0 := b61.cell 0 rfl;have x1 := b61.cell 1 rfl;have y0 := b71.cell 0 rfl;have y1 := b71.cell 1 rfl;go_wp2_with fail;refine (HAL.out w1 (HH.out.below hB1) (hg.below hB1)).mono ?_;rintro e w2 ⟨_, rfl, ⟨vs, rfl, hvs⟩, hb2⟩;have hB2 := hB1.trans (hb2.mono hB1.size);have b72 := b71.below hb2 b71.lt;have b62 := b61.below hb2 b61.lt;have b52 := b51.below hb2 b51.lt;have b42 := b41.below hb2 b41.lt;obtain ⟨ps, cs, rfl, hsc⟩ := hvs.cells;have HSC := hid hsc;clear hb2 hB1 b71 b61 b51 b41 m0 m1 x0 x1 y0 y1 hvs hsc HAL;have x0 := b62.cell 0 rfl;have x1 := b62.cell 1 rfl;have y0 := b72.cell 0 rfl;have y1 := b72.cell 1 rfl;go_wp2_with fail;go_loopw [43] (fun t43 wr => ∃ i : Nat, t43 = .int .i64 i /\ i <= 2 /\ Below w2.heap.size w2 wr) (fun t43 _ => 2 - (RowKit.intOf t43).toNat)
 case atStart => exact ⟨0, rfl, Nat.zero_le _, Below.refl _ _⟩
 case round =>
  clear x0 x1 y0 y1;obtain ⟨i, rfl, hi, hbr⟩ := hrel;have hBr := hB2.trans (hbr.mono hB2.size);have b4r := b42.below hbr b42.lt;have m0 := b4r.cell 0 rfl;have m1 := b4r.cell 1 rfl;rcases (by omega : i = 0 \/ i = 1 \/ i = 2) with rfl | rfl | rfl
  ·go_upto_region 10 with fail
   obtain ⟨W3, hW3⟩ : ∃ W, W = wr.alloc (.cells #[.string (RS a.1), .string (RS a.2)] 50) := ⟨_, rfl⟩;have hb3 : Below wr.heap.size wr W3 := by rw [hW3]; exact zal _ _
   have bq : BoxN W3 wr.heap.size 50 [.string (RS a.1), .string (RS a.2)] := by rw [hW3]; exact BoxN.new _ _ _ _ rfl
   rw [<- hW3];clear hW3 m0 m1;have hB3 := hBr.trans (hb3.mono hBr.size);have b43 := b4r.below hb3 b4r.lt;have m0 := b43.cell 0 rfl;have m1 := b43.cell 1 rfl;have x0 := bq.cell 0 rfl;have x1 := bq.cell 1 rfl;go_wp2_with fail;refine (HCA.out _ (HH.out.below hB3) (hg.below hB3)).mono ?_;rintro e w4 ⟨_, rfl, rfl, hb4⟩;have hbq := (hbr.trans (hb3.mono hbr.size)).trans (hb4.mono (hbr.trans (hb3.mono hbr.size)).size);clear m0 m1 x0 x1;go_wp2_with fail;go_roundw
   case rel => exact ⟨1, rfl, by omega, hbq⟩
   case measure => simp [RowKit.intOf]
  ·go_upto_region 10 with fail
   obtain ⟨W3, hW3⟩ : ∃ W, W = wr.alloc (.cells #[.string (RS b.1), .string (RS b.2)] 50) := ⟨_, rfl⟩;have hb3 : Below wr.heap.size wr W3 := by rw [hW3]; exact zal _ _
   have bq : BoxN W3 wr.heap.size 50 [.string (RS b.1), .string (RS b.2)] := by rw [hW3]; exact BoxN.new _ _ _ _ rfl
   rw [<- hW3];clear hW3 m0 m1;have hB3 := hBr.trans (hb3.mono hBr.size);have b43 := b4r.below hb3 b4r.lt;have m0 := b43.cell 0 rfl;have m1 := b43.cell 1 rfl;have x0 := bq.cell 0 rfl;have x1 := bq.cell 1 rfl;go_wp2_with fail;refine (HCB.out _ (HH.out.below hB3) (hg.below hB3)).mono ?_;rintro e w4 ⟨_, rfl, rfl, hb4⟩;have hbq := (hbr.trans (hb3.mono hbr.size)).trans (hb4.mono (hbr.trans (hb3.mono hbr.size)).size);clear m0 m1 x0 x1;go_wp2_with fail;go_roundw
   case rel => exact ⟨2, rfl, by omega, hbq⟩
   case measure => simp [RowKit.intOf]
  ·clear m0 m1 b4r HCA HCB
   rw [show ((2 : Nat) : Int) = (2 : Int) from rfl];go_upto_region 17 with fail;obtain ⟨W2, hW2⟩ : ∃ W, W = wr.alloc (.cells #[.slice none 0 0] 74) := ⟨_, rfl⟩;have hbo : Below wr.heap.size wr W2 := by rw [hW2]; exact zal _ _
   have Bo : BoxN W2 wr.heap.size 74 [.slice none 0 0] := by rw [hW2]; exact BoxN.new _ _ _ _ rfl
   rw [<- hW2];clear hW2;have h2W := hbr.trans (hbo.mono hbr.size);have hBW := hB2.trans (h2W.mono hB2.size);have B4 := b42.below h2W b42.lt;have B5 := b52.below h2W b52.lt;have B6 := b62.below h2W b62.lt;have B7 := b72.below h2W b72.lt;have lo := Bo.lt;have l4 := b42.lt;have l5 := b52.lt;have l6 := b62.lt;have l7 := b72.lt;have hsz := hbr.size;obtain ⟨bo, hbo2⟩ : ∃ bo, bo = wr.heap.size := ⟨_, rfl⟩;rw [<- hbo2] at Bo lo hsz ⊢;have hwbo : w.heap.size <= bo := Nat.le_trans hB2.size hsz;have HPA : Hid (∀ (i : Nat) (x : Rat), i < L.length -> Sz n x -> ∀ (wr : World) (Kn : List Knt) (vo : Value), W2.grownBy wr (some bo) -> BoxN wr bo 74 [vo] -> wr.ownsRow W2.heap.size 78 2 vo Kn.length (cellsKn Kn) -> Kn.length <= 100 ->
    Calls Tryz.prog 59 #[.int .i64 ((spanI L i).1 : Int), .string (RS x), .pointer (some ⟨w.heap.size + 1 + 1, 0, none⟩), .pointer (some ⟨w.heap.size + 1 + 1 + 1, 0, none⟩), .pointer (some ⟨bo, 0, none⟩), .pointer (some ⟨w.heap.size, 0, none⟩), .pointer (some ⟨w.heap.size + 1, 0, none⟩)] wr (fun e w' => ∃ v', e = .returned (.tuple #[]) /\ W2.grownBy w' (some bo) /\ BoxN w' bo 74 [v'] /\ w'.ownsRow W2.heap.size 78 2 v' (Kn.length + 1) (cellsKn (Kn ++ [knotQ P F (triI T (spanI L i).1) a b x])) /\ ∀ (c ty : Nat) (l : List Value), BoxN wr c ty l -> c ≠ bo -> vo.ownBlock ≠ some c -> BoxN w' c ty l)) := fun i x hi hx wr Kn vo h1 h2 h3 h4 => by
    have hsp : spanI L i ∈ L := by unfold spanI; rw [List.getElem?_eq_getElem hi]; exact List.getElem_mem hi
    have htl := (HLS.out _ hsp).1;have htr := triI_nat T _ htl;exact padd_any w W2 bo _ _ _ _ _ _ _ P T k F HH.out hBW hg a b x m n hm hkm hmn hn HA.out HB.out hx B6 B7 B4 B5 hwbo lo (by omega) (by omega) (by omega) (by omega) _ htl _ htr (HSL.out _ (by rw [htr]; exact List.getElem_mem htl)) wr Kn vo h1 h2 h3 h4
   have HSI : Hid (∀ i, i < L.length -> L[i]? = some (spanI L i) /\ Sz n (spanI L i).2.1 /\ Sz n (spanI L i).2.2) := fun i hi => by
    have hsp : spanI L i ∈ L := by unfold spanI; rw [List.getElem?_eq_getElem hi]; exact List.getElem_mem hi
    exact ⟨by unfold spanI; rw [List.getElem?_eq_getElem hi]; rfl, (HLS.out _ hsp).2⟩
   have HPS : Hid (∀ i, profTo P T F a b L (i + 1) = (profTo P T F a b L i ++ if i = 0 then [knotQ P F (triI T (spanI L i).1) a b (spanI L i).2.1] else []) ++ [knotQ P F (triI T (spanI L i).1) a b (spanI L i).2.2]) := fun i => rfl;have HPL := hid (profTo_len P T F a b L);have hp0 : profTo P T F a b L 0 = [] := rfl;obtain ⟨PR, hPR⟩ : ∃ f, f = profTo P T F a b L := ⟨_, rfl⟩;rw [<- hPR] at HPL hp0 HK;simp only [<- hPR] at HPS;have HPR := hid hPR;clear hPR hbr hbo hbo2 hi HLS HSL HA HB b42 b52 b62 b72 B4 B5 B6 B7;go_wp2_with fail;go_loopw [61] (fun t61 wr => ∃ (i : Nat) (vo : Value), t61 = .int .i64 i /\ i <= L.length /\ W2.grownBy wr (some bo) /\ BoxN wr bo 74 [vo] /\ wr.ownsRow W2.heap.size 78 2 vo (PR i).length (cellsKn (PR i))) (fun t61 _ => L.length - (RowKit.intOf t61).toNat)
   case atStart => exact ⟨0, _, rfl, Nat.zero_le _, gb_refl _ _, Bo, by rw [hp0]; exact World.ownsRow_nil _ _ _ _⟩
   case round =>
    obtain ⟨i, vo, rfl, hi, hgb, Bor, hown⟩ := hrel;rcases Nat.lt_or_ge i L.length with h | h
    ·have hiz : (i : Int) < (L.length : Int) := by omega
     obtain ⟨hget, zx, zy⟩ := HSI.out i h;obtain ⟨bs, os, rfl, hbs, hcs⟩ := HSC.out (List.ne_nil_of_length_pos (by omega));obtain ⟨c0, c1, c2⟩ := hcs i _ hget;have h2r := below_gb h2W hgb hsz;have d0 := zcq h2r hbs c0;have d1 := zcq h2r hbs c1;have d2 := zcq h2r hbs c2;have HP1 : Hid (∀ wr Kn vo, _) := HPA.out i _ h zx;have HP2 : Hid (∀ wr Kn vo, _) := HPA.out i _ h zy;have HN := hid (HPS.out i);have HLN := hid (HPL.out i);generalize spanI L i = sp at *;clear hget zx zy c0 c1 c2 hcs h2r;go_upto_region 21 with fail;obtain ⟨W4, hW4⟩ : ∃ W, W = wr.alloc (.cells #[.int .i64 (sp.1 : Int), .string (RS sp.2.1), .string (RS sp.2.2)] 136) := ⟨_, rfl⟩;have hb4 : Below wr.heap.size wr W4 := by rw [hW4]; exact zal _ _
     have bs4 : BoxN W4 wr.heap.size 136 [.int .i64 (sp.1 : Int), .string (RS sp.2.1), .string (RS sp.2.2)] := by rw [hW4]; exact BoxN.new _ _ _ _ rfl
     rw [<- hW4];clear hW4 d0 d1 d2;have gb4 := gb_below hgb hb4;have Bo4 := Bor.below hb4 Bor.lt;have ow4 := World.ownsRow.belowAll hown hb4;have nbo : bo ≠ wr.heap.size := by have := Bor.lt; omega
     have e0 := bs4.cell 0 rfl;have e1 := bs4.cell 1 rfl;have e2 := bs4.cell 2 rfl;have hno : vo.ownBlock ≠ some wr.heap.size := fun e => by have := (hown.lt _ e).2; omega
     have hl1 : (PR i).length <= 60 := by rw [HLN.out]; split <;> omega
     generalize knotQ P F (triI T sp.1) a b sp.2.1 = kn1 at *;generalize knotQ P F (triI T sp.1) a b sp.2.2 = kn2 at *;rcases Nat.eq_zero_or_pos i with h0 | h0
     ·have hzb : ((i : Int) == 0) = true := by simp [h0]
      have hzb2 : (i : Int) = 0 := by omega
      have HN2 : Hid (PR (i + 1) = (PR i ++ [kn1]) ++ [kn2]) := by unfold Hid; rw [HN.out, if_pos h0]
      have H0 := hid h0;clear HN HLN h0;go_wp2_with fail;refine (HP1.out W4 (PR i) vo gb4 Bo4 ow4 (by omega)).mono ?_;rintro e w5 ⟨v5, rfl, gb5, Bo5, ow5, HK5⟩;have bs5 := HK5 _ _ _ bs4 (fun e => nbo e.symm) hno;have ow5' : w5.ownsRow W2.heap.size 78 2 v5 (PR i ++ [kn1]).length (cellsKn (PR i ++ [kn1])) := by rw [List.length_append]; exact ow5
      clear e0 e1 e2 ow5 HK5;have e0 := bs5.cell 0 rfl;have e2 := bs5.cell 2 rfl;go_wp2_with fail;refine (HP2.out w5 (PR i ++ [kn1]) v5 gb5 Bo5 ow5' (by rw [List.length_append]; simp; omega)).mono ?_;rintro e w6 ⟨v6, rfl, gb6, Bo6, ow6, -⟩;clear e0 e2;go_wp2_with fail;go_roundw
      case rel => exact ⟨i + 1, v6, by go_num, by omega, gb6, Bo6, by rw [HN2.out, show (PR i ++ [kn1] ++ [kn2]).length = (PR i ++ [kn1]).length + 1 by simp]; exact ow6⟩
      case measure => simp [RowKit.intOf]; omega
     ·have hzb : ((i : Int) == 0) = false := beq_eq_false_iff_ne.2 (by omega)
      have hzb2 : ¬ (i : Int) = 0 := by omega
      have hzb3 : ¬ i = 0 := by omega
      have HN2 : Hid (PR (i + 1) = PR i ++ [kn2]) := by unfold Hid; rw [HN.out, if_neg hzb3, List.append_nil]
      clear HN HLN;go_wp2_with fail;refine (HP2.out W4 (PR i) vo gb4 Bo4 ow4 (by omega)).mono ?_;rintro e w6 ⟨v6, rfl, gb6, Bo6, ow6, -⟩;clear e0 e1 e2;go_wp2_with fail;go_roundw
      case rel => exact ⟨i + 1, v6, by go_num, by omega, gb6, Bo6, by rw [HN2.out, List.length_append]; exact ow6⟩
      case measure => simp [RowKit.intOf]; omega
    ·obtain rfl : i = L.length := by omega
     have hin : ¬ (L.length : Int) < (L.length : Int) := Int.lt_irrefl _;obtain ⟨n, hn⟩ : ∃ n, n = (PR L.length).length := ⟨_, rfl⟩;rw [<- hn] at hown;obtain ⟨po, co, rfl⟩ := ownsRow_shape hown;have HRD : Hid (RdC 2 wr (.slice po n co) n (cellsKn (PR L.length))) := RdC.of_owns hown;have HCL : Hid (∀ j, j < n -> ∃ (kn : Knt) (g o : Nat), po = some ⟨g, o, none⟩ /\ g < wr.heap.size /\ Sz 200 kn.1 /\ Sz 200 kn.2 /\ wr.cell? ⟨g, o + j * 2, none⟩ = some (.string (RS kn.1)) /\ wr.cell? ⟨g, o + j * 2 + 1, none⟩ = some (.string (RS kn.2))) := fun j hj => by
      have hj2 : j < (PR L.length).length := by omega
      obtain ⟨k0, k1⟩ := cellsKn_get _ j hj2;obtain ⟨p, c, hv, _, _, _, h4⟩ := HRD.out;injection hv with hp _ _
      obtain ⟨g, o, hpe, hc⟩ := h4 (fun e => by rw [e] at k0; cases k0);have c0 := hc _ _ k0;have c1 := hc _ _ k1;rw [<- Nat.add_assoc] at c1;exact ⟨_, g, o, hp.trans hpe, World.block_lt_of_cell? wr _ c0, (HK.out _ (List.getElem_mem hj2)).1, (HK.out _ (List.getElem_mem hj2)).2, c0, c1⟩
     have hn41 : n <= 60 := by rw [hn, HPL.out]; split <;> omega
     have hBr := below_gb hBW hgb hwbo;have hbor := Bor.lt;have k0 := Bor.cell 0 rfl;obtain ⟨wq, hwq⟩ : ∃ wq : World, wq = wr := ⟨_, rfl⟩;subst hwq;have HN := hid hn;clear hn h hi hgb hown HPA HSI HPS HPL HSC;go_wp2_with fail;clear k0;go_loopw [83] (fun t83 wr => ∃ j : Nat, t83 = .int .i64 j /\ j <= n /\ Below wq.heap.size wq wr) (fun t83 _ => n - (RowKit.intOf t83).toNat)
     case atStart => exact ⟨0, rfl, Nat.zero_le _, Below.refl _ _⟩
     case round =>
      obtain ⟨j, rfl, hj, hbj⟩ := hrel;have hBj := hBr.trans (hbj.mono hBr.size);rcases Nat.lt_or_ge j n with h | h
      ·have hjz : (j : Int) < (n : Int) := by omega
       obtain ⟨kn, g, o, rfl, hgl, z0, z1, c0, c1⟩ := HCL.out j h;have d0 := zcq hbj hgl c0;have d1 := zcq hbj hgl c1;have HR0 := hid fun w hg => ratChk_ok kn.1 z0 w hg;have HR1 := hid fun w hg => ratChk_ok kn.2 z1 w hg;clear c0 c1 z0 z1;go_upto_region 28 with fail;obtain ⟨W8, hW8⟩ : ∃ W, W = wr.alloc (.cells #[.string (RS kn.1), .string (RS kn.2)] 78) := ⟨_, rfl⟩;have hb8 : Below wr.heap.size wr W8 := by rw [hW8]; exact zal _ _
       have bk : BoxN W8 wr.heap.size 78 [.string (RS kn.1), .string (RS kn.2)] := by rw [hW8]; exact BoxN.new _ _ _ _ rfl
       rw [<- hW8];clear hW8 d0 d1;have hbj8 := hbj.trans (hb8.mono hbj.size);have hBj8 := hBj.trans (hb8.mono hBj.size);have e0 := bk.cell 0 rfl;have e1 := bk.cell 1 rfl;go_wp2_with fail;refine (HR0.out _ (hg.below hBj8)).mono ?_;rintro e w9 ⟨_, rfl, rfl, hb9⟩;have bk9 := bk.below hb9 bk.lt;have hbj9 := hbj8.trans (hb9.mono hbj8.size);have hBj9 := hBj8.trans (hb9.mono hBj8.size);clear e0 e1;have e1 := bk9.cell 1 rfl;go_wp2_with fail;refine (HR1.out _ (hg.below hBj9)).mono ?_;rintro e w10 ⟨_, rfl, rfl, hb10⟩;have hbj10 := hbj9.trans (hb10.mono hbj9.size);clear e1;go_wp2_with fail;go_roundw
       case rel => exact ⟨j + 1, by go_num, by omega, hbj10⟩
       case measure => simp [RowKit.intOf]; omega
      ·have hjn : ¬ (j : Int) < (n : Int) := by omega
       have k0 := (Bor.below hbj hbor).cell 0 rfl;have HFI : Hid (RdC 2 wr (.slice po n co) (profTo P T F a b L L.length).length (cellsKn (profTo P T F a b L L.length))) := by
        unfold Hid; rw [<- HPR.out, <- HN.out]; exact RdC.below HRD.out hbj
       go_wp2_with fail;go_ret2;exact ⟨_, rfl, ⟨_, rfl, HFI.out⟩, hBj⟩
theorem at05_any (x y : Int) (hx : -1000 <= x /\ x <= 1000) (hy : -1000 <= y /\ y <= 1000) (w : World) (hg : Good w) :
 Calls Tryz.prog 19 #[.int .i64 x, .int .i64 y] w (Ret (fun r _ => r = .agg #[.string (RS (x : Rat)), .string (RS (y : Rat))]) w) := by
 have key : ∀ z : Int, mkRat z 1 = (z : Rat) := fun z => by rw [<- Rat.mkRat_self (z : Rat)]; rfl
 have H1 := hid fun w hg => ofQ_any x 1 x 1 1 rfl (by omega) (by omega) (by omega) (.inl ⟨rfl, rfl⟩) w hg
 have H2 := hid fun w hg => ofQ_any y 1 y 1 1 rfl (by omega) (by omega) (by omega) (.inl ⟨rfl, rfl⟩) w hg
 rw [key] at H1 H2;generalize RS (x : Rat) = px at *;generalize RS (y : Rat) = py at *;clear key;go_enter Tryz.func19, Tryz.ntmps19;go_wp2_with fail;obtain ⟨W, hW⟩ : ∃ W, W = w.alloc (.cells #[.string ⟨#[]⟩, .string ⟨#[]⟩] 50) := ⟨_, rfl⟩;have hB : Below w.heap.size w W := by rw [hW]; exact zal _ _
 have b4 : BoxN W w.heap.size 50 [.string ⟨#[]⟩, .string ⟨#[]⟩] := by rw [hW]; exact BoxN.new _ _ _ _ rfl
 rw [<- hW];clear hW;refine (H1.out W (hg.below hB)).mono ?_;rintro e w1 ⟨_, rfl, rfl, hb1⟩;have hB1 := hB.trans (hb1.mono hB.size);have b41 := b4.below hb1 b4.lt;clear hb1 b4;go_wp2_with fail;refine (H2.out w1 (hg.below hB1)).mono ?_;rintro e w2 ⟨_, rfl, rfl, hb2⟩;have hB2 := hB1.trans (hb2.mono hB1.size);have b42 := b41.below hb2 b41.lt;have c0 := b42.cell 0 rfl;have c1 := b42.cell 1 rfl;have d0 := b42.frozen 0;have d1 := b42.frozen 1;clear hb2 b41;go_wp2_with fail;have BF := (b42.set 0 (.string px)).set 1 (.string py);have hBF := (hB2.setCell (p := ⟨w.heap.size, 0, none⟩) (Nat.le_refl _) (.string px)).setCell (p := ⟨w.heap.size, 1, none⟩) (Nat.le_refl _) (.string py);have g0 := BF.cell 0 rfl;have g1 := BF.cell 1 rfl;exact bodyPost_ret (v := .agg #[.string px, .string py]) (by simp [results, Tryz.results19, go_sem, g0, g1]) rfl ⟨_, rfl, rfl, hBF⟩
def exP : List PtQ := [(0, 0), (2, 0), (2, 2), (0, 2)]
def exT : List Tri := [(0, 1, 2), (0, 2, 3)]
def exF : List Rat := [0, 2, 4, 0]
theorem ex_ok : MeshOK exP exT 2 := by
 have h := sheet_ok 0 0 0 true;rw [show sheetP 0 0 0 true = exP by decide +kernel, show shapeT 0 = exT from rfl] at h;exact h
theorem ex_cellsP : cellsP (strP exP) = [.string (RS ((0 : Int) : Rat)), .string (RS ((0 : Int) : Rat)), .string (RS ((2 : Int) : Rat)), .string (RS ((0 : Int) : Rat)), .string (RS ((2 : Int) : Rat)), .string (RS ((2 : Int) : Rat)), .string (RS ((0 : Int) : Rat)), .string (RS ((2 : Int) : Rat))] := rfl
theorem ex_neP : ∀ y ∈ cellsP (strP exP), y ≠ .slice none 0 0 := by
 intro y hy;rw [ex_cellsP] at hy;simp only [List.mem_cons, List.not_mem_nil, or_false] at hy;rcases hy with rfl | rfl | rfl | rfl | rfl | rfl | rfl | rfl <;> exact fun e => by cases e
theorem ex_neT : ∀ y ∈ cellsT exT, y ≠ .slice none 0 0 := by
 intro y hy;rw [show cellsT exT = [.int .i64 0, .int .i64 1, .int .i64 2, .int .i64 0, .int .i64 2, .int .i64 3] from rfl] at hy;simp only [List.mem_cons, List.not_mem_nil, or_false] at hy;rcases hy with rfl | rfl | rfl | rfl | rfl | rfl <;> exact fun e => by cases e
theorem ex_cellsF : [.string ⟨#[48]⟩, .string ⟨#[50]⟩, .string ⟨#[52]⟩, .string ⟨#[48]⟩] = exF.map fun x => Value.string (RS x) := by
 show _ = [Value.string (RS 0), .string (RS 2), .string (RS 4), .string (RS 0)];rw [show RS 0 = ⟨#[48]⟩ by decide +kernel, show RS 2 = ⟨#[50]⟩ by decide +kernel, show RS 4 = ⟨#[52]⟩ by decide +kernel]
theorem ex_neF : ∀ y ∈ exF.map (fun x => Value.string (RS x)), y ≠ .slice none 0 0 := by
 intro y hy;obtain ⟨x, _, rfl⟩ := List.mem_map.1 hy;exact fun e => by cases e
theorem ex_fs : ∀ q ∈ exF, Sz 2 q := by
 intro q hq;simp only [exF, List.mem_cons, List.not_mem_nil, or_false] at hq;rcases hq with rfl | rfl | rfl | rfl <;> exact ⟨by decide +kernel, by decide +kernel⟩
theorem example_any (w : World) (hg : Good w) :
 Calls Tryz.prog 18 #[] w (Ret (fun r w' => ∃ vp vt vf, r = .tuple #[.agg #[vp, vt], vf] /\ FieldIn w' vp vt vf exP exT 2 exF) w) := by
 have H0 := hid fun w hg => at05_any 0 0 (by omega) (by omega) w hg
 have H1 := hid fun w hg => at05_any 2 0 (by omega) (by omega) w hg
 have H2 := hid fun w hg => at05_any 2 2 (by omega) (by omega) w hg
 have H3 := hid fun w hg => at05_any 0 2 (by omega) (by omega) w hg
 have HCP := hid ex_cellsP;have HCF := hid ex_cellsF;generalize RS ((0 : Int) : Rat) = s0 at *;generalize RS ((2 : Int) : Rat) = s2 at *;go_enter Tryz.func18, Tryz.ntmps18;go_wp2_with fail;obtain ⟨W, hW⟩ : ∃ W, W = w.alloc (.cells #[.slice none 0 0, .slice none 0 0] 35) := ⟨_, rfl⟩;have hB : Below w.heap.size w W := by rw [hW]; exact zal _ _
 have b0 : BoxN W w.heap.size 35 [.slice none 0 0, .slice none 0 0] := by rw [hW]; exact BoxN.new _ _ _ _ rfl
 rw [<- hW];clear hW;refine (H0.out W (hg.below hB)).mono ?_;rintro e w1 ⟨_, rfl, rfl, hb1⟩;have hB1 := hB.trans (hb1.mono hB.size);have b1 := b0.below hb1 b0.lt;go_wp2_with fail;refine (H1.out w1 (hg.below hB1)).mono ?_;rintro e w2 ⟨_, rfl, rfl, hb2⟩;have hB2 := hB1.trans (hb2.mono hB1.size);have b2 := b1.below hb2 b1.lt;go_wp2_with fail;refine (H2.out w2 (hg.below hB2)).mono ?_;rintro e w3 ⟨_, rfl, rfl, hb3⟩;have hB3 := hB2.trans (hb3.mono hB2.size);have b3 := b2.below hb3 b2.lt;go_wp2_with fail;refine (H3.out w3 (hg.below hB3)).mono ?_;rintro e w4 ⟨_, rfl, rfl, hb4⟩;have hB4 := hB3.trans (hb4.mono hB3.size);have b4 := b3.below hb4 b3.lt;clear hb1 hb2 hb3 hb4 b0 b1 b2 b3;have c0 := b4.cell 0 rfl;have c1 := b4.cell 1 rfl;have f0 := b4.frozen 0;have f1 := b4.frozen 1;have hl := b4.lt;have c0_1 := fun o => (b4.alloc o).cell 0 rfl;have c1_1 := fun o => (b4.alloc o).cell 1 rfl;have f0_1 := fun o => (b4.alloc o).frozen 0;have f1_1 := fun o => (b4.alloc o).frozen 1;have c0_2 := fun o p => ((b4.alloc o).alloc p).cell 0 rfl;have c1_2 := fun o p => ((b4.alloc o).alloc p).cell 1 rfl;have f0_2 := fun o p => ((b4.alloc o).alloc p).frozen 0;have f1_2 := fun o p => ((b4.alloc o).alloc p).frozen 1;have c0_3 := fun o p q => (((b4.alloc o).alloc p).alloc q).cell 0 rfl;have c1_3 := fun o p q => (((b4.alloc o).alloc p).alloc q).cell 1 rfl;have f0_3 := fun o p q => (((b4.alloc o).alloc p).alloc q).frozen 0;have f1_3 := fun o p q => (((b4.alloc o).alloc p).alloc q).frozen 1;go_wp2_with fail;have bX := ((b4.alloc (.cells #[.string s0, .string s0, .string s2, .string s0, .string s2, .string s2, .string s0, .string s2] 50)).alloc (.cells #[.int .i64 0, .int .i64 1, .int .i64 2, .int .i64 0, .int .i64 2, .int .i64 3] 121)).alloc (.cells #[.string ⟨#[48]⟩, .string ⟨#[50]⟩, .string ⟨#[52]⟩, .string ⟨#[48]⟩] 40);have k0 := bX.cell 0 rfl;have k1 := (bX.set 0 (.slice (some ⟨w4.heap.size, 0, none⟩) 4 4)).cell 1 rfl;have BF := (bX.set 0 (.slice (some ⟨w4.heap.size, 0, none⟩) 4 4)).set 1 (.slice (some ⟨w4.heap.size + 1, 0, none⟩) 2 2);have g0 := BF.cell 0 rfl;have g1 := BF.cell 1 rfl;have hs4 := hB4.size;have hBF := ((((hB4.alloc hB4.size (.cells #[.string s0, .string s0, .string s2, .string s0, .string s2, .string s2, .string s0, .string s2] 50)).alloc (by simp; omega) (.cells #[.int .i64 0, .int .i64 1, .int .i64 2, .int .i64 0, .int .i64 2, .int .i64 3] 121)).alloc (by simp; omega) (.cells #[.string ⟨#[48]⟩, .string ⟨#[50]⟩, .string ⟨#[52]⟩, .string ⟨#[48]⟩] 40)).setCell (p := ⟨w.heap.size, 0, none⟩) (Nat.le_refl _) (.slice (some ⟨w4.heap.size, 0, none⟩) 4 4)).setCell (p := ⟨w.heap.size, 1, none⟩) (Nat.le_refl _) (.slice (some ⟨w4.heap.size + 1, 0, none⟩) 2 2);have hp := ((RdC.fresh 2 w4 #[.string s0, .string s0, .string s2, .string s0, .string s2, .string s2, .string s0, .string s2] 50 4 rfl (by omega) _ HCP.out.symm _ rfl).alloc (.cells #[.int .i64 0, .int .i64 1, .int .i64 2, .int .i64 0, .int .i64 2, .int .i64 3] 121)).alloc (.cells #[.string ⟨#[48]⟩, .string ⟨#[50]⟩, .string ⟨#[52]⟩, .string ⟨#[48]⟩] 40);have ht := (RdC.fresh 3 (w4.alloc (.cells #[.string s0, .string s0, .string s2, .string s0, .string s2, .string s2, .string s0, .string s2] 50)) #[.int .i64 0, .int .i64 1, .int .i64 2, .int .i64 0, .int .i64 2, .int .i64 3] 121 2 rfl (by omega) (cellsT exT) rfl (w4.heap.size + 1) (by simp)).alloc (.cells #[.string ⟨#[48]⟩, .string ⟨#[50]⟩, .string ⟨#[52]⟩, .string ⟨#[48]⟩] 40);have hf := RdQ.fresh ((w4.alloc (.cells #[.string s0, .string s0, .string s2, .string s0, .string s2, .string s2, .string s0, .string s2] 50)).alloc (.cells #[.int .i64 0, .int .i64 1, .int .i64 2, .int .i64 0, .int .i64 2, .int .i64 3] 121)) exF 40 #[.string ⟨#[48]⟩, .string ⟨#[50]⟩, .string ⟨#[52]⟩, .string ⟨#[48]⟩] HCF.out (by decide) 4 rfl (w4.heap.size + 1 + 1) (by simp);exact bodyPost_ret (v := .tuple #[.agg #[.slice (some ⟨w4.heap.size, 0, none⟩) 4 4, .slice (some ⟨w4.heap.size + 1, 0, none⟩) 2 2], .slice (some ⟨w4.heap.size + 1 + 1, 0, none⟩) 4 4]) (by simp [results, Tryz.results18, go_sem, g0, g1]) rfl
  ⟨_, rfl, ⟨_, _, _, rfl, ⟨RdC.set_other (RdC.set_other hp k0 ex_neP) k1 ex_neP, RdC.set_other (RdC.set_other ht k0 ex_neT) k1 ex_neT, ex_ok, RdC.set_other (RdC.set_other hf k0 ex_neF) k1 ex_neF, ex_fs, rfl⟩⟩, hBF⟩
theorem rdc_open {sz : Nat} {w : World} {v : Value} {n : Nat} {cs : List Value} (h : RdC sz w v n cs) (hne : cs ≠ []) : ∃ b off c, v = .slice (some ⟨b, off, none⟩) n c /\ b < w.heap.size /\ ∀ j u, cs[j]? = some u -> w.cell? ⟨b, off + j, none⟩ = some u := by
 obtain ⟨p, c, rfl, _, _, _, h4⟩ := h;obtain ⟨b, off, rfl, hc⟩ := h4 hne;cases cs with
 | nil => exact absurd rfl hne
 | cons x cs => exact ⟨b, off, c, rfl, World.block_lt_of_cell? w _ (hc 0 x rfl), hc⟩
theorem ex_loc : locN exP exT (2, 1) exT.length = [((0 : Nat) : Int)] := by decide +kernel
theorem ex_on : onQ exP exF (0, 1, 2) (2, 1) = 3 := by decide +kernel
theorem ex_slope : slopeT exP exF (0, 1, 2) = (1, 1) := by decide +kernel
theorem ex_slopes : ∀ tr ∈ exT, SzP 200 (slopeT exP exF tr) := by
 intro tr htr;simp only [exT, List.mem_cons, List.not_mem_nil, or_false] at htr;rcases htr with rfl | rfl <;> exact ⟨⟨by decide +kernel, by decide +kernel⟩, by decide +kernel, by decide +kernel⟩
theorem ex_level : ∃ s, levelL exP exT exF 2 = [(0, (1, 1), (2, 0)), s] := ⟨(1, (1, 2), (1, 1)), by decide +kernel⟩
theorem ex_vol : volTo exP exT exF 0 exT.length = 20 / 3 := by decide +kernel
theorem ex_vols : ∀ t, t <= exT.length -> Sz 1009 (volTo exP exT exF 0 t) := by
 intro t ht;have : t = 0 \/ t = 1 \/ t = 2 := by have : exT.length = 2 := rfl; omega
 rcases this with rfl | rfl | rfl <;> exact Sz.mono (j := 3) ⟨by decide +kernel, by decide +kernel⟩ (by omega)
theorem ex_along : alongL exP exT (0, 1) (2, 1) = [(1, 0, 1 / 2), (0, 1 / 2, 1)] := by decide +kernel
theorem ex_prof : profTo exP exT exF (0, 1) (2, 1) [(1, 0, 1 / 2), (0, 1 / 2, 1)] 2 = [(0, 0), (1 / 2, 2), (1, 3)] := by decide +kernel
theorem ex_in (p : PtQ) (h : p = (0, 1) \/ p = (2, 1)) : decide ((0 : Int) < ((locN exP exT p exT.length).length : Int)) = true := by
 rcases h with rfl | rfl <;> decide +kernel
theorem rs0 : RS 0 = ⟨#[48]⟩ := by decide +kernel
theorem rs1 : RS 1 = ⟨#[49]⟩ := by decide +kernel
theorem rs2 : RS 2 = ⟨#[50]⟩ := by decide +kernel
theorem rs3 : RS 3 = ⟨#[51]⟩ := by decide +kernel
theorem rsH : RS (1 / 2) = ⟨#[49, 47, 50]⟩ := by decide +kernel
theorem rsV : RS (20 / 3) = ⟨#[50, 48, 47, 51]⟩ := by decide +kernel
theorem ex_sz {q : Rat} (h : q.num.natAbs < 10 ^ 2 /\ q.den < 10 ^ 2) {k : Nat} (hk : 2 <= k) : Sz k q := Sz.mono (j := 2) h hk
theorem ex_value (w : World) (vp vt vf : Value) (h : FieldIn w vp vt vf exP exT 2 exF) (hg : Good w) :
 Calls Tryz.prog 11 #[.agg #[vp, vt], vf, .agg #[.string ⟨#[50]⟩, .string ⟨#[49]⟩]] w (Ret (fun r _ => r = .tuple #[.string ⟨#[51]⟩, .int .i64 0]) w) := by
 have h1 := value_in w vp vt vf exP exT 2 exF h (2, 1) ⟨ex_sz (by decide +kernel) (by omega), ex_sz (by decide +kernel) (by omega)⟩ 0 [] ex_loc (by decide) (ex_slopes _ (List.getElem_mem _)) (by rw [show exT[0]'(by decide) = (0, 1, 2) from rfl, ex_on]; exact ex_sz (by decide +kernel) (by omega)) hg;rw [show exT[0]'(by decide) = (0, 1, 2) from rfl, ex_on] at h1;dsimp only at h1;rw [rs1, rs2, rs3] at h1;exact h1
theorem ex_slope0 (w : World) (vp vt vf : Value) (h : FieldIn w vp vt vf exP exT 2 exF) (hg : Good w) :
 Calls Tryz.prog 20 #[.agg #[vp, vt], vf, .int .i64 0] w (Ret (fun r _ => r = .tuple #[.agg #[.string ⟨#[49]⟩, .string ⟨#[49]⟩], .int .i64 0]) w) := by
 have h1 := fslope_ok w vp vt vf exP exT 2 exF h 0 0 rfl (by decide) (0, 1, 2) rfl (ex_slopes _ (by decide)) hg;rw [ex_slope] at h1;dsimp only at h1;rw [rs1] at h1;exact h1
theorem ex_level2 (w : World) (vp vt vf : Value) (h : FieldIn w vp vt vf exP exT 2 exF) (hg : Good w) :
 Calls Tryz.prog 9 #[.agg #[vp, vt], vf, .string ⟨#[50]⟩] w (Ret (fun r w' => ∃ b off c, r = .tuple #[.slice (some ⟨b, off, none⟩) 2 c, .int .i64 0] /\ b < w'.heap.size /\ w'.cell? ⟨b, off, none⟩ = some (.int .i64 0) /\ w'.cell? ⟨b, off + 1, none⟩ = some (.string ⟨#[49]⟩) /\ w'.cell? ⟨b, off + 2, none⟩ = some (.string ⟨#[49]⟩) /\ w'.cell? ⟨b, off + 3, none⟩ = some (.string ⟨#[50]⟩) /\ w'.cell? ⟨b, off + 4, none⟩ = some (.string ⟨#[48]⟩)) w) := by
 have h1 := level_ok w vp vt vf exP exT 2 exF h 2 2 (ex_sz (by decide +kernel) (by omega)) (by omega) hg;rw [rs2] at h1;refine h1.mono ?_;rintro e w' ⟨r, rfl, ⟨v, rfl, hv⟩, hb⟩;obtain ⟨s, hs⟩ := ex_level;have h2 : RdC 5 w' v (levelL exP exT exF 2).length (cellsG (levelL exP exT exF 2)) := RdC.of_owns hv;rw [hs] at h2;obtain ⟨b, off, c, rfl, hlt, hc⟩ := rdc_open h2 (by simp [cellsG, cellG]);have k0 := hc 0 (.int .i64 0) rfl;have k1 := hc 1 (.string (RS 1)) rfl;have k2 := hc 2 (.string (RS 1)) rfl;have k3 := hc 3 (.string (RS 2)) rfl;have k4 := hc 4 (.string (RS 0)) rfl;rw [rs1] at k1 k2;rw [rs2] at k3;rw [rs0] at k4;exact ⟨_, rfl, ⟨b, off, c, rfl, hlt, k0, k1, k2, k3, k4⟩, hb⟩
theorem ex_volume (w : World) (vp vt vf : Value) (h : FieldIn w vp vt vf exP exT 2 exF) (hg : Good w) :
 Calls Tryz.prog 21 #[.agg #[vp, vt], vf, .string ⟨#[48]⟩] w (Ret (fun r _ => r = .tuple #[.string ⟨#[50, 48, 47, 51]⟩, .int .i64 0]) w) := by
 have h1 := fVolume_ok w vp vt vf exP exT 2 exF h 0 1 1009 (Sz.zero 1 (by omega)) (by omega) (by omega) (by omega) ex_vols (by rw [ex_vol]; exact ex_sz (by decide +kernel) (by omega)) hg;rw [rs0, ex_vol, rsV] at h1;exact h1
theorem ex_profile (w : World) (vp vt vf : Value) (h : FieldIn w vp vt vf exP exT 2 exF) (hg : Good w) :
 Calls Tryz.prog 22 #[.agg #[vp, vt], vf, .agg #[.string ⟨#[48]⟩, .string ⟨#[49]⟩], .agg #[.string ⟨#[50]⟩, .string ⟨#[49]⟩]] w (Ret (fun r w' => ∃ b off c, r = .tuple #[.slice (some ⟨b, off, none⟩) 3 c, .int .i64 0] /\ b < w'.heap.size /\ w'.cell? ⟨b, off + 2, none⟩ = some (.string ⟨#[49, 47, 50]⟩) /\ w'.cell? ⟨b, off + 3, none⟩ = some (.string ⟨#[50]⟩)) w) := by
 have za : SzP 2 ((0, 1) : PtQ) := ⟨ex_sz (by decide +kernel) (by omega), ex_sz (by decide +kernel) (by omega)⟩;have zb : SzP 2 ((2, 1) : PtQ) := ⟨ex_sz (by decide +kernel) (by omega), ex_sz (by decide +kernel) (by omega)⟩;have h1 := fprofile_ok w vp vt vf exP exT 2 exF h (0, 1) (2, 1) 2 2 (by omega) (by omega) (by omega) (by omega) za zb [(1, 0, 1 / 2), (0, 1 / 2, 1)]
  (fun w' h' hg' => by have := along_ok w' vp vt exP exT 2 2 h'.p h'.t ex_ok (by omega) (by omega) (by decide) (0, 1) (2, 1) za zb (by decide) hg'; rw [ex_along] at this; exact this)
  (fun w' h' hg' => by have := contains_ok w' vp vt exP exT 2 h'.p h'.t ex_ok (0, 1) ⟨za.1.mono (by omega), za.2.mono (by omega)⟩ hg'; rw [ex_in _ (.inl rfl)] at this; exact this)
  (fun w' h' hg' => by have := contains_ok w' vp vt exP exT 2 h'.p h'.t ex_ok (2, 1) ⟨zb.1.mono (by omega), zb.2.mono (by omega)⟩ hg'; rw [ex_in _ (.inr rfl)] at this; exact this)
  (by decide) (by
    intro s hs;simp only [List.mem_cons, List.not_mem_nil, or_false] at hs;rcases hs with rfl | rfl
    ·exact ⟨by decide, ex_sz (by decide +kernel) (by omega), ex_sz (by decide +kernel) (by omega)⟩
    ·exact ⟨by decide, ex_sz (by decide +kernel) (by omega), ex_sz (by decide +kernel) (by omega)⟩) (fun tr htr => ⟨(ex_slopes tr htr).1.mono (by omega), (ex_slopes tr htr).2.mono (by omega)⟩) (by
    rw [show [((1, 0, 1 / 2) : SpanQ), (0, 1 / 2, 1)].length = 2 from rfl, ex_prof];intro kn hk;simp only [List.mem_cons, List.not_mem_nil, or_false] at hk;rcases hk with rfl | rfl | rfl <;> exact ⟨ex_sz (by decide +kernel) (by omega), ex_sz (by decide +kernel) (by omega)⟩) hg
 rw [show [((1, 0, 1 / 2) : SpanQ), (0, 1 / 2, 1)].length = 2 from rfl, ex_prof] at h1;dsimp only at h1;rw [rs0, rs1, rs2] at h1;refine h1.mono ?_;rintro e w' ⟨r, rfl, ⟨v, rfl, hv⟩, hb⟩;obtain ⟨b, off, c, rfl, hlt, hc⟩ := rdc_open hv (by simp [cellsKn, cellKn]);have k2 := hc 2 (.string (RS (1 / 2))) rfl;have k3 := hc 3 (.string (RS 2)) rfl;rw [rsH] at k2;rw [rs2] at k3;exact ⟨_, rfl, ⟨b, off, c, rfl, hlt, k2, k3⟩, hb⟩
theorem ex_at (x y : Int) (sx sy : ByteArray) (h1 : RS (x : Rat) = sx) (h2 : RS (y : Rat) = sy) (hx : -1000 <= x /\ x <= 1000) (hy : -1000 <= y /\ y <= 1000) (w : World) (hg : Good w) : Calls Tryz.prog 19 #[.int .i64 x, .int .i64 y] w (Ret (fun r _ => r = .agg #[.string sx, .string sy]) w) := by
 have := at05_any x y hx hy w hg;rw [h1, h2] at this;exact this
theorem known13_any (w : World) (hg : Good w) :
 Calls Tryz.prog 5 #[] w (Ret (fun r _ => r = .bool true) w) := by
 have HA21 := hid fun w hg => ex_at 2 1 _ _ rs2 rs1 (by omega) (by omega) w hg
 have HA01 := hid fun w hg => ex_at 0 1 _ _ rs0 rs1 (by omega) (by omega) w hg
 have HA11 := hid fun w hg => ex_at 1 1 _ _ rs1 rs1 (by omega) (by omega) w hg
 have HA20 := hid fun w hg => ex_at 2 0 _ _ rs2 rs0 (by omega) (by omega) w hg
 go_enter Tryz.func5, Tryz.ntmps5;go_wp2_with fail;refine (example_any w hg).mono ?_;rintro e o1 ⟨_, rfl, ⟨vp, vt, vf, rfl, hF⟩, hb1⟩;have HF1 := hid hF;obtain ⟨pp, cp, pt, ct, pf, cf, rfl, rfl, rfl⟩ := hF.open;rw [show exP.length = 4 from rfl, show exT.length = 2 from rfl, show exF.length = 4 from rfl] at *;clear hF;go_upto_region 2 with fail;obtain ⟨o2, ho2⟩ : ∃ W, W = o1.alloc (.cells #[.slice pp 4 cp, .slice pt 2 ct] 35) := ⟨_, rfl⟩;have hb2 : Below o1.heap.size o1 o2 := by rw [ho2]; exact zal _ _
 have m2 : BoxN o2 o1.heap.size 35 [.slice pp 4 cp, .slice pt 2 ct] := by rw [ho2]; exact BoxN.new _ _ _ _ rfl
 rw [<- ho2];clear ho2;have hB2 := hb1.trans (hb2.mono hb1.size);have HFI : Hid (∀ w', Below o2.heap.size o2 w' -> FieldIn w' (.slice pp 4 cp) (.slice pt 2 ct) (.slice pf 4 cf) exP exT 2 exF) := fun w' hb => HF1.out.below (hb2.trans (hb.mono hb2.size));have hgd : Good o2.drew := (hg.below hB2).drewN 1;have x0 := m2.cell 0 rfl;have x1 := m2.cell 1 rfl;have hl2 := m2.lt;clear HF1 hb1 hb2;go_region_held3 (fun w' => w'.cell? ⟨o1.heap.size, 0, none⟩ = some (.slice pp 4 cp) /\ w'.cell? ⟨o1.heap.size, 1, none⟩ = some (.slice pt 2 ct))
  (first | exact ⟨x0, x1⟩ | exact ⟨p_1_0, p_1_1⟩ | exact ⟨p_2_0, p_2_1⟩)
  (first
  | (go_at_call 11; refine (ex_value _ _ _ _ (HFI.out _ ((below_drewN o2 1).trans (pb1.mono (Nat.le_refl _)))) pg1).mono ?_; rintro e pw2 ⟨_, rfl, rfl, pb2⟩
     have p_2_0 := zct pb2 p_1_0;have p_2_1 := zct pb2 p_1_1;have ps2 := pb2.size;have pg2 := pg1.below pb2)
  | (go_at_call 19; refine (HA21.out _ hgd).mono ?_; rintro e pw1 ⟨_, rfl, rfl, pb1⟩
     have p_1_0 := zct pb1 x0;have p_1_1 := zct pb1 x1;have ps1 : o2.heap.size <= pw1.heap.size := pb1.size;have pg1 := hgd.below pb1))
 have pB : Below o2.heap.size o2 pw2 := zbt (zbt (below_drewN o2 1) pb1) pb2;have hB3 := hB2.trans (pB.mono hB2.size);have m3 := m2.below pB m2.lt;have HF3 : Hid (∀ w', Below pw2.heap.size pw2 w' -> FieldIn w' (.slice pp 4 cp) (.slice pt 2 ct) (.slice pf 4 cf) exP exT 2 exF) := fun w' hb => HFI.out w' (pB.trans (hb.mono pB.size));obtain ⟨o3, ho3⟩ : ∃ W, W = pw2 := ⟨_, rfl⟩;rw [<- ho3] at hB3 m3 HF3 ⊢;clear ho3 x0 x1 HFI hgd pB pb1 pb2 pg1 pg2 ps1 ps2 p_1_0 p_1_1 p_2_0 p_2_1;have x0 := m3.cell 0 rfl;have x1 := m3.cell 1 rfl;go_wp2_with fail;refine (ex_slope0 o3 _ _ _ (HF3.out o3 (Below.refl _ _)) (hg.below hB3)).mono ?_;rintro e o4 ⟨_, rfl, rfl, hb4⟩;have hB4 := hB3.trans (hb4.mono hB3.size);have m4 := m3.below hb4 m3.lt;clear x0 x1;go_upto_region 4 with fail;obtain ⟨o5, ho5⟩ : ∃ W, W = o4.alloc (.cells #[.string ⟨#[49]⟩, .string ⟨#[49]⟩] 50) := ⟨_, rfl⟩;have hb5 : Below o4.heap.size o4 o5 := by rw [ho5]; exact zal _ _
 have s5 : BoxN o5 o4.heap.size 50 [.string ⟨#[49]⟩, .string ⟨#[49]⟩] := by rw [ho5]; exact BoxN.new _ _ _ _ rfl
 rw [<- ho5];clear ho5;have hB5 := hB4.trans (hb5.mono hB4.size);have m5 := m4.below hb5 m4.lt;have h35 := hb4.trans (hb5.mono hb4.size);have x0 := m5.cell 0 rfl;have x1 := m5.cell 1 rfl;go_wp2_with fail;refine (ex_level2 o5 _ _ _ (HF3.out o5 h35) (hg.below hB5)).mono ?_;rintro e o6 ⟨_, rfl, ⟨bl, ol, cl, rfl, ll6, y0, y1, y2, y3, y4⟩, hb6⟩;have hB6 := hB5.trans (hb6.mono hB5.size);have m6 := m5.below hb6 m5.lt;have s6 := s5.below hb6 s5.lt;have h36 := h35.trans (hb6.mono h35.size);clear x0 x1;have x0 := m6.cell 0 rfl;have x1 := m6.cell 1 rfl;go_wp2_with fail;refine (ex_volume o6 _ _ _ (HF3.out o6 h36) (hg.below hB6)).mono ?_;rintro e o7 ⟨_, rfl, rfl, hb7⟩;have hB7 := hB6.trans (hb7.mono hB6.size);have m7 := m6.below hb7 m6.lt;have s7 := s6.below hb7 s6.lt;have h37 := h36.trans (hb7.mono h36.size);have HY7 : Hid (∀ w', Below o7.heap.size o7 w' -> w'.cell? ⟨bl, ol, none⟩ = some (.int .i64 0) /\ w'.cell? ⟨bl, ol + 1, none⟩ = some (.string ⟨#[49]⟩) /\ w'.cell? ⟨bl, ol + 2, none⟩ = some (.string ⟨#[49]⟩) /\ w'.cell? ⟨bl, ol + 3, none⟩ = some (.string ⟨#[50]⟩) /\ w'.cell? ⟨bl, ol + 4, none⟩ = some (.string ⟨#[48]⟩)) := fun w' hb => by
  have h := hb7.trans (hb.mono hb7.size);exact ⟨(zcq h ll6 y0 :), (zcq h ll6 y1 :), (zcq h ll6 y2 :), (zcq h ll6 y3 :), (zcq h ll6 y4 :)⟩
 have ll7 : bl < o7.heap.size := Nat.lt_of_lt_of_le ll6 hb7.size;clear x0 x1 y0 y1 y2 y3 y4 m3 m4 m5 m6 s5 s6 hb4 hb5 hb6 hb7 h35 h36 hB2 hB3 hB4 hB5 hB6 ll6;have x0 := m7.cell 0 rfl;have x1 := m7.cell 1 rfl;have hgd : Good o7.drew := (hg.below hB7).drewN 1;have hl7 := m7.lt;go_wp2_with fail;go_region_held3 (fun w' => w'.cell? ⟨o1.heap.size, 0, none⟩ = some (.slice pp 4 cp) /\ w'.cell? ⟨o1.heap.size, 1, none⟩ = some (.slice pt 2 ct))
  (first | exact ⟨x0, x1⟩ | exact ⟨q_1_0, q_1_1⟩ | exact ⟨q_2_0, q_2_1⟩ | exact ⟨q_3_0, q_3_1⟩)
  (first
  | (go_at_call 22; refine (ex_profile _ _ _ _ (HF3.out _ (h37.trans (((below_drewN o7 1).trans ((qb1.trans (qb2.mono qb1.size)).mono (Nat.le_refl _))).mono h37.size))) qg2).mono ?_; rintro e qw3 ⟨_, rfl, ⟨bk, ok, ck, rfl, lk8, z0, z1⟩, qb3⟩
     have q_3_0 := zct qb3 q_2_0;have q_3_1 := zct qb3 q_2_1;have qs3 := qb3.size;have qg3 := qg2.below qb3)
  | (go_at_call 19; refine (HA21.out _ qg1).mono ?_; rintro e qw2 ⟨_, rfl, rfl, qb2⟩
     have q_2_0 := zct qb2 q_1_0;have q_2_1 := zct qb2 q_1_1;have qs2 := qb2.size;have qg2 := qg1.below qb2)
  | (go_at_call 19; refine (HA01.out _ hgd).mono ?_; rintro e qw1 ⟨_, rfl, rfl, qb1⟩
     have q_1_0 := zct qb1 x0;have q_1_1 := zct qb1 x1;have qs1 : o7.heap.size <= qw1.heap.size := qb1.size;have qg1 := hgd.below qb1))
 have qB : Below o7.heap.size o7 qw3 := zbt (zbt (zbt (below_drewN o7 1) qb1) qb2) qb3;have hB8 := hB7.trans (qB.mono hB7.size);have s8 := s7.below qB s7.lt;obtain ⟨y0, y1, y2, y3, y4⟩ := HY7.out _ qB;have ll : bl < qw3.heap.size := Nat.lt_of_lt_of_le ll7 qB.size;obtain ⟨o8, ho8⟩ : ∃ W, W = qw3 := ⟨_, rfl⟩;rw [<- ho8] at hB8 s8 y0 y1 y2 y3 y4 ll z0 z1 lk8 ⊢;clear ho8 x0 x1 hgd qB qb1 qb2 qb3 qg1 qg2 qg3 qs1 qs2 qs3 q_1_0 q_1_1 q_2_0 q_2_1 q_3_0 q_3_1 HF3 HY7 m7 s7 h37 ll7 hB7;have lk := lk8;have l5 := s8.lt;have v0 := s8.cell 0 rfl;have v1 := s8.cell 1 rfl;obtain ⟨b5, hb5⟩ : ∃ b, b = o4.heap.size := ⟨_, rfl⟩;rw [<- hb5] at l5 v0 v1 ⊢;clear hb5 s8 lk8;have HS : Hid (∀ w', Below o8.heap.size o8 w' -> w'.cell? ⟨b5, 0, none⟩ = some (.string ⟨#[49]⟩) /\ w'.cell? ⟨b5, 1, none⟩ = some (.string ⟨#[49]⟩) /\ w'.cell? ⟨bl, ol, none⟩ = some (.int .i64 0) /\ w'.cell? ⟨bl, ol + 1, none⟩ = some (.string ⟨#[49]⟩) /\ w'.cell? ⟨bl, ol + 2, none⟩ = some (.string ⟨#[49]⟩) /\ w'.cell? ⟨bl, ol + 3, none⟩ = some (.string ⟨#[50]⟩) /\ w'.cell? ⟨bl, ol + 4, none⟩ = some (.string ⟨#[48]⟩) /\ w'.cell? ⟨bk, ok + 2, none⟩ = some (.string ⟨#[49, 47, 50]⟩) /\ w'.cell? ⟨bk, ok + 3, none⟩ = some (.string ⟨#[50]⟩)) := fun w' hb => ⟨(zcq hb l5 v0 :), (zcq hb l5 v1 :), (zcq hb ll y0 :), (zcq hb ll y1 :), (zcq hb ll y2 :), (zcq hb ll y3 :), (zcq hb ll y4 :), (zcq hb lk z0 :), (zcq hb lk z1 :)⟩;have q0 : Below o8.heap.size o8 o8.drew := below_drewN o8 1;have hg8 := hg.below hB8;clear y0 y1 y2 y3 y4 z0 z1 v0 v1;have eqP : ∀ w : World, Sem.run Tryz.prog (Op.equalIn 10000 50 (.agg #[.string ⟨#[49]⟩, .string ⟨#[49]⟩]) (.agg #[.string ⟨#[49]⟩, .string ⟨#[49]⟩])) w = .ok true w := fun w => by kernel_rfl
 have eqS : ∀ w : World, Sem.run Tryz.prog (Op.equalIn 10000 52 (.agg #[.int .i64 0, .string ⟨#[49]⟩, .string ⟨#[49]⟩, .string ⟨#[50]⟩, .string ⟨#[48]⟩]) (.agg #[.int .i64 0, .string ⟨#[49]⟩, .string ⟨#[49]⟩, .string ⟨#[50]⟩, .string ⟨#[48]⟩])) w = .ok true w := fun w => by kernel_rfl
 have eqK : ∀ w : World, Sem.run Tryz.prog (Op.equalIn 10000 78 (.agg #[.string ⟨#[49, 47, 50]⟩, .string ⟨#[50]⟩]) (.agg #[.string ⟨#[49, 47, 50]⟩, .string ⟨#[50]⟩])) w = .ok true w := fun w => by kernel_rfl
 go_upto_region 7 with fail;refine wp_region_held_drew (S := (fun w' => w'.cell? ⟨b5, 0, none⟩ = some (.string ⟨#[49]⟩) /\ w'.cell? ⟨b5, 1, none⟩ = some (.string ⟨#[49]⟩) /\ w'.cell? ⟨bl, ol, none⟩ = some (.int .i64 0) /\ w'.cell? ⟨bl, ol + 1, none⟩ = some (.string ⟨#[49]⟩) /\ w'.cell? ⟨bl, ol + 2, none⟩ = some (.string ⟨#[49]⟩) /\ w'.cell? ⟨bl, ol + 3, none⟩ = some (.string ⟨#[50]⟩) /\ w'.cell? ⟨bl, ol + 4, none⟩ = some (.string ⟨#[48]⟩) /\ w'.cell? ⟨bk, ok + 2, none⟩ = some (.string ⟨#[49, 47, 50]⟩) /\ w'.cell? ⟨bk, ok + 3, none⟩ = some (.string ⟨#[50]⟩))) (by kernel_rfl) ?_ (fun hHeld => ?_)
 ·first | exact HS.out _ q3 | exact HS.out _ q2 | exact HS.out _ q1 | exact HS.out _ q0
 refine zhk 0 ?_;try simp only [Act.put, zga, zgz, zsa, zsz, zss]
 refine zhk 1 ?_;try simp only [Act.put, zga, zgz, zgs, zsa, zsz, zss]
 refine zhk 2 ?_;try simp only [Act.put, zga, zgz, zgs, zsa, zsz, zss]
 refine zhk 3 ?_;try simp only [Act.put, zga, zgz, zgs, zsa, zsz, zss]
 refine zhk 4 ?_;try simp only [Act.put, zga, zgz, zgs, zsa, zsz, zss]
 refine zhk 5 ?_;try simp only [Act.put, zga, zgz, zgs, zsa, zsz, zss]
 refine zhk 6 ?_;try simp only [Act.put, zga, zgz, zgs, zsa, zsz, zss]
 refine zhk 7 ?_;try simp only [Act.put, zga, zgz, zgs, zsa, zsz, zss]
 refine zhk 8 ?_;try simp only [Act.put, zga, zgz, zgs, zsa, zsz, zss]
 refine zhk 9 ?_;try simp only [Act.put, zga, zgz, zgs, zsa, zsz, zss]
 refine zhk 10 ?_;try simp only [Act.put, zga, zgz, zgs, zsa, zsz, zss]
 refine zhk 11 ?_;try simp only [Act.put, zga, zgz, zgs, zsa, zsz, zss]
 refine wpAnyH_ready (rs := [12]) (by kernel_rfl) (by simp) ?_;refine AllReadyH.cons (o := _) rfl (fun K hK => ?_) AllReadyH.nil;go_simp
 (refine (HA11.out _ (hg8.below q0)).mono ?_; rintro e w1 ⟨_, rfl, rfl, hw1⟩; have q1 := q0.trans (hw1.mono q0.size))
 refine hK.out _ _ ?_ (fun hHeld => ?_)
 ·first | exact HS.out _ q3 | exact HS.out _ q2 | exact HS.out _ q1 | exact HS.out _ q0
 clear hK K;try simp only [Act.put, zga, zgz, zgs, zsa, zsz, zss]
 refine zhk 13 ?_;try simp only [Act.put, zga, zgz, zgs, zsa, zsz, zss]
 refine zhk 14 ?_;try simp only [Act.put, zga, zgz, zgs, zsa, zsz, zss]
 refine zhk 15 ?_;try simp only [Act.put, zga, zgz, zgs, zsa, zsz, zss]
 refine zhk 16 ?_;try simp only [Act.put, zga, zgz, zgs, zsa, zsz, zss]
 refine zhk 17 ?_;try simp only [Act.put, zga, zgz, zgs, zsa, zsz, zss]
 refine zhk 18 ?_;try simp only [Act.put, zga, zgz, zgs, zsa, zsz, zss]
 refine zhk 19 ?_;try simp only [Act.put, zga, zgz, zgs, zsa, zsz, zss]
 refine zhk 20 ?_;try simp only [Act.put, zga, zgz, zgs, zsa, zsz, zss]
 refine zhk 21 ?_;try simp only [Act.put, zga, zgz, zgs, zsa, zsz, zss]
 refine zhk 22 ?_;try simp only [Act.put, zga, zgz, zgs, zsa, zsz, zss]
 refine zhk 23 ?_;try simp only [Act.put, zga, zgz, zgs, zsa, zsz, zss]
 refine zhk 24 ?_;try simp only [Act.put, zga, zgz, zgs, zsa, zsz, zss]
 refine zhk 25 ?_;try simp only [Act.put, zga, zgz, zgs, zsa, zsz, zss]
 refine zhk 26 ?_;try simp only [Act.put, zga, zgz, zgs, zsa, zsz, zss]
 refine zhk 27 ?_;try simp only [Act.put, zga, zgz, zgs, zsa, zsz, zss]
 refine wpAnyH_ready (rs := [28]) (by kernel_rfl) (by simp) ?_;refine AllReadyH.cons (o := _) rfl (fun K hK => ?_) AllReadyH.nil;go_simp
 (refine (HA11.out _ (hg8.below q1)).mono ?_; rintro e w2 ⟨_, rfl, rfl, hw2⟩; have q2 := q1.trans (hw2.mono q1.size))
 refine hK.out _ _ ?_ (fun hHeld => ?_)
 ·first | exact HS.out _ q3 | exact HS.out _ q2 | exact HS.out _ q1 | exact HS.out _ q0
 clear hK K;try simp only [Act.put, zga, zgz, zgs, zsa, zsz, zss]
 refine wpAnyH_ready (rs := [29]) (by kernel_rfl) (by simp) ?_;refine AllReadyH.cons (o := _) rfl (fun K hK => ?_) AllReadyH.nil;go_simp
 (refine (HA20.out _ (hg8.below q2)).mono ?_; rintro e w3 ⟨_, rfl, rfl, hw3⟩; have q3 := q2.trans (hw3.mono q2.size))
 refine hK.out _ _ ?_ (fun hHeld => ?_)
 ·first | exact HS.out _ q3 | exact HS.out _ q2 | exact HS.out _ q1 | exact HS.out _ q0
 clear hK K;try simp only [Act.put, zga, zgz, zgs, zsa, zsz, zss]
 refine zhk 30 ?_;try simp only [Act.put, zga, zgz, zgs, zsa, zsz, zss]
 refine zhk 31 ?_;try simp only [Act.put, zga, zgz, zgs, zsa, zsz, zss]
 refine zhk 32 ?_;try simp only [Act.put, zga, zgz, zgs, zsa, zsz, zss]
 refine zhk 33 ?_;try simp only [Act.put, zga, zgz, zgs, zsa, zsz, zss]
 refine zhk 34 ?_;try simp only [Act.put, zga, zgz, zgs, zsa, zsz, zss]
 refine zhk 35 ?_;try simp only [Act.put, zga, zgz, zgs, zsa, zsz, zss]
 refine zhk 36 ?_;try simp only [Act.put, zga, zgz, zgs, zsa, zsz, zss]
 refine zhk 37 ?_;try simp only [Act.put, zga, zgz, zgs, zsa, zsz, zss]
 refine zhk 38 ?_;try simp only [Act.put, zga, zgz, zgs, zsa, zsz, zss]
 refine zhk 39 ?_;try simp only [Act.put, zga, zgz, zgs, zsa, zsz, zss]
 refine zhk 40 ?_;try simp only [Act.put, zga, zgz, zgs, zsa, zsz, zss]
 refine zhk 41 ?_;try simp only [Act.put, zga, zgz, zgs, zsa, zsz, zss]
 refine zhk 42 ?_;try simp only [Act.put, zga, zgz, zgs, zsa, zsz, zss]
 refine zhk 43 ?_;try simp only [Act.put, zga, zgz, zgs, zsa, zsz, zss]
 refine zhk 44 ?_;try simp only [Act.put, zga, zgz, zgs, zsa, zsz, zss]
 refine zhk 45 ?_;try simp only [Act.put, zga, zgz, zgs, zsa, zsz, zss]
 refine zhk 46 ?_;try simp only [Act.put, zga, zgz, zgs, zsa, zsz, zss]
 refine zhk 47 ?_;try simp only [Act.put, zga, zgz, zgs, zsa, zsz, zss]
 refine zhk 48 ?_;try simp only [Act.put, zga, zgz, zgs, zsa, zsz, zss]
 refine zhk 49 ?_;try simp only [Act.put, zga, zgz, zgs, zsa, zsz, zss]
 refine zhk 50 ?_;try simp only [Act.put, zga, zgz, zgs, zsa, zsz, zss]
 refine zhk 51 ?_;try simp only [Act.put, zga, zgz, zgs, zsa, zsz, zss]
 refine zhk 52 ?_;try simp only [Act.put, zga, zgz, zgs, zsa, zsz, zss]
 refine zhk 53 ?_;try simp only [Act.put, zga, zgz, zgs, zsa, zsz, zss]
 refine zhk 54 ?_;try simp only [Act.put, zga, zgz, zgs, zsa, zsz, zss]
 refine zhk 55 ?_;try simp only [Act.put, zga, zgz, zgs, zsa, zsz, zss]
 refine zhk 56 ?_;try simp only [Act.put, zga, zgz, zgs, zsa, zsz, zss]
 refine zhk 57 ?_;try simp only [Act.put, zga, zgz, zgs, zsa, zsz]
 refine wpAnyH_done (by kernel_rfl) ?_ _;have hB9 := hB8.trans (q3.mono hB8.size);go_wp2_with fail;go_ret;exact ⟨_, rfl, rfl, hB9⟩
theorem make_in {w : World} {vp vt vf : Value} {kk : Nat} {s0 s1 : Int} {half : Bool} {a0 a1 a2 a3 a4 a5 : Int} {ah : Bool} (hp : RdP w vp (strP (sheetP kk s0 s1 half))) (ht : RdT w vt (shapeT kk)) (hf : RdQ w vf (heightsF [a0, a1, a2, a3, a4, a5] ah (sheetP kk s0 s1 half).length)) :
 FieldIn w vp vt vf (sheetP kk s0 s1 half) (shapeT kk) 2 (heightsF [a0, a1, a2, a3, a4, a5] ah (sheetP kk s0 s1 half).length) :=
 ⟨hp, ht, sheet_ok kk s0 s1 half, hf, heights_Sz _ _ _, heightsF_length _ _ _⟩
theorem num_den (q : Rat) : (q.num : Rat) = q * (q.den : Rat) := by
 have h := Rat.mkRat_self q;rw [Rat.mkRat_eq_div] at h;have hd : (q.den : Rat) ≠ 0 := by
  have := q.den_nz;intro e;exact this (by exact_mod_cast e)
 have h2 : (q.num : Rat) / (q.den : Rat) * (q.den : Rat) = q * (q.den : Rat) := by rw [h]
 rw [Rat.div_mul_cancel hd] at h2;exact h2
def CapP (A x y w V : Rat) : Prop := (y < 0 \/ w < 0) /\ 0 < x /\ y <= 0 /\ w <= 0 /\ ∃ r s : Rat, r * (x - y) = x /\ s * (x - w) = x /\ 6 * V = A * (x * r * s)
def NotP (A x y w V : Rat) : Prop := (0 < y \/ 0 < w) /\ x < 0 /\ 0 <= y /\ 0 <= w /\ ∃ r s : Rat, r * (x - y) = x /\ s * (x - w) = x /\ 6 * V = A * (x + y + w) - A * (x * r * s)
def VolP (A x y w V : Rat) : Prop :=
 (x <= 0 /\ y <= 0 /\ w <= 0 /\ V = 0) \/ (0 <= x /\ 0 <= y /\ 0 <= w /\ 6 * V = A * (x + y + w)) \/ (CapP A x y w V \/ NotP A x y w V) \/ (CapP A y w x V \/ NotP A y w x V) \/ (CapP A w x y V \/ NotP A w x y V)
theorem sgn_neg {q : Rat} (h : q < 0) : q.num.sign = -1 := by rw [sign_if, if_pos h]
theorem sgn_pos {q : Rat} (h : 0 < q) : q.num.sign = 1 := by rw [sign_if, if_neg (by grind), if_pos h]
theorem sgn_zero {q : Rat} (h : q = 0) : q.num.sign = 0 := by rw [sign_if, h]; decide +kernel
section
variable {A x y w V V' : Rat}
def TipP (A x y w V : Rat) : Prop := CapP A x y w V \/ NotP A x y w V
theorem TipP.sgn (h : TipP A x y w V) : ((y < 0 \/ w < 0) /\ 0 < x /\ y <= 0 /\ w <= 0) \/ ((0 < y \/ 0 < w) /\ x < 0 /\ 0 <= y /\ 0 <= w) := by
 rcases h with ⟨g0, g1, g2, g3, -⟩ | ⟨g0, g1, g2, g3, -⟩
 ·exact .inl ⟨g0, g1, g2, g3⟩
 ·exact .inr ⟨g0, g1, g2, g3⟩
end
end Go.Proofs.YtbfcmipplhkkeaaGreatDoor
namespace Go.Proofs.YtbfcmipplhkkeaaGreatDoor
open Go.RowKit Go.Lib
theorem slope_fits {A B C : PtQ} {a b c : Rat} (h : areaQ A B C ≠ 0) : (slopeQ A B C a b c).1 * (B.1 - A.1) + (slopeQ A B C a b c).2 * (B.2 - A.2) = b - a /\ (slopeQ A B C a b c).1 * (C.1 - A.1) + (slopeQ A B C a b c).2 * (C.2 - A.2) = c - a := by
 unfold slopeQ minorQ;unfold areaQ at h;dsimp only;have hd : (B.1 - A.1) * (C.2 - A.2) - (B.2 - A.2) * (C.1 - A.1) ≠ 0 := h;generalize hD : (B.1 - A.1) * (C.2 - A.2) - (B.2 - A.2) * (C.1 - A.1) = D at *;have hi : 1 / D * D = 1 := by rw [Rat.div_mul_cancel hd]
 generalize 1 / D = k at *;constructor
 ·have : (b - a) * (k * D) = b - a := by rw [hi, Rat.mul_one]
  grind
 ·have : (c - a) * (k * D) = c - a := by rw [hi, Rat.mul_one]
  grind
theorem onQ_corner {P : List PtQ} {F : List Rat} {tr : Tri} (h : areaQ (ptI P tr.1) (ptI P tr.2.1) (ptI P tr.2.2) ≠ 0) {i : Int} (hi : i ∈ idxOf tr) : onQ P F tr (ptI P i) = hI F i := by
 obtain ⟨e1, e2⟩ := slope_fits (a := hI F tr.1) (b := hI F tr.2.1) (c := hI F tr.2.2) h;unfold onQ slopeT;simp only [idxOf, List.mem_cons, List.not_mem_nil, or_false] at hi;rcases hi with rfl | rfl | rfl
 ·grind
 ·generalize slopeQ (ptI P tr.1) (ptI P tr.2.1) (ptI P tr.2.2) (hI F tr.1) (hI F tr.2.1) (hI F tr.2.2) = S at *
  grind
 ·generalize slopeQ (ptI P tr.1) (ptI P tr.2.1) (ptI P tr.2.2) (hI F tr.1) (hI F tr.2.1) (hI F tr.2.2) = S at *
  grind
theorem ptI_move {s t d : Rat} {P : List PtQ} {i : Int} (h0 : 0 <= i) (h1 : i < (P.length : Int)) : ptI (P.map (moveP s t d)) i = moveP s t d (ptI P i) := by
 unfold ptI;rw [List.getElem?_map, List.getElem?_eq_getElem (show i.toNat < P.length by omega)];rfl
theorem sheet_moved (k : Nat) (s0 s1 : Int) (half : Bool) : sheetP k s0 s1 half = (shapeQ k).map (moveP (s0.tmod 8 : Int) (s1.tmod 8 : Int) (1 / (halfD half : Rat))) := by
 unfold sheetP shapeQ;rw [List.map_map];refine List.map_congr_left fun p _ => ?_;show (_, _) = moveP _ _ _ _;unfold moveP;rw [placeQ_move, placeQ_move]
theorem cancel_nat {x : Rat} {q : Nat} (hq : 0 < q) (h : x * (q : Rat) = 0) : x = 0 := by
 rcases Rat.mul_eq_zero.1 h with h | h
 ·exact h
 ·have : q = 0 := by exact_mod_cast h
  omega
structure TriI (A x y w : Rat) (a h0 h1 h2 p : Int) (q : Nat) : Prop where
 hq : 0 < q
 hA : A * 4 = (a : Rat)
 hx : x * (2 * (q : Rat)) = (h0 : Rat) * (q : Rat) - 2 * (p : Rat)
 hy : y * (2 * (q : Rat)) = (h1 : Rat) * (q : Rat) - 2 * (p : Rat)
 hw : w * (2 * (q : Rat)) = (h2 : Rat) * (q : Rat) - 2 * (p : Rat)
theorem TriI.turn {A x y w : Rat} {a h0 h1 h2 p : Int} {q : Nat} (h : TriI A x y w a h0 h1 h2 p q) : TriI A y w x a h1 h2 h0 p q := ⟨h.hq, h.hA, h.hy, h.hw, h.hx⟩
section
variable {A x y w V : Rat} {a h0 h1 h2 p : Int} {q : Nat}
theorem TriI.dif (h : TriI A x y w a h0 h1 h2 p q) : (x - y) * 2 = (h0 : Rat) - (h1 : Rat) /\ (x - w) * 2 = (h0 : Rat) - (h2 : Rat) := by
 have h1' := h.hx;have h2' := h.hy;have h3' := h.hw;constructor
 ·have := cancel_nat (x := (x - y) * 2 - ((h0 : Rat) - (h1 : Rat))) h.hq (by grind)
  grind
 ·have := cancel_nat (x := (x - w) * 2 - ((h0 : Rat) - (h2 : Rat))) h.hq (by grind)
  grind
theorem TriI.cap (h : TriI A x y w a h0 h1 h2 p q) {r s : Rat} (hr : r * (x - y) = x) (hs : s * (x - w) = x) (hV : 6 * V = A * (x * r * s)) :
 V * (48 * (q : Rat) * q * q * (((h0 - h1) * (h0 - h2) : Int) : Rat)) = ((a * ((h0 * q - 2 * p) * (h0 * q - 2 * p) * (h0 * q - 2 * p)) : Int) : Rat) := by
 obtain ⟨d1, d2⟩ := h.dif;have hx := h.hx;have hA := h.hA;have e1 : (((h0 - h1) * (h0 - h2) : Int) : Rat) = ((h0 : Rat) - (h1 : Rat)) * ((h0 : Rat) - (h2 : Rat)) := by rw [Rat.intCast_mul, Rat.intCast_sub, Rat.intCast_sub]
 have e2 : ((a * ((h0 * q - 2 * p) * (h0 * q - 2 * p) * (h0 * q - 2 * p)) : Int) : Rat) = (a : Rat) * (((h0 : Rat) * (q : Rat) - 2 * (p : Rat)) * ((h0 : Rat) * (q : Rat) - 2 * (p : Rat)) * ((h0 : Rat) * (q : Rat) - 2 * (p : Rat))) := by
  rw [Rat.intCast_mul, Rat.intCast_mul, Rat.intCast_mul, Rat.intCast_sub, Rat.intCast_mul, Rat.intCast_mul]; rfl
 rw [e1, e2, <- hx, <- hA, <- d1, <- d2];have r1 : r * ((x - y) * 2) = 2 * x := by grind
 have s1 : s * ((x - w) * 2) = 2 * x := by grind
 have g : V * (48 * (q : Rat) * q * q * ((x - y) * 2 * ((x - w) * 2))) = 8 * q * q * q * (6 * V) * ((x - y) * 2) * ((x - w) * 2) := by grind
 rw [g, hV];have g2 : 8 * (q : Rat) * q * q * (A * (x * r * s)) * ((x - y) * 2) * ((x - w) * 2) = 8 * q * q * q * A * x * (r * ((x - y) * 2)) * (s * ((x - w) * 2)) := by grind
 rw [g2, r1, s1];grind
theorem TriI.whole (h : TriI A x y w a h0 h1 h2 p q) (hV : 6 * V = A * (x + y + w)) :
 V * (48 * (q : Rat)) = ((a * ((h0 + h1 + h2) * q - 6 * p) : Int) : Rat) := by
 have hx := h.hx;have hy := h.hy;have hw := h.hw;have hA := h.hA;have e2 : ((a * ((h0 + h1 + h2) * q - 6 * p) : Int) : Rat) = (a : Rat) * (((h0 : Rat) + (h1 : Rat) + (h2 : Rat)) * (q : Rat) - 6 * (p : Rat)) := by
  rw [Rat.intCast_mul, Rat.intCast_sub, Rat.intCast_mul, Rat.intCast_mul, Rat.intCast_add, Rat.intCast_add]; rfl
 have g : V * (48 * (q : Rat)) = 8 * q * (6 * V) := by grind
 rw [e2, g, hV, <- hA];grind
theorem TriI.not (h : TriI A x y w a h0 h1 h2 p q) {r s : Rat} (hr : r * (x - y) = x) (hs : s * (x - w) = x) (hV : 6 * V = A * (x + y + w) - A * (x * r * s)) :
 V * (48 * (q : Rat) * q * q * (((h0 - h1) * (h0 - h2) : Int) : Rat)) = ((a * ((h0 + h1 + h2) * q - 6 * p) * (q * q * ((h0 - h1) * (h0 - h2))) - a * ((h0 * q - 2 * p) * (h0 * q - 2 * p) * (h0 * q - 2 * p)) : Int) : Rat) := by
 have c1 := h.cap (V := A * (x * r * s) / 6) hr hs (by grind);have c2 := h.whole (V := A * (x + y + w) / 6) (by grind);have e : V = A * (x + y + w) / 6 - A * (x * r * s) / 6 := by grind
 generalize a * ((h0 + h1 + h2) * q - 6 * p) = X at *;generalize (h0 - h1) * (h0 - h2) = D at *;rw [Rat.intCast_sub, <- c1, Rat.intCast_mul, <- c2, Rat.intCast_mul, Rat.intCast_mul, e];have e3 : (((q : Nat) : Int) : Rat) = (q : Rat) := rfl;rw [e3];generalize A * (x + y + w) / 6 = V1;generalize A * (x * r * s) / 6 = V2;grind
end
theorem natAbs3 (a b c : Int) {A B C : Nat} (h1 : a.natAbs <= A) (h2 : b.natAbs <= B) (h3 : c.natAbs <= C) : (a * b * c).natAbs <= A * B * C := by
 rw [Int.natAbs_mul, Int.natAbs_mul];exact Nat.mul_le_mul (Nat.mul_le_mul h1 h2) h3
end Go.Proofs.YtbfcmipplhkkeaaGreatDoor
