import Derived.Test.YtbfcmipplhkkeaaGreatDoorShelfB
import Derived.Test.YtbfcmipplhkkeaaGreatDoorVN2
/- The walk over mesh.within. The walk over slices.SortFunc at numbers, where there are at most twelve. Plain The walks over the predicate of mesh.Along and over slices.IndexFunc at spans. The contracts of slices.SortFunc and slices.Compact at a slice of the call's -/
set_option maxHeartbeats 4000000
set_option maxRecDepth 100000
namespace Go.Proofs.YtbfcmipplhkkeaaGreatDoor
open Go.RowKit Go.Lib
def wStep (a b : PtQ) (st : Option (Rat × Rat)) (s : PtQ × PtQ) : Option (Rat × Rat) :=
 match st with
 | none => none
 | some l =>
   if areaQ s.1 s.2 a = areaQ s.1 s.2 b then (if areaQ s.1 s.2 a < 0 then none else some l)
   else if areaQ s.1 s.2 a < areaQ s.1 s.2 b then some (maxQ l.1 (areaQ s.1 s.2 a / (areaQ s.1 s.2 a - areaQ s.1 s.2 b)), l.2)
   else some (l.1, minQ l.2 (areaQ s.1 s.2 a / (areaQ s.1 s.2 a - areaQ s.1 s.2 b)))
def sWW (c0 c1 c2 : PtQ) : List (PtQ × PtQ) := [(c0, c1), (c1, c2), (c2, c0)]
def wNN (c0 c1 c2 a b : PtQ) (n : Nat) : Option (Rat × Rat) := ((sWW c0 c1 c2).take n).foldl (wStep a b) (some (0, 1))
def wFF (c0 c1 c2 a b : PtQ) : Option (Rat × Rat) := (wNN c0 c1 c2 a b 3).bind fun l => if l.1 < l.2 then some l else none
theorem wNs (c0 c1 c2 a b : PtQ) (i : Nat) (h : i < 3) : wNN c0 c1 c2 a b (i + 1) = wStep a b (wNN c0 c1 c2 a b i) ((sWW c0 c1 c2)[i]'h) := by
 unfold wNN;rw [List.take_succ_eq_append_getElem (by exact h), List.foldl_append];rfl
theorem wNn (c0 c1 c2 a b : PtQ) (i : Nat) (h : i <= 3) (Y : wNN c0 c1 c2 a b i = none) : wFF c0 c1 c2 a b = none := by
 have key : ∀ n, n <= 3 -> i <= n -> wNN c0 c1 c2 a b n = none := by
  intro n
  induction n with
  | zero => intro _ X; obtain rfl : i = 0 := by omega
            exact Y
  | succ n ih =>
    intro V X;rcases Nat.lt_or_ge n i with Z | Z
    ·obtain rfl : i = n + 1 := by omega
     exact Y
    ·rw [wNs _ _ _ _ _ _ (by omega), ih (by omega) Z]; rfl
 unfold wFF;rw [key 3 (by omega) h]; rfl
theorem wSe {a b p q : PtQ} {l : Rat × Rat} (h : areaQ p q a = areaQ p q b) (Z : ¬ areaQ p q a < 0) : wStep a b (some l) (p, q) = some l := by
 unfold wStep; dsimp only; rw [if_pos h, if_neg Z]
theorem wSo {a b p q : PtQ} {l : Rat × Rat} (h : areaQ p q a = areaQ p q b) (Z : areaQ p q a < 0) : wStep a b (some l) (p, q) = none := by
 unfold wStep; dsimp only; rw [if_pos h, if_pos Z]
theorem wSl {a b p q : PtQ} {l : Rat × Rat} (h : areaQ p q a < areaQ p q b) : wStep a b (some l) (p, q) = some (maxQ l.1 (areaQ p q a / (areaQ p q a - areaQ p q b)), l.2) := by
 have Z : ¬ areaQ p q a = areaQ p q b := fun e => by rw [e] at h; exact Rat.lt_irrefl h
 unfold wStep; dsimp only; rw [if_neg Z, if_pos h]
theorem wSg {a b p q : PtQ} {l : Rat × Rat} (h : areaQ p q b < areaQ p q a) : wStep a b (some l) (p, q) = some (l.1, minQ l.2 (areaQ p q a / (areaQ p q a - areaQ p q b))) := by
 have Z : ¬ areaQ p q a = areaQ p q b := fun e => by rw [e] at h; exact Rat.lt_irrefl h
 unfold wStep; dsimp only; rw [if_neg Z, if_neg (Rat.not_lt.2 (Rat.le_of_lt h))]
theorem mf0 {k : Nat} {p q : Rat} (Z : Sz k p) (hq : Sz k q) : Sz k (maxQ p q) := by unfold maxQ; split <;> assumption
theorem mQS {k : Nat} {p q : Rat} (Z : Sz k p) (hq : Sz k q) : Sz k (minQ p q) := by unfold minQ; split <;> assumption
theorem rSn (q : Rat) (h : q < 0) (w : World) :
 Calls Tryz.prog 69 #[.string (RS q)] w (Ret (fun v _ => v = .int .i64 (-1)) w) :=
 (ra0 q w).mono fun e w' ⟨v, he, hv, n, hw⟩ => ⟨v, he, by rw [hv, Int.sign_eq_neg_one_of_neg (num_lt_zero_iff.2 h)], hw ▸ bdN w n⟩
theorem re0 (q : Rat) (h : ¬ q < 0) (w : World) :
 Calls Tryz.prog 69 #[.string (RS q)] w (Ret (fun v _ => ∃ z : Int, v = .int .i64 z /\ 0 <= z /\ z <= 1) w) :=
 (ra0 q w).mono fun e w' ⟨v, he, hv, n, hw⟩ => ⟨v, he, ⟨_, hv, by rw [sif, if_neg h]; split <;> decide⟩, hw ▸ bdN w n⟩
theorem rCl (p q : Rat) (k : Nat) (X : 0 < k) (Z : k <= 20000) (V : Sz k p) (hq : Sz k q) (h : p < q) (w : World) (Y : Good w) :
 Calls Tryz.prog 104 #[.string (RS p), .string (RS q)] w (Ret (fun v _ => v = .int .i64 (-1)) w) := by
 have := rCa p q k X Z V hq w Y;rwa [show cmpQ p q = -1 by unfold cmpQ; rw [if_pos h]] at this
theorem rCn (p q : Rat) (k : Nat) (X : 0 < k) (Z : k <= 20000) (V : Sz k p) (hq : Sz k q) (h : ¬ p < q) (w : World) (Y : Good w) :
 Calls Tryz.prog 104 #[.string (RS p), .string (RS q)] w (Ret (fun v _ => ∃ z : Int, v = .int .i64 z /\ 0 <= z /\ z <= 1) w) :=
 (rCa p q k X Z V hq w Y).mono fun e w' ⟨v, he, hv, hb⟩ => ⟨v, he, ⟨_, hv, by unfold cmpQ; rw [if_neg h]; split <;> decide⟩, hb⟩
def WPP (l : Option (Rat × Rat)) (v : Value) : Prop := ∃ x y, v = .tuple #[.string x, .string y, .bool l.isSome] /\ ∀ r, l = some r -> x = RS r.1 /\ y = RS r.2 /\ Sz 200 r.1 /\ Sz 200 r.2 /\ r.1 < r.2
theorem wgn (c0 c1 c2 a b : PtQ) (m : Nat) (hr : 0 < m) (hV : m <= 100) (hS : ∀ r, wFF c0 c1 c2 a b = some r -> Sz 200 r.1 /\ Sz 200 r.2) (z0 : SzP m c0) (z1 : SzP m c1) (z2 : SzP m c2) (za : SzP m a) (zb : SzP m b) (w : World) (L : Good w) :
 Calls Tryz.prog 102 #[.agg #[.string (RS c0.1), .string (RS c0.2), .string (RS c1.1), .string (RS c1.2), .string (RS c2.1), .string (RS c2.2)], .agg #[.string (RS a.1), .string (RS a.2)], .agg #[.string (RS b.1), .string (RS b.2)]] w (Ret (fun r _ => WPP (wFF c0 c1 c2 a b) r) w) := by
 have hj := hid hS;clear hS;have n : Hid (∀ i : Nat, i < 3 -> ∃ (p q : PtQ) (o : Nat), o < 3 /\ ((i : Int) + 1) % 3 = (o : Int) /\ SzP m p /\ SzP m q /\ wNN c0 c1 c2 a b (i + 1) = wStep a b (wNN c0 c1 c2 a b i) (p, q) /\
  ∀ (w' : World) (b t : Nat), BoxN w' b t [.string (RS c0.1), .string (RS c0.2), .string (RS c1.1), .string (RS c1.2), .string (RS c2.1), .string (RS c2.2)] ->
   w'.cell? ⟨b, i * 2, none⟩ = some (.string (RS p.1)) /\ w'.cell? ⟨b, i * 2 + 1, none⟩ = some (.string (RS p.2)) /\ w'.cell? ⟨b, o * 2, none⟩ = some (.string (RS q.1)) /\ w'.cell? ⟨b, o * 2 + 1, none⟩ = some (.string (RS q.2))) := fun i V => by
  have H := wNs c0 c1 c2 a b i V;rcases (by omega : i = 0 \/ i = 1 \/ i = 2) with rfl | rfl | rfl
  ·exact ⟨c0, c1, 1, by omega, by decide, z0, z1, H, fun w' b t h => ⟨h.cell 0 rfl, h.cell 1 rfl, h.cell 2 rfl, h.cell 3 rfl⟩⟩
  ·exact ⟨c1, c2, 2, by omega, by decide, z1, z2, H, fun w' b t h => ⟨h.cell 2 rfl, h.cell 3 rfl, h.cell 4 rfl, h.cell 5 rfl⟩⟩
  ·exact ⟨c2, c0, 0, by omega, by decide, z2, z0, H, fun w' b t h => ⟨h.cell 4 rfl, h.cell 5 rfl, h.cell 0 rfl, h.cell 1 rfl⟩⟩
 have j : Hid (∀ i, i <= 3 -> wNN c0 c1 c2 a b i = none -> wFF c0 c1 c2 a b = none) := fun i h hn => wNn c0 c1 c2 a b i h hn;have k : Hid (∀ l, wNN c0 c1 c2 a b 3 = some l -> wFF c0 c1 c2 a b = if l.1 < l.2 then some l else none) := fun l h => by unfold wFF; rw [h]; rfl
 have hh : Hid (wNN c0 c1 c2 a b 0 = some (0, 1)) := rfl;have hy := hid (RS_zero);have hz := hid (Roe);have hA := hid za;have hC := hid zb;obtain ⟨Nf, hm⟩ : ∃ Nf : Nat -> Option (Rat × Rat), Nf = wNN c0 c1 c2 a b := ⟨_, rfl⟩;obtain ⟨Ff, hl⟩ : ∃ Ff : Option (Rat × Rat), Ff = wFF c0 c1 c2 a b := ⟨_, rfl⟩;rw [<- hm] at n j k hh;rw [<- hl] at j k hj ⊢;clear z0 z1 z2 za zb hm hl;go_enter Tryz.func102, Tryz.ntmps102;go_wp2_with fail;obtain ⟨W, hW⟩ := zex (((w.alloc (.cells #[.string (RS c0.1), .string (RS c0.2), .string (RS c1.1), .string (RS c1.2), .string (RS c2.1), .string (RS c2.2)] 156)).alloc (.cells #[.string (RS a.1), .string (RS a.2)] 50)).alloc (.cells #[.string (RS b.1), .string (RS b.2)] 50));have hB : Below w.heap.size w W := by rw [hW]; exact (((Below.refl _ _).alloc (Nat.le_refl _) _).alloc (by simp) _).alloc (by simp; omega) _
 have b5 : BoxN W (w.heap.size + 1 + 1) 50 [.string (RS b.1), .string (RS b.2)] := by rw [hW]; exact BoxN.new _ _ _ _ (by simp)
 have b4 : BoxN W (w.heap.size + 1) 50 [.string (RS a.1), .string (RS a.2)] := by
  rw [hW];have J := (BoxN.new (w.alloc (.cells #[.string (RS c0.1), .string (RS c0.2), .string (RS c1.1), .string (RS c1.2), .string (RS c2.1), .string (RS c2.2)] 156)) #[.string (RS a.1), .string (RS a.2)] 50 (w.heap.size + 1) (by simp));exact J.below (zal _ _) J.lt
 have b3 : BoxN W w.heap.size 156 [.string (RS c0.1), .string (RS c0.2), .string (RS c1.1), .string (RS c1.2), .string (RS c2.1), .string (RS c2.2)] := by
  rw [hW];have J := (BoxN.new w #[.string (RS c0.1), .string (RS c0.2), .string (RS c1.1), .string (RS c1.2), .string (RS c2.1), .string (RS c2.2)] 156 _ rfl);exact J.below (((Below.refl _ _).alloc (Nat.le_refl _) _).alloc (by simp) _) J.lt
 rw [<- hW];clear hW;go_loopw [6, 7, 14] (fun t6 t7 t14 wr => ∃ (i : Nat) (Q V : Rat), t14 = .int .i64 i /\ i <= 3 /\ t6 = .string (RS Q) /\ t7 = .string (RS V) /\ Hid (Nf i = some (Q, V)) /\ Hid (Sz (24 * m + 16) Q /\ Sz (24 * m + 16) V) /\ Below W.heap.size W wr) (fun _ _ t14 _ => 3 - (RowKit.intOf t14).toNat)
 case atStart => exact ⟨0, 0, 1, rfl, by omega, by rw [hy.out], by rw [hz.out], hh, ⟨Sz.zero _ (by omega), Sz.one.mono (by omega)⟩, Below.refl _ _⟩
 case round =>
  obtain ⟨i, Q, V, rfl, hK, rfl, rfl, h8, X, I⟩ := hrel;have C := zbt hB I;have d := b3.below I b3.lt;have G := b4.below I b4.lt;have E := b5.below I b5.lt;rcases Nat.lt_or_ge i 3 with h | h
  ·obtain ⟨p, q, o, hN, hD, zp, zq, H, M⟩ := n.out i h
   have Y : Hid (Nf (i + 1) = wStep a b (some (Q, V)) (p, q)) := by unfold Hid; rw [H, h8.out]
   have za := hA.out;have zb := hC.out;have zu := aQS zp zq za;have zv := aQS zp zq zb;have h5 := hid fun w L => ab0 p q a m hr (by omega) zp zq za w L
   have h6 := hid fun w L => ab0 p q b m hr (by omega) zp zq zb w L
   unfold VP at h5 h6;have hu : Hid (areaQ p q a = areaQ p q b -> ¬ areaQ p q a < 0 -> Nf (i + 1) = some (Q, V)) := fun J h2 => by rw [Y.out]; exact wSe J h2
   have hx : Hid (areaQ p q a = areaQ p q b -> areaQ p q a < 0 -> Nf (i + 1) = none) := fun J h2 => by rw [Y.out]; exact wSo J h2
   have hw : Hid (areaQ p q a < areaQ p q b -> Nf (i + 1) = some (maxQ Q (areaQ p q a / (areaQ p q a - areaQ p q b)), V)) := fun J => by rw [Y.out]; exact wSl J
   have hv : Hid (areaQ p q b < areaQ p q a -> Nf (i + 1) = some (Q, minQ V (areaQ p q a / (areaQ p q a - areaQ p q b)))) := fun J => by rw [Y.out]; exact wSg J
   obtain ⟨y0, y1, y2, y3⟩ := M wr w.heap.size _ d;generalize areaQ p q a = u at *;generalize areaQ p q b = v at *;have K := hid zu;have f := hid zv;have a0 := G.cell 0 rfl;have a1 := G.cell 1 rfl;have h9 := E.cell 0 rfl;have ha := E.cell 1 rfl;have hR := d.lt;have hT := G.lt;have hU := E.lt;have hM : (i : Int) < 3 := by omega
   have hP : (o : Int) < 3 := by omega
   have hO : ((i : Int) + 1).tmod 3 = (o : Int) := by rw [Int.tmod_eq_emod_of_nonneg (by omega)]; exact hD
   have hX : IntKind.i64.wrap ((i : Int) + 1) = (i : Int) + 1 := IntWalk.i64_in _ (by omega);have hY : (0 : Int) <= (i : Int) + 1 := by omega
   have hZ : IntKind.i64.wrap (o : Int) = (o : Int) := IntWalk.i64_in _ (by omega);have x := L.below C;have hb : Good wr.drew := x.drewN 1;clear M zp zq za zb zu zv H n Y h8;go_upto_region 5 with fail;go_region_held3 (fun w' => w'.cell? ⟨w.heap.size, i * 2, none⟩ = some (.string (RS p.1)) /\ w'.cell? ⟨w.heap.size, i * 2 + 1, none⟩ = some (.string (RS p.2)) /\ w'.cell? ⟨w.heap.size, o * 2, none⟩ = some (.string (RS q.1)) /\ w'.cell? ⟨w.heap.size, o * 2 + 1, none⟩ = some (.string (RS q.2)) /\ w'.cell? ⟨w.heap.size + 1, 0, none⟩ = some (.string (RS a.1)) /\ w'.cell? ⟨w.heap.size + 1, 1, none⟩ = some (.string (RS a.2)) /\ w'.cell? ⟨w.heap.size + 1 + 1, 0, none⟩ = some (.string (RS b.1)) /\ w'.cell? ⟨w.heap.size + 1 + 1, 1, none⟩ = some (.string (RS b.2)))
    (first | exact ⟨y0, y1, y2, y3, a0, a1, h9, ha⟩ | exact ⟨p_1_0, p_1_1, p_1_2, p_1_3, p_1_4, p_1_5, p_1_6, p_1_7⟩ | exact ⟨p_2_0, p_2_1, p_2_2, p_2_3, p_2_4, p_2_5, p_2_6, p_2_7⟩)
    (first
    | (go_at_call 126; refine (h6.out _ he).mono ?_; rintro e hf ⟨_, rfl, rfl, S⟩
       have p_2_0 := zct S p_1_0;have p_2_1 := zct S p_1_1;have p_2_2 := zct S p_1_2;have p_2_3 := zct S p_1_3;have p_2_4 := zct S p_1_4;have p_2_5 := zct S p_1_5;have p_2_6 := zct S p_1_6;have p_2_7 := zct S p_1_7;have z5 := S.size;have ht := he.below S)
    | (go_at_call 126; refine (h5.out _ hb).mono ?_; rintro e hH ⟨_, rfl, rfl, U⟩
       have p_1_0 := zct U y0;have p_1_1 := zct U y1;have p_1_2 := zct U y2;have p_1_3 := zct U y3;have p_1_4 := zct U a0;have p_1_5 := zct U a1;have p_1_6 := zct U h9;have p_1_7 := zct U ha;have z4 : wr.heap.size <= hH.heap.size := U.size;have he := hb.below U))
   have pB : Below wr.heap.size wr hf := zbt (zbt (bdN wr 1) U) S;have hp : Below W.heap.size W hf := zbt I pB;clear y0 y1 y2 y3 a0 a1 h9 ha hb I d G E x C h5 h6;go_wp2_with fail;refine (rSa u v (8 * m + 5) (by omega) (by omega) K.out f.out hf ht).mono ?_;rintro e w4 ⟨_, rfl, rfl, ho⟩;have B : Below W.heap.size W w4 := zbt hp ho;have hc := L.below ((zbt hB B));clear ho hp he ht pB;have hk : Hid (Sz (16 * m + 11) (u - v)) := (K.out.sub f.out).mono (by omega);go_wp2_with fail;by_cases hE : u = v
   ·have HE := hid hE
    rw [show u - v = 0 by rw [HE.out]; grind];clear hE;refine (rDz u w4).mono ?_;rintro e c ⟨_, rfl, rfl, N⟩;have O : Below W.heap.size W c := zbt B N;clear N B hc;go_wp2_with fail;by_cases h0 : u < 0
    ·have H0 := hid h0
     refine (rSn u h0 c).mono ?_;rintro e w6 ⟨_, rfl, rfl, R⟩;have Z : Below w.heap.size w w6 := hB.trans (((zbt O R)).mono hB.size);have HF : Hid (WPP Ff (.tuple #[.string ⟨#[]⟩, .string ⟨#[]⟩, .bool false])) := by
      have hF : Ff = none := j.out (i + 1) (by omega) (hx.out HE.out H0.out);rw [hF];exact ⟨_, _, rfl, fun r h => by cases h⟩
     clear h0;go_wp2_with fail
     go_ret3
     exact ⟨_, rfl, HF.out, Z⟩
    ·have H0 := hid h0
     refine (re0 u h0 c).mono ?_;rintro e w6 ⟨_, rfl, ⟨z, rfl, hd, hs⟩, R⟩;have Z : Below W.heap.size W w6 := zbt O R;have Y := hid (hu.out HE.out H0.out);clear h0 R;go_wp2_with fail;go_roundw
     case rel => exact ⟨i + 1, Q, V, by go_num, by omega, rfl, rfl, Y, X, Z⟩
     case measure => simp [RowKit.intOf]; omega
   ·have hq : u - v ≠ 0 := fun e => hE (by grind)
    have g : Hid (Sz (24 * m + 16) (u / (u - v))) := (K.out.div hk.out (by omega)).mono (by omega);refine (rDa u (u - v) (16 * m + 11) (by omega) (by omega) (K.out.mono (by omega)) hk.out hq w4 hc).mono ?_;rintro e c ⟨_, rfl, rfl, N⟩;have O : Below W.heap.size W c := zbt B N;have h4 := L.below ((zbt hB O));clear N B hc hq;by_cases hL : u < v
    ·have Y := hid (hw.out hL)
     have HC := hid fun w L => rCl u v (8 * m + 5) (by omega) (by omega) K.out f.out hL w L
     clear hE hL;generalize u / (u - v) = s at *;go_wp2_with fail;refine (HC.out c h4).mono ?_;rintro e w6 ⟨_, rfl, rfl, R⟩;have Z : Below W.heap.size W w6 := zbt O R;have y := L.below ((zbt hB Z));clear R;go_wp2_with fail;refine (ri0 Q s (24 * m + 16) (by omega) (by omega) X.out.1 g.out w6 y).mono ?_;rintro e w7 ⟨_, rfl, rfl, D⟩;have A : Below W.heap.size W w7 := zbt Z D;clear D;go_wp2_with fail;go_roundw
     case rel => exact ⟨i + 1, maxQ Q s, V, by go_num, by omega, rfl, rfl, Y, ⟨mf0 X.out.1 g.out, X.out.2⟩, A⟩
     case measure => simp [RowKit.intOf]; omega
    ·have hG : v < u := Rat.lt_of_le_of_ne (Rat.not_lt.1 hL) (fun e => hE e.symm)
     have Y := hid (hv.out hG);have HC := hid fun w L => rCn u v (8 * m + 5) (by omega) (by omega) K.out f.out hL w L
     clear hE hL hG;generalize u / (u - v) = s at *;go_wp2_with fail;refine (HC.out c h4).mono ?_;rintro e w6 ⟨_, rfl, ⟨z, rfl, hd, hs⟩, R⟩;have Z : Below W.heap.size W w6 := zbt O R;have y := L.below ((zbt hB Z));clear R;go_wp2_with fail;refine (rh0 V s (24 * m + 16) (by omega) (by omega) X.out.2 g.out w6 y).mono ?_;rintro e w7 ⟨_, rfl, rfl, D⟩;have A : Below W.heap.size W w7 := zbt Z D;clear D;go_wp2_with fail;go_roundw
     case rel => exact ⟨i + 1, Q, minQ V s, by go_num, by omega, rfl, rfl, Y, ⟨X.out.1, mQS X.out.2 g.out⟩, A⟩
     case measure => simp [RowKit.intOf]; omega
  ·have HJ : Hid (i = 3) := by unfold Hid; omega
   have hJ : (3 : Int) <= (i : Int) := by omega
   have h7 : Hid (Ff = if Q < V then some (Q, V) else none) := k.out (Q, V) (by rw [<- HJ.out]; exact h8.out);have x := L.below C;clear n d G E k j;go_wp2_with fail;by_cases hL : Q < V
   ·have HL := hid hL
    refine (rCl Q V (24 * m + 16) (by omega) (by omega) X.out.1 X.out.2 hL wr x).mono ?_;rintro e c ⟨_, rfl, rfl, N⟩;have h3 := hid (hj.out (Q, V) (by rw [h7.out, if_pos HL.out]));have HF : Hid (WPP Ff (.tuple #[.string (RS Q), .string (RS V), .bool true])) := by
     rw [h7.out, if_pos HL.out];exact ⟨_, _, rfl, fun r h => by cases h; exact ⟨rfl, rfl, h3.out.1, h3.out.2, HL.out⟩⟩
    clear hL;go_wp2_with fail
    go_ret3
    exact ⟨_, rfl, HF.out, (zbt C N)⟩
   ·have HL := hid hL
    refine (rCn Q V (24 * m + 16) (by omega) (by omega) X.out.1 X.out.2 hL wr x).mono ?_;rintro e c ⟨_, rfl, ⟨z, rfl, hd, hs⟩, N⟩;have HF : Hid (WPP Ff (.tuple #[.string (RS Q), .string (RS V), .bool false])) := by
     rw [h7.out, if_neg HL.out];exact ⟨_, _, rfl, fun r h => by cases h⟩
    have z3 : decide (z < 0) = false := by simp; exact hd
    clear hL;go_wp2_with fail
    go_ret3
    exact ⟨_, rfl, HF.out, (zbt C N)⟩
def RowQ (w : World) (g : Nat) (l : List Rat) : Prop := ∀ (a : Nat) (q : Rat), l[a]? = some q -> w.cell? ⟨g, a, none⟩ = some (.string (RS q)) /\ w.frozen? ⟨g, a, none⟩ = false
theorem RowQ.below {w w' : World} {g : Nat} {l : List Rat} (h : RowQ w g l) (Z : Below w.heap.size w w') (Y : g < w.heap.size) : RowQ w' g l := fun a q ha =>
 ⟨(zcq Z Y (h a q ha).1 :), (Z.frozen (p := ⟨g, a, none⟩) Y).trans (h a q ha).2⟩
theorem RowQ.set {w : World} {g : Nat} {l : List Rat} (h : RowQ w g l) (i : Nat) (q : Rat) (X : i < l.length) : RowQ (w.setCell ⟨g, i, none⟩ (.string (RS q))) g (l.set i q) := fun a r ha => by
 rw [World.frozen?_setCell];by_cases e : i = a
 ·subst e
  rw [List.getElem?_set_self X] at ha;cases ha;obtain ⟨Z, Y⟩ := h i _ (List.getElem?_eq_getElem X);exact ⟨World.cell?_setCell_same _ _ _ Z, Y⟩
 ·rw [List.getElem?_set_ne e] at ha
  obtain ⟨Z, Y⟩ := h a r ha;exact ⟨(World.cell?_setCell_other _ _ _ _ (by intro V; simp only [Addr.mk.injEq] at V; omega)).trans Z, Y⟩
theorem RowQ.drew {w : World} {g : Nat} {l : List Rat} (h : RowQ w g l) : RowQ w.drew g l := h
theorem cQn (p q : Rat) : cmpQ p q < 0 ↔ p < q := by
 unfold cmpQ;split
 ·rename_i h; exact ⟨fun _ => h, fun _ => by decide⟩
 ·rename_i h
  refine ⟨fun h2 => ?_, fun h2 => absurd h2 h⟩;split at h2 <;> omega
def InsAt (l : List Rat) (i j : Nat) : Prop := ∀ (a b : Nat) (x y : Rat), a < b -> b <= i -> b ≠ j -> l[a]? = some x -> l[b]? = some y -> x <= y
def STo (l : List Rat) (i : Nat) : Prop := ∀ (a b : Nat) (x y : Rat), a < b -> b < i -> l[a]? = some x -> l[b]? = some y -> x <= y
theorem InsAt.start {l : List Rat} {i : Nat} (h : STo l i) : InsAt l i i := fun a b x y hab hbi hbj ha hb => h a b x y hab (by omega) ha hb
theorem InsAt.done {l : List Rat} {i j : Nat} (h : InsAt l i j) (N : ∀ Z x y, j = Z + 1 -> l[Z]? = some x -> l[j]? = some y -> x <= y) (O : j <= i) (Q : i < l.length) : STo l (i + 1) := by
 intro a b x y V R X S;by_cases e : b = j
 ·subst e
  obtain ⟨Z, rfl⟩ : ∃ Z, b = Z + 1 := ⟨b - 1, by omega⟩;obtain ⟨z, Y⟩ : ∃ z, l[Z]? = some z := ⟨_, List.getElem?_eq_getElem (by omega)⟩;have U := N Z z y rfl Y S;by_cases e2 : a = Z
  ·subst e2; rw [X] at Y; cases Y; exact U
  ·exact Rat.le_trans (h a Z x z (by omega) (by omega) (by omega) X Y) U
 ·exact h a b x y V (by omega) e X S
def swapL (l : List Rat) (j : Nat) (x y : Rat) : List Rat := (l.set (j + 1) x).set j y
theorem sLg (l : List Rat) (j : Nat) (x y : Rat) (Z : j + 1 < l.length) (a : Nat) : (swapL l j x y)[a]? = if a = j then some y else if a = j + 1 then some x else l[a]? := by
 unfold swapL;by_cases e : a = j
 ·subst e
  rw [if_pos rfl, List.getElem?_set_self (by rw [List.length_set]; omega)]
 ·rw [if_neg e, List.getElem?_set_ne (fun h => e h.symm)]
  by_cases e2 : a = j + 1
  ·subst e2; rw [if_pos rfl, List.getElem?_set_self Z]
  ·rw [if_neg e2, List.getElem?_set_ne (fun h => e2 h.symm)]
theorem sLp (l : List Rat) (j : Nat) (x y : Rat) (hx : l[j]? = some x) (hy : l[j + 1]? = some y) : (swapL l j x y).Perm l := by
 obtain ⟨Z, rfl⟩ := List.getElem?_eq_some_iff.1 hx;obtain ⟨Y, rfl⟩ := List.getElem?_eq_some_iff.1 hy;exact List.set_set_perm Y Z
theorem InsAt.step {l : List Rat} {i j : Nat} {x y : Rat} (h : InsAt l i (j + 1)) (hx : l[j]? = some x) (hy : l[j + 1]? = some y) (R : j + 1 <= i) (S : y < x) : InsAt (swapL l j x y) i j := by
 have Q : j + 1 < l.length := (List.getElem?_eq_some_iff.1 hy).1;intro a b u v V X U Z Y;rw [sLg l j x y Q] at Z Y;rw [if_neg U] at Y;by_cases e1 : b = j + 1
 ·subst e1
  rw [if_pos rfl] at Y;cases Y;by_cases e2 : a = j
  ·subst e2; rw [if_pos rfl] at Z; cases Z; exact Rat.le_of_lt S
  ·rw [if_neg e2, if_neg (by omega)] at Z
   exact h a j u x (by omega) (by omega) (by omega) Z hx
 ·rw [if_neg e1] at Y
  by_cases e2 : a = j
  ·subst e2; rw [if_pos rfl] at Z; cases Z
   exact h (a + 1) b _ v (by omega) X e1 hy Y
  ·rw [if_neg e2] at Z
   by_cases e3 : a = j + 1
   ·subst e3; rw [if_pos rfl] at Z; cases Z
    exact h j b _ v (by omega) X e1 hx Y
   ·rw [if_neg e3] at Z
    exact h a b u v V X e1 Z Y
theorem ie0 (J w : World) (g cap : Nat) (R : List Rat) (he : R.length <= 12) (h8 : ∀ q ∈ R, Sz 200 q) (K : RowQ w g R) (h3 : g < w.heap.size) (f : Below J.heap.size J w) (m : J.heap.size <= g) (c : Good J) :
 Calls Tryz.prog 188 #[.slice (some ⟨g, 0, none⟩) R.length cap, .int .i64 0, .int .i64 (R.length : Int), .func (.func 104) #[] #[]] w
  (fun e w' => e = .returned (.tuple #[]) /\ ∃ l, l.Perm R /\ STo l l.length /\ RowQ w' g l /\ w.grownBy w' (some g)) := by
 have o := hid h8;have h9 : Hid (∀ p q : Rat, Sz 200 p -> Sz 200 q -> ∀ w, Good w -> Calls Tryz.prog 104 #[.string (RS p), .string (RS q)] w (Ret (fun v _ => v = .int .i64 (cmpQ p q)) w)) := fun p q hp hq w c => rCa p q 200 (by omega) (by omega) hp hq w c
 obtain ⟨n, hn⟩ := zex (R.length);rw [<- hn] at he ⊢;have HN := hid hn;have L := hid K;clear h8 hn K;go_enter Tryz.func188, Tryz.ntmps188;go_wp2_with fail;go_loopw [8] (fun t8 wr => ∃ (i : Nat) (l : List Rat), t8 = .int .i64 i /\ 1 <= i /\ (i <= n \/ i = 1) /\ Hid (l.Perm R) /\ Hid (STo l i) /\ Hid (RowQ wr g l) /\ w.grownBy wr (some g)) (fun t8 _ => n - (RowKit.intOf t8).toNat)
 case atStart => exact ⟨1, R, rfl, by omega, .inr rfl, List.Perm.refl _, (fun a b x y h1 h2 => by omega), L.out, grl _ _⟩
 case round =>
  obtain ⟨i, l, rfl, ht, hw, S, HS, O, Y⟩ := hrel;clear L;rcases Nat.lt_or_ge i n with h | h
  ·have hA : (i : Int) < (n : Int) := by omega
   obtain ⟨wo, hf⟩ := zex (wr : World);subst hf;go_wp2_with fail;go_loopw [9] (fun t9 wr => ∃ (j : Nat) (l : List Rat), t9 = .int .i64 j /\ j <= i /\ Hid (l.Perm R) /\ Hid (InsAt l i j) /\ Hid (RowQ wr g l) /\ w.grownBy wr (some g)) (fun t9 _ => (RowKit.intOf t9).toNat)
   case atStart => exact ⟨i, l, rfl, Nat.le_refl _, S, InsAt.start HS.out, O.out, Y⟩
   case round =>
    clear S HS O Y;obtain ⟨j, l, rfl, E, S, HI, O, Y⟩ := hrel;have U : Hid (l.length = n) := by unfold Hid; rw [S.out.length_eq, HN.out]
    have H : Below J.heap.size J wr := bgb f Y m;have G := c.below H;have M : Good wr.drew := G.drewN 1;have h4 : g < wr.heap.size := Nat.lt_of_lt_of_le h3 Y.size;rcases j with _ | Z
    ·rw [show ((0 : Nat) : Int) = 0 from rfl]
     have I : Hid (STo l (i + 1)) := HI.out.done (fun jq u v e => by omega) E (by rw [U.out]; exact h);clear M G H;go_upto_region 4 with fail;go_region;go_wp2_with fail;go_roundw
     case rel => exact ⟨i + 1, l, by go_num, by omega, .inl (by omega), S, I, O.out, gbw Y (bdN _ 1)⟩
     case measure => simp [RowKit.intOf]; omega
    ·rw [show ((Z + 1 : Nat) : Int) = (Z : Int) + 1 from rfl]
     have h5 : Z + 1 < l.length := by rw [U.out]; omega
     obtain ⟨x, hx⟩ : ∃ x, l[Z]? = some x := ⟨_, List.getElem?_eq_getElem (by omega)⟩;obtain ⟨y, hy⟩ : ∃ y, l[Z + 1]? = some y := ⟨_, List.getElem?_eq_getElem h5⟩;have zx : Sz 200 x := o.out x (S.out.mem_iff.1 (List.mem_of_getElem? hx));have zy : Sz 200 y := o.out y (S.out.mem_iff.1 (List.mem_of_getElem? hy));have HC := hid fun w c => h9.out y x zy zx w c;obtain ⟨c0, f0⟩ := O.out Z x hx;obtain ⟨c1, f1⟩ := O.out (Z + 1) y hy;have HX := hid hx;have HY := hid hy;have hk : (Z : Int) + 1 < (n : Int) := by omega
     have hl : (Z : Int) < (n : Int) := by omega
     have h6 : (0 : Int) < (Z : Int) + 1 := by omega
     have C : IntKind.i64.wrap ((Z : Int) + 1) = (Z : Int) + 1 := IntWalk.i64_in _ (by omega);have B : IntKind.i64.wrap ((Z : Int) + 1 - 1) = (Z : Int) := by rw [show (Z : Int) + 1 - 1 = (Z : Int) by omega]; exact IntWalk.i64_in _ (by omega)
     have A : IntKind.i64.wrap (Z : Int) = (Z : Int) := IntWalk.i64_in _ (by omega);have hB : (0 : Int) <= (Z : Int) + 1 := by omega
     have t : ((Z : Int) + 1).toNat = Z + 1 := by omega
     have d : decide ((0 : Int) < (Z : Int) + 1) = true := decide_eq_true h6;clear hx hy h5 zx zy;go_upto_region 4 with fail;go_region_held3 (fun w' => w'.cell? ⟨g, Z + 1, none⟩ = some (.string (RS y)) /\ w'.cell? ⟨g, Z, none⟩ = some (.string (RS x)))
      (first | exact ⟨c1, c0⟩ | exact ⟨p_1_0, p_1_1⟩)
      (first
      | (go_at_call 104; refine (HC.out _ M).mono ?_; rintro e X ⟨_, rfl, rfl, Q⟩
         have p_1_0 := zct Q c1;have p_1_1 := zct Q c0;have hC : wr.heap.size <= X.heap.size := Q.size;have hh := M.below Q))
     have pB : Below wr.heap.size wr X := zbt (bdN wr 1) Q;clear C B A t d;have V := gbw Y pB;have N : Hid (RowQ X g l) := RowQ.below O.out pB h4;have hi : Below J.heap.size J X := bgb f V m;have s : Hid (cmpQ y x < 0 ↔ y < x) := cQn y x;have hj : g < X.heap.size := Nat.lt_of_lt_of_le h3 V.size;generalize cmpQ y x = z at *;clear Y O c0 c1 f0 f1 M hh pB H G;obtain ⟨c0, f0⟩ := N.out Z x HX.out;obtain ⟨c1, f1⟩ := N.out (Z + 1) y HY.out;by_cases hz : z < 0
     ·have D := s.out.1 hz
      have hr := hid D;have r : Hid (Z + 1 < l.length) := by unfold Hid; rw [U.out]; omega
      have k : InsAt (swapL l Z x y) i Z := InsAt.step HI.out HX.out HY.out E D;have ha := hid k;have hb : Hid ((swapL l Z x y).Perm R) := (sLp l Z x y HX.out HY.out).trans S.out;have C : IntKind.i64.wrap ((Z : Int) + 1) = (Z : Int) + 1 := IntWalk.i64_in _ (by omega);have B : IntKind.i64.wrap ((Z : Int) + 1 - 1) = (Z : Int) := by rw [show (Z : Int) + 1 - 1 = (Z : Int) by omega]; exact IntWalk.i64_in _ (by omega)
      have A : IntKind.i64.wrap (Z : Int) = (Z : Int) := IntWalk.i64_in _ (by omega);have t : ((Z : Int) + 1).toNat = Z + 1 := by omega
      have hm : Z ≠ Z + 1 := by omega
      have ho : Z + 1 ≠ Z := by omega
      clear k D;go_upto_region 6 with fail;go_region;have hc : Hid (RowQ ((X.setCell ⟨g, Z + 1, none⟩ (.string (RS x))).setCell ⟨g, Z, none⟩ (.string (RS y))).drew g (swapL l Z x y)) := by
       unfold Hid swapL;exact ((N.out.set (Z + 1) x r.out).set Z y (by rw [List.length_set]; have := r.out; omega)).drew
      have h0 : w.grownBy ((X.setCell ⟨g, Z + 1, none⟩ (.string (RS x))).setCell ⟨g, Z, none⟩ (.string (RS y))).drew (some g) :=
       gbw (gst (gst V (Z + 1) _) Z _) (bdN _ 1)
      clear C B A t;go_wp2_with fail;go_roundw
      case rel => exact ⟨Z, _, by go_num, by omega, hb, ha, hc, h0⟩
      case measure => simp [RowKit.intOf] <;> omega
     ·have h7 : ¬ y < x := fun h => hz (s.out.2 h)
      have I : Hid (STo l (i + 1)) := HI.out.done (fun jq u v e hu hv => by
       obtain rfl : Z = jq := by omega
       rw [HX.out] at hu; rw [HY.out] at hv; cases hu; cases hv;exact Rat.not_lt.1 h7) E (by rw [U.out]; exact h)
      clear h7 c0 f0 c1 f1;go_wp2_with fail;go_roundw
      case rel => exact ⟨i + 1, l, by go_num, by omega, .inl (by omega), S, I, N, V⟩
      case measure => simp [RowKit.intOf]; omega
  ·have hs : (n : Int) <= (i : Int) := by omega
   have U : Hid (l.length = n) := by unfold Hid; rw [S.out.length_eq, HN.out]
   have hd : Hid (STo l l.length) := fun a b x y h1 h2 hx hy => HS.out a b x y h1 (by have := U.out; omega) hx hy
   go_wp2_with fail;go_end0;exact ⟨rfl, l, S.out, hd.out, O.out, Y⟩
theorem pr0 (R w : World) (g cap : Nat) (Z : List Rat) (Q : Z.length <= 12) (S : ∀ q ∈ Z, Sz 200 q) (Y : RowQ w g Z) (U : g < w.heap.size) (V : Below R.heap.size R w) (X : R.heap.size <= g) (N : Good R) (O : Int) :
 Calls Tryz.prog 148 #[.slice (some ⟨g, 0, none⟩) Z.length cap, .int .i64 0, .int .i64 (Z.length : Int), .int .i64 O, .func (.func 104) #[] #[]] w
  (fun e w' => e = .returned (.tuple #[]) /\ ∃ l, l.Perm Z /\ STo l l.length /\ RowQ w' g l /\ w.grownBy w' (some g)) := by
 have L := hid (ie0 R w g cap Z Q S Y U V X N);have G : (Z.length : Int) <= 12 := by omega
 have M : (0 : Int) <= (Z.length : Int) := by omega
 generalize Z.length = n at *;clear S Y U V X N;go_enter Tryz.func148, Tryz.ntmps148;go_wp2_with fail;refine wp_loop_rounds 1 ?_;rw [rounds_succ];go_wp2_with fail;refine L.out.mono ?_;rintro e w' ⟨rfl, l, K, J, I, H⟩;go_wp2_with fail;exact bodyPost_ret (v := .tuple #[]) (by simp [results, Tryz.results148, go_sem]) rfl ⟨rfl, l, K, J, I, H⟩
theorem so0 (Q w : World) (g cap : Nat) (Z : List Rat) (O : Z.length <= 12) (S : ∀ q ∈ Z, Sz 200 q) (Y : RowQ w g Z) (U : g < w.heap.size) (V : Below Q.heap.size Q w) (X : Q.heap.size <= g) (N : Good Q) :
 Calls Tryz.prog 103 #[.slice (some ⟨g, 0, none⟩) Z.length cap, .func (.func 104) #[] #[]] w
  (fun e w' => e = .returned (.tuple #[]) /\ ∃ l, l.Perm Z /\ STo l l.length /\ RowQ w' g l /\ w.grownBy w' (some g)) := by
 have M : Hid (∀ lim : Int, _) := fun lim => pr0 Q w g cap Z O S Y U V X N lim;have H : Calls Tryz.prog 136 #[.int .u64 (Z.length : Int)] w fun e w' => e = .returned (.int .i64 (Lib.bitLen Z.length : Nat)) /\ w' = w := by
  have h := Any.bits_Len (SlLaysF0.n15.bits (P := Tryz.prog) (ρ := Tryz.sortRat_ren) { Tryz.sortRat with }) (Z.length : Int) w (by omega) (by omega);rwa [Int.toNat_natCast] at h
 have wr : IntKind.u64.wrap (Z.length : Int) = Z.length := by simp [IntKind.wrap, IntKind.bits, IntKind.signed]; omega
 have G : (Z.length : Int) <= 12 := by omega
 generalize Lib.bitLen Z.length = lim at *;generalize Z.length = n at *;clear S Y U V X N;go_enter Tryz.func103, Tryz.ntmps103;go_wp2_with fail;refine H.mono ?_;rintro e E ⟨rfl, R⟩;rw [R];clear R;go_wp2_with fail;refine (M.out _).mono ?_;rintro e w' ⟨rfl, l, L, K, J, I⟩;go_wp2_with fail;go_end0;exact ⟨rfl, l, L, K, J, I⟩
def insD (x : Rat) : List Rat -> List Rat
 | [] => [x]
 | y :: l => if x < y then x :: y :: l else if y < x then y :: insD x l else y :: l
def sortD (l : List Rat) : List Rat := l.foldr insD []
theorem rlt {a b c : Rat} (Z : a < b) (Y : b < c) : a < c := by
 refine Rat.not_le.1 fun h => ?_;exact absurd (Rat.not_le.2 Z) (fun k => k (Rat.le_trans (Rat.le_of_lt Y) h))
theorem rlo {a b c : Rat} (Z : a <= b) (Y : b < c) : a < c := Rat.not_le.1 fun h => absurd (Rat.le_trans h Z) (Rat.not_le.2 Y)
theorem req {x y : Rat} (Z : ¬ x < y) (Y : ¬ y < x) : x = y := Rat.le_antisymm (Rat.not_lt.1 Y) (Rat.not_lt.1 Z)
theorem iDm (x q : Rat) (l : List Rat) : q ∈ insD x l ↔ q = x \/ q ∈ l := by
 induction l with
 | nil => simp [insD]
 | cons y l ih =>
   unfold insD;split
   ·simp
   ·split
    ·rw [List.mem_cons, ih, List.mem_cons]; constructor <;> (rintro (h | h | h) <;> simp [h])
    ·rename_i h1 h2
     have := req h1 h2;subst this;simp
theorem iDp (x : Rat) (l : List Rat) (h : l.Pairwise (· < ·)) : (insD x l).Pairwise (· < ·) := by
 induction l with
 | nil => simp [insD]
 | cons y l ih =>
   rw [List.pairwise_cons] at h;unfold insD;split
   ·rename_i h1
    rw [List.pairwise_cons, List.pairwise_cons];refine ⟨fun q hq => ?_, h⟩;rcases List.mem_cons.1 hq with rfl | hq
    ·exact h1
    ·exact rlt h1 (h.1 q hq)
   ·split
    ·rename_i h1 h2
     rw [List.pairwise_cons];refine ⟨fun q hq => ?_, ih h.2⟩;rcases (iDm x q l).1 hq with rfl | hq
     ·exact h2
     ·exact h.1 q hq
    ·exact List.pairwise_cons.2 h
theorem sDm (l : List Rat) (q : Rat) : q ∈ sortD l ↔ q ∈ l := by
 unfold sortD
 induction l with
 | nil => simp
 | cons x l ih => rw [List.foldr_cons, iDm, ih, List.mem_cons]
theorem sDp (l : List Rat) : (sortD l).Pairwise (· < ·) := by
 unfold sortD
 induction l with
 | nil => simp
 | cons x l ih => rw [List.foldr_cons]; exact iDp x _ ih
theorem pue {a b : List Rat} (Z : a.Pairwise (· < ·)) (Y : b.Pairwise (· < ·)) (h : ∀ q, q ∈ a ↔ q ∈ b) : a = b := by
 have X : ∀ {l : List Rat}, l.Pairwise (·< ·) -> l.Nodup := fun hl => hl.imp (fun h e => by rw [e] at h; exact Rat.lt_irrefl h)
 exact ((List.perm_ext_iff_of_nodup (X Z) (X Y)).2 h).eq_of_pairwise (fun x y _ _ h1 h2 => absurd (rlt h1 h2) Rat.lt_irrefl) Z Y
theorem ss0 {a b : List Rat} (h : a.Perm b) : sortD a = sortD b :=
 pue (sDp a) (sDp b) fun q => by rw [sDm, sDm, h.mem_iff]
def encO : Option Rat -> Value
 | none => .string ⟨#[]⟩
 | some q => .string (RS q)
theorem eeq (x y : Option Rat) : ∃ a b : ByteArray, encO x = .string a /\ encO y = .string b /\ (a.toList == b.toList) = decide (x = y) := by
 have Z : ∀ q : Rat, (RS q).toList ≠ [] := fun q => by
  rw [btL, Rlt]; exact Rnn q
 have Y : (⟨#[]⟩ : ByteArray).toList = [] := by rw [btL]
 cases x with
 | none =>
   cases y with
   | none => exact ⟨_, _, rfl, rfl, by simp⟩
   | some q => exact ⟨_, _, rfl, rfl, by rw [Y]; simp; exact Z q⟩
 | some p =>
   cases y with
   | none => exact ⟨_, _, rfl, rfl, by rw [Y]; simp; exact Z p⟩
   | some q => exact ⟨_, _, rfl, rfl, by
      rw [btL, btL, Rlt, Rlt, Rbq];simp⟩
theorem eqlO (T : Nat) : EqlAt Tryz.prog T encO (fun x y => decide (x = y)) := by
 refine ⟨fun x y w => ?_, fun op a b x y w => ?_⟩
 ·obtain ⟨a, b, Z, Y, X⟩ := eeq x y
  show Sem.run _ _ w = Result.ok (Value.bool (decide (x = y))) w;rw [Z, Y, <- X];exact (EqlAt.string Tryz.prog T).1 a b w
 ·obtain ⟨u, v, Z, Y, _⟩ := eeq x y
  rw [Z, Y];exact GuardAt.string Tryz.prog T op a b u v w
theorem neqO (T : Nat) : NeqAt Tryz.prog T encO (fun x y => decide (x = y)) := by
 refine ⟨fun x y w => ?_, (eqlO T).2⟩;obtain ⟨a, b, Z, Y, X⟩ := eeq x y;show Sem.run _ _ w = Result.ok (Value.bool (!decide (x = y))) w;rw [Z, Y, <- X];exact (NeqAt.string Tryz.prog T).1 a b w
open Go.Sort in
theorem pRg {α : Type} [Inhabited α] (enc : α -> Value) (w : World) (q Z off : Nat) (d : Array α) : w.grownBy (putRow enc (Sort.ahead w q) Z off d) (some Z) := by
 refine ⟨rfl, rfl, rfl, (by simp [putRow, mapBlock, Sort.ahead]), fun j hj hjn => ?_⟩;unfold putRow mapBlock Sort.ahead;show (w.heap.modify Z _)[j]? = _;rw [Array.getElem?_modify, if_neg (by rintro rfl; exact hjn rfl)]
theorem csd (l : List Rat) (L : STo l l.length) (m : Nat) (K : m <= l.length) :
 ∃ E : List Rat, Lib.compactUpTo (l.map some).toArray m = E.map some /\ E.Pairwise (·< ·) /\ ∀ q, q ∈ E ↔ ∃ a, a < m /\ l[a]? = some q := by
 have Z : ∀ a x, l[a]? = some x -> (l.map some).toArray[a]! = some x := fun a x h => by
  obtain ⟨R, rfl⟩ := List.getElem?_eq_some_iff.1 h;rw [getElem!_pos _ a (by simpa using R)];simp
 induction m with
 | zero => exact ⟨[], rfl, List.Pairwise.nil, fun q => by simp⟩
 | succ m ih =>
   obtain ⟨E, R, M, Q⟩ := ih (by omega);obtain ⟨x, hx⟩ : ∃ x, l[m]? = some x := ⟨_, List.getElem?_eq_getElem (by omega)⟩;rw [Lib.compactUpTo_succ, R];cases hk : Lib.keeps (l.map some).toArray m
   ·refine ⟨E, by simp, M, fun q => ?_⟩
    rw [Q];unfold Lib.keeps at hk;have X := of_decide_eq_false hk;obtain ⟨Y, rfl⟩ : ∃ Y, m = Y + 1 := by
     rcases m with _ | Y
     ·exact absurd (.inl rfl) X
     ·exact ⟨Y, rfl⟩
    obtain ⟨y, hy⟩ : ∃ y, l[Y]? = some y := ⟨_, List.getElem?_eq_getElem (by omega)⟩;have N : x = y := by
     have := fun h => X (.inr h);rw [Z _ _ hx, Nat.add_sub_cancel, Z _ _ hy] at this;exact Option.some.inj (Classical.not_not.1 this)
    subst N;constructor
    ·rintro ⟨a, S, hq⟩; exact ⟨a, by omega, hq⟩
    ·rintro ⟨a, S, hq⟩
     by_cases e : a = Y + 1
     ·subst e; rw [hx] at hq; cases hq; exact ⟨Y, by omega, hy⟩
     ·exact ⟨a, by omega, hq⟩
   ·refine ⟨E ++ [x], by simp [Z _ _ hx], ?_, fun q => ?_⟩
    ·rw [List.pairwise_append]
     refine ⟨M, by simp, fun q hq r hr => ?_⟩;rw [List.mem_singleton] at hr;subst hr;obtain ⟨a, S, V⟩ := (Q q).1 hq;unfold Lib.keeps at hk;have X := of_decide_eq_true hk;obtain ⟨Y, rfl⟩ : ∃ Y, m = Y + 1 := ⟨m - 1, by omega⟩;obtain ⟨y, hy⟩ : ∃ y, l[Y]? = some y := ⟨_, List.getElem?_eq_getElem (by omega)⟩;have O : r ≠ y := by
      rcases X with h | h
      ·omega
      ·rw [Z _ _ hx, Nat.add_sub_cancel, Z _ _ hy] at h
       exact fun e => h (by rw [e])
     have U : y < r := Rat.lt_of_le_of_ne (L Y (Y + 1) y r (by omega) (by omega) hy hx) (fun e => O e.symm);by_cases e : a = Y
     ·subst e; rw [V] at hy; cases hy; exact U
     ·exact rlo (L a Y q y (by omega) (by omega) V hy) U
    ·rw [List.mem_append, Q, List.mem_singleton]
     constructor
     ·rintro (⟨a, S, hq⟩ | rfl)
      ·exact ⟨a, by omega, hq⟩
      ·exact ⟨m, by omega, hx⟩
     ·rintro ⟨a, S, hq⟩
      by_cases e : a = m
      ·subst e; rw [hx] at hq; cases hq; exact .inr rfl
      ·exact .inl ⟨a, by omega, hq⟩
open Go.Sort in
theorem cRa (w : World) (g cap : Nat) (l : List Rat) (J : l.length <= 1000) (H : STo l l.length) (V : RowQ w g l) (X : l.length <= cap) :
 Calls Tryz.prog 105 #[.slice (some ⟨g, 0, none⟩) l.length cap] w
  (fun e w' => e = .returned (.slice (some ⟨g, 0, none⟩) (sortD l).length cap) /\ RowQ w' g (sortD l) /\ w.grownBy w' (some g)) := by
 have Y : ((l.map some).toArray : Array (Option Rat)).size = l.length := by simp
 have O : Holds encO w g 0 (l.map some).toArray := fun j hj => by
  rw [Y] at hj;rw [Nat.zero_add, getElem!_pos _ j (by rw [Y]; exact hj)];simp only [List.getElem_toArray, List.getElem_map];exact V j _ (List.getElem?_eq_getElem hj)
 have Z := AnyE.slices_Compact Tryz.compactRat encO (fun x => by cases x <;> rfl) (eqlO _) (neqO _) none (fun w => by kernel_rfl) g 0 cap (l.map some).toArray w O (by rw [Y]; omega) (by rw [Y]; exact X);rw [Y] at Z;change Calls Tryz.prog 105 _ _ _ at Z;obtain ⟨E, R, M, L⟩ := csd l H l.length (Nat.le_refl _);have Q : E = sortD l := pue M (sDp l) fun q => by
  rw [L, sDm, List.mem_iff_getElem?];constructor
  ·rintro ⟨a, _, h⟩; exact ⟨a, h⟩
  ·rintro ⟨a, h⟩; exact ⟨a, (List.getElem?_eq_some_iff.1 h).1, h⟩
 rw [R, Q, List.length_map] at Z;refine Z.mono ?_;rintro e w' ⟨rfl, q, rfl⟩;refine ⟨rfl, fun a x ha => ?_, pRg _ _ _ _ _ _⟩;have N : (sortD l).length <= l.length := by
  rw [<- Q];have K : (E.map some).length <= l.length := by
   rw [<- R];unfold Lib.compactUpTo;rw [List.length_map];exact Nat.le_trans (List.length_filter_le _ _) (by simp)
  simpa using K
 have S : (((sortD l).map some ++ List.replicate (l.length - (sortD l).length) none).toArray : Array (Option Rat)).size = ((l.map some).toArray : Array (Option Rat)).size := by simp; omega
 have I := holds_putRow encO (Sort.ahead w q) g 0 (l.map some).toArray _ (holds_ahead encO w q g 0 _ O) S;have U : a < (sortD l).length := (List.getElem?_eq_some_iff.1 ha).1;have := I a (by simp; omega);rw [Nat.zero_add, getElem!_pos _ a (by simp; omega)] at this;simp only [List.getElem_toArray] at this;rw [List.getElem_append_left (by simpa using U), List.getElem_map] at this;obtain ⟨_, e⟩ := List.getElem?_eq_some_iff.1 ha;rw [e] at this;exact this
abbrev SpanQ := Nat × Rat × Rat
def cellS (s : SpanQ) : List Value := [.int .i64 (s.1 : Int), .string (RS s.2.1), .string (RS s.2.2)]
def cSS (l : List SpanQ) : List Value := l.flatMap cellS
def RdSp (w : World) (v : Value) (l : List SpanQ) : Prop := RdC 3 w v l.length (cSS l)
theorem cSs (l : List SpanQ) (s : SpanQ) : cSS (l ++ [s]) = cSS l ++ cellS s := by simp [cSS]
theorem cSg (l : List SpanQ) (i : Nat) (s : SpanQ) (h : l[i]? = some s) (k : Nat) (Z : k < 3) : (cSS l)[i * 3 + k]? = (cellS s)[k]? := by
 unfold cSS;rw [gEf cellS 3 (fun _ => rfl) l i k Z, h];rfl
theorem RdSp.cells {w : World} {v : Value} {l : List SpanQ} (h : RdSp w v l) : ∃ p c, v = .slice p l.length c /\ (l ≠ [] -> ∃ b off, p = some ⟨b, off, none⟩ /\ b < w.heap.size /\
 ∀ i s, l[i]? = some s -> w.cell? ⟨b, off + i * 3, none⟩ = some (.int .i64 (s.1 : Int)) /\ w.cell? ⟨b, off + i * 3 + 1, none⟩ = some (.string (RS s.2.1)) /\ w.cell? ⟨b, off + i * 3 + 2, none⟩ = some (.string (RS s.2.2))) := by
 obtain ⟨p, c, O, _, _, _, R⟩ := h;refine ⟨p, c, O, fun hne => ?_⟩;have Z : cSS l ≠ [] := by
  intro e;rcases l with _ | ⟨a, l⟩
  ·exact hne rfl
  ·simp [cSS, cellS] at e
 obtain ⟨b, off, Q, X⟩ := R Z;have key : ∀ i s, l[i]? = some s -> w.cell? ⟨b, off + i * 3, none⟩ = some (.int .i64 (s.1 : Int)) /\ w.cell? ⟨b, off + i * 3 + 1, none⟩ = some (.string (RS s.2.1)) /\ w.cell? ⟨b, off + i * 3 + 2, none⟩ = some (.string (RS s.2.2)) := fun i s Y => by
  have V := X (i * 3 + 0) _ ((cSg l i s Y 0 (by omega)).trans rfl);have U := X (i * 3 + 1) _ ((cSg l i s Y 1 (by omega)).trans rfl);have S := X (i * 3 + 2) _ ((cSg l i s Y 2 (by omega)).trans rfl);rw [<- Nat.add_assoc] at V U S;exact ⟨V, U, S⟩
 refine ⟨b, off, Q, ?_, key⟩;obtain ⟨s, Y⟩ : ∃ s, l[0]? = some s := ⟨_, List.getElem?_eq_getElem (List.length_pos_iff.2 hne)⟩;exact World.block_lt_of_cell? w _ (key 0 s Y).1
def ce0 (x y : Rat) (s : SpanQ) : Bool := decide (s.2.1 <= x) && decide (y <= s.2.2)
theorem cQl (p q : Rat) : decide (cmpQ p q <= 0) = decide (p <= q) := by
 have h := cQp p q;by_cases h1 : p <= q
 ·rw [decide_eq_true h1, decide_eq_true]
  have : ¬ 0 < cmpQ p q := fun h2 => absurd (h.1 h2) (Rat.not_lt.2 h1);omega
 ·rw [decide_eq_false h1, decide_eq_false]
  have := h.2 (Rat.not_le.1 h1);omega
theorem aFa (w : World) (s : SpanQ) (A : Sz 200 s.2.1) (z : Sz 200 s.2.2) (Be L g n cap Z : Nat) (x y : Rat) (zx : Sz 200 x) (zy : Sz 200 y) (c : Z + 1 < n) (hn : n <= 1000)
 (I : w.cell? ⟨Be, 0, none⟩ = some (.slice (some ⟨g, 0, none⟩) n cap)) (H : w.cell? ⟨L, 0, none⟩ = some (.int .i64 ((Z : Int) + 1))) (G : w.cell? ⟨g, Z, none⟩ = some (.string (RS x))) (q : w.cell? ⟨g, Z + 1, none⟩ = some (.string (RS y))) (E : Good w) :
 Calls Tryz.prog 107 #[.agg #[.int .i64 (s.1 : Int), .string (RS s.2.1), .string (RS s.2.2)], .pointer (some ⟨Be, 0, none⟩), .pointer (some ⟨L, 0, none⟩)] w (Ret (fun r _ => r = .bool (ce0 x y s)) w) := by
 have H1 := hid fun w E => rCa s.2.1 x 200 (by omega) (by omega) A zx w E
 have H2 := hid fun w E => rCa y s.2.2 200 (by omega) (by omega) zy z w E
 have E1 := cQl s.2.1 x;have E2 := cQl y s.2.2;have HE : Hid (ce0 x y s = (decide (cmpQ s.2.1 x <= 0) && decide (cmpQ y s.2.2 <= 0))) := by unfold Hid ce0; rw [E1, E2]
 rw [HE.out];have h7 := cQr s.2.1 x;generalize cmpQ s.2.1 x = z1 at *;generalize cmpQ y s.2.2 = z2 at *;generalize RS s.2.1 = sf at *;generalize RS s.2.2 = st at *;generalize RS x = sx at *;generalize RS y = sy at *;have h0 : (Z : Int) + 1 < (n : Int) := by omega
 have h1 : (Z : Int) < (n : Int) := by omega
 have h2 : (0 : Int) <= (Z : Int) + 1 := by omega
 have h3 : IntKind.i64.wrap ((Z : Int) + 1 - 1) = (Z : Int) := by rw [show (Z : Int) + 1 - 1 = (Z : Int) by omega]; exact IntWalk.i64_in _ (by omega)
 have h5 : IntKind.i64.wrap (Z : Int) = (Z : Int) := IntWalk.i64_in _ (by omega);have h6 : ((Z : Int) + 1).toNat = Z + 1 := by omega
 clear E1 E2 HE A z zx zy c hn;by_cases hz : z1 <= 0
 ·have O : decide (z1 <= 0) = true := decide_eq_true hz
  rw [O, Bool.true_and];clear hz;go_enter Tryz.func107, Tryz.ntmps107;go_wp2_with fail;obtain ⟨W, Q⟩ := zex (w.alloc (.cells #[.int .i64 (s.1 : Int), .string sf, .string st] 136));have U : Below w.heap.size w W := by rw [Q]; exact zal _ _
  have R : BoxN W w.heap.size 136 [.int .i64 (s.1 : Int), .string sf, .string st] := by rw [Q]; exact BoxN.new _ _ _ _ rfl
  have le := World.block_lt_of_cell? w _ I;have J := World.block_lt_of_cell? w _ H;have M := World.block_lt_of_cell? w _ G;rw [<- Q];clear Q;have p := R.cell 1 rfl;have j := R.cell 2 rfl;have m := zcq U le I;have l := zcq U J H;have k := zcq U M G;have f := zcq U M q;have V := R.lt;have D : Be < W.heap.size := Nat.lt_trans le V;have B : L < W.heap.size := Nat.lt_trans J V;have C : g < W.heap.size := Nat.lt_trans M V;have N : Good W.drew := (E.below U).drewN 1;clear I H G q le J M R;go_region_held3 (fun w' => w'.cell? ⟨w.heap.size, 1, none⟩ = some (.string sf) /\ w'.cell? ⟨w.heap.size, 2, none⟩ = some (.string st) /\ w'.cell? ⟨Be, 0, none⟩ = some (.slice (some ⟨g, 0, none⟩) n cap) /\ w'.cell? ⟨L, 0, none⟩ = some (.int .i64 ((Z : Int) + 1)) /\ w'.cell? ⟨g, Z, none⟩ = some (.string sx) /\ w'.cell? ⟨g, Z + 1, none⟩ = some (.string sy))
   (first | exact ⟨p, j, m, l, k, f⟩ | exact ⟨p_1_0, p_1_1, p_1_2, p_1_3, p_1_4, p_1_5⟩ | exact ⟨p_2_0, p_2_1, p_2_2, p_2_3, p_2_4, p_2_5⟩)
   (first
   | (go_at_call 104; refine (H2.out _ t).mono ?_; rintro e a ⟨_, rfl, rfl, X⟩
      have p_2_0 := zct X p_1_0;have p_2_1 := zct X p_1_1;have p_2_2 := zct X p_1_2;have p_2_3 := zct X p_1_3;have p_2_4 := zct X p_1_4;have p_2_5 := zct X p_1_5;have ha := X.size;have h8 := t.below X)
   | (go_at_call 104; refine (H1.out _ N).mono ?_; rintro e b ⟨_, rfl, rfl, Y⟩
      have p_1_0 := zct Y p;have p_1_1 := zct Y j;have p_1_2 := zct Y m;have p_1_3 := zct Y l;have p_1_4 := zct Y k;have p_1_5 := zct Y f;have h9 : W.heap.size <= b.heap.size := Y.size;have t := N.below Y))
  have pB : Below W.heap.size W a := zbt (zbt (bdN W 1) Y) X;go_wp2_with fail;go_ret;exact ⟨_, rfl, rfl, (zbt U pB)⟩
 ·have O : decide (z1 <= 0) = false := decide_eq_false hz
  rw [O, Bool.false_and];obtain rfl : z1 = 1 := by omega
  clear O hz;go_enter Tryz.func107, Tryz.ntmps107;go_wp2_with fail;obtain ⟨W, Q⟩ := zex (w.alloc (.cells #[.int .i64 (s.1 : Int), .string sf, .string st] 136));have U : Below w.heap.size w W := by rw [Q]; exact zal _ _
  have R : BoxN W w.heap.size 136 [.int .i64 (s.1 : Int), .string sf, .string st] := by rw [Q]; exact BoxN.new _ _ _ _ rfl
  have le := World.block_lt_of_cell? w _ I;have J := World.block_lt_of_cell? w _ H;have M := World.block_lt_of_cell? w _ G;rw [<- Q];clear Q;have p := R.cell 1 rfl;have j := R.cell 2 rfl;have m := zcq U le I;have l := zcq U J H;have k := zcq U M G;have f := zcq U M q;have V := R.lt;have D : Be < W.heap.size := Nat.lt_trans le V;have B : L < W.heap.size := Nat.lt_trans J V;have C : g < W.heap.size := Nat.lt_trans M V;have N : Good W.drew := (E.below U).drewN 1;clear I H G q le J M R;have HF : Hid (∀ w', Below W.heap.size W w' -> w'.cell? ⟨w.heap.size, 1, none⟩ = some (.string sf) /\ w'.cell? ⟨Be, 0, none⟩ = some (.slice (some ⟨g, 0, none⟩) n cap) /\ w'.cell? ⟨L, 0, none⟩ = some (.int .i64 ((Z : Int) + 1)) /\ w'.cell? ⟨g, Z, none⟩ = some (.string sx)) := fun w' hb => ⟨(zcq hb V p :), (zcq hb D m :), (zcq hb B l :), (zcq hb C k :)⟩;have b0 : Below W.heap.size W W.drew := bdN W 1;refine wp_region_held_drew (S := (fun w' => w'.cell? ⟨w.heap.size, 1, none⟩ = some (.string sf) /\ w'.cell? ⟨Be, 0, none⟩ = some (.slice (some ⟨g, 0, none⟩) n cap) /\ w'.cell? ⟨L, 0, none⟩ = some (.int .i64 ((Z : Int) + 1)) /\ w'.cell? ⟨g, Z, none⟩ = some (.string sx))) (by kernel_rfl) ?_ (fun hHeld => ?_)
  ·(refine HF.out _ ?_; assumption)
  refine zhk 0 ?_;try simp only [Act.put]
  refine zhk 1 ?_;try simp only [Act.put]
  refine zhk 2 ?_;try simp only [Act.put]
  refine zhk 3 ?_;try simp only [Act.put]
  refine zhk 4 ?_;try simp only [Act.put]
  refine zhk 5 ?_;try simp only [Act.put]
  refine zhk 6 ?_;try simp only [Act.put]
  refine wpAnyH_ready (rs := [7]) (by kernel_rfl) (by simp) ?_;refine AllReadyH.cons (o := _) rfl (fun K hK => ?_) AllReadyH.nil;go_simp
  (refine (H1.out _ N).mono ?_; rintro e w4 ⟨_, rfl, rfl, d⟩; have h4 : Below W.heap.size W w4 := b0.trans d)
  refine hK.out _ _ ?_ (fun hHeld => ?_)
  ·(refine HF.out _ ?_; assumption)
  clear hK K;try simp only [Act.put]
  refine zhk 8 ?_;try simp only [Act.put]
  refine zhk 9 ?_;try simp only [Act.put]
  refine wpAnyH_take (i := 10) (oi := _) (v := undef) rfl (by kernel_rfl) (by kernel_rfl) (by kernel_rfl) (fun _ _ _ h => h) (Or.inr ⟨by rfl, rfl⟩) (by assumption) ?_;try simp only [Act.put]
  refine wpAnyH_take (i := 11) (oi := _) (v := undef) rfl (by kernel_rfl) (by kernel_rfl) (by kernel_rfl) (fun _ _ _ h => h) (Or.inr ⟨by rfl, rfl⟩) (by assumption) ?_;try simp only [Act.put]
  refine wpAnyH_take (i := 12) (oi := _) (v := undef) rfl (by kernel_rfl) (by kernel_rfl) (by kernel_rfl) (fun _ _ _ h => h) (Or.inr ⟨by rfl, rfl⟩) (by assumption) ?_;try simp only [Act.put]
  refine wpAnyH_take (i := 13) (oi := _) (v := undef) rfl (by kernel_rfl) (by kernel_rfl) (by kernel_rfl) (fun _ _ _ h => h) (Or.inr ⟨by rfl, rfl⟩) (by assumption) ?_;try simp only [Act.put]
  refine wpAnyH_take (i := 14) (oi := _) (v := undef) rfl (by kernel_rfl) (by kernel_rfl) (by kernel_rfl) (fun _ _ _ h => h) (Or.inr ⟨by rfl, rfl⟩) (by assumption) ?_;try simp only [Act.put]
  refine wpAnyH_take (i := 15) (oi := _) (v := undef) rfl (by kernel_rfl) (by kernel_rfl) (by kernel_rfl) (fun _ _ _ h => h) (Or.inr ⟨by rfl, rfl⟩) (by assumption) ?_;try simp only [Act.put]
  refine wpAnyH_ready (rs := [16]) (by kernel_rfl) (by simp) ?_;refine AllReadyH.cons (o := _) rfl (fun K hK => ?_) AllReadyH.nil;go_simp;refine hK.out _ _ (by assumption) (fun hHeld => ?_);clear hK K;try simp only [Act.put]
  refine wpAnyH_take (i := 17) (oi := _) (v := undef) rfl (by kernel_rfl) (by kernel_rfl) (by kernel_rfl) (fun _ _ _ h => h) (Or.inr ⟨by rfl, rfl⟩) (by assumption) ?_;try simp only [Act.put]
  refine zhk 18 ?_;try simp only [Act.put]
  refine zhk 19 ?_;try simp only [Act.put]
  refine wpAnyH_done (by kernel_rfl) ?_ _;go_wp2_with fail;go_ret;exact ⟨_, rfl, rfl, (zbt U h4)⟩
def findK (x y : Rat) (A : List SpanQ) : Option Nat := A.findIdx? (ce0 x y)
theorem if0 (w : World) (va : Value) (A : List SpanQ) (hA : RdSp w va A) (h0 : A.length <= 1000) (Q : ∀ s ∈ A, Sz 200 s.2.1 /\ Sz 200 s.2.2) (Be I g n cap J : Nat) (x y : Rat) (zx : Sz 200 x) (zy : Sz 200 y) (K : J + 1 < n) (d : n <= 1000)
 (v : w.cell? ⟨Be, 0, none⟩ = some (.slice (some ⟨g, 0, none⟩) n cap)) (q : w.cell? ⟨I, 0, none⟩ = some (.int .i64 ((J : Int) + 1))) (p : w.cell? ⟨g, J, none⟩ = some (.string (RS x))) (f : w.cell? ⟨g, J + 1, none⟩ = some (.string (RS y))) (hg : Good w) :
 Calls Tryz.prog 106 #[va, .func (.func 107) #[] #[.pointer (some ⟨Be, 0, none⟩), .pointer (some ⟨I, 0, none⟩)]] w (Ret (fun r _ => (∃ k, findK x y A = some k /\ k < A.length /\ r = .int .i64 (k : Int)) \/ (findK x y A = none /\ r = .int .i64 (-1))) w) := by
 have le := World.block_lt_of_cell? w _ v;have li := World.block_lt_of_cell? w _ q;have m := World.block_lt_of_cell? w _ p;have HF : Hid (∀ s ∈ A, ∀ w', Below w.heap.size w w' -> Calls Tryz.prog 107 #[.agg #[.int .i64 (s.1 : Int), .string (RS s.2.1), .string (RS s.2.2)], .pointer (some ⟨Be, 0, none⟩), .pointer (some ⟨I, 0, none⟩)] w' (Ret (fun r _ => r = .bool (ce0 x y s)) w')) := fun s R w' hb =>
  aFa w' s (Q s R).1 (Q s R).2 Be I g n cap J x y zx zy K d ((zcq hb le v :)) ((zcq hb li q :)) ((zcq hb m p :)) ((zcq hb m f :)) (hg.below hb)
 obtain ⟨pa, ca, rfl, Y⟩ := hA.cells;have E := hid Y;have D : Hid (∀ k s, A[k]? = some s -> ce0 x y s = true -> (∀ j t, j < k -> A[j]? = some t -> ce0 x y t = false) -> findK x y A = some k) := fun k s hk H hno => by
  obtain ⟨o, rfl⟩ := List.getElem?_eq_some_iff.1 hk;unfold findK;rw [List.findIdx?_eq_some_iff_getElem];exact ⟨o, H, fun j G => by rw [hno j _ G (List.getElem?_eq_getElem (by omega))]; simp⟩
 have C : Hid ((∀ j t, A[j]? = some t -> ce0 x y t = false) -> findK x y A = none) := fun hno => by
  unfold findK;rw [List.findIdx?_eq_none_iff];intro t V;obtain ⟨j, G⟩ := List.mem_iff_getElem?.1 V;exact hno j t G
 generalize findK x y A = fk at *;clear hA Y v q p f le li m Q zx zy K d;go_enter Tryz.func106, Tryz.ntmps106;go_wp2_with fail;go_loopw [5, 8] (fun _ t8 wr => ∃ i : Nat, t8 = .int .i64 i /\ i <= A.length /\ Hid (∀ j t, j < i -> A[j]? = some t -> ce0 x y t = false) /\ Below w.heap.size w wr) (fun _ t8 _ => A.length - (RowKit.intOf t8).toNat)
 case atStart => exact ⟨0, rfl, Nat.zero_le _, (fun j t h => by omega), Below.refl _ _⟩
 case round =>
  obtain ⟨i, rfl, hi, U, Z⟩ := hrel;rcases Nat.lt_or_ge i A.length with h | h
  ·obtain ⟨s, R⟩ : ∃ s, A[i]? = some s := ⟨_, List.getElem?_eq_getElem h⟩
   obtain ⟨b, off, rfl, S, H⟩ := E.out (List.ne_nil_of_length_pos (by omega));obtain ⟨c, a, k2⟩ := H i s R;have d0 := zcq Z S c;have d1 := zcq Z S a;have d2 := zcq Z S k2;have l := hid (HF.out s (List.mem_of_getElem? R) wr Z);have h2 : (i : Int) < (A.length : Int) := by omega
   have N := hid R;clear H c a k2 R;generalize L : ce0 x y s = cb at l;have O := hid L;clear L;go_wp2_with fail;refine l.out.mono ?_;rintro e w1 ⟨_, rfl, rfl, M⟩;have X := zbt Z M;clear d0 d1 d2 M;cases cb
   ·have z : Hid (∀ j t, j < i + 1 -> A[j]? = some t -> ce0 x y t = false) := fun j t G V => by
     by_cases e : j = i
     ·subst e; rw [N.out] at V; cases V; exact O.out
     ·exact U.out j t (by omega) V
    go_wp2_with fail;go_roundw
    case rel => exact ⟨i + 1, by go_num, by omega, z, X⟩
    case measure =>
     show A.length - ((i : Int) + 1).toNat < A.length - (i : Int).toNat;omega
   ·have B := hid (D.out i s N.out O.out U.out)
    go_wp2_with fail;go_ret;exact ⟨_, rfl, .inl ⟨i, B.out, h, rfl⟩, X⟩
  ·have B := hid (C.out (fun j t V => U.out j t (by have := (List.getElem?_eq_some_iff.1 V).1; omega) V))
   have h1 : (A.length : Int) <= (i : Int) := by omega
   go_wp2_with fail;go_ret;exact ⟨_, rfl, .inr ⟨B.out, rfl⟩, Z⟩
def sAt (P : List PtQ) (T : List Tri) (a b : PtQ) (i : Nat) : List SpanQ :=
 match T[i]? with
 | none => []
 | some tr => match wFF (ptI P tr.1) (ptI P tr.2.1) (ptI P tr.2.2) a b with
   | none => []
   | some l => [(i, l.1, l.2)]
def sNN (P : List PtQ) (T : List Tri) (a b : PtQ) (n : Nat) : List SpanQ := (List.range n).flatMap (sAt P T a b)
def endsS (A : List SpanQ) : List Rat := A.flatMap fun s => [s.2.1, s.2.2]
theorem sNs (P : List PtQ) (T : List Tri) (a b : PtQ) (n : Nat) : sNN P T a b (n + 1) = sNN P T a b n ++ sAt P T a b n := by
 unfold sNN;rw [List.range_succ, List.flatMap_append];simp
theorem eSa (A B : List SpanQ) : endsS (A ++ B) = endsS A ++ endsS B := by simp [endsS]
theorem eSl (A : List SpanQ) : (endsS A).length = 2 * A.length := by
 induction A with
 | nil => rfl
 | cons s A ih => unfold endsS at *; rw [List.flatMap_cons, List.length_append, ih]; simp; omega
theorem sAs {P : List PtQ} {T : List Tri} {a b : PtQ} {i : Nat} {tr : Tri} (Z : T[i]? = some tr) {l : Rat × Rat} (h : wFF (ptI P tr.1) (ptI P tr.2.1) (ptI P tr.2.2) a b = some l) : sAt P T a b i = [(i, l.1, l.2)] := by
 unfold sAt; rw [Z]; dsimp only; rw [h]
theorem sAn {P : List PtQ} {T : List Tri} {a b : PtQ} {i : Nat} {tr : Tri} (Z : T[i]? = some tr) (h : wFF (ptI P tr.1) (ptI P tr.2.1) (ptI P tr.2.2) a b = none) : sAt P T a b i = [] := by
 unfold sAt; rw [Z]; dsimp only; rw [h]
theorem sv0 (P : List PtQ) (T : List Tri) (a b : PtQ) (i : Nat) : (sAt P T a b i).length <= 1 := by
 unfold sAt;split
 ·simp
 ·split <;> simp
theorem sNl (P : List PtQ) (T : List Tri) (a b : PtQ) (n : Nat) : (sNN P T a b n).length <= n := by
 induction n with
 | zero => simp [sNN]
 | succ n ih => rw [sNs, List.length_append]; have := sv0 P T a b n; omega
def stepO (A : List SpanQ) (out : List SpanQ) (x y : Rat) : List SpanQ :=
 match findK x y A with
 | none => out
 | some k => match out.getLast? with
   | none => out ++ [((A[k]?.getD (0, 0, 0)).1, x, y)]
   | some l => if l.1 = (A[k]?.getD (0, 0, 0)).1 /\ l.2.2 = x then out.dropLast ++ [(l.1, l.2.1, y)] else out ++ [((A[k]?.getD (0, 0, 0)).1, x, y)]
def joinN (A : List SpanQ) (E : List Rat) : Nat -> List SpanQ
 | 0 => []
 | i + 1 => stepO A (joinN A E i) (E[i]?.getD 0) (E[i + 1]?.getD 0)
def aSS (A : List SpanQ) : List SpanQ := joinN A (sortD (endsS A)) ((sortD (endsS A)).length - 1)
def aLL (P : List PtQ) (T : List Tri) (a b : PtQ) : List SpanQ := aSS (sNN P T a b T.length)
theorem sOl (A out : List SpanQ) (x y : Rat) : (stepO A out x y).length <= out.length + 1 := by
 unfold stepO;split
 ·omega
 ·split
  ·simp
  ·split
   ·simp [List.length_dropLast] <;> omega
   ·simp
theorem jNl (A : List SpanQ) (E : List Rat) (i : Nat) : (joinN A E i).length <= i := by
 induction i with
 | zero => exact Nat.le_refl _
 | succ i ih => have := sOl A (joinN A E i) (E[i]?.getD 0) (E[i + 1]?.getD 0); unfold joinN; omega
theorem sOS {A out : List SpanQ} {x y : Rat} (hx : Sz 200 x) (hy : Sz 200 y) (h : ∀ s ∈ out, Sz 200 s.2.1 /\ Sz 200 s.2.2) : ∀ s ∈ stepO A out x y, Sz 200 s.2.1 /\ Sz 200 s.2.2 := by
 intro s Y;have new : ∀ n : Nat, s ∈ out ++ [(n, x, y)] -> Sz 200 s.2.1 /\ Sz 200 s.2.2 := fun n Z => by
  rcases List.mem_append.1 Z with Z | Z
  ·exact h s Z
  ·rw [List.mem_singleton] at Z; subst Z; exact ⟨hx, hy⟩
 unfold stepO at Y;split at Y
 ·exact h s Y
 ·split at Y
  ·exact new _ Y
  ·rename_i l hl
   split at Y
   ·rcases List.mem_append.1 Y with Z | Z
    ·exact h s (List.dropLast_subset _ Z)
    ·rw [List.mem_singleton] at Z; subst Z
     exact ⟨(h l (List.mem_of_getLast? hl)).1, hy⟩
   ·exact new _ Y
theorem gDS {E : List Rat} (h : ∀ q ∈ E, Sz 200 q) (i : Nat) : Sz 200 (E[i]?.getD 0) := by
 cases he : E[i]? with
 | none => exact Sz.zero _ (by omega)
 | some q => exact h q (List.mem_of_getElem? he)
theorem jNS {A : List SpanQ} {E : List Rat} (Z : ∀ q ∈ E, Sz 200 q) (i : Nat) : ∀ s ∈ joinN A E i, Sz 200 s.2.1 /\ Sz 200 s.2.2 := by
 induction i with
 | zero => intro s Y; cases Y
 | succ i ih => exact sOS (gDS Z _) (gDS Z _) ih
theorem iSn : ((Tryz.prog).info? 136).map (fun i => (i.zero, i.size, i.bytes)) = some (some (.agg #[.int .i64 0, .string ⟨#[]⟩, .string ⟨#[]⟩]), 3, 40) := by kernel_rfl
theorem soe (i : Int) (x y : ByteArray) : ∀ r ∈ [Value.int .i64 i, .string x, .string y], r.oneCell' = true := by
 intro r Z; simp at Z; rcases Z with rfl | rfl | rfl <;> rfl
structure ApW (W : World) (Be : Nat) (v0 : Value) (vA : Value) (nA : Nat) (LA : List Value) (vB : Value) (nB : Nat) (LB : List Value) (bA bB : Option Nat) (cA cB : List Value) (x : World) : Prop where
 oa : x.ownsRow W.heap.size 136 3 vA nA LA
 ob : x.ownsRow W.heap.size 40 1 vB nB LB
 box : BoxN x Be 37 [v0]
 gb : W.grownBy x (some Be)
 ka : ∀ b, bA = some b -> BoxN x b 136 cA /\ vA.ownBlock ≠ some b /\ W.heap.size <= b
 kb : ∀ b, bB = some b -> BoxN x b 40 cB /\ vB.ownBlock ≠ some b /\ W.heap.size <= b
theorem BoxN.alloc {w : World} {b t : Nat} {l : List Value} (h : BoxN w b t l) (o : Obj) : BoxN (w.alloc o) b t l := h.below ((Below.refl _ _).alloc (Nat.le_refl _) _) h.lt
theorem oi0 {w : World} {base e s n : Nat} {v : Value} {xs : List Value} (h : w.ownsRow base e s v n xs) : v.ownBlock ≠ some w.heap.size := fun e => by
 have := (h.lt _ e).2; omega
section
variable {W : World} {Be : Nat} {v0 vA vB : Value} {nA nB : Nat} {LA LB cA cB : List Value} {bA bB : Option Nat} {x : World}
theorem ApW.alloc_a (h : ApW W Be v0 vA nA LA vB nB LB none bB cA cB x) : ApW W Be v0 vA nA LA vB nB LB (some x.heap.size) bB cA cB (x.alloc (.cells cA.toArray 136)) where
 oa := h.oa.alloc _
 ob := h.ob.alloc _
 box := h.box.alloc _
 gb := gac h.gb _
 ka := fun b e => by cases e; exact ⟨BoxN.new _ _ _ _ rfl, oi0 h.oa, h.gb.size⟩
 kb := fun b e => ⟨(h.kb b e).1.alloc _, (h.kb b e).2⟩
theorem ApW.alloc_b (h : ApW W Be v0 vA nA LA vB nB LB bA none cA cB x) : ApW W Be v0 vA nA LA vB nB LB bA (some x.heap.size) cA cB (x.alloc (.cells cB.toArray 40)) where
 oa := h.oa.alloc _
 ob := h.ob.alloc _
 box := h.box.alloc _
 gb := gac h.gb _
 ka := fun b e => ⟨(h.ka b e).1.alloc _, (h.ka b e).2⟩
 kb := fun b e => by cases e; exact ⟨BoxN.new _ _ _ _ rfl, oi0 h.ob, h.gb.size⟩
theorem ApW.app_a {b : Nat} {w' : World} {vA' : Value} {n' : Nat} {L' : List Value} (h : ApW W Be v0 vA nA LA vB nB LB (some b) bB cA cB x) (Y : w'.ownsRow W.heap.size 136 3 vA' n' L') (Z : x.grownBy w' vA.ownBlock) : ApW W Be v0 vA' n' L' vB nB LB none bB cA cB w' where
 oa := Y
 ob := h.ob.kept Z (oat h.ob h.oa (by decide))
 box := h.box.gb Z (fun e => obN h.oa h.box (by decide) e.symm)
 gb := ggn h.gb Z (fun j e => (h.oa.lt j e).1)
 ka := fun b e => by cases e
 kb := fun b e => ⟨(h.kb b e).1.gb Z (fun e2 => obN h.oa (h.kb b e).1 (by decide) e2.symm), (h.kb b e).2⟩
theorem ApW.app_b {b : Nat} {w' : World} {vB' : Value} {n' : Nat} {L' : List Value} (h : ApW W Be v0 vA nA LA vB nB LB bA (some b) cA cB x) (Y : w'.ownsRow W.heap.size 40 1 vB' n' L') (Z : x.grownBy w' vB.ownBlock) : ApW W Be v0 vA nA LA vB' n' L' bA none cA cB w' where
 oa := h.oa.kept Z (oat h.oa h.ob (by decide))
 ob := Y
 box := h.box.gb Z (fun e => obN h.ob h.box (by decide) e.symm)
 gb := ggn h.gb Z (fun j e => (h.ob.lt j e).1)
 ka := fun b e => ⟨(h.ka b e).1.gb Z (fun e2 => obN h.ob (h.ka b e).1 (by decide) e2.symm), (h.ka b e).2⟩
 kb := fun b e => by cases e
theorem ApW.news_a {b : Nat} (h : ApW W Be v0 vA nA LA vB nB LB (some b) bB cA cB x) : ∀ j u, cA[j]? = some u -> x.cell? ((⟨b, 0, none⟩ : Addr).add j) = some u := by
 have := World.news_of_block (show x.heap[b]? = some (.cells cA.toArray 136 (0, 0)) from (h.ka b rfl).1);simpa using this
theorem ApW.news_b {b : Nat} (h : ApW W Be v0 vA nA LA vB nB LB bA (some b) cA cB x) : ∀ j u, cB[j]? = some u -> x.cell? ((⟨b, 0, none⟩ : Addr).add j) = some u := by
 have := World.news_of_block (show x.heap[b]? = some (.cells cB.toArray 40 (0, 0)) from (h.kb b rfl).1);simpa using this
theorem ApW.drew (h : ApW W Be v0 vA nA LA vB nB LB bA bB cA cB x) : ApW W Be v0 vA nA LA vB nB LB bA bB cA cB x.drew where
 oa := WRA h.oa (bdN x 1)
 ob := WRA h.ob (bdN x 1)
 box := h.box.drew
 gb := gbw h.gb (bdN x 1)
 ka := h.ka
 kb := h.kb
end
end Go.Proofs.YtbfcmipplhkkeaaGreatDoor
namespace Go.Proofs.YtbfcmipplhkkeaaGreatDoor
open Go.RowKit Go.Lib
theorem rCo (q : Rat) (h : Sz 200 q) (w : World) (X : Good w) :
 Calls Tryz.prog 61 #[.string (RS q)] w (Ret (fun r _ => r = .int .i64 0) w) := by
 have U := h.size (by omega);refine (cQa (RS q) (by omega) w X).mono ?_;rintro e w' ⟨v, Y, V, Z⟩;exact ⟨v, Y, by rw [V, Rlt, rQR h]; rfl, Z⟩
def cQQ (l : List Rat) : List Value := l.map fun q => Value.string (RS q)
theorem toe (x y : ByteArray) : ∀ u ∈ [Value.string x, .string y], u.oneCell' = true := tsr x y
theorem iDl (x : Rat) (l : List Rat) : (insD x l).length <= l.length + 1 := by
 induction l with
 | nil => simp [insD]
 | cons y l ih =>
   unfold insD;split
   ·simp
   ·split
    ·simpa using ih
    ·simp
theorem sDl (l : List Rat) : (sortD l).length <= l.length := by
 unfold sortD
 induction l with
 | nil => simp
 | cons x l ih => rw [List.foldr_cons, List.length_cons]; exact Nat.le_trans (iDl x _) (by omega)
def RowV (w : World) (v : Value) (l : List Rat) : Prop := (v = .slice none 0 0 /\ l = []) \/ ∃ g cap, v = .slice (some ⟨g, 0, none⟩) l.length cap /\ RowQ w g l /\ l.length <= cap /\ g < w.heap.size
theorem RowV.of_own {w : World} {base e n : Nat} {v : Value} {l : List Rat} (h : w.ownsRow base e 1 v n (cQQ l)) (R : n = l.length) : RowV w v l := by
 subst R;rcases h.2 with ⟨Z, X⟩ | ⟨g, cap, Y, Z, Q, S, U, _⟩
 ·exact .inl ⟨Z, List.length_eq_zero_iff.1 X⟩
 ·subst Z
  refine .inr ⟨g, cap, rfl, fun a q ha => ?_, U, (Array.getElem?_eq_some_iff.1 S).1⟩;have V := (List.getElem?_eq_some_iff.1 ha).1;refine ⟨?_, h.frozenAt a⟩;rw [h.cellAt a (by omega)];unfold cQQ;rw [List.getElem?_map, ha]; rfl
theorem RowV.shape {w : World} {v : Value} {l : List Rat} (h : RowV w v l) : ∃ p c, v = .slice p l.length c := by
 rcases h with ⟨rfl, rfl⟩ | ⟨g, cap, rfl, _⟩
 ·exact ⟨_, _, rfl⟩
 ·exact ⟨_, _, rfl⟩
theorem RowV.setFar {w : World} {v : Value} {l : List Rat} (h : RowV w v l) (b i : Nat) (u : Value) (X : v.ownBlock ≠ some b) : RowV (w.setCell ⟨b, i, none⟩ u) v l := by
 rcases h with ⟨rfl, rfl⟩ | ⟨g, cap, rfl, Y, V, U⟩
 ·exact .inl ⟨rfl, rfl⟩
 ·have Z : b ≠ g := fun e => X (by rw [e]; rfl)
  exact .inr ⟨g, cap, rfl, fun a q ha => ⟨(World.cell?_setCell_far _ _ _ _ Z).trans (Y a q ha).1, by rw [World.frozen?_setCell]; exact (Y a q ha).2⟩, V, by simpa using U⟩
theorem RowV.below {w w' : World} {v : Value} {l : List Rat} {B : Nat} (h : RowV w v l) (Y : Below B w w') (V : ∀ g, v.ownBlock = some g -> g < B) : RowV w' v l := by
 rcases h with ⟨rfl, rfl⟩ | ⟨g, cap, rfl, X, U, S⟩
 ·exact .inl ⟨rfl, rfl⟩
 ·have Z := V g rfl
  exact .inr ⟨g, cap, rfl, fun a q ha => ⟨(zcq Y Z (X a q ha).1 :), (Y.frozen (p := ⟨g, a, none⟩) Z).trans (X a q ha).2⟩, U, Nat.lt_of_lt_of_le S Y.size⟩
theorem RowV.lt {w : World} {v : Value} {l : List Rat} (h : RowV w v l) (g : Nat) (Y : v.ownBlock = some g) : g < w.heap.size := by
 rcases h with ⟨rfl, rfl⟩ | ⟨X, cap, rfl, U, V, Z⟩
 ·cases Y
 ·cases Y; exact Z
theorem RowV.at {w : World} {v : Value} {l : List Rat} (h : RowV w v l) {a : Nat} {q : Rat} (Z : l[a]? = some q) : ∃ g cap, v = .slice (some ⟨g, 0, none⟩) l.length cap /\ g < w.heap.size /\ RowQ w g l := by
 rcases h with ⟨rfl, rfl⟩ | ⟨g, cap, rfl, X, V, Y⟩
 ·cases Z
 ·exact ⟨g, cap, rfl, Y, X⟩
theorem wSS {a b p q : PtQ} {m : Nat} (Y : SzP m p) (X : SzP m q) (S : SzP m a) (R : SzP m b) {l r : Rat × Rat} (Z : Sz (24 * m + 16) l.1 /\ Sz (24 * m + 16) l.2) (h : wStep a b (some l) (p, q) = some r) : Sz (24 * m + 16) r.1 /\ Sz (24 * m + 16) r.2 := by
 have U := aQS Y X S;have Q := aQS Y X R;have V : Sz (24 * m + 16) (areaQ p q a / (areaQ p q a - areaQ p q b)) := (U.div (U.sub Q) (by omega)).mono (by omega);unfold wStep at h;dsimp only at h;split at h
 ·split at h
  ·cases h
  ·cases h; exact Z
 ·split at h
  ·cases h; exact ⟨mf0 Z.1 V, Z.2⟩
  ·cases h; exact ⟨Z.1, mQS Z.2 V⟩
theorem wFS {c0 c1 c2 a b : PtQ} {m : Nat} (Q : m <= 7) (U : SzP m c0) (S : SzP m c1) (R : SzP m c2) (X : SzP m a) (V : SzP m b) {l : Rat × Rat} (h : wFF c0 c1 c2 a b = some l) : Sz 200 l.1 /\ Sz 200 l.2 /\ l.1 < l.2 := by
 have step : ∀ i, i <= 3 -> ∀ r, wNN c0 c1 c2 a b i = some r -> Sz (24 * m + 16) r.1 /\ Sz (24 * m + 16) r.2 := by
  intro i
  induction i with
  | zero => intro _ r Z; cases Z; exact ⟨Sz.zero _ (by omega), Sz.one.mono (by omega)⟩
  | succ i ih =>
    intro O r Z;rw [wNs _ _ _ _ _ i (by omega)] at Z;cases hn : wNN c0 c1 c2 a b i with
    | none => rw [hn] at Z; cases Z
    | some l' =>
      rw [hn] at Z;have Y := ih (by omega) l' hn;rcases (by omega : i = 0 \/ i = 1 \/ i = 2) with rfl | rfl | rfl
      ·exact wSS U S X V Y Z
      ·exact wSS S R X V Y Z
      ·exact wSS R U X V Y Z
 unfold wFF at h;cases hn : wNN c0 c1 c2 a b 3 with
 | none => rw [hn] at h; cases h
 | some l' =>
   rw [hn] at h;simp only [Option.bind_some] at h;split at h
   ·cases h
    have := step 3 (by omega) _ hn;exact ⟨this.1.mono (by omega), this.2.mono (by omega), by assumption⟩
   ·cases h
theorem sNS {P : List PtQ} {T : List Tri} {a b : PtQ} {k m : Nat} (Q : MeshOK P T k) (Z : k <= m) (X : m <= 7) (O : SzP m a) (N : SzP m b) (n : Nat) : ∀ s ∈ sNN P T a b n, Sz 200 s.2.1 /\ Sz 200 s.2.2 := by
 intro s V;unfold sNN at V;obtain ⟨i, _, Y⟩ := List.mem_flatMap.1 V;unfold sAt at Y;split at Y
 ·cases Y
 ·rename_i tr htr
  obtain ⟨U, S, R⟩ := pIS Q (List.mem_of_getElem? htr);split at Y
  ·cases Y
  ·rename_i l hl
   rw [List.mem_singleton] at Y;subst Y;have := wFS X ⟨U.1.mono Z, U.2.mono Z⟩ ⟨S.1.mono Z, S.2.mono Z⟩ ⟨R.1.mono Z, R.2.mono Z⟩ O N hl;exact ⟨this.1, this.2.1⟩
theorem eSS {A : List SpanQ} (h : ∀ s ∈ A, Sz 200 s.2.1 /\ Sz 200 s.2.2) : ∀ q ∈ endsS A, Sz 200 q := by
 intro q hq;unfold endsS at hq;obtain ⟨s, Z, hq⟩ := List.mem_flatMap.1 hq;simp at hq;rcases hq with rfl | rfl
 ·exact (h s Z).1
 ·exact (h s Z).2
theorem sOn {A out : List SpanQ} {x y : Rat} (h : findK x y A = none) : stepO A out x y = out := by unfold stepO; rw [h]
theorem st0 {A : List SpanQ} {x y : Rat} {k : Nat} {s : SpanQ} (h : findK x y A = some k) (Z : A[k]? = some s) : stepO A [] x y = [(s.1, x, y)] := by
 unfold stepO; rw [h]; simp [Z]
theorem su0 {A L : List SpanQ} {l : SpanQ} {x y : Rat} {k : Nat} {s : SpanQ} (h : findK x y A = some k) (Y : A[k]? = some s) (Z : ¬ (l.1 = s.1 /\ l.2.2 = x)) : stepO A (L ++ [l]) x y = L ++ [l] ++ [(s.1, x, y)] := by
 unfold stepO; rw [h]; simp only [List.getLast?_concat, Option.getD_some, Y]; rw [if_neg Z]
theorem sOe {A L : List SpanQ} {l : SpanQ} {x y : Rat} {k : Nat} {s : SpanQ} (h : findK x y A = some k) (Y : A[k]? = some s) (Z : l.1 = s.1 /\ l.2.2 = x) : stepO A (L ++ [l]) x y = L ++ [(l.1, l.2.1, y)] := by
 unfold stepO; rw [h]; simp only [List.getLast?_concat, Option.getD_some, Y]; rw [if_pos Z, List.dropLast_concat]
theorem cSl (l : List SpanQ) : (cSS l).length = l.length * 3 := by
 induction l with
 | nil => rfl
 | cons s l ih => unfold cSS at *; rw [List.flatMap_cons, List.length_append, ih]; simp [cellS]; omega
theorem cSe (L : List SpanQ) (l : SpanQ) (y : Rat) : (cSS (L ++ [l])).set (L.length * 3 + 2) (.string (RS y)) = cSS (L ++ [(l.1, l.2.1, y)]) := by
 rw [cSs, cSs, List.set_append_right _ _ (by rw [cSl]; omega), cSl, show L.length * 3 + 2 - L.length * 3 = 2 by omega];rfl
theorem sVa (V w : World) (v : Value) (X : List Rat) (Q : X.length <= 12) (O : ∀ q ∈ X, Sz 200 q) (Y : RowV w v X) (R : Below V.heap.size V w) (U : ∀ g, v.ownBlock = some g -> V.heap.size <= g) (J : Good V) :
 Calls Tryz.prog 103 #[v, .func (.func 104) #[] #[]] w
  (fun e w' => e = .returned (.tuple #[]) /\ ∃ l, l.Perm X /\ STo l l.length /\ RowV w' v l /\ w.grownBy w' v.ownBlock) := by
 rcases Y with ⟨rfl, rfl⟩ | ⟨g, cap, rfl, I, K, Z⟩
 ·have h := AnyF.slices_SortFunc_none (P := Tryz.prog) (ρ := Tryz.sortRat0_ren) Tryz.sortRat0 none 0 (.func (.func 104) #[] #[]) w
  change Calls Tryz.prog 103 _ _ _ at h;refine h.mono ?_;rintro e w' ⟨rfl, rfl⟩;exact ⟨rfl, [], List.Perm.refl _, (fun a b x y _ _ h => by cases h), .inl ⟨rfl, rfl⟩, grl _ _⟩
 ·refine (so0 V w g cap X Q O I Z R (U g rfl) J).mono ?_
  rintro e w' ⟨rfl, l, S, M, L, N⟩;exact ⟨rfl, l, S, M, .inr ⟨g, cap, by rw [S.length_eq], L, by rw [S.length_eq]; exact K, Nat.lt_of_lt_of_le Z N.size⟩, N⟩
theorem cNa (w : World) :
 Calls Tryz.prog 105 #[.slice none 0 0] w (fun e w' => e = .returned (.slice none 0 0) /\ w' = w) := by
 go_enter Tryz.func105, Tryz.ntmps105;go_wp2_with fail;go_ret;exact ⟨rfl, rfl⟩
theorem cVa (w : World) (v : Value) (l : List Rat) (X : l.length <= 1000) (O : STo l l.length) (Z : RowV w v l) :
 Calls Tryz.prog 105 #[v] w
  (fun e w' => ∃ v', e = .returned v' /\ RowV w' v' (sortD l) /\ v'.ownBlock = v.ownBlock /\ w.grownBy w' v.ownBlock) := by
 rcases Z with ⟨rfl, rfl⟩ | ⟨g, cap, rfl, Q, S, Y⟩
 ·refine (cNa w).mono ?_
  rintro e w' ⟨rfl, rfl⟩;exact ⟨_, rfl, .inl ⟨rfl, rfl⟩, rfl, grl _ _⟩
 ·refine (cRa w g cap l X O Q S).mono ?_
  rintro e w' ⟨rfl, U, V⟩;have R := sDl l;exact ⟨_, rfl, .inr ⟨g, cap, rfl, U, by omega, Nat.lt_of_lt_of_le Y V.size⟩, rfl, V⟩
end Go.Proofs.YtbfcmipplhkkeaaGreatDoor
