import Derived.Test.YtbfcmipplhkkeaaGreatDoorRF73
/- The walks over thickness.Isopach, slices.Equal of segments, klippelaw38.same. klippelaw13.FieldRounds Plain The walks over klipperef05.Turn, RightPoint, klipperef09.Where. The walks over klipperef05.Inside, Between. klippelaw13.FieldRounds returns true -/
set_option maxHeartbeats 16000000
set_option maxRecDepth 100000
namespace Go.Proofs.YtbfcmipplhkkeaaGreatDoor
open Go.RowKit Go.Lib
theorem segRow_open {w : World} {base e : Nat} {v : Value} {l : List Seg} (h : w.ownsRow base e 5 v l.length (cellsG l)) : ∃ p c, v = .slice p l.length c /\ (l ≠ [] -> ∃ g, p = some ⟨g, 0, none⟩ /\ g < w.heap.size /\
 ∀ (i : Nat) (hi : i < l.length), w.cell? ⟨g, i * 5, none⟩ = some (.int .i64 l[i].1) /\ w.cell? ⟨g, i * 5 + 1, none⟩ = some (.string (RS l[i].2.1.1)) /\ w.cell? ⟨g, i * 5 + 2, none⟩ = some (.string (RS l[i].2.1.2)) /\ w.cell? ⟨g, i * 5 + 3, none⟩ = some (.string (RS l[i].2.2.1)) /\ w.cell? ⟨g, i * 5 + 4, none⟩ = some (.string (RS l[i].2.2.2))) := by
 rcases h.2 with ⟨hv, h0⟩ | ⟨g, cap, cur, rfl, _, hg, _⟩
 ·exact ⟨none, 0, by rw [hv, h0], fun hne => absurd (List.length_eq_zero_iff.1 h0) hne⟩
 ·refine ⟨_, cap, rfl, fun _ => ⟨g, rfl, (Array.getElem?_eq_some_iff.1 hg).1, fun i hi => ?_⟩⟩
  have hc := World.ownsRow.cells h (g := g) rfl;have hadd : ∀ j, (⟨g, 0, none⟩ : Addr).add j = ⟨g, j, none⟩ := fun j => by unfold Addr.add; split <;> simp_all
  have e := getElem?_flatMap_const cellG 5 (fun _ => rfl) l i;have key : ∀ (j : Nat) (hj : j < 5) (u : Value), (cellG l[i])[j]? = some u -> w.cell? ⟨g, i * 5 + j, none⟩ = some u := fun j hj u hu => by
   have := hc (i * 5 + j) u (by unfold cellsG; rw [e j hj, List.getElem?_eq_getElem hi]; exact hu);rw [hadd] at this;exact this
  exact ⟨key 0 (by omega) _ rfl, key 1 (by omega) _ rfl, key 2 (by omega) _ rfl, key 3 (by omega) _ rfl, key 4 (by omega) _ rfl⟩
theorem SegV.below {w w' : World} {b : Nat} {v : Value} {l : List Seg} (h : SegV w b v l) (hb : Below w.heap.size w w') : SegV w' b v l := World.ownsRow.belowAll h hb
def offB (P : List PtQ) (B : List Int) (p : PtQ) (k : Nat) : Prop := ∀ i, i < k -> btwQ (ptI P (B[i]?.getD 0)) (ptI P (B[(i + 1) % B.length]?.getD 0)) p = false
def onBd (P : List PtQ) (B : List Int) (p : PtQ) : Nat -> Bool
 | 0 => false
 | k + 1 => onBd P B p k || btwQ (ptI P (B[k]?.getD 0)) (ptI P (B[(k + 1) % B.length]?.getD 0)) p
theorem onBd_off {P : List PtQ} {B : List Int} {p : PtQ} : ∀ {k : Nat}, onBd P B p k = false -> offB P B p k
 | 0, _, i, hi => by omega
 | k + 1, h, i, hi => by
   have h' : (onBd P B p k || btwQ (ptI P (B[k]?.getD 0)) (ptI P (B[(k + 1) % B.length]?.getD 0)) p) = false := h;rw [Bool.or_eq_false_iff] at h';rcases Nat.lt_or_ge i k with h1 | h1
   ·exact onBd_off h'.1 i h1
   ·obtain rfl : i = k := by omega
    exact h'.2
theorem fieldRounds_walk (w : World) (kz s0 s1 : Int) (half : Bool) (a0 a1 a2 a3 a4 a5 : Int) (ah : Bool) (b0 b1 b2 b3 b4 b5 : Int) (bh : Bool) (z : Int) (hz : -128 <= z /\ z <= 127) (P : List PtQ) (T : List Tri) (F : List Rat) (L : List Seg) (B : List Int) (sz : ByteArray)
 (hL : L.length <= 48) (hB8 : B.length <= 8) (hP6 : P.length <= 6) (hBin : ∀ i, (hi : i < B.length) -> ∃ n : Nat, B[i] = (n : Int) /\ n < P.length)
 (HMK : Hid (∀ w, Good w -> Calls Tryz.prog 6 #[.agg #[.int .u8 kz, .int .i8 s0, .int .i8 s1, .bool half]] w (Ret (fun r w' => ∃ vp vt, r = .agg #[vp, vt] /\ RdP w' vp (strP P) /\ RdT w' vt T) w)))
 (HMF : Hid (∀ w vp vt, RdP w vp (strP P) -> RdT w vt T -> Good w -> Calls Tryz.prog 7 #[.agg #[vp, vt], .agg #[.int .i8 a0, .int .i8 a1, .int .i8 a2, .int .i8 a3, .int .i8 a4, .int .i8 a5, .bool ah]] w (Ret (fun r w' => FieldIn w' vp vt r P T 2 F) w)))
 (HOF : Hid (∀ w, Good w -> Calls Tryz.prog 8 #[.int .i64 (z.tmod 20), .int .i64 2] w (Ret (fun r _ => r = .string sz) w)))
 (HLV : Hid (∀ w vp vt vf, FieldIn w vp vt vf P T 2 F -> Good w -> Calls Tryz.prog 9 #[.agg #[vp, vt], vf, .string sz] w (Ret (fun r w' => ∃ v, r = .tuple #[v, .int .i64 0] /\ SegV w' w.heap.size v L) w)))
 (HBD : Hid (∀ w vp vt, RdP w vp (strP P) -> RdT w vt T -> Good w -> Calls Tryz.prog 10 #[.agg #[vp, vt]] w (Ret (fun r w' => ∃ v, r = .tuple #[v, .int .i64 0] /\ RdI .i64 w' v B) w)))
 (HVL : Hid (∀ s ∈ L, ∀ p : PtQ, (p = s.2.1 \/ p = s.2.2) -> ∀ w vp vt vf, FieldIn w vp vt vf P T 2 F -> Good w -> Calls Tryz.prog 11 #[.agg #[vp, vt], vf, .agg #[.string (RS p.1), .string (RS p.2)]] w (Ret (fun r _ => r = .tuple #[.string sz, .int .i64 0]) w)))
 (HBW : Hid (∀ s ∈ L, ∀ p : PtQ, (p = s.2.1 \/ p = s.2.2) -> ∀ i j : Int, ∀ w, Good w -> Calls Tryz.prog 12 #[.agg #[.string (RS (ptI P i).1), .string (RS (ptI P i).2)], .agg #[.string (RS (ptI P j).1), .string (RS (ptI P j).2)], .agg #[.string (RS p.1), .string (RS p.2)]] w (Ret (fun r _ => r = .bool (btwQ (ptI P i) (ptI P j) p)) w)))
 (HNT : Hid (∀ s ∈ L, ∀ p : PtQ, (p = s.2.1 \/ p = s.2.2) -> offB P B p B.length -> netL p L = 0))
 (hg : Good w) :
 Calls Tryz.prog 3 #[.agg #[.int .u8 kz, .int .i8 s0, .int .i8 s1, .bool half, .int .i8 a0, .int .i8 a1, .int .i8 a2, .int .i8 a3, .int .i8 a4, .int .i8 a5, .bool ah, .int .i8 b0, .int .i8 b1, .int .i8 b2, .int .i8 b3, .int .i8 b4, .int .i8 b5, .bool bh], .int .i8 z] w (Ret (fun r _ => r = .bool true) w) := by
 have HBI := hid hBin;clear hBin;go_enter Tryz.func3, Tryz.ntmps3;go_wp2_with fail;obtain ⟨W, hW⟩ : ∃ W, W = w.alloc (.cells #[.int .u8 kz, .int .i8 s0, .int .i8 s1, .bool half, .int .i8 a0, .int .i8 a1, .int .i8 a2, .int .i8 a3, .int .i8 a4, .int .i8 a5, .bool ah, .int .i8 b0, .int .i8 b1, .int .i8 b2, .int .i8 b3, .int .i8 b4, .int .i8 b5, .bool bh] 30) := ⟨_, rfl⟩;have hB : Below w.heap.size w W := by rw [hW]; exact zal _ _
 have bi : BoxN W w.heap.size 30 [.int .u8 kz, .int .i8 s0, .int .i8 s1, .bool half, .int .i8 a0, .int .i8 a1, .int .i8 a2, .int .i8 a3, .int .i8 a4, .int .i8 a5, .bool ah, .int .i8 b0, .int .i8 b1, .int .i8 b2, .int .i8 b3, .int .i8 b4, .int .i8 b5, .bool bh] := by rw [hW]; exact BoxN.new _ _ _ _ rfl
 rw [<- hW];clear hW;refine (known13_any W (hg.below hB)).mono ?_;rintro e o1 ⟨_, rfl, rfl, hb1⟩;have hB1 := hB.trans (hb1.mono hB.size);have bi1 := bi.below hb1 bi.lt;clear hb1 hB bi;have k0 := bi1.cell 0 rfl;have k1 := bi1.cell 1 rfl;have k2 := bi1.cell 2 rfl;have k3 := bi1.cell 3 rfl;go_wp2_with fail;refine (HMK.out o1 (hg.below hB1)).mono ?_;rintro e o2 ⟨_, rfl, ⟨vp, vt, rfl, hp, ht⟩, hb2⟩;have hB2 := hB1.trans (hb2.mono hB1.size);have bi2 := bi1.below hb2 bi1.lt;have HPC := hid (fun h0 : 0 < P.length => hp.cells h0);obtain ⟨pp, cp, rfl, -, -, -⟩ := hp.open;obtain ⟨pt, ct, rfl, -, -, -⟩ := ht.open;rw [strP_length] at *;clear hb2 hB1 bi1 k0 k1 k2 k3 HMK;go_upto_region 4 with fail;obtain ⟨o3, ho3⟩ : ∃ W, W = o2.alloc (.cells #[.slice pp P.length cp, .slice pt T.length ct] 35) := ⟨_, rfl⟩;have h23 : Below o2.heap.size o2 o3 := by rw [ho3]; exact zal _ _
 have bm : BoxN o3 o2.heap.size 35 [.slice pp P.length cp, .slice pt T.length ct] := by rw [ho3]; exact BoxN.new _ _ _ _ rfl
 have hB3 := hB2.trans (h23.mono hB2.size);have bi3 := bi2.below h23 bi2.lt;have hp3 := RdC.below hp h23;have ht3 := RdC.below ht h23;rw [<- ho3];clear ho3 hp ht bi2 hB2;have m0 := bm.cell 0 rfl;have m1 := bm.cell 1 rfl;have k4 := bi3.cell 4 rfl;have k5 := bi3.cell 5 rfl;have k6 := bi3.cell 6 rfl;have k7 := bi3.cell 7 rfl;have k8 := bi3.cell 8 rfl;have k9 := bi3.cell 9 rfl;have k10 := bi3.cell 10 rfl;go_wp2_with fail;refine (HMF.out o3 _ _ hp3 ht3 (hg.below hB3)).mono ?_;rintro e o4 ⟨_, rfl, hF4, hb4⟩;have hB4 := hB3.trans (hb4.mono hB3.size);have h24 := h23.trans (hb4.mono h23.size);have bm4 := bm.below hb4 bm.lt;have HF4 := hid hF4;obtain ⟨_, _, _, _, pf, cf, -, -, rfl⟩ := hF4.open;clear m0 m1 k4 k5 k6 k7 k8 k9 k10 hb4 hB3 bi3 bm hp3 ht3 hF4 HMF h23;have hw8 : IntKind.i64.wrap z = z := IntWalk.i64_in _ (by omega);go_wp2_with fail;refine (HOF.out o4 (hg.below hB4)).mono ?_;rintro e o5 ⟨_, rfl, rfl, hb5⟩;have hB5 := hB4.trans (hb5.mono hB4.size);have h25 := h24.trans (hb5.mono h24.size);have bm5 := bm4.below hb5 bm4.lt;have HF5 := hid (HF4.out.below hb5);clear hb5 hB4 bm4 HF4 HOF h24 hw8;have m0 := bm5.cell 0 rfl;have m1 := bm5.cell 1 rfl;go_wp2_with fail;refine (HLV.out o5 _ _ _ HF5.out (hg.below hB5)).mono ?_;rintro e o6 ⟨_, rfl, ⟨v8, rfl, hsg⟩, hb6⟩;have hB6 := hB5.trans (hb6.mono hB5.size);have h26 := h25.trans (hb6.mono h25.size);have bm6 := bm5.below hb6 bm5.lt;have HF6 := hid (HF5.out.below hb6);obtain ⟨p8, c8, rfl, hr8⟩ := segRow_open hsg;have H8 := hid hr8;clear m0 m1 hb6 hB5 bm5 HF5 h25 HLV hsg hr8;have m0 := bm6.cell 0 rfl;have m1 := bm6.cell 1 rfl;go_wp2_with fail;refine (HBD.out o6 _ _ HF6.out.p HF6.out.t (hg.below hB6)).mono ?_;rintro e o7 ⟨_, rfl, ⟨v10, rfl, hbd⟩, hb7⟩;have hB7 := hB6.trans (hb7.mono hB6.size);have h27 := h26.trans (hb7.mono h26.size);have bm7 := bm6.below hb7 bm6.lt;have HF7 := hid (HF6.out.below hb7);obtain ⟨p10, c10, rfl, -, -, hr10⟩ := hbd.open;have H10 := hid hr10;have H8' : Hid (L ≠ [] -> ∃ g, p8 = some ⟨g, 0, none⟩ /\ g < o7.heap.size /\ ∀ (i : Nat) (hi : i < L.length), o7.cell? ⟨g, i * 5, none⟩ = some (.int .i64 L[i].1) /\ o7.cell? ⟨g, i * 5 + 1, none⟩ = some (.string (RS L[i].2.1.1)) /\ o7.cell? ⟨g, i * 5 + 2, none⟩ = some (.string (RS L[i].2.1.2)) /\ o7.cell? ⟨g, i * 5 + 3, none⟩ = some (.string (RS L[i].2.2.1)) /\ o7.cell? ⟨g, i * 5 + 4, none⟩ = some (.string (RS L[i].2.2.2))) := fun hne => by
  obtain ⟨g, e, hgl, hc⟩ := H8.out hne;refine ⟨g, e, Nat.lt_of_lt_of_le hgl hb7.size, fun i hi => ?_⟩;obtain ⟨c0, c1, c2, c3, c4⟩ := hc i hi;exact ⟨(zcq hb7 hgl c0 :), (zcq hb7 hgl c1 :), (zcq hb7 hgl c2 :), (zcq hb7 hgl c3 :), (zcq hb7 hgl c4 :)⟩
 have HPC7 : Hid (0 < P.length -> ∃ b o : Nat, pp = some ⟨b, o, none⟩ /\ b < o7.heap.size /\ ∀ i : Nat, i < P.length -> o7.cell? ⟨b, o + i * 2, none⟩ = some (.string (RS (ptI P i).1)) /\ o7.cell? ⟨b, o + i * 2 + 1, none⟩ = some (.string (RS (ptI P i).2))) := fun h0 => by
  obtain ⟨b, o, c, e, hb, hc⟩ := HPC.out h0;injection e with e1 _ _
  refine ⟨b, o, e1, Nat.lt_of_lt_of_le hb h27.size, fun i hi => ?_⟩;obtain ⟨c0, c1⟩ := hc i hi;exact ⟨(zcq h27 hb c0 :), (zcq h27 hb c1 :)⟩
 clear m0 m1 hb7 hB6 bm6 HF6 h26 HBD H8 HPC hbd hr10 h27;go_wp2_with fail;go_loopw [12] (fun t12 wr => ∃ i : Nat, t12 = .int .i64 i /\ i <= L.length /\ Below o7.heap.size o7 wr) (fun t12 _ => L.length - (RowKit.intOf t12).toNat)
 case atStart => exact ⟨0, rfl, Nat.zero_le _, Below.refl _ _⟩
 case round =>
  obtain ⟨i, rfl, hin, hbr⟩ := hrel;obtain ⟨wo, hwo⟩ : ∃ wo : World, wo = wr := ⟨_, rfl⟩;subst hwo;have hBr := hB7.trans (hbr.mono hB7.size);rcases Nat.lt_or_ge i L.length with hlt | hlt
  ·have hiz : (i : Int) < (L.length : Int) := by omega
   obtain ⟨g8, rfl, hg8, hc8⟩ := H8'.out (List.ne_nil_of_length_pos (by omega));obtain ⟨-, x1, x2, x3, x4⟩ := hc8 i hlt;replace x1 := (zcq hbr hg8 x1 :);replace x2 := (zcq hbr hg8 x2 :);replace x3 := (zcq hbr hg8 x3 :);replace x4 := (zcq hbr hg8 x4 :);have HC8 : Hid (∀ w', Below o7.heap.size o7 w' -> ∀ (k : Nat) (hk : k < L.length), w'.cell? ⟨g8, k * 5 + 1, none⟩ = some (.string (RS L[k].2.1.1)) /\ w'.cell? ⟨g8, k * 5 + 2, none⟩ = some (.string (RS L[k].2.1.2)) /\ w'.cell? ⟨g8, k * 5 + 3, none⟩ = some (.string (RS L[k].2.2.1)) /\ w'.cell? ⟨g8, k * 5 + 4, none⟩ = some (.string (RS L[k].2.2.2))) := fun w' hb k hk => by
    obtain ⟨-, c1, c2, c3, c4⟩ := hc8 k hk;exact ⟨(zcq hb hg8 c1 :), (zcq hb hg8 c2 :), (zcq hb hg8 c3 :), (zcq hb hg8 c4 :)⟩
   have hsm : L[i] ∈ L := List.getElem_mem hlt;have HVLs : Hid (∀ p : PtQ, (p = L[i].2.1 \/ p = L[i].2.2) -> _) := HVL.out L[i] hsm;have HBWs : Hid (∀ p : PtQ, (p = L[i].2.1 \/ p = L[i].2.2) -> _) := HBW.out L[i] hsm;have HNTs : Hid (∀ p : PtQ, (p = L[i].2.1 \/ p = L[i].2.2) -> _) := HNT.out L[i] hsm;obtain ⟨p, hp⟩ : ∃ p, p = L[i].2.1 := ⟨_, rfl⟩;obtain ⟨q, hq⟩ : ∃ q, q = L[i].2.2 := ⟨_, rfl⟩;rw [<- hp] at HVLs HBWs HNTs x1 x2;rw [<- hq] at HVLs HBWs HNTs x3 x4;have lg : g8 < wo.heap.size := Nat.lt_of_lt_of_le hg8 hbr.size;clear hc8 hsm hp hq HVL HBW HNT;go_upto_region 13 with fail;go_region;obtain ⟨U, hU⟩ : ∃ U, U = (wo.alloc (.cells #[.string (RS p.1), .string (RS p.2), .string (RS q.1), .string (RS q.2)] 50)).drew := ⟨_, rfl⟩;have hbU : Below wo.heap.size wo U := by rw [hU]; exact ((Below.refl _ _).alloc (Nat.le_refl _) _).trans ((below_drewN _ 1).mono (by simp))
   have bs : BoxN U wo.heap.size 50 [.string (RS p.1), .string (RS p.2), .string (RS q.1), .string (RS q.2)] := by
    rw [hU];have h1 := BoxN.new wo #[.string (RS p.1), .string (RS p.2), .string (RS q.1), .string (RS q.2)] 50 _ rfl;exact h1.below (below_drewN _ 1) h1.lt
   rw [<- hU];have hbU7 := hbr.trans (hbU.mono hbr.size);clear hU x1 x2 x3 x4 hbU;go_wp2_with fail;go_loopw [70] (fun t70 wr => ∃ j : Nat, t70 = .int .i64 j /\ j <= 2 /\ Below U.heap.size U wr) (fun t70 _ => 2 - (RowKit.intOf t70).toNat)
   case atStart => exact ⟨0, rfl, by omega, Below.refl _ _⟩
   case round =>
    obtain ⟨j, rfl, hj2, hbj⟩ := hrel;obtain ⟨wi, hwi⟩ : ∃ wi : World, wi = wr := ⟨_, rfl⟩;subst hwi;have hbj7 := hbU7.trans (hbj.mono hbU7.size);have hBj := hB7.trans (hbj7.mono hB7.size);have bsj := bs.below hbj bs.lt;rcases Nat.lt_or_ge j 2 with hj | hj
    ·have hjz : (j : Int) < 2 := by omega
     have hx : ∃ x : PtQ, (x = p \/ x = q) /\ wi.cell? ⟨wo.heap.size, j * 2, none⟩ = some (.string (RS x.1)) /\ wi.cell? ⟨wo.heap.size, j * 2 + 1, none⟩ = some (.string (RS x.2)) := by
      rcases (by omega : j = 0 \/ j = 1) with rfl | rfl
      ·exact ⟨p, .inl rfl, bsj.cell 0 rfl, bsj.cell 1 rfl⟩
      ·exact ⟨q, .inr rfl, bsj.cell 2 rfl, bsj.cell 3 rfl⟩
     obtain ⟨x, hxo, y0, y1⟩ := hx;have HV := hid (HVLs.out x hxo);have HW := hid (HBWs.out x hxo);have HN := hid (HNTs.out x hxo);clear hxo HVLs HBWs HNTs bsj;go_upto_region 16 with fail;obtain ⟨V, hV⟩ : ∃ V, V = wi.alloc (.cells #[.string (RS x.1), .string (RS x.2)] 50) := ⟨_, rfl⟩;have hbV : Below wi.heap.size wi V := by rw [hV]; exact zal _ _
     have bx : BoxN V wi.heap.size 50 [.string (RS x.1), .string (RS x.2)] := by rw [hV]; exact BoxN.new _ _ _ _ rfl
     rw [<- hV];have hbV7 := hbj7.trans (hbV.mono hbj7.size);have hBV := hB7.trans (hbV7.mono hB7.size);have hbUV := hbj.trans (hbV.mono hbj.size);have bmV := bm7.below hbV7 bm7.lt;have m0 := bmV.cell 0 rfl;have m1 := bmV.cell 1 rfl;have z0 := bx.cell 0 rfl;have z1 := bx.cell 1 rfl;clear hV y0 y1 hbV hbj7 hBj hbj;go_wp2_with fail;refine (HV.out V _ _ _ (HF7.out.below hbV7) (hg.below hBV)).mono ?_;rintro e Y ⟨_, rfl, rfl, hbY⟩;have hbY7 := hbV7.trans (hbY.mono hbV7.size);have hBY := hB7.trans (hbY7.mono hB7.size);have hbUY := hbUV.trans (hbY.mono hbUV.size);have bxY := bx.below hbY bx.lt;clear m0 m1 z0 z1 bmV bx hbY hbV7 hBV HV hbUV;go_wp2_with fail;go_loopw [17, 18] (fun t17 t18 wr => ∃ k : Nat, t18 = .int .i64 k /\ k <= B.length /\ t17 = .bool (onBd P B x k) /\ Below Y.heap.size Y wr) (fun _ t18 _ => B.length - (RowKit.intOf t18).toNat)
     case atStart => exact ⟨0, rfl, Nat.zero_le _, rfl, Below.refl _ _⟩
     case round =>
      obtain ⟨k, rfl, hkn, rfl, hbk⟩ := hrel;have hbk7 := hbY7.trans (hbk.mono hbY7.size);have hBk := hB7.trans (hbk7.mono hB7.size);rcases Nat.lt_or_ge k B.length with hk | hk
      ·have hkz : (k : Int) < (B.length : Int) := by omega
       have HNX : Hid (onBd P B x (k + 1) = (onBd P B x k || btwQ (ptI P (B[k]?.getD 0)) (ptI P (B[(k + 1) % B.length]?.getD 0)) x)) := rfl;cases hob : onBd P B x k
       ·have hk2 : (k + 1) % B.length < B.length := Nat.mod_lt _ (by omega)
        obtain ⟨b10, o10, rfl, hb10, hc10⟩ := H10.out (List.ne_nil_of_length_pos (by omega));obtain ⟨n1, e1, l1⟩ := HBI.out k hk;obtain ⟨n2, e2, l2⟩ := HBI.out _ hk2;have d1 := zcq hbk7 hb10 (hc10 k hk);have d2 := (hbk7.cell (p := ⟨b10, o10 + (k + 1) % B.length, none⟩) hb10).trans (hc10 _ hk2);rw [e1] at d1;rw [e2] at d2;have HBT : Hid (∀ w, Good w -> _) := HW.out (n1 : Int) (n2 : Int)
        have HNX2 : Hid (onBd P B x (k + 1) = btwQ (ptI P (n1 : Int)) (ptI P (n2 : Int)) x) := by
               unfold Hid;rw [HNX.out, hob, List.getElem?_eq_getElem hk, List.getElem?_eq_getElem hk2, Option.getD_some, Option.getD_some, e1, e2];rfl
        obtain ⟨jn, hjn⟩ : ∃ j, j = (k + 1) % B.length := ⟨_, rfl⟩;rw [<- hjn] at hk2 d2;obtain ⟨bp, op, rfl, hbp, hcp⟩ := HPC7.out (by omega);obtain ⟨a0, a1⟩ := hcp n1 l1;obtain ⟨a2, a3⟩ := hcp n2 l2;have k0 := zcq hbk7 hbp a0;have k1 := zcq hbk7 hbp a1;have k2 := zcq hbk7 hbp a2;have k3 := zcq hbk7 hbp a3;have f1 : (n1 : Int) < (P.length : Int) := by omega
        have f2 : (n2 : Int) < (P.length : Int) := by omega
        generalize ptI P (n1 : Int) = p1 at *;generalize ptI P (n2 : Int) = p2 at *;obtain ⟨bt, hbt⟩ : ∃ bt, bt = btwQ p1 p2 x := ⟨_, rfl⟩;rw [<- hbt] at HBT HNX2;have bmk := bm7.below hbk7 bm7.lt;have bxk := bxY.below hbk bxY.lt;have m0 := bmk.cell 0 rfl;have z0 := bxk.cell 0 rfl;have z1 := bxk.cell 1 rfl;have lm := bmk.lt;have lx := bxk.lt;have l10 : b10 < wr.heap.size := Nat.lt_of_lt_of_le hb10 hbk7.size;have lbp : bp < wr.heap.size := Nat.lt_of_lt_of_le hbp hbk7.size;have hgd : Good wr.drew := (hg.below hBk).drewN 1;have hnz : ¬ (B.length : Int) = 0 := by omega
        have hnz2 : ¬ B.length = 0 := by omega
        have hnz3 : ¬ B = [] := fun e => hnz2 (by rw [e]; rfl)
        have hw3 : IntKind.i64.wrap ((k : Int) + 1) = (k : Int) + 1 := IntWalk.i64_in _ (by omega)
        have hr2 : ((k : Int) + 1).tmod (B.length : Int) = (jn : Int) := by
               rw [Int.tmod_eq_emod_of_nonneg (by omega), hjn, Int.natCast_emod];rfl
        have hw5 : IntKind.i64.wrap (jn : Int) = (jn : Int) := IntWalk.i64_in _ (by omega);have hjnz : (jn : Int) < (B.length : Int) := by omega
        clear hcp hc10 a0 a1 a2 a3 e1 e2 hjn hbt bmk bxk HNX hob HBI H10 HPC7;go_upto_region 23 with fail
        go_region_held3 (fun w' => w'.cell? ⟨o2.heap.size, 0, none⟩ = some (.slice (some ⟨bp, op, none⟩) P.length cp) /\ w'.cell? ⟨b10, o10 + k, none⟩ = some (.int .i64 (n1 : Int)) /\ w'.cell? ⟨b10, o10 + jn, none⟩ = some (.int .i64 (n2 : Int)) /\ w'.cell? ⟨bp, op + n1 * 2, none⟩ = some (.string (RS p1.1)) /\ w'.cell? ⟨bp, op + n1 * 2 + 1, none⟩ = some (.string (RS p1.2)) /\ w'.cell? ⟨bp, op + n2 * 2, none⟩ = some (.string (RS p2.1)) /\ w'.cell? ⟨bp, op + n2 * 2 + 1, none⟩ = some (.string (RS p2.2)) /\ w'.cell? ⟨wi.heap.size, 0, none⟩ = some (.string (RS x.1)) /\ w'.cell? ⟨wi.heap.size, 1, none⟩ = some (.string (RS x.2)))
               (first | exact ⟨m0, d1, d2, k0, k1, k2, k3, z0, z1⟩ | exact ⟨p_1_0, p_1_1, p_1_2, p_1_3, p_1_4, p_1_5, p_1_6, p_1_7, p_1_8⟩)
               (first
               | (go_at_call 12; refine (HBT.out _ hgd).mono ?_; rintro e pw1 ⟨_, rfl, rfl, pb1⟩
                  have p_1_0 := zct pb1 m0;have p_1_1 := zct pb1 d1;have p_1_2 := zct pb1 d2;have p_1_3 := zct pb1 k0;have p_1_4 := zct pb1 k1;have p_1_5 := zct pb1 k2;have p_1_6 := zct pb1 k3;have p_1_7 := zct pb1 z0;have p_1_8 := zct pb1 z1;have ps1 : wr.heap.size <= pw1.heap.size := pb1.size;have pg1 := hgd.below pb1))
        have pB : Below wr.heap.size wr pw1 := zbt (below_drewN wr 1) pb1;have hbk2 := hbk.trans (pB.mono hbk.size);go_wp2_with fail;go_roundw
        case rel => exact ⟨k + 1, by go_num, by omega, by rw [HNX2.out], hbk2⟩
        case measure => simp [RowKit.intOf]; omega
       ·go_upto_region 23 with fail
        go_quiet (fail);have HNX2 : Hid (onBd P B x (k + 1) = true) := by unfold Hid; rw [HNX.out, hob]; rfl
        clear HNX;obtain ⟨w2, hw2⟩ : ∃ w2, w2 = wr.drewN nq := ⟨_, rfl⟩;have hbk2 : Below Y.heap.size Y w2 := by rw [hw2]; exact hbk.trans ((below_drewN wr nq).mono hbk.size)
        rw [<- hw2];clear hw2;go_wp2_with fail;go_roundw
        case rel => exact ⟨k + 1, by go_num, by omega, by rw [HNX2.out], hbk2⟩
        case measure => simp [RowKit.intOf]; omega
      ·have hkz : ¬ (k : Int) < (B.length : Int) := by omega
       obtain rfl : k = B.length := by omega
       have HNT2 : Hid (onBd P B x B.length = false -> netL x L = 0) := fun h => HN.out (onBd_off h);generalize onBd P B x B.length = ob at *;have hbxk := bxY.below hbk bxY.lt;obtain ⟨wk, hwk⟩ : ∃ wk : World, wk = wr := ⟨_, rfl⟩;subst hwk;go_wp2_with fail;go_loopw [19, 20] (fun t19 t20 wr => ∃ k : Nat, t20 = .int .i64 k /\ k <= L.length /\ t19 = .int .i64 (netTo x L k) /\ Below wk.heap.size wk wr) (fun _ t20 _ => L.length - (RowKit.intOf t20).toNat)
       case atStart => exact ⟨0, rfl, Nat.zero_le _, rfl, Below.refl _ _⟩
       case round =>
        obtain ⟨k, rfl, hkl, rfl, hbw⟩ := hrel;have hbw7 := hbk7.trans (hbw.mono hbk7.size);have hNB := netTo_bound x L k hkl;obtain ⟨wl, hwl⟩ : ∃ wl : World, wl = wr := ⟨_, rfl⟩;subst hwl;rcases Nat.lt_or_ge k L.length with hk2 | hk2
        ·have hkz2 : (k : Int) < (L.length : Int) := by omega
         obtain ⟨c0, c1, c2, c3⟩ := HC8.out _ hbw7 k hk2;have bxw := hbxk.below hbw hbxk.lt;have z0 := bxw.cell 0 rfl;have z1 := bxw.cell 1 rfl;have HNX : Hid (netTo x L (k + 1) = netTo x L k + (dQ x L[k].2.1 - dQ x L[k].2.2)) := netTo_next hk2;obtain ⟨A, hA⟩ : ∃ A, A = L[k].2.1 := ⟨_, rfl⟩;obtain ⟨A', hA'⟩ : ∃ A, A = L[k].2.2 := ⟨_, rfl⟩;rw [<- hA] at c0 c1 HNX;rw [<- hA'] at c2 c3 HNX;have HP1 := hid (two_pts A x);have HP2 := hid (two_pts A' x);obtain ⟨c, hc⟩ : ∃ c, c = netTo x L k := ⟨_, rfl⟩;rw [<- hc] at HNX hNB ⊢;have hcb1 : -48 <= c := by omega
         have hcb2 : c <= 48 := by omega
         have hgl : g8 < wl.heap.size := Nat.lt_of_lt_of_le hg8 hbw7.size;obtain ⟨bA, hbA⟩ : ∃ b : Bool, b = decide (A = x) := ⟨_, rfl⟩;obtain ⟨bB, hbB⟩ : ∃ b : Bool, b = decide (A' = x) := ⟨_, rfl⟩;have HBA := hid hbA;have HBB := hid hbB;have HDA : Hid (dQ x A = if bA = true then 1 else 0) := by unfold Hid dQ; rw [HBA.out]; simp only [decide_eq_true_eq]
         have HDB : Hid (dQ x A' = if bB = true then 1 else 0) := by unfold Hid dQ; rw [HBB.out]; simp only [decide_eq_true_eq]
         clear hA hA' hc bxw hbA hbB;go_upto_region 28 with fail;go_cut [131] (fun s131 wx => s131 = .bool bA /\ Below wl.heap.size wl wx)
         case first =>
          rcases HP1.out with ⟨e, e1, e2⟩ | ⟨e, e1 | ⟨e1, e2⟩⟩
          ·have HD : Hid (bA = true) := HBA.out.trans (decide_eq_true e)
           clear e;go_quiet (fail);go_wp2_with fail;go_meet;exact ⟨congrArg Value.bool HD.out.symm, below_drewN _ _⟩
          all_goals
                 have HD : Hid (bA = false) := HBA.out.trans (decide_eq_false e);clear e;go_quiet (fail);go_wp2_with fail;go_meet;exact ⟨congrArg Value.bool HD.out.symm, below_drewN _ _⟩
         case rest =>
         obtain ⟨rfl, hbx1⟩ := hcut;obtain ⟨w1, hw1⟩ : ∃ X, X = wc := ⟨_, rfl⟩;rw [<- hw1] at hbx1 ⊢;replace c2 := (zcq hbx1 hgl c2 :);replace c3 := (zcq hbx1 hgl c3 :);have bxw := (hbxk.below hbw hbxk.lt).below hbx1 (Nat.lt_of_lt_of_le hbxk.lt hbw.size);clear z0 z1 c0 c1 hw1;have z0 := bxw.cell 0 rfl;have z1 := bxw.cell 1 rfl;go_upto_if 131 with fail;go_cut [19] (fun s19 wx => s19 = .int .i64 (c + dQ x A) /\ wx = w1)
         case first =>
          cases bA
          ·have HDQ : Hid (dQ x A = 0) := HDA.out
           go_wp2_with fail;go_meet;exact ⟨congrArg (Value.int .i64) (by rw [HDQ.out, Int.add_zero]), rfl⟩
          ·have HDQ : Hid (dQ x A = 1) := HDA.out
           go_wp2_with fail;go_meet;exact ⟨congrArg (Value.int .i64) (by rw [HDQ.out]), rfl⟩
         case rest =>
         obtain ⟨rfl, rfl⟩ := hcut;have HNX3 : Hid (netTo x L (k + 1) = c + dQ x A - dQ x A') := by unfold Hid; rw [HNX.out]; omega
         obtain ⟨c5, hc5⟩ : ∃ c5, c5 = c + dQ x A := ⟨_, rfl⟩;rw [<- hc5] at HNX3 ⊢;have hc5b : -49 <= c5 /\ c5 <= 49 := by rw [hc5, HDA.out]; split <;> omega
         clear hc5 HNX;go_upto_region 30 with fail;go_cut [140] (fun s140 wx => s140 = .bool bB /\ Below wc.heap.size wc wx)
         case first =>
          rcases HP2.out with ⟨e, e1, e2⟩ | ⟨e, e1 | ⟨e1, e2⟩⟩
          ·have HD : Hid (bB = true) := HBB.out.trans (decide_eq_true e)
           clear e;go_quiet (fail);go_wp2_with fail;go_meet;exact ⟨congrArg Value.bool HD.out.symm, below_drewN _ _⟩
          all_goals
                 have HD : Hid (bB = false) := HBB.out.trans (decide_eq_false e);clear e;go_quiet (fail);go_wp2_with fail;go_meet;exact ⟨congrArg Value.bool HD.out.symm, below_drewN _ _⟩
         case rest =>
         obtain ⟨rfl, hbx2⟩ := hcut;have hbwz := hbw.trans ((hbx1.trans (hbx2.mono hbx1.size)).mono hbw.size);clear z0 z1 c2 c3;have hc51 : -49 <= c5 := hc5b.1;have hc52 : c5 <= 49 := hc5b.2;clear hc5b;cases bB
         ·have HDQ : Hid (netTo x L (k + 1) = c5) := by unfold Hid; rw [HNX3.out, HDB.out]; simp
          go_wp2_with fail;go_roundw
          case rel => exact ⟨k + 1, by go_num, by omega, congrArg (Value.int .i64) (by rw [HDQ.out]), hbwz⟩
          case measure => simp [RowKit.intOf]; omega
         ·have HDQ : Hid (netTo x L (k + 1) = c5 - 1) := by unfold Hid; rw [HNX3.out, HDB.out]; simp
          go_wp2_with fail;go_roundw
          case rel => exact ⟨k + 1, by go_num, by omega, congrArg (Value.int .i64) (by rw [HDQ.out]), hbwz⟩
          case measure => simp [RowKit.intOf]; omega
        ·have hkz2 : ¬ (k : Int) < (L.length : Int) := by omega
         obtain rfl : k = L.length := by omega
         have hbUw := hbUY.trans ((hbk.trans (hbw.mono hbk.size)).mono hbUY.size);cases ob
         ·have hz : netTo x L L.length = 0 := by rw [netTo_all]; exact HNT2.out rfl
          rw [hz];go_wp2_with fail;go_roundw
          case rel => exact ⟨j + 1, by go_num, by omega, hbUw⟩
          case measure => simp [RowKit.intOf]; omega
         ·go_wp2_with fail
          go_roundw
          case rel => exact ⟨j + 1, by go_num, by omega, hbUw⟩
          case measure => simp [RowKit.intOf]; omega
    ·have hjz : ¬ (j : Int) < 2 := by omega
     go_wp2_with fail;go_roundw
     case rel => exact ⟨i + 1, by go_num, by omega, hbj7⟩
     case measure => simp [RowKit.intOf]; omega
  ·have hil : ¬ (i : Int) < (L.length : Int) := by omega
   go_wp2_with fail;go_ret;exact ⟨_, rfl, rfl, hBr⟩
theorem shape_bdR (k : Nat) : (decide ((outerL (keysOf (shapeT k))).length <= 8) && (outerL (keysOf (shapeT k))).all fun x => decide (0 <= x) && decide (x < ((shapeP k).length : Int))) = true := by
 unfold shapeP shapeT;split <;> decide +kernel
theorem bd_len (k : Nat) : (outerL (keysOf (shapeT k))).length <= 8 := by
 have h := shape_bdR k;rw [Bool.and_eq_true, decide_eq_true_eq] at h;exact h.1
theorem bd_in (k : Nat) {i : Nat} (hi : i < (outerL (keysOf (shapeT k))).length) : ∃ n : Nat, (outerL (keysOf (shapeT k)))[i] = (n : Int) /\ n < (shapeP k).length := by
 have h := shape_bdR k;rw [Bool.and_eq_true, List.all_eq_true] at h;have := h.2 _ (List.getElem_mem hi);rw [Bool.and_eq_true, decide_eq_true_eq, decide_eq_true_eq] at this;exact ⟨(outerL (keysOf (shapeT k)))[i].toNat, by omega, by omega⟩
theorem tenth_Sz (z : Int) : Sz 2 (mkRat (z.tmod 20) 2) := by
 have h1 : -19 <= z.tmod 20 /\ z.tmod 20 <= 19 := by
  have := Int.tmod_lt_of_pos z (show (0 : Int) < 20 by decide);have := Int.lt_tmod_of_pos z (show (0 : Int) < 20 by decide);omega
 generalize z.tmod 20 = y at *;have key : ∀ y : Nat, y < 39 -> Sz 2 (mkRat ((y : Int) - 19) 2) := fun y hy => by
  have : (List.range 39).all (fun y => decide ((mkRat ((y : Int) - 19) 2).num.natAbs < 10 ^ 2) && decide ((mkRat ((y : Int) - 19) 2).den < 10 ^ 2)) = true := by decide +kernel
  rw [List.all_eq_true] at this;have := this y (List.mem_range.2 hy);rw [Bool.and_eq_true, decide_eq_true_eq, decide_eq_true_eq] at this;exact this
 obtain ⟨n, hn⟩ : ∃ n : Nat, y = (n : Int) - 19 := ⟨(y + 19).toNat, by omega⟩;rw [hn];exact key n (by omega)
theorem turn05_any (a b c : PtQ) (k : Nat) (hk : 0 < k) (hk2 : k <= 1000) (ha : SzP k a) (hb : SzP k b) (hc : SzP k c) (w : World) (hg : Good w) :
 Calls Tryz.prog 40 #[.agg #[.string (RS a.1), .string (RS a.2)], .agg #[.string (RS b.1), .string (RS b.2)], .agg #[.string (RS c.1), .string (RS c.2)]] w (Ret (fun r _ => r = .int .i64 (turnZ a b c)) w) := by
 obtain ⟨W, hW, ⟨a0, a1⟩, ⟨b0, b1⟩, ⟨c0, c1⟩, hbW, hsz⟩ := three_boxes w a b c 50;have hgW := hg.below hbW;have HA := hid ha;have HB := hid hb;have HC := hid hc;have HW := hid hW;have HT : Hid ((areaQ a b c).num.sign = turnZ a b c) := rfl;clear hW ha hb hc;have HAR : Hid (Calls Tryz.prog 81 #[.agg #[.string (RS a.1), .string (RS a.2)], .agg #[.string (RS b.1), .string (RS b.2)], .agg #[.string (RS c.1), .string (RS c.2)]] W (Ret (fun r _ => r = .string (RS (areaQ a b c))) W)) := area05_any a b c k hk hk2 HA.out HB.out HC.out W hgW;obtain ⟨ax, ay⟩ := a;obtain ⟨bx, bY⟩ := b;obtain ⟨cx, cy⟩ := c;dsimp only at *;go_enter Tryz.func40, Tryz.ntmps40;go_upto_region 1 with fail;rw [<- HW.out];go_wp2_with fail;refine HAR.out.mono ?_;rintro e w1 ⟨_, rfl, rfl, hb1⟩;go_wp2_with fail;refine ((signQ_any _ _).mono fun _ _ h => h.ret).mono ?_;rintro e w2 ⟨_, rfl, rfl, hb2⟩;rw [HT.out];go_wp2_with fail;go_ret;exact ⟨_, rfl, rfl, (hbW.trans (hb1.mono hbW.size)).trans (hb2.mono (by have := hbW.size; have := hb1.size; omega))⟩
theorem inside05_any (a b x : Rat) (k : Nat) (hk : 0 < k) (hk2 : k <= 20000) (ha : Sz k a) (hb : Sz k b) (hx : Sz k x) (w : World) (hg : Good w) :
 Calls Tryz.prog 41 #[.string (RS a), .string (RS b), .string (RS x)] w (Ret (fun r _ => r = .bool (insQ a b x)) w) := by
 have H1 := hid fun w hg => compareQ_any x a k hk hk2 hx ha w hg;have H2 := hid fun w hg => compareQ_any x b k hk hk2 hx hb w hg;have HX : Hid (insQ a b x = decide (cmpQ x a * cmpQ x b <= 0)) := rfl;have r1 := cmpQ_range x a;have r2 := cmpQ_range x b;generalize cmpQ x a = c1 at *;generalize cmpQ x b = c2 at *;generalize insQ a b x = r at *;clear ha hb hx;go_enter Tryz.func41, Tryz.ntmps41;go_wp2_with fail;refine (H1.out w hg).mono ?_;rintro e w1 ⟨_, rfl, rfl, hb1⟩;go_wp2_with fail;refine (H2.out w1 (hg.below hb1)).mono ?_;rintro e w2 ⟨_, rfl, rfl, hb2⟩;have hB := hb1.trans (hb2.mono hb1.size);clear H1 H2 hb1 hb2;rcases (by omega : c1 = -1 \/ c1 = 0 \/ c1 = 1) with rfl | rfl | rfl <;> rcases (by omega : c2 = -1 \/ c2 = 0 \/ c2 = 1) with rfl | rfl | rfl <;> clear r1 r2
 all_goals
  go_wp2_with fail;go_ret;exact ⟨_, rfl, by rw [HX.out]; rfl, hB⟩
theorem btw05_any (a b p : PtQ) (k : Nat) (hk : 0 < k) (hk2 : k <= 1000) (ha : SzP k a) (hb : SzP k b) (hp : SzP k p) (w : World) (hg : Good w) :
 Calls Tryz.prog 12 #[.agg #[.string (RS a.1), .string (RS a.2)], .agg #[.string (RS b.1), .string (RS b.2)], .agg #[.string (RS p.1), .string (RS p.2)]] w (Ret (fun r _ => r = .bool (btwQ a b p)) w) := by
 obtain ⟨W, hW, a0, b0, c0, hbW, hsz⟩ := three_boxes w a b p 50;have HT := hid fun w hg => turn05_any a b p k hk hk2 ha hb hp w hg;have H1 := hid fun w hg => inside05_any a.1 b.1 p.1 k hk (by omega) ha.1 hb.1 hp.1 w hg
 have H2 := hid fun w hg => inside05_any a.2 b.2 p.2 k hk (by omega) ha.2 hb.2 hp.2 w hg
 have HX : Hid (btwQ a b p = (decide (turnZ a b p = 0) && (insQ a.1 b.1 p.1 && insQ a.2 b.2 p.2))) := rfl;have HW := hid hW;clear hW ha hb hp;generalize btwQ a b p = r at *;generalize turnZ a b p = t at *;generalize insQ a.1 b.1 p.1 = i1 at *;generalize insQ a.2 b.2 p.2 = i2 at *;obtain ⟨ax, ay⟩ := a;obtain ⟨bx, bY⟩ := b;obtain ⟨px, py⟩ := p;dsimp only at *;go_enter Tryz.func12, Tryz.ntmps12;go_upto_region 1 with fail;rw [<- HW.out];clear HW;have q0 := a0.1; have q1 := a0.2; have q2 := b0.1; have q3 := b0.2; have q4 := c0.1; have q5 := c0.2;dsimp only at q0 q1 q2 q3 q4 q5;go_wp2_with fail;refine (HT.out W (hg.below hbW)).mono ?_;rintro e w1 ⟨_, rfl, rfl, hb1⟩;have hB1 := hbW.trans (hb1.mono hbW.size);have a1 := a0.below hb1 (by omega);have b1 := b0.below hb1 (by omega);have c1 := c0.below hb1 (by omega);have hs1 := hb1.size;clear q0 q1 q2 q3 q4 q5 a0 b0 c0 HT;by_cases ht : t = 0
 ·subst ht
  have q0 := a1.1; have q1 := a1.2; have q2 := b1.1; have q3 := b1.2; have q4 := c1.1; have q5 := c1.2;dsimp only at q0 q1 q2 q3 q4 q5;go_wp2_with fail;refine (H1.out w1 (hg.below hB1)).mono ?_;rintro e w2 ⟨_, rfl, rfl, hb2⟩;have hB2 := hB1.trans (hb2.mono hB1.size);have a2 := a1.below hb2 (by omega);have b2 := b1.below hb2 (by omega);have c2 := c1.below hb2 (by omega);clear q0 q1 q2 q3 q4 q5 a1 b1 c1 H1 hb1;cases i1
  ·go_wp2_with fail
   go_ret;exact ⟨_, rfl, by rw [HX.out]; rfl, hB2⟩
  ·have q0 := a2.1; have q1 := a2.2; have q2 := b2.1; have q3 := b2.2; have q4 := c2.1; have q5 := c2.2
   dsimp only at q0 q1 q2 q3 q4 q5;go_wp2_with fail;refine (H2.out w2 (hg.below hB2)).mono ?_;rintro e w3 ⟨_, rfl, rfl, hb3⟩;have hB3 := hB2.trans (hb3.mono hB2.size);go_wp2_with fail;go_ret;exact ⟨_, rfl, by rw [HX.out]; rfl, hB3⟩
 ·have htd : (t == 0) = false := by simpa using ht
  go_wp2_with fail;go_ret;exact ⟨_, rfl, by rw [HX.out, decide_eq_false ht]; rfl, hB1⟩
theorem fieldRounds_all (w : World) (kz s0 s1 : Int) (half : Bool) (a0 a1 a2 a3 a4 a5 : Int) (ah : Bool) (b0 b1 b2 b3 b4 b5 : Int) (bh : Bool) (z : Int) (hk0 : 0 <= kz) (hk1 : kz <= 255) (hs0 : -128 <= s0 /\ s0 <= 127) (hs1 : -128 <= s1 /\ s1 <= 127) (ha : ∀ x ∈ [a0, a1, a2, a3, a4, a5], -128 <= x /\ x <= 127) (hz : -128 <= z /\ z <= 127) (hg : Good w) :
 Calls Tryz.prog 3 #[.agg #[.int .u8 kz, .int .i8 s0, .int .i8 s1, .bool half, .int .i8 a0, .int .i8 a1, .int .i8 a2, .int .i8 a3, .int .i8 a4, .int .i8 a5, .bool ah, .int .i8 b0, .int .i8 b1, .int .i8 b2, .int .i8 b3, .int .i8 b4, .int .i8 b5, .bool bh], .int .i8 z] w (Ret (fun r _ => r = .bool true) w) := by
 obtain ⟨kk, hk⟩ : ∃ k : Nat, kz.tmod 8 = (k : Int) := ⟨(kz.tmod 8).toNat, by have := Int.tmod_nonneg 8 hk0; omega⟩;have HMK := hid fun w hg => make12_any w kz s0 s1 half kk hk hk0 hk1 hs0 hs1 hg;have hM : MeshOK (sheetP kk s0 s1 half) (shapeT kk) 2 := sheet_ok kk s0 s1 half;have hPl : (sheetP kk s0 s1 half).length = (shapeP kk).length := sheetP_length kk s0 s1 half;have hP6 : (sheetP kk s0 s1 half).length <= 6 := by rw [hPl]; exact shapeP_len kk
 have hT8 : (shapeT kk).length <= 8 := by unfold shapeT; split <;> decide
 have hFs := heights_Sz [a0, a1, a2, a3, a4, a5] ah (sheetP kk s0 s1 half).length;have hHt := tenth_Sz z;have HMF : Hid (∀ w vp vt, RdP w vp (strP (sheetP kk s0 s1 half)) -> RdT w vt (shapeT kk) -> Good w -> Calls Tryz.prog 7 #[.agg #[vp, vt], .agg #[.int .i8 a0, .int .i8 a1, .int .i8 a2, .int .i8 a3, .int .i8 a4, .int .i8 a5, .bool ah]] w (Ret (fun r w' => FieldIn w' vp vt r (sheetP kk s0 s1 half) (shapeT kk) 2 (heightsF [a0, a1, a2, a3, a4, a5] ah (sheetP kk s0 s1 half).length)) w)) := fun w vp vt hp ht hg => by
  obtain ⟨pp, cp, rfl, -, -, -⟩ := hp.open;rw [strP_length];rw [strP_length] at hp;refine (make13_any w pp _ cp vt a0 a1 a2 a3 a4 a5 ah ha hP6 hg).mono ?_;rintro e w' ⟨r, rfl, ⟨hf, -⟩, hb⟩;exact ⟨r, rfl, make_in (RdC.below hp hb) (RdC.below ht hb) hf, hb⟩
 have HOF : Hid (∀ w, Good w -> Calls Tryz.prog 8 #[.int .i64 (z.tmod 20), .int .i64 2] w (Ret (fun r _ => r = .string (RS (mkRat (z.tmod 20) 2))) w)) := fun w hg => by
  have h1 := Int.tmod_lt_of_pos z (show (0 : Int) < 20 by decide);have h2 := Int.lt_tmod_of_pos z (show (0 : Int) < 20 by decide);exact ofQ_any (z.tmod 20) 2 (z.tmod 20) 2 2 rfl (by omega) (by omega) (by omega) (.inl ⟨rfl, rfl⟩) w hg
 have hB8 := bd_len kk;have hBin : ∀ i, (hi : i < (outerL (keysOf (shapeT kk))).length) -> ∃ n : Nat, (outerL (keysOf (shapeT kk)))[i] = (n : Int) /\ n < (sheetP kk s0 s1 half).length := fun i hi => by rw [hPl]; exact bd_in kk hi
 have hNet := fun (F : List Rat) (q : Rat) (p : PtQ) => sheet_net kk s0 s1 half F q p;have hVal := fun (F : List Rat) {q : Rat} {p : PtQ} {tr : Tri} (h1 : tr ∈ shapeT kk) (h2 : inT (triP (sheetP kk s0 s1 half) tr) p) (h3 : onQ (sheetP kk s0 s1 half) F tr p = q) => sheet_value kk s0 s1 half F h1 h2 h3;unfold bdI at hNet;generalize heightsF [a0, a1, a2, a3, a4, a5] ah (sheetP kk s0 s1 half).length = F at *;generalize sheetP kk s0 s1 half = P at *;generalize shapeT kk = T at *;generalize mkRat (z.tmod 20) 2 = q at *;have hends : ∀ s ∈ levelL P T F q, ∀ p : PtQ, (p = s.2.1 \/ p = s.2.2) -> SzP 18 p /\ ∃ tr ∈ T, inT (triP P tr) p /\ onQ P F tr p = q := fun s hs p hp => by
  obtain ⟨z1, z2⟩ := levelL_Sz hM hFs hHt hs;obtain ⟨tr, htr, g1, g2, g3, g4⟩ := levelL_mem hM hs;rcases hp with rfl | rfl
  ·exact ⟨z1, tr, htr, g1, g2⟩
  ·exact ⟨z2, tr, htr, g3, g4⟩
 have zP : ∀ i : Int, SzP 2 (ptI P i) := fun i => ptF_sz hM.sz (by omega) i
 have hL48 : (levelL P T F q).length <= 48 := by
  have := levTo_len P T F q T.length;unfold levelL;omega
 refine fieldRounds_walk w kz s0 s1 half a0 a1 a2 a3 a4 a5 ah b0 b1 b2 b3 b4 b5 bh z hz P T F (levelL P T F q) (outerL (keysOf T)) (RS q) hL48 hB8 hP6 hBin HMK HMF HOF
  (fun w vp vt vf h hg => level_ok w vp vt vf P T 2 F h q 2 hHt (by omega) hg)
  (fun w vp vt hp ht hg => (boundary_ok w vp vt P T 2 hp ht hM hg).mono (by rintro e w' ⟨r, rfl, ⟨v, rfl, h, -⟩, hb⟩; exact ⟨_, rfl, ⟨v, rfl, h⟩, hb⟩))
  (fun s hs p hp w vp vt vf h hg => ?_) (fun s hs p hp i j w hg => ?_) (fun s hs p hp h => hNet F q p (fun i hi => ?_)) hg
 ·obtain ⟨z1, tr, htr, g1, g2⟩ := hends s hs p hp
  obtain ⟨t, ht, l, e1, e2⟩ := hVal F htr g1 g2;have hmem : T[t] ∈ T := List.getElem_mem ht;have hsl : SzP 200 (slopeT P F T[t]) := by
   have := slope_Sz hM rfl hFs hmem;exact ⟨this.1.mono (by omega), this.2.mono (by omega)⟩
  have := value_in w vp vt vf P T 2 F h p ⟨z1.1.mono (by omega), z1.2.mono (by omega)⟩ t l e1 ht hsl (by rw [e2]; exact hHt.mono (by omega)) hg;rw [e2] at this;exact this
 ·have z1 := (hends s hs p hp).1
  exact btw05_any (ptI P i) (ptI P j) p 18 (by omega) (by omega) ⟨(zP i).1.mono (by omega), (zP i).2.mono (by omega)⟩ ⟨(zP j).1.mono (by omega), (zP j).2.mono (by omega)⟩ z1 w hg
 ·exact h i hi
end Go.Proofs.YtbfcmipplhkkeaaGreatDoor
