import Derived.Test.YtegiemcnfbchoaaGreatDoorPE5
/- The walks over field.level, field.Level. The walks over field.integral, field.volume, field.Volume. The walks over field.volume, field.Volume. -/
set_option maxHeartbeats 8000000
set_option maxRecDepth 100000
namespace Go.Proofs.YtegiemcnfbchoaaGreatDoor
open Go.RowKit Go.Lib
theorem flevel_ok (w : World) (vp vt vf : Value) (P : List PtQ) (T : List Tri) (k : Nat) (F : List Rat) (h : FieldIn w vp vt vf P T k F) (z : Rat) (hz : Sz 200 z) (hg : Good w) :
 Calls Tryz.prog 49 #[.agg #[vp, vt], vf, .string (RS z)] w (Ret (fun r _ => r = .int .i64 0) w) := by
 have HH := hid h;have hs := hz.size (by omega);have HE : Hid (eNm (rQQ (RS z).data.toList) = 0) := by unfold Hid; rw [Rlt, rightQ_RL hz]; rfl
 obtain ⟨pp, cp, pt, ct, pf, cf, rfl, rfl, rfl⟩ := h.open;generalize RS z = sz at *;clear h hz;go_enter Tryz.func49, Tryz.ntmps49;go_wp2_with fail;obtain ⟨W, hW⟩ : ∃ W, W = (w.alloc (.cells #[.slice pp P.length cp, .slice pt T.length ct] 38)).alloc (.cells #[.slice pf F.length cf] 41) := ⟨_, rfl⟩;have hB : Below w.heap.size w W := by rw [hW]; exact zal2 _ _ _
 have bF : BoxN W (w.heap.size + 1) 41 [.slice pf F.length cf] := by rw [hW]; exact BoxN.new _ _ _ _ (by simp)
 rw [<- hW];clear hW;refine (checks_ok (HH.out.below hB) _ (bF.cell 0 rfl) (hg.below hB)).mono ?_;rintro e w1 ⟨_, rfl, rfl, hb1⟩;have hB1 := hB.trans (hb1.mono hB.size);clear hb1 hB bF;go_wp2_with fail;refine (checkQ_any sz (by omega) _ (hg.below hB1)).mono ?_;rintro e w2 ⟨_, rfl, rfl, hb2⟩;rw [HE.out];have hB2 := hB1.trans (hb2.mono hB1.size);go_wp2_with fail;go_ret;exact ⟨_, rfl, rfl, hB2⟩
theorem info_segment : ((Tryz.prog).info? 84).map (fun i => (i.zero, i.size, i.bytes)) = some (some (.agg #[.int .i64 0, .string ⟨#[]⟩, .string ⟨#[]⟩, .string ⟨#[]⟩, .string ⟨#[]⟩]), 5, 72) := by kernel_rfl
theorem cell_five (w : World) (x y z u v : Value) (E : Nat) : ∀ (j : Nat) (r : Value), [x, y, z, u, v][j]? = some r -> (w.alloc (.cells #[x, y, z, u, v] E)).cell? ((⟨w.heap.size, 0, none⟩ : Addr).add j) = some r := World.news_of_block (cs := #[x, y, z, u, v]) (t := E) (fr := (0, 0)) (World.alloc_heap_new w _)
theorem five_one (i : Int) (x y z u : ByteArray) : ∀ r ∈ [Value.int .i64 i, .string x, .string y, .string z, .string u], r.oneCell' = true := by
 intro r hr; simp at hr; rcases hr with rfl | rfl | rfl | rfl | rfl <;> rfl
theorem row_open {w : World} {base e : Nat} {v : Value} {l : List Cor} (h : w.ownsRow base e 3 v l.length (cCC l)) (hne : l ≠ []) : ∃ g c, v = .slice (some ⟨g, 0, none⟩) l.length c /\
 ∀ (i : Nat) (hi : i < l.length), w.cell? ⟨g, i * 3, none⟩ = some (.string (RS l[i].1.1)) /\ w.cell? ⟨g, i * 3 + 1, none⟩ = some (.string (RS l[i].1.2)) /\ w.cell? ⟨g, i * 3 + 2, none⟩ = some (.string (RS l[i].2)) := by
 have hl := List.length_pos_iff.2 hne;rcases h.2 with ⟨_, h0⟩ | ⟨g, cap, cur, rfl, _, _, _⟩
 ·omega
 ·obtain ⟨p, c, hv, _, _, hh⟩ := RdK.open (show RdK w _ l from RdC.of_owns h)
  obtain ⟨b, off, rfl, _, hc⟩ := hh hne;injection hv with h1 h2 h3
  injection h1 with h1
  injection h1 with h1 h4 _
  subst h1 h4 h3;refine ⟨g, cap, rfl, fun i hi => ?_⟩;have := hc i hi;simpa using this
def PartV (w : World) (B : Nat) (v : Value) (l : List Cor) : Prop := w.ownsRow B 135 3 v l.length (cCC l) /\ (l = [] -> v = .slice none 0 0)
def SegV (w : World) (B : Nat) (v : Value) (l : List Seg) : Prop := w.ownsRow B 84 5 v l.length (cellsG l)
theorem part_any (P : List PtQ) (F : List Rat) (tr : Tri) (z : Rat) (k m : Nat) (hk : 0 < k) (hkm : k + m <= 300) (hs : ∀ x ∈ idxOf tr, SzP k (ptI P x) /\ Sz k (hI F x)) (hz : Sz m z) (w : World) (hg : Good w) :
 Calls Tryz.prog 75 #[.agg #[.string (RS (ptI P tr.1).1), .string (RS (ptI P tr.1).2), .string (RS (hI F tr.1)), .string (RS (ptI P tr.2.1).1), .string (RS (ptI P tr.2.1).2), .string (RS (hI F tr.2.1)), .string (RS (ptI P tr.2.2).1), .string (RS (ptI P tr.2.2).2), .string (RS (hI F tr.2.2))], .string (RS z)] w (Ret (fun r w' => PartV w' w.heap.size r (partT P F z tr)) w) := by
 have s0 := hs tr.1 (by simp [idxOf]);have s1 := hs tr.2.1 (by simp [idxOf]);have s2 := hs tr.2.2 (by simp [idxOf]);exact fcut_any (corP P F tr.1) (corP P F tr.2.1) (corP P F tr.2.2) z (k + m) (by omega) (by omega) ⟨⟨s0.1.1.mono (by omega), s0.1.2.mono (by omega)⟩, s0.2.mono (by omega)⟩ ⟨⟨s1.1.1.mono (by omega), s1.1.2.mono (by omega)⟩, s1.2.mono (by omega)⟩ ⟨⟨s2.1.1.mono (by omega), s2.1.2.mono (by omega)⟩, s2.2.mono (by omega)⟩ (hz.mono (by omega)) w hg
theorem side3_any (P : List PtQ) (F : List Rat) (tr : Tri) (a b : PtQ) (w : World) :
 Calls Tryz.prog 76 #[.agg #[.string (RS (ptI P tr.1).1), .string (RS (ptI P tr.1).2), .string (RS (hI F tr.1)), .string (RS (ptI P tr.2.1).1), .string (RS (ptI P tr.2.1).2), .string (RS (hI F tr.2.1)), .string (RS (ptI P tr.2.2).1), .string (RS (ptI P tr.2.2).2), .string (RS (hI F tr.2.2))], .agg #[.string (RS a.1), .string (RS a.2)], .agg #[.string (RS b.1), .string (RS b.2)]] w (Ret (fun r _ => r = .int .i64 (sideT P tr a b)) w) :=
 side_any (ptI P tr.1) (ptI P tr.2.1) (ptI P tr.2.2) a b (RS (hI F tr.1)) (RS (hI F tr.2.1)) (RS (hI F tr.2.2)) w
theorem cpoint_ok (p : PtQ) (h : SzP 200 p) (w : World) (hg : Good w) : Calls Tryz.prog 41 #[.agg #[.string (RS p.1), .string (RS p.2)]] w (Ret (fun r _ => r = .int .i64 0) w) := by
 have h1 := h.1.size (by omega);have h2 := h.2.size (by omega);have := cPa (RS p.1) (RS p.2) (by omega) (by omega) w hg;rw [h.right (Nat.le_refl _)] at this;exact this
theorem level_ok (w : World) (vp vt vf : Value) (P : List PtQ) (T : List Tri) (k : Nat) (F : List Rat) (h : FieldIn w vp vt vf P T k F) (z : Rat) (m : Nat) (hz : Sz m z) (hkm : 6 * k + 3 * m + 6 <= 200) (hg : Good w) :
 Calls Tryz.prog 29 #[.agg #[vp, vt], vf, .string (RS z)] w (Ret (fun r w' => ∃ v, r = .tuple #[v, .int .i64 0] /\ SegV w' w.heap.size v (levelL P T F z)) w) := by
 have HH := hid h;have hkp := h.m.kpos;have HLV : Hid (∀ w', FieldIn w' vp vt vf P T k F -> Good w' -> _) := fun w' h hg => flevel_ok w' vp vt vf P T k F h z (hz.mono (by omega)) hg
 have HSZ : Hid (∀ tr ∈ T, ∀ x ∈ idxOf tr, SzP k (ptI P x) /\ Sz k (hI F x)) := fun tr htr x hx => by
  obtain ⟨h0, h1⟩ := h.m.idx tr htr x hx;obtain ⟨q, rfl⟩ : ∃ q : Nat, x = (q : Int) := ⟨x.toNat, by omega⟩;rw [pIn P q (by omega), hI_nat F q (by have := h.fl; omega)];exact ⟨h.m.sz _ (List.getElem_mem _), h.fs _ (List.getElem_mem _)⟩
 have HCO : Hid (∀ (i : Nat) (hi : i < T.length) (w' : World), FieldIn w' vp vt vf P T k F -> Good w' -> _) := fun i hi w' h' hg' => corners_any w' vp vt vf P T k F h'.p h'.t h'.m.toMeshIn h'.f h'.fl i i rfl hi (triI T i) (triI_nat T i hi) hg';have HCU : Hid (∀ (i : Nat) (hi : i < T.length) (w' : World), Good w' -> _) := fun i hi w' hg' => part_any P F (triI T i) z k m hkp (by omega) (HSZ.out (triI T i) (by rw [triI_nat T i hi]; exact List.getElem_mem hi)) hz w' hg'
 have HNB : Hid (∀ (i : Nat) (hi : i < T.length) (w' : World), FieldIn w' vp vt vf P T k F -> Good w' -> _) := fun i hi w' h' hg' => neighbours_any w' vp vt P T k h'.p h'.t h'.m i hi (triI T i) (triI_nat T i hi) hg';have HRT : Hid (∀ (i : Nat) (hi : i < T.length), ∀ c ∈ partT P F z (triI T i), SzP 200 c.1) := fun i hi c hc => by
  have s := HSZ.out (triI T i) (by rw [triI_nat T i hi]; exact List.getElem_mem hi);have := cutL_Sz (c0 := corP P F (triI T i).1) (c1 := corP P F (triI T i).2.1) (c2 := corP P F (triI T i).2.2) (s _ (by simp [idxOf])) (s _ (by simp [idxOf])) (s _ (by simp [idxOf])) hz c hc;exact ⟨this.1.mono hkm, this.2.mono hkm⟩
 obtain ⟨pp, cp, pt, ct, pf, cf, rfl, rfl, rfl⟩ := h.open;obtain ⟨i0, hi0, hzz0, hzz1, hzz2⟩ := info_parts info_segment;have hTl : T.length <= 800 := h.m.tlen;obtain ⟨sz, hsz⟩ : ∃ s, s = RS z := ⟨_, rfl⟩;rw [<- hsz] at HLV HCU ⊢;have HZS := hid hsz;clear h hz hkm hsz HSZ;go_enter Tryz.func29, Tryz.ntmps29;go_wp2_with fail;obtain ⟨W, hW⟩ : ∃ W, W = w.alloc (.cells #[.slice pp P.length cp, .slice pt T.length ct] 38) := ⟨_, rfl⟩;have hB : Below w.heap.size w W := by rw [hW]; exact zal _ _
 have b0 : BoxN W w.heap.size 38 [.slice pp P.length cp, .slice pt T.length ct] := by rw [hW]; exact BoxN.new _ _ _ _ rfl
 rw [<- hW];clear hW;refine (HLV.out W (HH.out.below hB) (hg.below hB)).mono ?_;rintro e w1 ⟨_, rfl, rfl, hb1⟩;have hB1 := hB.trans (hb1.mono hB.size);have b1 := b0.below hb1 b0.lt;have x1 := b1.cell 1 rfl;clear hb1 hB b0 HLV;go_wp2_with fail;clear x1;go_loopw [9, 29] (fun t9 t29 wr => ∃ (i n : Nat), t29 = .int .i64 i /\ i <= T.length /\ n <= 6 * i /\ Hid ((levTo P T F z i).length = n) /\ wr.ownsRow w1.heap.size 84 5 t9 n (cellsG (levTo P T F z i)) /\ Below w1.heap.size w1 wr) (fun _ t29 _ => T.length - (RowKit.intOf t29).toNat)
 case atStart => exact ⟨0, 0, rfl, Nat.zero_le _, Nat.le_refl _, rfl, World.ownsRow_nil _ _ _ _, Below.refl _ _⟩
 case round =>
  obtain ⟨i, n, rfl, hin, hni, HLN, hown, hbr⟩ := hrel;obtain ⟨p9, c9, rfl⟩ := oRs hown;obtain ⟨wo, hwo⟩ : ∃ wo : World, wo = wr := ⟨_, rfl⟩;subst hwo;rcases Nat.lt_or_ge i T.length with h | h
  ·have hbW : Below w.heap.size w wo := hB1.trans (hbr.mono hB1.size)
   obtain ⟨tr, htr⟩ : ∃ tr, tr = triI T i := ⟨_, rfl⟩;obtain ⟨part, hpart⟩ : ∃ l, l = partT P F z tr := ⟨_, rfl⟩;obtain ⟨N, hN⟩ : ∃ N, N = part.length := ⟨_, rfl⟩;have HCOi : Hid (∀ w', Below w.heap.size w w' -> _) := fun w' hb => HCO.out i h w' (HH.out.below hb) (hg.below hb);have HCUi : Hid (∀ w', Good w' -> _) := fun w' hg' => HCU.out i h w' hg';have HNBi : Hid (∀ w', Below w.heap.size w w' -> _) := fun w' hb => HNB.out i h w' (HH.out.below hb) (hg.below hb);have HRTi : Hid (∀ c ∈ partT P F z (triI T i), SzP 200 c.1) := HRT.out i h;have HLS : Hid (levTo P T F z (i + 1) = levTo P T F z i ++ segTo P T F z i (triI T i) (partT P F z (triI T i)) (partT P F z (triI T i)).length) := rfl;have HN6 : N <= 6 := by rw [hN, hpart]; exact cutL_len _ _ _ _
   have HSD : Hid (∀ (a b : PtQ) (w : World), _) := fun a b w => side3_any P F (triI T i) a b w;rw [<- htr] at HCOi HCUi HNBi HRTi HLS HSD;rw [<- hpart] at HCUi HRTi HLS;have HTR := hid htr;have HPT := hid hpart;have HNN := hid hN;generalize RS (ptI P tr.1).1 = q0 at *;generalize RS (ptI P tr.1).2 = q1 at *;generalize RS (hI F tr.1) = q2 at *;generalize RS (ptI P tr.2.1).1 = q3 at *;generalize RS (ptI P tr.2.1).2 = q4 at *;generalize RS (hI F tr.2.1) = q5 at *;generalize RS (ptI P tr.2.2).1 = q6 at *;generalize RS (ptI P tr.2.2).2 = q7 at *;generalize RS (hI F tr.2.2) = q8 at *;have c1' := b1.below hbr b1.lt;have x0 := c1'.cell 0 rfl;have x1 := c1'.cell 1 rfl;have hiT : (i : Int) < (T.length : Int) := by omega
   have hz1 := hbr.size;clear htr hpart hN;go_wp2_with fail;refine (HCOi.out wo hbW).mono ?_;rintro e w2 ⟨_, rfl, rfl, hb2⟩;have hbr2 : Below w1.heap.size w1 w2 := hbr.trans (hb2.mono hbr.size);have hown2 := WRA hown hb2;clear x0 x1 c1' hown hb2;go_upto_region 9 with fail;obtain ⟨W3, hW3⟩ : ∃ X, X = w2.alloc (.cells #[.string q0, .string q1, .string q2, .string q3, .string q4, .string q5, .string q6, .string q7, .string q8] 136) := ⟨_, rfl⟩;have hb3 : Below w2.heap.size w2 W3 := by rw [hW3]; exact zal _ _
   have b11 : BoxN W3 w2.heap.size 136 [.string q0, .string q1, .string q2, .string q3, .string q4, .string q5, .string q6, .string q7, .string q8] := by rw [hW3]; exact BoxN.new _ _ _ _ rfl
   rw [<- hW3];clear hW3;have hbr3 : Below w1.heap.size w1 W3 := hbr2.trans (hb3.mono hbr2.size);have hown3 := WRA hown2 hb3;have hbW3 : Below w.heap.size w W3 := hB1.trans (hbr3.mono hB1.size);have hrange : W3.rangeAt w2.heap.size 0 [.string q0, .string q1, .string q2, .string q3, .string q4, .string q5, .string q6, .string q7, .string q8] := fun j v hv => by rw [Nat.zero_add]; exact b11.cell j hv
   clear hb3 hown2 hbr2 hbr hbW;go_wp2_with (refine wpList_load_mid (by rfl) 136 (.tmp 11) (by rfl) w2.heap.size 0 (by rfl) [.string q0, .string q1, .string q2, .string q3, .string q4, .string q5, .string q6, .string q7, .string q8] _ hrange Tryz.underlying136 (by rfl) (by kernel_rfl) ?_);refine (HCUi.out W3 (hg.below hbW3)).mono ?_;rintro e w4 ⟨v12, rfl, hpv, hb4⟩;have hbr4 : Below w1.heap.size w1 w4 := hbr3.trans (hb4.mono hbr3.size);have hown4 := WRA hown3 hb4;have b114 := b11.below hb4 b11.lt;have hpv1 : w4.ownsRow W3.heap.size 135 3 v12 N (cCC part) := by rw [HNN.out]; exact hpv.1
   obtain ⟨p12, c12, rfl⟩ := oRs hpv1;clear hrange b11 hown3 hbr3 hb4 hpv hbW3;go_wp2_with fail;go_loopw [9, 41] (fun t9 t41 wr => ∃ (j n' : Nat), t41 = .int .i64 j /\ j <= N /\ n' <= n + j /\ Hid ((levTo P T F z i ++ segTo P T F z i tr part j).length = n') /\ wr.ownsRow w1.heap.size 84 5 t9 n' (cellsG (levTo P T F z i ++ segTo P T F z i tr part j)) /\ wr.ownsRow W3.heap.size 135 3 (.slice p12 N c12) N (cCC part) /\ BoxN wr w2.heap.size 136 [.string q0, .string q1, .string q2, .string q3, .string q4, .string q5, .string q6, .string q7, .string q8] /\ Below w1.heap.size w1 wr) (fun _ t41 _ => N - (RowKit.intOf t41).toNat)
   case atStart => exact ⟨0, n, rfl, Nat.zero_le _, Nat.le_refl _, by unfold Hid; rw [show segTo P T F z i tr part 0 = [] from rfl, List.append_nil]; exact HLN.out, by rw [show segTo P T F z i tr part 0 = [] from rfl, List.append_nil]; exact hown4, hpv1, b114, hbr4⟩
   case round =>
    clear hown4 hpv1 b114 hbr4;obtain ⟨j, n', rfl, hjN, hnj, HLNj, hown, hpv, b11, hbr⟩ := hrel;obtain ⟨p9', c9', rfl⟩ := oRs hown;have hbW : Below w.heap.size w wr := hB1.trans (hbr.mono hB1.size);rcases Nat.lt_or_ge j N with hj | hj
    ·have HSTj : Hid (levTo P T F z i ++ segTo P T F z i tr part (j + 1) = levTo P T F z i ++ segTo P T F z i tr part j ++ segA P T F z i tr part j) := by unfold Hid; rw [show segTo P T F z i tr part (j + 1) = segTo P T F z i tr part j ++ segA P T F z i tr part j from rfl, List.append_assoc]
     have hNp : N = part.length := HNN.out;obtain ⟨g12, c12', hv12, hcells⟩ := row_open (by rw [<- hNp]; exact hpv) (by intro e; rw [e] at hNp; simp at hNp; omega);injection hv12 with hp12 hn12 hc12
     subst hp12;have hj2 : (j + 1) % N < N := Nat.mod_lt _ (by omega);obtain ⟨jn, hjn⟩ : ∃ jn, jn = (j + 1) % N := ⟨_, rfl⟩;have hrem : ((j : Int) + 1).tmod (N : Int) = (jn : Int) := by
      rw [Int.tmod_eq_emod_of_nonneg (by omega), hjn];push_cast; rfl
     have hrem2 : ((j : Int) + 1) % (N : Int) = (jn : Int) := by rw [hjn]; push_cast; rfl
     rw [<- hjn] at hj2;have hja : j < part.length := by omega
     have hjb : jn < part.length := by omega
     obtain ⟨k0, k1, k2⟩ := hcells j hja;obtain ⟨l0, l1, l2⟩ := hcells jn hjb;obtain ⟨A, hA⟩ : ∃ A, A = part[j] := ⟨_, rfl⟩;obtain ⟨B, hBb⟩ : ∃ B, B = part[jn] := ⟨_, rfl⟩;rw [<- hA] at k0 k1 k2;rw [<- hBb] at l0 l1 l2;have HSA : Hid (segA P T F z i tr part j = if keepB P T F z tr A B then [((i : Int), A.1, B.1)] else []) := by
      unfold Hid segA;rw [<- hNp, <- hjn, corI_nat _ _ hja, corI_nat _ _ hjb, <- hA, <- hBb]
     have HCA := hid fun w hg => cpoint_ok A.1 (HRTi.out A (by rw [hA]; exact List.getElem_mem _)) w hg
     have HCB := hid fun w hg => cpoint_ok B.1 (HRTi.out B (by rw [hBb]; exact List.getElem_mem _)) w hg
     have HSDj : Hid (∀ (w : World), _) := fun w => HSD.out A.1 B.1 w;have HREM := hid hrem;have hN0 : (0 : Int) < (N : Int) := by omega
     have hjz : (j : Int) < (N : Int) := by omega
     have hjnz : (jn : Int) < (N : Int) := by omega
     clear hcells hA hBb hja hjb hc12 hjn hNp hn12;have hwlt : g12 < wr.heap.size := World.block_lt_of_cell? wr _ k0;obtain ⟨ax, hax⟩ : ∃ s, s = RS A.1.1 := ⟨_, rfl⟩;obtain ⟨ay, hay⟩ : ∃ s, s = RS A.1.2 := ⟨_, rfl⟩;obtain ⟨bx, hbx⟩ : ∃ s, s = RS B.1.1 := ⟨_, rfl⟩;obtain ⟨by', hby⟩ : ∃ s, s = RS B.1.2 := ⟨_, rfl⟩;obtain ⟨az, haz⟩ : ∃ s, s = RS A.2 := ⟨_, rfl⟩;obtain ⟨bz, hbz⟩ : ∃ s, s = RS B.2 := ⟨_, rfl⟩;rw [<- hax, <- hay] at HCA HSDj;rw [<- hbx, <- hby] at HCB HSDj;rw [<- hax] at k0;rw [<- hay] at k1;rw [<- haz] at k2;rw [<- hbx] at l0;rw [<- hby] at l1;rw [<- hbz] at l2;have HXY : Hid (RS A.1.1 = ax /\ RS A.1.2 = ay /\ RS B.1.1 = bx /\ RS B.1.2 = by') := ⟨hax.symm, hay.symm, hbx.symm, hby.symm⟩;have HAZ : Hid (az.toList = sz.toList ↔ A.2 = z) := by
      unfold Hid;rw [haz, HZS.out];exact ⟨fun h => RtL h, fun h => by rw [h]⟩
     have HBZ : Hid (bz.toList = sz.toList ↔ B.2 = z) := by
      unfold Hid;rw [hbz, HZS.out];exact ⟨fun h => RtL h, fun h => by rw [h]⟩
     obtain ⟨ks, hks⟩ : ∃ s, s = sideT P tr A.1 B.1 := ⟨_, rfl⟩;have hkc : ks = -1 \/ ks = 0 \/ ks = 1 \/ ks = 2 := by rw [hks]; exact sideL_cases _ _ _ _ _
     rw [<- hks] at HSDj;have HKS := hid hks;clear hax hay hbx hby haz hbz hks;go_upto_region 14 with fail;obtain ⟨W6, hW6⟩ : ∃ X, X = (wr.alloc (.cells #[.string ax, .string ay, .string az] 135)).alloc (.cells #[.string bx, .string by', .string bz] 135) := ⟨_, rfl⟩;have hb6 : Below wr.heap.size wr W6 := by rw [hW6]; exact zal2 _ _ _
     have b156 : BoxN W6 (wr.heap.size + 1) 135 [.string bx, .string by', .string bz] := by rw [hW6]; exact BoxN.new _ _ _ _ (by simp)
     have b146 : BoxN W6 wr.heap.size 135 [.string ax, .string ay, .string az] := by
      rw [hW6];have h1 := (BoxN.new wr #[.string ax, .string ay, .string az] 135 _ rfl);exact h1.below (zal _ _) h1.lt
     rw [<- hW6];clear hW6 k0 k1 k2 l0 l1 l2 hrem hrem2 hjnz hwlt;have hown6 := WRA hown hb6;have hpv6 := WRA hpv hb6;have b116 := b11.below hb6 b11.lt;have hbr6 := hbr.trans (hb6.mono hbr.size);have hbW6 := hB1.trans (hbr6.mono hB1.size);clear hown hpv b11 hbr hbW hb6;have a2 := b146.cell 2 rfl;have c2 := b156.cell 2 rfl;by_cases hAz : A.2 = z;rotate_left
     ·have ht := (not_congr HAZ.out).2 hAz
      have HKB : Hid (keepB P T F z tr A B = false) := by unfold Hid keepB; rw [decide_eq_false hAz]; rfl
      clear hAz;have HE : Hid (levTo P T F z i ++ segTo P T F z i tr part (j + 1) = levTo P T F z i ++ segTo P T F z i tr part j) := by unfold Hid; rw [HSTj.out, HSA.out, HKB.out, if_neg (by simp), List.append_nil]
      have HLN1 : Hid ((levTo P T F z i ++ segTo P T F z i tr part (j + 1)).length = n') := by unfold Hid; rw [HE.out]; exact HLNj.out
      have HOW : Hid (W6.ownsRow w1.heap.size 84 5 (.slice p9' n' c9') n' (cellsG (levTo P T F z i ++ segTo P T F z i tr part (j + 1)))) := by unfold Hid; rw [HE.out]; exact hown6
      go_wp2_with fail;go_roundw
      case rel => exact ⟨j + 1, n', by go_num, hj, by omega, HLN1, HOW.out, hpv6, b116, hbr6⟩
      case measure => simp [RowKit.intOf]; omega
     by_cases hBz : B.2 = z;rotate_left
     ·have ht := (not_congr HBZ.out).2 hBz
      have htb : (bz.toList == sz.toList) = false := by simpa using ht
      have ht2 := HAZ.out.2 hAz;have HKB : Hid (keepB P T F z tr A B = false) := by unfold Hid keepB; rw [decide_eq_false hBz, Bool.and_false]; rfl
      clear hAz hBz;have HE : Hid (levTo P T F z i ++ segTo P T F z i tr part (j + 1) = levTo P T F z i ++ segTo P T F z i tr part j) := by unfold Hid; rw [HSTj.out, HSA.out, HKB.out, if_neg (by simp), List.append_nil]
      have HLN1 : Hid ((levTo P T F z i ++ segTo P T F z i tr part (j + 1)).length = n') := by unfold Hid; rw [HE.out]; exact HLNj.out
      have HOW : Hid (W6.ownsRow w1.heap.size 84 5 (.slice p9' n' c9') n' (cellsG (levTo P T F z i ++ segTo P T F z i tr part (j + 1)))) := by unfold Hid; rw [HE.out]; exact hown6
      go_wp2_with fail;go_roundw
      case rel => exact ⟨j + 1, n', by go_num, hj, by omega, HLN1, HOW.out, hpv6, b116, hbr6⟩
      case measure => simp [RowKit.intOf]; omega
     have ht1 := HAZ.out.2 hAz;have ht2 := HBZ.out.2 hBz;have HKB : Hid (keepB P T F z tr A B = (decide (ks < 0) || (decide (0 <= nbT T tr ks) && (partT P F z (triI T (nbT T tr ks))).isEmpty))) := by unfold Hid keepB; rw [decide_eq_true hAz, decide_eq_true hBz, HKS.out]; rfl
     clear hAz hBz HAZ HBZ;have hrange6 : W6.rangeAt w2.heap.size 0 [.string q0, .string q1, .string q2, .string q3, .string q4, .string q5, .string q6, .string q7, .string q8] := fun j v hv => by rw [Nat.zero_add]; exact b116.cell j hv
     have y0 := b146.cell 0 rfl;have y1 := b146.cell 1 rfl;have z0 := b156.cell 0 rfl;have z1 := b156.cell 1 rfl;go_upto_region 15 with fail;clear ht1 ht2 a2 c2;go_wp2_with (refine wpList_load_mid (by rfl) 136 (.tmp 11) (by rfl) w2.heap.size 0 (by rfl) [.string q0, .string q1, .string q2, .string q3, .string q4, .string q5, .string q6, .string q7, .string q8] _ hrange6 Tryz.underlying136 (by rfl) (by kernel_rfl) ?_);refine (HSDj.out W6).mono ?_;rintro e w7 ⟨_, rfl, rfl, hb7⟩;have hown7 := WRA hown6 hb7;have hpv7 := WRA hpv6 hb7;have b117 := b116.below hb7 b116.lt;have b147 := b146.below hb7 b146.lt;have b157 := b156.below hb7 b156.lt;have hbr7 := hbr6.trans (hb7.mono hbr6.size);clear hown6 hpv6 b116 b146 b156 hbr6 hbW6 hb7 hrange6 y0 y1 z0 z1;by_cases hk0 : ks < 0
     ·have HKB1 : Hid (keepB P T F z tr A B = true) := by unfold Hid; rw [HKB.out, decide_eq_true hk0]; rfl
      have hk1 : ¬ 0 <= ks := by omega
      have HE : Hid (levTo P T F z i ++ segTo P T F z i tr part (j + 1) = levTo P T F z i ++ segTo P T F z i tr part j ++ [((i : Int), A.1, B.1)]) := by unfold Hid; rw [HSTj.out, HSA.out, HKB1.out, if_pos rfl]
      have HLN1 : Hid ((levTo P T F z i ++ segTo P T F z i tr part (j + 1)).length = n' + 1) := by unfold Hid; rw [HE.out, List.length_append, HLNj.out]; rfl
      have HBE : Hid (cellsG (levTo P T F z i ++ segTo P T F z i tr part (j + 1)) = cellsG (levTo P T F z i ++ segTo P T F z i tr part j) ++ [.int .i64 (i : Int), .string ax, .string ay, .string bx, .string by']) := by
       obtain ⟨e1, e2, e3, e4⟩ := HXY.out;unfold Hid;rw [HE.out, cellsG_snoc, e1, e2, e3, e4]
      have hbWt := hB1.trans (hbr7.mono hB1.size);have y0 := b147.cell 0 rfl;have y1 := b147.cell 1 rfl;clear HE;go_wp2_with fail;refine (HCA.out w7 (hg.below hbWt)).mono ?_;rintro e wA ⟨_, rfl, rfl, hbA⟩;have b15A := b157.below hbA b157.lt;have z0 := b15A.cell 0 rfl;have z1 := b15A.cell 1 rfl;have hbWA := hbWt.trans (hbA.mono hbWt.size);clear y0 y1;go_wp2_with fail;refine (HCB.out wA (hg.below hbWA)).mono ?_;rintro e wB ⟨_, rfl, rfl, hbB⟩;have hbAB := hbA.trans (hbB.mono hbA.size);have hownB := WRA hown7 hbAB;have hpvB := WRA hpv7 hbAB;have b11B := b117.below hbAB b117.lt;have b14B := b147.below hbAB b147.lt;have b15B := b157.below hbAB b157.lt;have hbrB := hbr7.trans (hbAB.mono hbr7.size);have hzB := hbrB.size;have hl11 := b11B.lt;clear hbA hbB hbAB hbWt hbWA z0 z1 b15A hown7 hpv7 b117 b147 b157 hbr7;have y0 := b14B.cell 0 rfl;have y1 := b14B.cell 1 rfl;have z0 := b15B.cell 0 rfl;have z1 := b15B.cell 1 rfl
      go_wp2_with (at_builtin; refine wpList_append_own _ rfl _ _ 80 rfl w1.heap.size 84 i0 (.agg #[.int .i64 0, .string ⟨#[]⟩, .string ⟨#[]⟩, .string ⟨#[]⟩, .string ⟨#[]⟩]) 5 72 Tryz.underlying80 hi0 hzz0 hzz1 hzz2 rfl (by decide) _ _ _ rfl (hownB.alloc _) ⟨wB.heap.size, 0, none⟩ 1 1 [.int .i64 (i : Int), .string ax, .string ay, .string bx, .string by'] rfl rfl (cell_five _ _ _ _ _ _ _) (five_one _ _ _ _ _) (by unfold maxLen; omega) (by omega) (by simp; omega) ?_
                   intro v9 w9 hown9 hgrow9 _;have hzw9 := hgrow9.size;have hbr9 : Below w1.heap.size w1 w9 := (hbrB.alloc hzB _).grown hgrow9 (by simp; omega) (fun j hj => by have := (hownB.lt j hj).1; omega);have hpv9 := World.ownsRow.kept (hpvB.alloc (.cells #[.int .i64 (i : Int), .string ax, .string ay, .string bx, .string by'] 84)) hgrow9 (owns_apart (hpvB.alloc _) (hownB.alloc (.cells #[.int .i64 (i : Int), .string ax, .string ay, .string bx, .string by'] 84)) (by decide));have b119' := b11B.below ((Below.refl _ _).alloc (Nat.le_refl _) (.cells #[.int .i64 (i : Int), .string ax, .string ay, .string bx, .string by'] 84)) hl11;have b119 := (hgrow9.block _ b119'.lt (obN (hownB.alloc (.cells #[.int .i64 (i : Int), .string ax, .string ay, .string bx, .string by'] 84)) b119' (by decide))).trans b119';clear hgrow9 b119')
      rw [<- HBE.out] at hown9;go_wp2_with fail;go_roundw
      case rel => exact ⟨j + 1, n' + 1, by go_num, hj, by omega, HLN1, hown9, hpv9, b119, hbr9⟩
      case measure => simp [RowKit.intOf]; omega
     obtain ⟨kk, hkk⟩ : ∃ kk : Nat, ks = (kk : Int) := ⟨ks.toNat, by omega⟩;subst hkk;have hk3 : (kk : Int) < 3 := by omega
     have HKB2 : Hid (keepB P T F z tr A B = (decide (0 <= nbT T tr kk) && (partT P F z (triI T (nbT T tr kk))).isEmpty)) := by unfold Hid; rw [HKB.out, decide_eq_false hk0]; rfl
     clear hk0 HKB;have hbW7 := hB1.trans (hbr7.mono hB1.size);have m7 := b1.below hbr7 b1.lt;have x0 := m7.cell 0 rfl;have x1 := m7.cell 1 rfl;go_wp2_with fail;refine (HNBi.out w7 hbW7).mono ?_;rintro e w8 ⟨_, rfl, rfl, hb8⟩;have hown8 := WRA hown7 hb8;have hpv8 := WRA hpv7 hb8;have b118 := b117.below hb8 b117.lt;have b148 := b147.below hb8 b147.lt;have b158 := b157.below hb8 b157.lt;have hbr8 := hbr7.trans (hb8.mono hbr7.size);clear hown7 hpv7 b117 b147 b157 hbr7 hbW7 hb8 x0 x1 m7;go_upto_region 20 with fail;have nbT_lt : ∀ k, 0 <= nbT T tr k -> ∃ j : Nat, nbT T tr k = (j : Int) /\ j < T.length := fun k h => nbI_lt h;obtain ⟨nb, hnbE⟩ : ∃ x, x = nbT T tr kk := ⟨_, rfl⟩;obtain ⟨W9, hW9⟩ : ∃ X, X = w8.alloc (.cells #[.int .i64 (nbI T (sideK tr 0)), .int .i64 (nbI T (sideK tr 1)), .int .i64 (nbI T (sideK tr 2))] 70) := ⟨_, rfl⟩;have hb9 : Below w8.heap.size w8 W9 := by rw [hW9]; exact zal _ _
     have b17 : BoxN W9 w8.heap.size 70 [.int .i64 (nbI T (sideK tr 0)), .int .i64 (nbI T (sideK tr 1)), .int .i64 (nbI T (sideK tr 2))] := by rw [hW9]; exact BoxN.new _ _ _ _ rfl
     rw [<- hW9];have kc : W9.cell? ⟨w8.heap.size, kk, none⟩ = some (.int .i64 nb) := by
      rw [hnbE];obtain rfl | rfl | rfl : kk = 0 \/ kk = 1 \/ kk = 2 := by omega
      ·exact b17.cell 0 rfl
      ·exact b17.cell 1 rfl
      ·exact b17.cell 2 rfl
     have hown9 := WRA hown8 hb9;have hpv9 := WRA hpv8 hb9;have b119 := b118.below hb9 b118.lt;have b149 := b148.below hb9 b148.lt;have b159 := b158.below hb9 b158.lt;have hbr9 := hbr8.trans (hb9.mono hbr8.size);have hl17 := b17.lt;rw [<- hnbE] at HKB2;clear hW9 b17 hb9 hown8 hpv8 b118 b148 b158 hbr8;by_cases hnb : nb < 0
     ·have HKB3 : Hid (keepB P T F z tr A B = false) := by unfold Hid; rw [HKB2.out, decide_eq_false (by omega)]; rfl
      have hnbd : decide (nb < 0) = true := decide_eq_true hnb;clear HKB2 hnbE nbT_lt;go_quiet (fail);obtain ⟨wC, hwC⟩ : ∃ X, X = W9.drewN nq := ⟨_, rfl⟩;have hbC : Below W9.heap.size W9 wC := by rw [hwC]; exact bdN W9 nq
      rw [<- hwC];clear hwC kc;have hownC := WRA hown9 hbC;have hpvC := WRA hpv9 hbC;have b11C := b119.below hbC b119.lt;have hbrC := hbr9.trans (hbC.mono hbr9.size);have HE : Hid (levTo P T F z i ++ segTo P T F z i tr part (j + 1) = levTo P T F z i ++ segTo P T F z i tr part j) := by unfold Hid; rw [HSTj.out, HSA.out, HKB3.out, if_neg (by simp), List.append_nil]
      have HLN1 : Hid ((levTo P T F z i ++ segTo P T F z i tr part (j + 1)).length = n') := by unfold Hid; rw [HE.out]; exact HLNj.out
      have HOW : Hid (wC.ownsRow w1.heap.size 84 5 (.slice p9' n' c9') n' (cellsG (levTo P T F z i ++ segTo P T F z i tr part (j + 1)))) := by unfold Hid; rw [HE.out]; exact hownC
      go_wp2_with fail;go_roundw
      case rel => exact ⟨j + 1, n', by go_num, hj, by omega, HLN1, HOW.out, hpvC, b11C, hbrC⟩
      case measure => simp [RowKit.intOf]; omega
     obtain ⟨jb, hjb, hjbl⟩ := nbT_lt kk (by rw [<- hnbE]; omega);rw [<- hnbE] at hjb;subst hjb;have HKB3 : Hid (keepB P T F z tr A B = (partT P F z (triI T jb)).isEmpty) := by unfold Hid; rw [HKB2.out, decide_eq_true (by omega)]; rfl
     have HCOn : Hid (∀ w', Below w.heap.size w w' -> _) := fun w' hb => HCO.out jb hjbl w' (HH.out.below hb) (hg.below hb);have HCUn : Hid (∀ w', Good w' -> _) := fun w' hg' => HCU.out jb hjbl w' hg';have hnbd : decide ((jb : Int) < 0) = false := decide_eq_false hnb;obtain ⟨pN, hpN⟩ : ∃ l, l = partT P F z (triI T jb) := ⟨_, rfl⟩;rw [<- hpN] at HKB3 HCUn;generalize RS (ptI P (triI T jb).1).1 = r0 at *;generalize RS (ptI P (triI T jb).1).2 = r1 at *;generalize RS (hI F (triI T jb).1) = r2 at *;generalize RS (ptI P (triI T jb).2.1).1 = r3 at *;generalize RS (ptI P (triI T jb).2.1).2 = r4 at *;generalize RS (hI F (triI T jb).2.1) = r5 at *;generalize RS (ptI P (triI T jb).2.2).1 = r6 at *;generalize RS (ptI P (triI T jb).2.2).2 = r7 at *;generalize RS (hI F (triI T jb).2.2) = r8 at *;have m9 := b1.below hbr9 b1.lt;have x0 := m9.cell 0 rfl;have x1 := m9.cell 1 rfl;have hbW9 := hB1.trans (hbr9.mono hB1.size);have hlm := m9.lt;have hgd : Good W9.drew := (hg.below hbW9).drewN 1;have hbd : Below w.heap.size w W9.drew := hbW9.trans ((bdN W9 1).mono hbW9.size);clear HKB2 hnbE nbT_lt hpN hnb m9 hbW9;by_cases hpn : pN = []
     ·have HKB4 : Hid (keepB P T F z tr A B = true) := by unfold Hid; rw [HKB3.out, hpn]; rfl
      go_region_held3 (fun w' => w'.cell? ⟨w8.heap.size, kk, none⟩ = some (.int .i64 (jb : Int)) /\ w'.cell? ⟨w.heap.size, 0, none⟩ = some (.slice pp P.length cp) /\ w'.cell? ⟨w.heap.size, 1, none⟩ = some (.slice pt T.length ct))
       (first | exact ⟨kc, x0, x1⟩ | exact ⟨p_1_0, p_1_1, p_1_2⟩ | exact ⟨p_2_0, p_2_1, p_2_2⟩)
       (first
       | (go_at_call 75; refine (HCUn.out _ pg1).mono ?_; rintro e pw2 ⟨vn, rfl, hpvn, pb2⟩
          have p_2_0 := zct pb2 p_1_0;have p_2_1 := zct pb2 p_1_1;have p_2_2 := zct pb2 p_1_2;have ps2 := pb2.size;have pg2 := pg1.below pb2;obtain rfl := hpvn.2 hpn)
       | (go_at_call 74; refine (HCOn.out _ hbd).mono ?_; rintro e pw1 ⟨_, rfl, rfl, pb1⟩
          have p_1_0 := zct pb1 kc;have p_1_1 := zct pb1 x0;have p_1_2 := zct pb1 x1;have ps1 : W9.heap.size <= pw1.heap.size := pb1.size;have pg1 := hgd.below pb1))
      have pB : Below W9.heap.size W9 pw2 := zbt (zbt (bdN W9 1) pb1) pb2;clear hpvn;have hownC := WRA hown9 pB;have hpvC := WRA hpv9 pB;have b11C := b119.below pB b119.lt;have b14C := b149.below pB b149.lt;have b15C := b159.below pB b159.lt;have hbrC := hbr9.trans (pB.mono hbr9.size);clear pB pb1 pb2 ps1 ps2 pg1 pg2 p_1_0 p_1_1 p_1_2 p_2_0 p_2_1 p_2_2 kc x0 x1 hown9 hpv9 b119 b149 b159 hbr9 hgd hbd hpn;have HE : Hid (levTo P T F z i ++ segTo P T F z i tr part (j + 1) = levTo P T F z i ++ segTo P T F z i tr part j ++ [((i : Int), A.1, B.1)]) := by unfold Hid; rw [HSTj.out, HSA.out, HKB4.out, if_pos rfl]
      have HLN1 : Hid ((levTo P T F z i ++ segTo P T F z i tr part (j + 1)).length = n' + 1) := by unfold Hid; rw [HE.out, List.length_append, HLNj.out]; rfl
      have HBE : Hid (cellsG (levTo P T F z i ++ segTo P T F z i tr part (j + 1)) = cellsG (levTo P T F z i ++ segTo P T F z i tr part j) ++ [.int .i64 (i : Int), .string ax, .string ay, .string bx, .string by']) := by
       obtain ⟨e1, e2, e3, e4⟩ := HXY.out;unfold Hid;rw [HE.out, cellsG_snoc, e1, e2, e3, e4]
      have hbWt := hB1.trans (hbrC.mono hB1.size);have y0 := b14C.cell 0 rfl;have y1 := b14C.cell 1 rfl;clear HE;go_wp2_with fail;refine (HCA.out pw2 (hg.below hbWt)).mono ?_;rintro e wA ⟨_, rfl, rfl, hbA⟩;have b15A := b15C.below hbA b15C.lt;have z0 := b15A.cell 0 rfl;have z1 := b15A.cell 1 rfl;have hbWA := hbWt.trans (hbA.mono hbWt.size);clear y0 y1;go_wp2_with fail;refine (HCB.out wA (hg.below hbWA)).mono ?_;rintro e wB ⟨_, rfl, rfl, hbB⟩;have hbAB := hbA.trans (hbB.mono hbA.size);have hownB := WRA hownC hbAB;have hpvB := WRA hpvC hbAB;have b11B := b11C.below hbAB b11C.lt;have b14B := b14C.below hbAB b14C.lt;have b15B := b15C.below hbAB b15C.lt;have hbrB := hbrC.trans (hbAB.mono hbrC.size);have hzB := hbrB.size;have hl11 := b11B.lt;clear hbA hbB hbAB hbWt hbWA z0 z1 b15A hownC hpvC b11C b14C b15C hbrC;have y0 := b14B.cell 0 rfl;have y1 := b14B.cell 1 rfl;have z0 := b15B.cell 0 rfl;have z1 := b15B.cell 1 rfl
      go_wp2_with (at_builtin; refine wpList_append_own _ rfl _ _ 80 rfl w1.heap.size 84 i0 (.agg #[.int .i64 0, .string ⟨#[]⟩, .string ⟨#[]⟩, .string ⟨#[]⟩, .string ⟨#[]⟩]) 5 72 Tryz.underlying80 hi0 hzz0 hzz1 hzz2 rfl (by decide) _ _ _ rfl (hownB.alloc _) ⟨wB.heap.size, 0, none⟩ 1 1 [.int .i64 (i : Int), .string ax, .string ay, .string bx, .string by'] rfl rfl (cell_five _ _ _ _ _ _ _) (five_one _ _ _ _ _) (by unfold maxLen; omega) (by omega) (by simp; omega) ?_
                   intro v9 w9 hown9 hgrow9 _;have hzw9 := hgrow9.size;have hbr9 : Below w1.heap.size w1 w9 := (hbrB.alloc hzB _).grown hgrow9 (by simp; omega) (fun j hj => by have := (hownB.lt j hj).1; omega);have hpv9 := World.ownsRow.kept (hpvB.alloc (.cells #[.int .i64 (i : Int), .string ax, .string ay, .string bx, .string by'] 84)) hgrow9 (owns_apart (hpvB.alloc _) (hownB.alloc (.cells #[.int .i64 (i : Int), .string ax, .string ay, .string bx, .string by'] 84)) (by decide));have b119' := b11B.below ((Below.refl _ _).alloc (Nat.le_refl _) (.cells #[.int .i64 (i : Int), .string ax, .string ay, .string bx, .string by'] 84)) hl11;have b119 := (hgrow9.block _ b119'.lt (obN (hownB.alloc (.cells #[.int .i64 (i : Int), .string ax, .string ay, .string bx, .string by'] 84)) b119' (by decide))).trans b119';clear hgrow9 b119')
      rw [<- HBE.out] at hown9;go_wp2_with fail;go_roundw
      case rel => exact ⟨j + 1, n' + 1, by go_num, hj, by omega, HLN1, hown9, hpv9, b119, hbr9⟩
      case measure => simp [RowKit.intOf]; omega
     ·have HKB4 : Hid (keepB P T F z tr A B = false) := by unfold Hid; rw [HKB3.out]; cases pN with | nil => exact absurd rfl hpn | cons a l => rfl
      go_region_held3 (fun w' => w'.cell? ⟨w8.heap.size, kk, none⟩ = some (.int .i64 (jb : Int)) /\ w'.cell? ⟨w.heap.size, 0, none⟩ = some (.slice pp P.length cp) /\ w'.cell? ⟨w.heap.size, 1, none⟩ = some (.slice pt T.length ct))
       (first | exact ⟨kc, x0, x1⟩ | exact ⟨p_1_0, p_1_1, p_1_2⟩ | exact ⟨p_2_0, p_2_1, p_2_2⟩)
       (first
       | (go_at_call 75; refine (HCUn.out _ pg1).mono ?_; rintro e pw2 ⟨vn, rfl, hpvn, pb2⟩
          have p_2_0 := zct pb2 p_1_0;have p_2_1 := zct pb2 p_1_1;have p_2_2 := zct pb2 p_1_2;have ps2 := pb2.size;have pg2 := pg1.below pb2;obtain ⟨gn, cn, rfl, -⟩ := row_open hpvn.1 hpn)
       | (go_at_call 74; refine (HCOn.out _ hbd).mono ?_; rintro e pw1 ⟨_, rfl, rfl, pb1⟩
          have p_1_0 := zct pb1 kc;have p_1_1 := zct pb1 x0;have p_1_2 := zct pb1 x1;have ps1 : W9.heap.size <= pw1.heap.size := pb1.size;have pg1 := hgd.below pb1))
      have pB : Below W9.heap.size W9 pw2 := zbt (zbt (bdN W9 1) pb1) pb2;clear hpvn;have hownC := WRA hown9 pB;have hpvC := WRA hpv9 pB;have b11C := b119.below pB b119.lt;have b14C := b149.below pB b149.lt;have b15C := b159.below pB b159.lt;have hbrC := hbr9.trans (pB.mono hbr9.size);clear pB pb1 pb2 ps1 ps2 pg1 pg2 p_1_0 p_1_1 p_1_2 p_2_0 p_2_1 p_2_2 kc x0 x1 hown9 hpv9 b119 b149 b159 hbr9 hgd hbd hpn;have HE : Hid (levTo P T F z i ++ segTo P T F z i tr part (j + 1) = levTo P T F z i ++ segTo P T F z i tr part j) := by unfold Hid; rw [HSTj.out, HSA.out, HKB4.out, if_neg (by simp), List.append_nil]
      have HLN1 : Hid ((levTo P T F z i ++ segTo P T F z i tr part (j + 1)).length = n') := by unfold Hid; rw [HE.out]; exact HLNj.out
      have HOW : Hid (pw2.ownsRow w1.heap.size 84 5 (.slice p9' n' c9') n' (cellsG (levTo P T F z i ++ segTo P T F z i tr part (j + 1)))) := by unfold Hid; rw [HE.out]; exact hownC
      go_wp2_with fail;go_roundw
      case rel => exact ⟨j + 1, n', by go_num, hj, by omega, HLN1, HOW.out, hpvC, b11C, hbrC⟩
      case measure => simp [RowKit.intOf]; omega
    ·obtain rfl : j = N := by omega
     have HF : Hid (levTo P T F z (i + 1) = levTo P T F z i ++ segTo P T F z i tr part j) := by unfold Hid; rw [HLS.out, <- HNN.out]
     have HLN1 : Hid ((levTo P T F z (i + 1)).length = n') := by unfold Hid; rw [HF.out]; exact HLNj.out
     rw [<- HF.out] at hown;go_wp2_with fail;go_roundw
     case rel => exact ⟨i + 1, n', by go_num, h, by omega, HLN1, hown, hbr⟩
     case measure => simp [RowKit.intOf]; omega
  ·obtain rfl : i = T.length := by omega
   have hbW : Below w.heap.size w wo := hB1.trans (hbr.mono hB1.size);have hsv : SegV wo w.heap.size (.slice p9 n c9) (levelL P T F z) := by
    unfold SegV levelL;rw [HLN.out];exact ownsRow_base hown hB1.size
   go_wp2_with fail;go_ret2;exact ⟨_, rfl, ⟨_, rfl, hsv⟩, hbW⟩
theorem RS_third13 : RS (1 / 3) = ⟨#[49, 47, 51]⟩ := by decide +kernel
theorem RS_half12 : RS (1 / 2) = ⟨#[49, 47, 50]⟩ := by decide +kernel
structure CorB (w : World) (b : Nat) (c : Cor) : Prop where
 x : w.cell? ⟨b, 0, none⟩ = some (.string (RS c.1.1))
 y : w.cell? ⟨b, 1, none⟩ = some (.string (RS c.1.2))
 z : w.cell? ⟨b, 2, none⟩ = some (.string (RS c.2))
theorem CorB.ofBox {w : World} {b ty : Nat} {c : Cor} (h : BoxN w b ty [.string (RS c.1.1), .string (RS c.1.2), .string (RS c.2)]) : CorB w b c := ⟨h.cell 0 rfl, h.cell 1 rfl, h.cell 2 rfl⟩
theorem CorB.new (w : World) (c : Cor) (ty b : Nat) (hb : w.heap.size = b) : CorB (w.alloc (.cells #[.string (RS c.1.1), .string (RS c.1.2), .string (RS c.2)] ty)) b c := .ofBox (BoxN.new w _ ty b hb)
theorem CorB.alloc {w : World} {b : Nat} {c : Cor} (h : CorB w b c) (o : Obj) : CorB (w.alloc o) b c := ⟨cal _ h.x, cal _ h.y, cal _ h.z⟩
theorem CorB.drew {w : World} {b : Nat} {c : Cor} (h : CorB w b c) : CorB w.drew b c := ⟨h.x, h.y, h.z⟩
theorem fanI_Sz {l : List Cor} {z : Rat} {k : Nat} (hk : 0 < k) (hl : ∀ c ∈ l, SzP k c.1 /\ Sz k c.2) (hz : Sz k z) (n : Nat) : Sz ((14 * k + 14) * n + 1) (fanI l z n) := by
 have hc : ∀ i, SzP k (corI l i).1 /\ Sz k (corI l i).2 := fun i => by
  unfold corI;rcases Nat.lt_or_ge i l.length with h | h
  ·rw [List.getElem?_eq_getElem h]; exact hl _ (List.getElem_mem h)
  ·rw [List.getElem?_eq_none h]; exact ⟨⟨Sz.zero _ hk, Sz.zero _ hk⟩, Sz.zero _ hk⟩
 induction n with
 | zero => exact Sz.zero 1 (by omega)
 | succ n ih =>
   have a := (areaQ_Sz (hc 0).1 (hc (n + 1)).1 (hc (n + 2)).1);have h2 : Sz 1 (1 / 2 : Rat) := ⟨by decide +kernel, by decide +kernel⟩;have h3 : Sz 1 (1 / 3 : Rat) := ⟨by decide +kernel, by decide +kernel⟩;have m := (((((hc 0).2.add (hc (n + 1)).2).add (hc (n + 2)).2).mul h3).sub hz);exact (ih.add ((a.mul h2).mul m)).mono (by rw [Nat.mul_add]; omega)
theorem integral_any (w : World) (v : Value) (l : List Cor) (z : Rat) (k : Nat) (hk : 0 < k) (hk2 : k <= 200) (hlen : l.length <= 6) (hl : ∀ c ∈ l, SzP k c.1 /\ Sz k c.2) (hz : Sz k z) (hv : RdK w v l) (hg : Good w) :
 Calls Tryz.prog 101 #[v, .string (RS z)] w (Ret (fun r _ => r = .string (RS (integ l z))) w) := by
 have HC : Hid (∀ i, SzP k (corI l i).1 /\ Sz k (corI l i).2) := fun i => by
  unfold corI;rcases Nat.lt_or_ge i l.length with h | h
  ·rw [List.getElem?_eq_getElem h]; exact hl _ (List.getElem_mem h)
  ·rw [List.getElem?_eq_none h]; exact ⟨⟨Sz.zero _ hk, Sz.zero _ hk⟩, Sz.zero _ hk⟩
 have HZF := hid (fanI_Sz hk hl hz);have HZ := hid hz;have h2 : Sz 1 (1 / 2 : Rat) := ⟨by decide +kernel, by decide +kernel⟩;have h3 : Sz 1 (1 / 3 : Rat) := ⟨by decide +kernel, by decide +kernel⟩;have HH2 := hid h2;have HH3 := hid h3;obtain ⟨p, cp, rfl, -, -, hcel⟩ := hv.open;have HCE : Hid (∀ i : Nat, i < l.length -> ∃ b off, p = some ⟨b, off, none⟩ /\ b < w.heap.size /\ w.cell? ⟨b, off + i * 3, none⟩ = some (.string (RS (corI l i).1.1)) /\ w.cell? ⟨b, off + i * 3 + 1, none⟩ = some (.string (RS (corI l i).1.2)) /\ w.cell? ⟨b, off + i * 3 + 2, none⟩ = some (.string (RS (corI l i).2))) := fun i hi => by
  obtain ⟨b, off, h1, h2, h3⟩ := hcel (List.ne_nil_of_length_pos (by omega));rw [corI_nat l i hi];exact ⟨b, off, h1, h2, h3 i hi⟩
 have hf0 : fanI l z 0 = 0 := rfl;clear hv hl hz hcel h2 h3;go_enter Tryz.func101, Tryz.ntmps101;go_wp2_with fail;go_loopw [5, 6] (fun t5 t6 wr => ∃ n j : Nat, t6 = .int .i64 (j : Int) /\ Hid (j = n + 1) /\ n <= l.length - 2 /\ t5 = .string (RS (fanI l z n)) /\ Below w.heap.size w wr) (fun _ t6 _ => 8 - (RowKit.intOf t6).toNat)
 case atStart => exact ⟨0, 1, rfl, rfl, Nat.zero_le _, by rw [hf0, RS_zero], Below.refl _ _⟩
 case round =>
  obtain ⟨n, j1, rfl, HJ, hn, rfl, hbr⟩ := hrel;have hj1 := HJ.out;obtain ⟨j2, hj2⟩ : ∃ j, j = n + 2 := ⟨_, rfl⟩;have hw1 : IntKind.i64.wrap ((j1 : Int) + 1) = (j2 : Int) := (IntWalk.i64_in _ (by omega)).trans (by omega);rcases Nat.lt_or_ge (n + 2) l.length with h | h
  ·have hnz : (j2 : Int) < (l.length : Int) := by omega
   have hnz1 : (j1 : Int) < (l.length : Int) := by omega
   have hn0 : (0 : Int) < (l.length : Int) := by omega
   have hn1 : 0 < l.length := by omega
   have hn2 : ¬ l = [] := List.ne_nil_of_length_pos hn1;have hn3 : ¬ l.length = 0 := by omega
   obtain ⟨bl, ol, rfl, hbl, a0, a1, a2⟩ := HCE.out 0 (by omega);obtain ⟨bl1, ol1, e1, -, b0, b1, b2⟩ := HCE.out (n + 1) (by omega);obtain ⟨bl2, ol2, e2, -, d0, d1, d2⟩ := HCE.out (n + 2) (by omega);injection e1 with e1
   injection e1 with e1 e1' _
   injection e2 with e2
   injection e2 with e2 e2' _
   subst e1 e1' e2 e2';have hbl' : bl < wr.heap.size := Nat.lt_of_lt_of_le hbl hbr.size;have HST : Hid (fanI l z (n + 1) = fanI l z n + areaQ (corI l 0).1 (corI l (n + 1)).1 (corI l (n + 2)).1 * (1 / 2) * (((corI l 0).2 + (corI l (n + 1)).2 + (corI l (n + 2)).2) * (1 / 3) - z)) := rfl;have zf := HZF.out n;have za := HC.out 0;have zb := HC.out (n + 1);have zd := HC.out (n + 2);have x0 := zcq hbr hbl a0;have x1 := zcq hbr hbl a1;have x2 := zcq hbr hbl a2;have x3 := zcq hbr hbl b0;have x4 := zcq hbr hbl b1;have x5 := zcq hbr hbl b2;have x6 := zcq hbr hbl d0;have x7 := zcq hbr hbl d1;have x8 := zcq hbr hbl d2;rw [Nat.zero_mul, Nat.add_zero] at x0 x1 x2;obtain ⟨ca, hca⟩ : ∃ c, c = corI l 0 := ⟨_, rfl⟩;obtain ⟨cb, hcb⟩ : ∃ c, c = corI l (n + 1) := ⟨_, rfl⟩;obtain ⟨cd, hcd⟩ : ∃ c, c = corI l (n + 2) := ⟨_, rfl⟩;rw [<- hca] at za HST x0 x1 x2;rw [<- hcb] at zb HST x3 x4 x5;rw [<- hcd] at zd HST x6 x7 x8;rw [<- hj1] at x3 x4 x5;rw [<- hj2] at x6 x7 x8;have HJ2 := hid hj2;clear hca hcb hcd a0 a1 a2 b0 b1 b2 d0 d1 d2;have HS : Hid (∀ w', Below wr.heap.size wr w' -> w'.cell? ⟨bl, ol, none⟩ = some (.string (RS ca.1.1)) /\ w'.cell? ⟨bl, ol + 1, none⟩ = some (.string (RS ca.1.2)) /\ w'.cell? ⟨bl, ol + 2, none⟩ = some (.string (RS ca.2)) /\ w'.cell? ⟨bl, ol + j1 * 3, none⟩ = some (.string (RS cb.1.1)) /\ w'.cell? ⟨bl, ol + j1 * 3 + 1, none⟩ = some (.string (RS cb.1.2)) /\ w'.cell? ⟨bl, ol + j1 * 3 + 2, none⟩ = some (.string (RS cb.2)) /\ w'.cell? ⟨bl, ol + j2 * 3, none⟩ = some (.string (RS cd.1.1)) /\ w'.cell? ⟨bl, ol + j2 * 3 + 1, none⟩ = some (.string (RS cd.1.2)) /\ w'.cell? ⟨bl, ol + j2 * 3 + 2, none⟩ = some (.string (RS cd.2))) := fun w' hb => ⟨(zcq hb hbl' x0 :), (zcq hb hbl' x1 :), (zcq hb hbl' x2 :), (zcq hb hbl' x3 :), (zcq hb hbl' x4 :), (zcq hb hbl' x5 :), (zcq hb hbl' x6 :), (zcq hb hbl' x7 :), (zcq hb hbl' x8 :)⟩;have hq00 : Below wr.heap.size wr wr.drew := bdN wr 1;clear HCE hj1 hj2;go_upto_region 5 with fail;go_cut [7, 8, 9] (fun s7 s8 s9 wx => ∃ b5 b6 b7 : Nat, s7 = .pointer (some ⟨b5, 0, none⟩) /\ s8 = .pointer (some ⟨b6, 0, none⟩) /\ s9 = .pointer (some ⟨b7, 0, none⟩) /\ CorB wx b5 ca /\ CorB wx b6 cb /\ CorB wx b7 cd /\ Below wr.heap.size wr wx)
   case first =>
    go_region_held3 (fun w' => w'.cell? ⟨bl, ol, none⟩ = some (.string (RS ca.1.1)) /\ w'.cell? ⟨bl, ol + 1, none⟩ = some (.string (RS ca.1.2)) /\ w'.cell? ⟨bl, ol + 2, none⟩ = some (.string (RS ca.2)) /\ w'.cell? ⟨bl, ol + j1 * 3, none⟩ = some (.string (RS cb.1.1)) /\ w'.cell? ⟨bl, ol + j1 * 3 + 1, none⟩ = some (.string (RS cb.1.2)) /\ w'.cell? ⟨bl, ol + j1 * 3 + 2, none⟩ = some (.string (RS cb.2)) /\ w'.cell? ⟨bl, ol + j2 * 3, none⟩ = some (.string (RS cd.1.1)) /\ w'.cell? ⟨bl, ol + j2 * 3 + 1, none⟩ = some (.string (RS cd.1.2)) /\ w'.cell? ⟨bl, ol + j2 * 3 + 2, none⟩ = some (.string (RS cd.2)))
     ((refine HS.out _ ?_; repeat (first | with_reducible exact hq00 | with_reducible exact Below.refl _ _ | with_reducible refine Below.drew ?_ | ((with_reducible refine Below.setCell ?_ ?_ _); rotate_left; (first | omega | (simp <;> omega))) | ((with_reducible refine Below.alloc ?_ ?_ _); rotate_left; (first | exact Nat.le_refl _ | omega | (simp <;> omega))))))
     (first | fail)
    all_goals
     go_wp2_with fail;go_meet;refine ⟨_, _, _, rfl, rfl, rfl, ?_, ?_, ?_, ?_⟩
     ·repeat (first | with_reducible refine CorB.drew ?_ | exact CorB.new _ ca _ _ (by first | rfl | simp) | with_reducible refine CorB.alloc ?_ _)
     ·repeat (first | with_reducible refine CorB.drew ?_ | exact CorB.new _ cb _ _ (by first | rfl | simp) | with_reducible refine CorB.alloc ?_ _)
     ·repeat (first | with_reducible refine CorB.drew ?_ | exact CorB.new _ cd _ _ (by first | rfl | simp) | with_reducible refine CorB.alloc ?_ _)
     ·repeat (first | with_reducible exact hq00 | with_reducible exact Below.refl _ _ | with_reducible refine Below.drew ?_ | ((with_reducible refine Below.setCell ?_ ?_ _); rotate_left; (first | omega | (simp <;> omega))) | ((with_reducible refine Below.alloc ?_ ?_ _); rotate_left; (first | exact Nat.le_refl _ | omega | (simp <;> omega))))
   case rest =>
   obtain ⟨b5, b6, b7, rfl, rfl, rfl, ⟨a0, a1, a2⟩, ⟨b0, b1, b2⟩, ⟨d0, d1, d2⟩, hbW⟩ := hcut;have hl5 : b5 < wc.heap.size := World.block_lt_of_cell? wc _ a0;have hl6 : b6 < wc.heap.size := World.block_lt_of_cell? wc _ b0;have hl7 : b7 < wc.heap.size := World.block_lt_of_cell? wc _ d0;have hB5 := hbr.trans (hbW.mono hbr.size);have hgd : Good wc.drew := (hg.below hB5).drewN 1;obtain ⟨⟨pax, pay⟩, za'⟩ := ca;obtain ⟨⟨pbx, pby⟩, zb'⟩ := cb;obtain ⟨⟨pdx, pdy⟩, zd'⟩ := cd;dsimp only [SzP] at a0 a1 a2 b0 b1 b2 d0 d1 d2 za zb zd;unfold areaQ at HST;dsimp only at HST;have HX1 := hid fun w hg => rSa pbx pax k hk (by omega) zb.1.1 za.1.1 w hg
   have HX2 := hid fun w hg => rSa pby pay k hk (by omega) zb.1.2 za.1.2 w hg
   have HX3 := hid fun w hg => rSa pdx pax k hk (by omega) zd.1.1 za.1.1 w hg
   have HX4 := hid fun w hg => rSa pdy pay k hk (by omega) zd.1.2 za.1.2 w hg
   have s1 : Sz (2 * k + 1) (pbx - pax) := (zb.1.1.sub za.1.1).mono (by omega);have s2 : Sz (2 * k + 1) (pby - pay) := (zb.1.2.sub za.1.2).mono (by omega);have s3 : Sz (2 * k + 1) (pdx - pax) := (zd.1.1.sub za.1.1).mono (by omega);have s4 : Sz (2 * k + 1) (pdy - pay) := (zd.1.2.sub za.1.2).mono (by omega);have HM1 := hid fun w hg => rMa (pbx - pax) (pdy - pay) (2 * k + 1) (by omega) (by omega) s1 s4 w hg
   have HM2 := hid fun w hg => rMa (pby - pay) (pdx - pax) (2 * k + 1) (by omega) (by omega) s2 s3 w hg
   have s5 : Sz (4 * k + 2) ((pbx - pax) * (pdy - pay)) := (s1.mul s4).mono (by omega);have s6 : Sz (4 * k + 2) ((pby - pay) * (pdx - pax)) := (s2.mul s3).mono (by omega);have HD1 := hid fun w hg => rSa ((pbx - pax) * (pdy - pay)) ((pby - pay) * (pdx - pax)) (4 * k + 2) (by omega) (by omega) s5 s6 w hg
   have s7 : Sz (8 * k + 5) ((pbx - pax) * (pdy - pay) - (pby - pay) * (pdx - pax)) := (s5.sub s6).mono (by omega);have HSU : Hid (∀ (v : Value) (w : World), RdQ w v [za', zb', zd'] -> Good w -> _) := fun v w hr hg => ratSum_any [za', zb', zd'] k hk (by simp; omega) (by
    intro q hq;simp only [List.mem_cons, List.not_mem_nil, or_false] at hq;rcases hq with rfl | rfl | rfl
    ·exact za.2
    ·exact zb.2
    ·exact zd.2) v w hr hg
   rw [show [za', zb', zd'].foldl (·+ ·) 0 = za' + zb' + zd' by simp only [List.foldl_cons, List.foldl_nil]; grind] at HSU;have s8 : Sz (3 * k + 2) (za' + zb' + zd') := ((za.2.add zb.2).add zd.2).mono (by omega);have HM3 := hid fun w hg => rMa (za' + zb' + zd') (1 / 3) (3 * k + 2) (by omega) (by omega) s8 (HH3.out.mono (by omega)) w hg
   have s9 : Sz (3 * k + 3) ((za' + zb' + zd') * (1 / 3)) := (s8.mul HH3.out).mono (by omega);have HD2 := hid fun w hg => rSa ((za' + zb' + zd') * (1 / 3)) z (3 * k + 3) (by omega) (by omega) s9 (HZ.out.mono (by omega)) w hg
   have s10 : Sz (4 * k + 4) ((za' + zb' + zd') * (1 / 3) - z) := (s9.sub HZ.out).mono (by omega);have HM4 := hid fun w hg => rMa ((pbx - pax) * (pdy - pay) - (pby - pay) * (pdx - pax)) (1 / 2) (8 * k + 5) (by omega) (by omega) s7 (HH2.out.mono (by omega)) w hg
   have s11 : Sz (8 * k + 6) (((pbx - pax) * (pdy - pay) - (pby - pay) * (pdx - pax)) * (1 / 2)) := (s7.mul HH2.out).mono (by omega);have HM5 := hid fun w hg => rMa (((pbx - pax) * (pdy - pay) - (pby - pay) * (pdx - pax)) * (1 / 2)) ((za' + zb' + zd') * (1 / 3) - z) (8 * k + 6) (by omega) (by omega) s11 (s10.mono (by omega)) w hg
   have HAD := hid fun w hg => ratAdd_any (fanI l z n) (((pbx - pax) * (pdy - pay) - (pby - pay) * (pdx - pax)) * (1 / 2) * ((za' + zb' + zd') * (1 / 3) - z)) ((14 * k + 14) * 6 + 1) (by omega) (by omega) (zf.mono (by have := Nat.mul_le_mul_left (14 * k + 14) (show n <= 6 by omega); omega)) ((s11.mul s10).mono (by omega)) w hg
   rw [RS_third13] at HM3;rw [RS_half12] at HM4;obtain ⟨res, hres⟩ : ∃ r, r = fanI l z n + ((pbx - pax) * (pdy - pay) - (pby - pay) * (pdx - pax)) * (1 / 2) * ((za' + zb' + zd') * (1 / 3) - z) := ⟨_, rfl⟩;rw [<- hres] at HST HAD;clear hres za zb zd zf s1 s2 s3 s4 s5 s6 s7 s8 s9 s10 s11;generalize ((pbx - pax) * (pdy - pay) - (pby - pay) * (pdx - pax)) * (1 / 2) * ((za' + zb' + zd') * (1 / 3) - z) = r1 at *;generalize ((pbx - pax) * (pdy - pay) - (pby - pay) * (pdx - pax)) * (1 / 2) = r2 at *;generalize (pbx - pax) * (pdy - pay) - (pby - pay) * (pdx - pax) = r3 at *;generalize (za' + zb' + zd') * (1 / 3) - z = r4 at *;generalize (za' + zb' + zd') * (1 / 3) = r5 at *;generalize za' + zb' + zd' = r6 at *;generalize (pbx - pax) * (pdy - pay) = r7 at *;generalize (pby - pay) * (pdx - pax) = r8 at *;generalize pbx - pax = r9 at *;generalize pdy - pay = r10 at *;generalize pby - pay = r11 at *;generalize pdx - pax = r12 at *;clear x0 x1 x2 x3 x4 x5 x6 x7 x8 HS hq00;go_wp2_with fail;go_region_held3 (fun w' => w'.cell? ⟨b5, 0, none⟩ = some (.string (RS pax)) /\ w'.cell? ⟨b5, 1, none⟩ = some (.string (RS pay)) /\ w'.cell? ⟨b6, 0, none⟩ = some (.string (RS pbx)) /\ w'.cell? ⟨b6, 1, none⟩ = some (.string (RS pby)))
    (first | exact ⟨a0, a1, b0, b1⟩ | exact ⟨p_1_0, p_1_1, p_1_2, p_1_3⟩ | exact ⟨p_2_0, p_2_1, p_2_2, p_2_3⟩)
    (first
    | (go_at_call 53; refine (HX2.out _ pg1).mono ?_; rintro e pw2 ⟨_, rfl, rfl, pb2⟩
       have p_2_0 := zct pb2 p_1_0;have p_2_1 := zct pb2 p_1_1;have p_2_2 := zct pb2 p_1_2;have p_2_3 := zct pb2 p_1_3;have ps2 := pb2.size;have pg2 := pg1.below pb2)
    | (go_at_call 53; refine (HX1.out _ hgd).mono ?_; rintro e pw1 ⟨_, rfl, rfl, pb1⟩
       have p_1_0 := zct pb1 a0;have p_1_1 := zct pb1 a1;have p_1_2 := zct pb1 b0;have p_1_3 := zct pb1 b1;have ps1 : wc.heap.size <= pw1.heap.size := pb1.size;have pg1 := hgd.below pb1))
   have pB : Below wc.heap.size wc pw2 := zbt (zbt (bdN wc 1) pb1) pb2;have hB6 := hB5.trans (pB.mono hB5.size);have a0' := zcq pB hl5 a0;have a1' := zcq pB hl5 a1;have a2' := zcq pB hl5 a2;have b2' := zcq pB hl6 b2;have d0' := zcq pB hl7 d0;have d1' := zcq pB hl7 d1;have d2' := zcq pB hl7 d2;have hl5' : b5 < pw2.heap.size := Nat.lt_of_lt_of_le hl5 pB.size;have hl6' : b6 < pw2.heap.size := Nat.lt_of_lt_of_le hl6 pB.size;have hl7' : b7 < pw2.heap.size := Nat.lt_of_lt_of_le hl7 pB.size;have hgd2 : Good pw2.drew := pg2.drewN 1;obtain ⟨V, hV⟩ : ∃ V, V = pw2 := ⟨_, rfl⟩;rw [<- hV] at hB6 a0' a1' a2' b2' d0' d1' d2' hl5' hl6' hl7' hgd2 ⊢;clear hV a0 a1 a2 b0 b1 b2 d0 d1 d2 pB pg1 pg2 pb1 pb2 ps1 ps2 p_1_0 p_1_1 p_1_2 p_1_3 p_2_0 p_2_1 p_2_2 p_2_3 hl5 hl6 hl7 HX1 HX2;go_wp2_with fail;go_region_held3 (fun w' => w'.cell? ⟨b5, 0, none⟩ = some (.string (RS pax)) /\ w'.cell? ⟨b5, 1, none⟩ = some (.string (RS pay)) /\ w'.cell? ⟨b7, 0, none⟩ = some (.string (RS pdx)) /\ w'.cell? ⟨b7, 1, none⟩ = some (.string (RS pdy)))
    (first | exact ⟨a0', a1', d0', d1'⟩ | exact ⟨q_1_0, q_1_1, q_1_2, q_1_3⟩ | exact ⟨q_2_0, q_2_1, q_2_2, q_2_3⟩)
    (first
    | (go_at_call 53; refine (HX4.out _ qg1).mono ?_; rintro e qw2 ⟨_, rfl, rfl, qb2⟩
       have q_2_0 := zct qb2 q_1_0;have q_2_1 := zct qb2 q_1_1;have q_2_2 := zct qb2 q_1_2;have q_2_3 := zct qb2 q_1_3;have qs2 := qb2.size;have qg2 := qg1.below qb2)
    | (go_at_call 53; refine (HX3.out _ hgd2).mono ?_; rintro e qw1 ⟨_, rfl, rfl, qb1⟩
       have q_1_0 := zct qb1 a0';have q_1_1 := zct qb1 a1';have q_1_2 := zct qb1 d0';have q_1_3 := zct qb1 d1';have qs1 : V.heap.size <= qw1.heap.size := qb1.size;have qg1 := hgd2.below qb1))
   have qB : Below V.heap.size V qw2 := zbt (zbt (bdN V 1) qb1) qb2;have hB7 := hB6.trans (qB.mono hB6.size);have a2 := zcq qB hl5' a2';have b2 := zcq qB hl6' b2';have d2 := zcq qB hl7' d2';have hl5 : b5 < qw2.heap.size := Nat.lt_of_lt_of_le hl5' qB.size;have hl6 : b6 < qw2.heap.size := Nat.lt_of_lt_of_le hl6' qB.size;have hl7 : b7 < qw2.heap.size := Nat.lt_of_lt_of_le hl7' qB.size;obtain ⟨U, hU⟩ : ∃ V, V = qw2 := ⟨_, rfl⟩;rw [<- hU] at hB7 a2 b2 d2 hl5 hl6 hl7 ⊢;clear hU a0' a1' a2' b2' d0' d1' d2' qB qg1 qg2 qb1 qb2 qs1 qs2 q_1_0 q_1_1 q_1_2 q_1_3 q_2_0 q_2_1 q_2_2 q_2_3 hl5' hl6' hl7' HX3 HX4 hgd hgd2;have hB8 := hB7;go_wp2_with fail;refine (HM1.out _ (hg.below hB8)).mono ?_;rintro e y1 ⟨_, rfl, rfl, hy1⟩;have hB9 := hB8.trans (hy1.mono hB8.size);go_wp2_with fail;refine (HM2.out _ (hg.below hB9)).mono ?_;rintro e y2 ⟨_, rfl, rfl, hy2⟩;have hB10 := hB9.trans (hy2.mono hB9.size);go_wp2_with fail;refine (HD1.out _ (hg.below hB10)).mono ?_;rintro e y3 ⟨_, rfl, rfl, hy3⟩;have hB11 := hB10.trans (hy3.mono hB10.size);have s1 := hl5;have s2 := hl6;have s3 := hl7;have a2 := zcq hy1 s1 a2;have b2 := zcq hy1 s2 b2;have d2 := zcq hy1 s3 d2;have s1 := Nat.le_trans s1 hy1.size;have s2 := Nat.le_trans s2 hy1.size;have s3 := Nat.le_trans s3 hy1.size;have a2 := zcq hy2 s1 a2;have b2 := zcq hy2 s2 b2;have d2 := zcq hy2 s3 d2;have s1 := Nat.le_trans s1 hy2.size;have s2 := Nat.le_trans s2 hy2.size;have s3 := Nat.le_trans s3 hy2.size;have a2 := zcq hy3 s1 a2;have b2 := zcq hy3 s2 b2;have d2 := zcq hy3 s3 d2;go_wp2_with fail;have hBA := hB11.alloc hB11.size (.cells #[.string (RS za'), .string (RS zb'), .string (RS zd')] 31);refine (HSU.out _ _ (RdQ.fresh y3 [za', zb', zd'] _ _ rfl (by simp) 3 rfl _ rfl) (hg.below hBA)).mono ?_;rintro e y4 ⟨_, rfl, rfl, hy4⟩;have hB12 := hBA.trans (hy4.mono hBA.size);clear a2 b2 d2 s1 s2 s3;go_wp2_with fail;refine (HM3.out _ (hg.below hB12)).mono ?_;rintro e y5 ⟨_, rfl, rfl, hy5⟩;have hB13 := hB12.trans (hy5.mono hB12.size);go_wp2_with fail;refine (HD2.out _ (hg.below hB13)).mono ?_;rintro e y6 ⟨_, rfl, rfl, hy6⟩;have hB14 := hB13.trans (hy6.mono hB13.size);go_wp2_with fail;refine (HM4.out _ (hg.below hB14)).mono ?_;rintro e y7 ⟨_, rfl, rfl, hy7⟩;have hB15 := hB14.trans (hy7.mono hB14.size);go_wp2_with fail;refine (HM5.out _ (hg.below hB15)).mono ?_;rintro e y8 ⟨_, rfl, rfl, hy8⟩;have hB16 := hB15.trans (hy8.mono hB15.size);go_wp2_with fail;refine (HAD.out _ (hg.below hB16)).mono ?_;rintro e y9 ⟨_, rfl, rfl, hy9⟩;have hB17 := hB16.trans (hy9.mono hB16.size);go_wp2_with fail;go_roundw
   case rel => exact ⟨n + 1, j2, rfl, HJ2.out, by omega, by rw [HST.out], hB17⟩
   case measure =>
    have h7 := HJ.out;have h8 := HJ2.out;simp [RowKit.intOf]; omega
  ·have hnn : ¬ (j2 : Int) < (l.length : Int) := by omega
   have HI : Hid (fanI l z n = integ l z) := by unfold Hid integ; rw [show n = l.length - 2 by omega]
   rw [HI.out];go_wp2_with fail;go_ret;exact ⟨_, rfl, rfl, hbr⟩
theorem cross_Sz2 {a b : Cor} {z : Rat} {k m : Nat} (ha : SzP k a.1 /\ Sz k a.2) (hb : SzP k b.1 /\ Sz k b.2) (hz : Sz m z) : SzP (6 * k + m + 4) (crossK a b z).1 := by
 have d1 := ha.2.sub hz;have dd := d1.div (ha.2.sub hb.2) (by omega);unfold crossK towQ;rw [show (a.2 - z) - (b.2 - z) = a.2 - b.2 by grind];exact ⟨(ha.1.1.add (dd.mul (hb.1.1.sub ha.1.1))).mono (by omega), (ha.1.2.add (dd.mul (hb.1.2.sub ha.1.2))).mono (by omega)⟩
theorem cutS_Sz2 {a b : Cor} {z : Rat} {k m : Nat} (ha : SzP k a.1 /\ Sz k a.2) (hb : SzP k b.1 /\ Sz k b.2) (hz : Sz m z) : ∀ c ∈ cutS a b z, SzP (6 * k + m + 4) c.1 /\ Sz (k + m) c.2 := by
 intro c hc;unfold cutS at hc;rcases List.mem_append.1 hc with h | h
 ·split at h
  ·simp at h; subst h
   exact ⟨⟨ha.1.1.mono (by omega), ha.1.2.mono (by omega)⟩, ha.2.mono (by omega)⟩
  ·simp at h
 ·split at h
  ·simp at h; subst h
   exact ⟨cross_Sz2 ha hb hz, hz.mono (by omega)⟩
  ·simp at h
theorem cutTo_Sz2 {c0 c1 c2 : Cor} {z : Rat} {k m : Nat} (h0 : SzP k c0.1 /\ Sz k c0.2) (h1 : SzP k c1.1 /\ Sz k c1.2) (h2 : SzP k c2.1 /\ Sz k c2.2) (hz : Sz m z) : ∀ (i : Nat), ∀ c ∈ cutTo c0 c1 c2 z i, SzP (6 * k + m + 4) c.1 /\ Sz (k + m) c.2
 | 0 => fun c hc => by simp [cutTo] at hc
 | i + 1 => fun c hc => by
   unfold cutTo at hc;rcases List.mem_append.1 hc with h | h
   ·exact cutTo_Sz2 h0 h1 h2 hz i c h
   ·refine cutS_Sz2 ?_ ?_ hz c h
    ·unfold corA; split <;> assumption
    ·unfold corB; split <;> assumption
theorem partT_Sz2 {P : List PtQ} {F : List Rat} {tr : Tri} {z : Rat} {k m : Nat} (hs : ∀ x ∈ idxOf tr, SzP k (ptI P x) /\ Sz k (hI F x)) (hz : Sz m z) (c : Cor) (hc : c ∈ partT P F z tr) : SzP (6 * k + m + 4) c.1 /\ Sz (k + m) c.2 := by
 unfold partT cutL at hc;split at hc
 ·exact cutTo_Sz2 (hs _ (by simp [idxOf])) (hs _ (by simp [idxOf])) (hs _ (by simp [idxOf])) hz 3 c hc
 ·simp at hc
theorem partT_len (P : List PtQ) (F : List Rat) (z : Rat) (tr : Tri) : (partT P F z tr).length <= 6 := cutL_len _ _ _ _
theorem fvolume_any (w : World) (vp vt vf : Value) (P : List PtQ) (T : List Tri) (k : Nat) (F : List Rat) (h : FieldIn w vp vt vf P T k F) (z : Rat) (m n : Nat) (hz : Sz m z) (hkm : 6 * k + m + 4 <= 200) (hn : n <= 20000) (hn2 : (14 * (6 * k + m + 4) + 14) * 4 + 1 <= n) (hV : ∀ t, t <= T.length -> Sz n (volTo P T F z t)) (hg : Good w) :
 Calls Tryz.prog 51 #[.agg #[vp, vt], vf, .string (RS z)] w (Ret (fun r _ => r = .string (RS (volTo P T F z T.length))) w) := by
 have HH := hid h;have hkp := h.m.kpos;have HSZ : Hid (∀ tr ∈ T, ∀ x ∈ idxOf tr, SzP k (ptI P x) /\ Sz k (hI F x)) := fun tr htr x hx => by
  obtain ⟨h0, h1⟩ := h.m.idx tr htr x hx;obtain ⟨q, rfl⟩ : ∃ q : Nat, x = (q : Int) := ⟨x.toNat, by omega⟩;rw [pIn P q (by omega), hI_nat F q (by have := h.fl; omega)];exact ⟨h.m.sz _ (List.getElem_mem _), h.fs _ (List.getElem_mem _)⟩
 have HCO : Hid (∀ (i : Nat) (hi : i < T.length) (w' : World), FieldIn w' vp vt vf P T k F -> Good w' -> _) := fun i hi w' h' hg' => corners_any w' vp vt vf P T k F h'.p h'.t h'.m.toMeshIn h'.f h'.fl i i rfl hi (triI T i) (triI_nat T i hi) hg';have HCU : Hid (∀ (i : Nat) (hi : i < T.length) (w' : World), Good w' -> _) := fun i hi w' hg' => part_any P F (triI T i) z k m hkp (by omega) (HSZ.out (triI T i) (by rw [triI_nat T i hi]; exact List.getElem_mem hi)) hz w' hg'
 have hps : ∀ (i : Nat) (hi : i < T.length), ∀ c ∈ partT P F z (triI T i), SzP (6 * k + m + 4) c.1 /\ Sz (6 * k + m + 4) c.2 := fun i hi c hc => by
  have := partT_Sz2 (HSZ.out (triI T i) (by rw [triI_nat T i hi]; exact List.getElem_mem hi)) hz c hc;exact ⟨this.1, this.2.mono (by omega)⟩
 have HIN : Hid (∀ (i : Nat) (hi : i < T.length) (v : Value) (w' : World), RdK w' v (partT P F z (triI T i)) -> Good w' -> _) := fun i hi v w' hv hg' => integral_any w' v (partT P F z (triI T i)) z (6 * k + m + 4) (by omega) hkm (partT_len _ _ _ _) (hps i hi) (hz.mono (by omega)) hv hg'
 have HIS : Hid (∀ (i : Nat) (hi : i < T.length), Sz n (integ (partT P F z (triI T i)) z)) := fun i hi => by
  have := fanI_Sz (l := partT P F z (triI T i)) (z := z) (k := 6 * k + m + 4) (by omega) (hps i hi) (hz.mono (by omega)) ((partT P F z (triI T i)).length - 2);refine this.mono (Nat.le_trans (Nat.add_le_add_right (Nat.mul_le_mul_left _ ?_) 1) hn2);have := partT_len P F z (triI T i);omega
 have HAD : Hid (∀ (i : Nat) (hi : i < T.length) (w' : World), Good w' -> _) := fun i hi w' hg' => ratAdd_any (volTo P T F z i) (integ (partT P F z (triI T i)) z) n (by omega) hn (hV i (by omega)) (HIS.out i hi) w' hg'
 have HST : Hid (∀ i, volTo P T F z (i + 1) = volTo P T F z i + integ (partT P F z (triI T i)) z) := fun i => rfl;have hv0 : volTo P T F z 0 = 0 := rfl;obtain ⟨pp, cp, pt, ct, pf, cf, rfl, rfl, rfl⟩ := h.open;have hTl : T.length <= 800 := h.m.tlen;obtain ⟨sz, hsz⟩ : ∃ s, s = RS z := ⟨_, rfl⟩;rw [<- hsz] at HCU HIN ⊢;clear h hz hkm hn hn2 hV hps HIS hsz HSZ;generalize volTo P T F z = VT at *;go_enter Tryz.func51, Tryz.ntmps51;go_wp2_with fail;obtain ⟨W, hW⟩ : ∃ W, W = w.alloc (.cells #[.slice pp P.length cp, .slice pt T.length ct] 38) := ⟨_, rfl⟩;have hB : Below w.heap.size w W := by rw [hW]; exact zal _ _
 have b0 : BoxN W w.heap.size 38 [.slice pp P.length cp, .slice pt T.length ct] := by rw [hW]; exact BoxN.new _ _ _ _ rfl
 rw [<- hW];clear hW;have x0 := b0.cell 0 rfl;have x1 := b0.cell 1 rfl;try go_wp2_with fail
 clear x0 x1;go_loopw [7, 12] (fun t7 t12 wr => ∃ i : Nat, t12 = .int .i64 i /\ i <= T.length /\ t7 = .string (RS (VT i)) /\ Below W.heap.size W wr) (fun _ t12 _ => T.length - (RowKit.intOf t12).toNat)
 case atStart => exact ⟨0, rfl, Nat.zero_le _, by rw [hv0, RS_zero], Below.refl _ _⟩
 case round =>
  obtain ⟨i, rfl, hin, rfl, hbr⟩ := hrel;have hBr := hB.trans (hbr.mono hB.size);rcases Nat.lt_or_ge i T.length with h | h
  ·have hiz : (i : Int) < (T.length : Int) := by omega
   have b1 := b0.below hbr b0.lt;have x0 := b1.cell 0 rfl;have x1 := b1.cell 1 rfl;have HC1 : Hid (∀ w', Below w.heap.size w w' -> _) := fun w' hb => HCO.out i h w' (HH.out.below hb) (hg.below hb);have HC2 : Hid (∀ w', Good w' -> _) := fun w' hg' => HCU.out i h w' hg';have HC3 : Hid (∀ (v : Value) (w' : World), RdK w' v (partT P F z (triI T i)) -> Good w' -> _) := fun v w' hv hg' => HIN.out i h v w' hv hg';have HC4 : Hid (∀ w', Good w' -> _) := fun w' hg' => HAD.out i h w' hg';have HS1 := hid (HST.out i);go_wp2_with fail;refine (HC1.out wr hBr).mono ?_;rintro e w1 ⟨_, rfl, rfl, hb1⟩;have hbr1 := hbr.trans (hb1.mono hbr.size);have hBr1 := hBr.trans (hb1.mono hBr.size);clear x0 x1 b1 hb1;go_wp2_with fail;refine (HC2.out w1 (hg.below hBr1)).mono ?_;rintro e w2 ⟨v2, rfl, hpv, hb2⟩;have hbr2 := hbr1.trans (hb2.mono hbr1.size);have hBr2 := hBr1.trans (hb2.mono hBr1.size);have hrd : RdK w2 v2 (partT P F z (triI T i)) := RdC.of_owns hpv.1;obtain ⟨pq, cq, rfl, -, -, -⟩ := hrd.open;clear hb2 hpv;go_wp2_with fail;refine (HC3.out _ w2 hrd (hg.below hBr2)).mono ?_;rintro e w3 ⟨_, rfl, rfl, hb3⟩;have hbr3 := hbr2.trans (hb3.mono hbr2.size);have hBr3 := hBr2.trans (hb3.mono hBr2.size);clear hb3 hrd;go_wp2_with fail;refine (HC4.out w3 (hg.below hBr3)).mono ?_;rintro e w4 ⟨_, rfl, rfl, hb4⟩;have hbr4 := hbr3.trans (hb4.mono hbr3.size);clear hb4;go_wp2_with fail;go_roundw
   case rel => exact ⟨i + 1, by go_num, by omega, by rw [HS1.out], hbr4⟩
   case measure => simp [RowKit.intOf]; omega
  ·have hige : ¬ (i : Int) < (T.length : Int) := by omega
   have HI : Hid (i = T.length) := by unfold Hid; omega
   rw [HI.out];go_wp2_with fail;go_ret;exact ⟨_, rfl, rfl, hBr⟩
theorem fVolume_ok (w : World) (vp vt vf : Value) (P : List PtQ) (T : List Tri) (k : Nat) (F : List Rat) (h : FieldIn w vp vt vf P T k F) (z : Rat) (m n : Nat) (hz : Sz m z) (hkm : 6 * k + m + 4 <= 200) (hn : n <= 20000) (hn2 : (14 * (6 * k + m + 4) + 14) * 4 + 1 <= n) (hV : ∀ t, t <= T.length -> Sz n (volTo P T F z t)) (hVE : Sz 200 (volTo P T F z T.length)) (hg : Good w) :
 Calls Tryz.prog 14 #[.agg #[vp, vt], vf, .string (RS z)] w (Ret (fun r _ => r = .tuple #[.string (RS (volTo P T F z T.length)), .int .i64 0]) w) := by
 have HH := hid h;have HLV : Hid (∀ w', FieldIn w' vp vt vf P T k F -> Good w' -> _) := fun w' h hg => flevel_ok w' vp vt vf P T k F h z (hz.mono (by omega)) hg
 have HVO : Hid (∀ w', FieldIn w' vp vt vf P T k F -> Good w' -> _) := fun w' h hg => fvolume_any w' vp vt vf P T k F h z m n hz hkm hn hn2 hV hg;have HNU : Hid (∀ w', Good w' -> _) := fun w' hg' => fnumber_ok (volTo P T F z T.length) hVE w' hg';obtain ⟨pp, cp, pt, ct, pf, cf, rfl, rfl, rfl⟩ := h.open;generalize volTo P T F z T.length = res at *;generalize RS res = ress at *;generalize RS z = sz at *;clear h hz hkm hn hn2 hV hVE;go_enter Tryz.func14, Tryz.ntmps14;go_wp2_with fail;obtain ⟨W, hW⟩ : ∃ W, W = w.alloc (.cells #[.slice pp P.length cp, .slice pt T.length ct] 38) := ⟨_, rfl⟩;have hB : Below w.heap.size w W := by rw [hW]; exact zal _ _
 have b0 : BoxN W w.heap.size 38 [.slice pp P.length cp, .slice pt T.length ct] := by rw [hW]; exact BoxN.new _ _ _ _ rfl
 rw [<- hW];clear hW;refine (HLV.out W (HH.out.below hB) (hg.below hB)).mono ?_;rintro e w1 ⟨_, rfl, rfl, hb1⟩;have hB1 := hB.trans (hb1.mono hB.size);have b1 := b0.below hb1 b0.lt;have x0 := b1.cell 0 rfl;have x1 := b1.cell 1 rfl;clear hb1 b0;go_wp2_with fail;refine (HVO.out w1 (HH.out.below hB1) (hg.below hB1)).mono ?_;rintro e w2 ⟨_, rfl, rfl, hb2⟩;have hB2 := hB1.trans (hb2.mono hB1.size);clear x0 x1;go_wp2_with fail;refine (HNU.out w2 (hg.below hB2)).mono ?_;rintro e w3 ⟨_, rfl, rfl, hb3⟩;go_wp2_with fail;go_ret2;exact ⟨_, rfl, rfl, hB2.trans (hb3.mono hB2.size)⟩
end Go.Proofs.YtegiemcnfbchoaaGreatDoor
