/- The walk over mesh.crossing. -/
import Derived.Test.YtjfjkiibmfgplaaGreatDoorY3
import Derived.Test.YtjfjkiibmfgplaaGreatDoorW1
import Derived.Deep.MidRow
namespace Go.Proofs.YtjfjkiibmfgplaaGreatDoor
open Go.RowKit Go.Lib

theorem filter_take_succ (f : PtQ → Bool) (l : List PtQ) (i : Nat) (h : i < l.length) : (l.take (i + 1)).filter f = (l.take i).filter f ++ (if f l[i] then [l[i]] else []) := by
  rw [List.take_succ_eq_append_getElem h, List.filter_append]
  congr 1
  simp [List.filter_cons]

theorem boxN_set_other {w : World} {b b' i t : Nat} {l : List Value} {v : Value} (hne : b ≠ b') (h : BoxN w b t l) : BoxN (w.setCell ⟨b', i, none⟩ v) b t l := (Below.heap_setCell _ _ _ _ hne).trans h
theorem boxN_alloc {w : World} {b t : Nat} {l : List Value} {o : Obj} (h : BoxN w b t l) : BoxN (w.alloc o) b t l := h.below ((Below.refl _ _).alloc (Nat.le_refl _) _) h.lt
theorem boxN_new6 {w : World} {n t : Nat} {v0 v1 v2 v3 v4 v5 : Value} (hn : w.heap.size = n) : BoxN (w.alloc (.cells #[v0, v1, v2, v3, v4, v5] t)) n t [v0, v1, v2, v3, v4, v5] := BoxN.new _ _ _ _ hn
theorem boxN_set6 {w : World} {b t : Nat} {v0 v1 v2 v3 v4 v5 : Value} (h : BoxN w b t [.string ⟨#[]⟩, .string ⟨#[]⟩, .string ⟨#[]⟩, .string ⟨#[]⟩, .string ⟨#[]⟩, .string ⟨#[]⟩]) :
    BoxN ((((((w.setCell ⟨b, 0, none⟩ v0).setCell ⟨b, 1, none⟩ v1).setCell ⟨b, 2, none⟩ v2).setCell ⟨b, 3, none⟩ v3).setCell ⟨b, 4, none⟩ v4).setCell ⟨b, 5, none⟩ v5) b t [v0, v1, v2, v3, v4, v5] := (((((h.set 0 v0).set 1 v1).set 2 v2).set 3 v3).set 4 v4).set 5 v5

set_option maxHeartbeats 8000000 in
set_option maxRecDepth 100000 in
theorem crossing_any (w : World) (vp vt : Value) (P : List PtQ) (T : List Tri) (hp : RdP w vp (strP P)) (ht : RdT w vt T) (hm : MeshIn P T 2) (s t : Nat) (hsl : s < T.length) (htl : t < T.length) (hg : Good w) :
    Calls Tryz.prog 96 #[.agg #[vp, vt], .int .i64 (s : Int), .int .i64 (t : Int)] w (Ret (fun r _ => r = .bool (crossB (ptI P T[s].1) (ptI P T[s].2.1) (ptI P T[s].2.2) (ptI P T[t].1) (ptI P T[t].2.1) (ptI P T[t].2.2))) w) := by
  have HCO1 : Hid (∀ w', Below w.heap.size w w' → _) := fun w' hb => mcorners_any w' vp vt P T 2 (RdC.below hp hb) (RdC.below ht hb) hm s s rfl hsl T[s] rfl
  have HCO2 : Hid (∀ w', Below w.heap.size w w' → _) := fun w' hb => mcorners_any w' vp vt P T 2 (RdC.below hp hb) (RdC.below ht hb) hm t t rfl htl T[t] rfl
  have key : ∀ (i : Nat) (h : i < T.length), ∀ x ∈ idxOf T[i], SzP 2 (ptI P x) := fun i h x hx => by
    obtain ⟨h0, h1⟩ := hm.idx T[i] (List.getElem_mem h) x hx
    obtain ⟨q, rfl⟩ : ∃ q : Nat, x = (q : Int) := ⟨x.toNat, by omega⟩
    rw [ptI_nat P q (by omega)]
    exact hm.sz _ (List.getElem_mem _)
  have HCL : Hid (∀ w', Good w' → _) := fun w' hg' => clip_any (ptI P T[s].1) (ptI P T[s].2.1) (ptI P T[s].2.2) (ptI P T[t].1) (ptI P T[t].2.1) (ptI P T[t].2.2) (key s hsl _ (by simp [idxOf])) (key s hsl _ (by simp [idxOf])) (key s hsl _ (by simp [idxOf])) (key t htl _ (by simp [idxOf])) (key t htl _ (by simp [idxOf])) (key t htl _ (by simp [idxOf])) w' hg'
  obtain ⟨pp, cp, rfl, -, -, -⟩ := hp.open
  obtain ⟨pt, ct, rfl, -, -, -⟩ := ht.open
  generalize ptI P T[s].1 = a0 at *
  generalize ptI P T[s].2.1 = a1 at *
  generalize ptI P T[s].2.2 = a2 at *
  generalize ptI P T[t].1 = b0 at *
  generalize ptI P T[t].2.1 = b1 at *
  generalize ptI P T[t].2.2 = b2 at *
  clear key hp ht hm hsl htl
  have HCN : Hid (crossB a0 a1 a2 b0 b1 b2 = (decide ((sharedL a0 a1 a2 b0 b1 b2).length = 3) || (clipN a0 a1 a2 b0 b1 b2 3).any fun p => !hasP (sharedL a0 a1 a2 b0 b1 b2) p)) := rfl
  have hCL24 : (clipN a0 a1 a2 b0 b1 b2 3).length ≤ 24 := clipN_len _ _ _ _ _ _ 3 (by omega)
  generalize clipN a0 a1 a2 b0 b1 b2 3 = C at *
  generalize crossB a0 a1 a2 b0 b1 b2 = res at *
  obtain ⟨i0, hi, hzz0, hzz1, hzz2⟩ := info_parts info_pt2
  go_enter Tryz.func96, Tryz.ntmps96
  go_wp2_with fail
  obtain ⟨W, hW⟩ : ∃ W, W = w.alloc (.cells #[.slice pp (strP P).length cp, .slice pt T.length ct] 40) := ⟨_, rfl⟩
  have hB : Below w.heap.size w W := by rw [hW]; exact (Below.refl _ _).alloc (Nat.le_refl _) _
  have e3 : BoxN W w.heap.size 40 [.slice pp (strP P).length cp, .slice pt T.length ct] := by rw [hW]; exact BoxN.new _ _ _ _ rfl
  rw [← hW]
  clear hW
  go_cut [7, 8] (fun s7 s8 wx => ∃ b7 b8 : Nat, s7 = .pointer (some ⟨b7, 0, none⟩) ∧ s8 = .pointer (some ⟨b8, 0, none⟩) ∧ BoxN wx b7 149 [.string (RS a0.1), .string (RS a0.2), .string (RS a1.1), .string (RS a1.2), .string (RS a2.1), .string (RS a2.2)] ∧ BoxN wx b8 149 [.string (RS b0.1), .string (RS b0.2), .string (RS b1.1), .string (RS b1.2), .string (RS b2.1), .string (RS b2.2)] ∧ Below W.heap.size W wx)
  case first =>
    have HF : Hid (∀ w', Below W.heap.size W w' → w'.cell? ⟨w.heap.size, 0, none⟩ = some (.slice pp (strP P).length cp) ∧ w'.cell? ⟨w.heap.size, 1, none⟩ = some (.slice pt T.length ct)) := fun w' hb => by
      have y := e3.below hb e3.lt
      exact ⟨y.cell 0 rfl, y.cell 1 rfl⟩
    have HBW : Hid (∀ w', Below W.heap.size W w' → Below w.heap.size w w') := fun w' hb => hB.trans (hb.mono hB.size)
    have HAA : Hid (∀ (w' : World) (o : Obj), Below W.heap.size W w' → Below W.heap.size W (w'.alloc o)) := fun w' o hb => hb.alloc hb.size _
    have HTR : Hid (∀ w' w'', Below W.heap.size W w' → Below w'.heap.size w' w'' → Below W.heap.size W w'') := fun w' w'' h1 h2 => h1.trans (h2.mono h1.size)
    have HSC : Hid (∀ (w' : World) (b i : Nat) (v : Value), W.heap.size ≤ b → Below W.heap.size W w' → Below W.heap.size W (w'.setCell ⟨b, i, none⟩ v)) := fun w' b i v hb h => h.setCell (p := ⟨b, i, none⟩) hb v
    have HZZ : Hid (∀ w' : World, BoxN (w'.alloc (.cells #[.string ⟨#[]⟩, .string ⟨#[]⟩, .string ⟨#[]⟩, .string ⟨#[]⟩, .string ⟨#[]⟩, .string ⟨#[]⟩] 149)) w'.heap.size 149 [.string ⟨#[]⟩, .string ⟨#[]⟩, .string ⟨#[]⟩, .string ⟨#[]⟩, .string ⟨#[]⟩, .string ⟨#[]⟩]) := fun w' => BoxN.new _ _ _ _ rfl
    have HZA : Hid (∀ w' : World, BoxN ((w'.alloc (.cells #[.string ⟨#[]⟩, .string ⟨#[]⟩, .string ⟨#[]⟩, .string ⟨#[]⟩, .string ⟨#[]⟩, .string ⟨#[]⟩] 149)).alloc (.cells #[.string ⟨#[]⟩, .string ⟨#[]⟩, .string ⟨#[]⟩, .string ⟨#[]⟩, .string ⟨#[]⟩, .string ⟨#[]⟩] 149)) w'.heap.size 149 [.string ⟨#[]⟩, .string ⟨#[]⟩, .string ⟨#[]⟩, .string ⟨#[]⟩, .string ⟨#[]⟩, .string ⟨#[]⟩]) := fun w' => boxN_alloc (HZZ.out w')
    have HZB : Hid (∀ w' : World, BoxN ((w'.alloc (.cells #[.string ⟨#[]⟩, .string ⟨#[]⟩, .string ⟨#[]⟩, .string ⟨#[]⟩, .string ⟨#[]⟩, .string ⟨#[]⟩] 149)).alloc (.cells #[.string ⟨#[]⟩, .string ⟨#[]⟩, .string ⟨#[]⟩, .string ⟨#[]⟩, .string ⟨#[]⟩, .string ⟨#[]⟩] 149)) (w'.heap.size + 1) 149 [.string ⟨#[]⟩, .string ⟨#[]⟩, .string ⟨#[]⟩, .string ⟨#[]⟩, .string ⟨#[]⟩, .string ⟨#[]⟩]) := fun w' => BoxN.new _ _ _ _ (by simp)
    have h0 : Below W.heap.size W W.drew := below_drewN W 1
    have h01 := (HAA.out _ (.cells #[.string ⟨#[]⟩, .string ⟨#[]⟩, .string ⟨#[]⟩, .string ⟨#[]⟩, .string ⟨#[]⟩, .string ⟨#[]⟩] 149) (Below.refl _ W)).drew
    have h02 := (HAA.out _ (.cells #[.string ⟨#[]⟩, .string ⟨#[]⟩, .string ⟨#[]⟩, .string ⟨#[]⟩, .string ⟨#[]⟩, .string ⟨#[]⟩] 149) (HAA.out _ (.cells #[.string ⟨#[]⟩, .string ⟨#[]⟩, .string ⟨#[]⟩, .string ⟨#[]⟩, .string ⟨#[]⟩, .string ⟨#[]⟩] 149) (Below.refl _ W))).drew
    clear HCL HCN hCL24 hi hzz0 hzz1 hzz2
    go_region_held3 (fun w' => w'.cell? ⟨w.heap.size, 0, none⟩ = some (.slice pp (strP P).length cp) ∧ w'.cell? ⟨w.heap.size, 1, none⟩ = some (.slice pt T.length ct))
      ((refine HF.out _ ?_; (repeat (first | with_reducible refine HSC.out _ _ _ _ (by omega) ?_ | with_reducible refine HAA.out _ _ ?_)); first | with_reducible assumption | with_reducible exact Below.refl _ _ | exact (HAA.out _ _ (by with_reducible assumption)).drew))
      (first
        | (go_at_call 136; (first | with_reducible refine (HCO1.out _ (HBW.out _ h0)).mono ?_ | with_reducible refine (HCO1.out _ (HBW.out _ h01)).mono ?_ | with_reducible refine (HCO1.out _ (HBW.out _ h02)).mono ?_); rintro e v4 ⟨_, rfl, rfl, hb4⟩
           have h4 : Below W.heap.size W v4 := by first | with_reducible exact HTR.out _ _ h0 hb4 | with_reducible exact HTR.out _ _ h01 hb4 | with_reducible exact HTR.out _ _ h02 hb4
           have h4a := HAA.out _ (.cells #[.string ⟨#[]⟩, .string ⟨#[]⟩, .string ⟨#[]⟩, .string ⟨#[]⟩, .string ⟨#[]⟩, .string ⟨#[]⟩] 149) h4
           have h4b := HAA.out _ (.cells #[.string ⟨#[]⟩, .string ⟨#[]⟩, .string ⟨#[]⟩, .string ⟨#[]⟩, .string ⟨#[]⟩, .string ⟨#[]⟩] 149) h4a
           have hs4 := h4.size
           try have zA : BoxN v4 W.heap.size 149 [.string ⟨#[]⟩, .string ⟨#[]⟩, .string ⟨#[]⟩, .string ⟨#[]⟩, .string ⟨#[]⟩, .string ⟨#[]⟩] := by first | exact (HZZ.out W).drew.below hb4 (by simp) | exact (HZA.out W).drew.below hb4 (by simp; omega)
           try have zB : BoxN v4 (W.heap.size + 1) 149 [.string ⟨#[]⟩, .string ⟨#[]⟩, .string ⟨#[]⟩, .string ⟨#[]⟩, .string ⟨#[]⟩, .string ⟨#[]⟩] := (HZB.out W).drew.below hb4 (by simp)
           try have zAl := zA.lt
           try have zBl := zB.lt)
        | (go_at_call 136; (first | with_reducible refine (HCO2.out _ (HBW.out _ h4)).mono ?_ | with_reducible refine (HCO2.out _ (HBW.out _ h4a)).mono ?_ | with_reducible refine (HCO2.out _ (HBW.out _ h4b)).mono ?_); rintro e v5 ⟨_, rfl, rfl, hb5⟩
           have h5 : Below W.heap.size W v5 := by first | with_reducible exact HTR.out _ _ h4 hb5 | with_reducible exact HTR.out _ _ h4a hb5 | with_reducible exact HTR.out _ _ h4b hb5
           have hs5 := h5.size
           try have yA : BoxN v5 W.heap.size 149 [.string ⟨#[]⟩, .string ⟨#[]⟩, .string ⟨#[]⟩, .string ⟨#[]⟩, .string ⟨#[]⟩, .string ⟨#[]⟩] := by first | exact zA.below hb5 zA.lt | exact (boxN_alloc zA).below hb5 (boxN_alloc zA).lt
           try have yB : BoxN v5 (W.heap.size + 1) 149 [.string ⟨#[]⟩, .string ⟨#[]⟩, .string ⟨#[]⟩, .string ⟨#[]⟩, .string ⟨#[]⟩, .string ⟨#[]⟩] := zB.below hb5 zB.lt
           try have yC : BoxN v5 v4.heap.size 149 [.string ⟨#[]⟩, .string ⟨#[]⟩, .string ⟨#[]⟩, .string ⟨#[]⟩, .string ⟨#[]⟩, .string ⟨#[]⟩] := by first | exact (HZZ.out v4).below hb5 (by simp) | exact (HZA.out v4).below hb5 (by simp; omega)
           try have yD : BoxN v5 (v4.heap.size + 1) 149 [.string ⟨#[]⟩, .string ⟨#[]⟩, .string ⟨#[]⟩, .string ⟨#[]⟩, .string ⟨#[]⟩, .string ⟨#[]⟩] := (HZB.out v4).below hb5 (by simp)
           try have yAl := yA.lt
           try have yA0 := yA.cell 0 rfl
           try have yAf0 := yA.frozen 0
           try have yA1 := yA.cell 1 rfl
           try have yAf1 := yA.frozen 1
           try have yA2 := yA.cell 2 rfl
           try have yAf2 := yA.frozen 2
           try have yA3 := yA.cell 3 rfl
           try have yAf3 := yA.frozen 3
           try have yA4 := yA.cell 4 rfl
           try have yAf4 := yA.frozen 4
           try have yA5 := yA.cell 5 rfl
           try have yAf5 := yA.frozen 5
           try have yBl := yB.lt
           try have yB0 := yB.cell 0 rfl
           try have yBf0 := yB.frozen 0
           try have yB1 := yB.cell 1 rfl
           try have yBf1 := yB.frozen 1
           try have yB2 := yB.cell 2 rfl
           try have yBf2 := yB.frozen 2
           try have yB3 := yB.cell 3 rfl
           try have yBf3 := yB.frozen 3
           try have yB4 := yB.cell 4 rfl
           try have yBf4 := yB.frozen 4
           try have yB5 := yB.cell 5 rfl
           try have yBf5 := yB.frozen 5
           try have yCl := yC.lt
           try have yC0 := yC.cell 0 rfl
           try have yCf0 := yC.frozen 0
           try have yC1 := yC.cell 1 rfl
           try have yCf1 := yC.frozen 1
           try have yC2 := yC.cell 2 rfl
           try have yCf2 := yC.frozen 2
           try have yC3 := yC.cell 3 rfl
           try have yCf3 := yC.frozen 3
           try have yC4 := yC.cell 4 rfl
           try have yCf4 := yC.frozen 4
           try have yC5 := yC.cell 5 rfl
           try have yCf5 := yC.frozen 5
           try have yDl := yD.lt
           try have yD0 := yD.cell 0 rfl
           try have yDf0 := yD.frozen 0
           try have yD1 := yD.cell 1 rfl
           try have yDf1 := yD.frozen 1
           try have yD2 := yD.cell 2 rfl
           try have yDf2 := yD.frozen 2
           try have yD3 := yD.cell 3 rfl
           try have yDf3 := yD.frozen 3
           try have yD4 := yD.cell 4 rfl
           try have yDf4 := yD.frozen 4
           try have yD5 := yD.cell 5 rfl
           try have yDf5 := yD.frozen 5))
    all_goals
      go_wp2_with fail
      go_meet
      refine ⟨_, _, rfl, rfl, ?_, ?_, ?_⟩
      · repeat (first | with_reducible exact boxN_new6 (by simp) | with_reducible assumption | with_reducible refine boxN_set6 ?_ | with_reducible refine boxN_set_other (by omega) ?_ | with_reducible refine boxN_alloc ?_)
      · repeat (first | with_reducible exact boxN_new6 (by simp) | with_reducible assumption | with_reducible refine boxN_set6 ?_ | with_reducible refine boxN_set_other (by omega) ?_ | with_reducible refine boxN_alloc ?_)
      · (repeat (first | with_reducible refine HSC.out _ _ _ _ (by omega) ?_ | with_reducible refine HAA.out _ _ ?_)); with_reducible assumption
  case rest =>
    obtain ⟨b7, b8, rfl, rfl, e7, e8, hbc⟩ := hcut
    have hbWc := hB.trans (hbc.mono hB.size)
    have rA : wc.rangeAt b7 0 [.string (RS a0.1), .string (RS a0.2), .string (RS a1.1), .string (RS a1.2), .string (RS a2.1), .string (RS a2.2)] := fun j v hv => by rw [Nat.zero_add]; exact e7.cell j hv
    have rB : wc.rangeAt b8 0 [.string (RS b0.1), .string (RS b0.2), .string (RS b1.1), .string (RS b1.2), .string (RS b2.1), .string (RS b2.2)] := fun j v hv => by rw [Nat.zero_add]; exact e8.cell j hv
    clear HCO1 HCO2 hB e3 hbc
    go_upto_region 2 with fail
    go_wp2_with (first
      | (refine wpList_load_mid (by rfl) 149 (.tmp 7) (by rfl) b7 0 (by rfl) [.string (RS a0.1), .string (RS a0.2), .string (RS a1.1), .string (RS a1.2), .string (RS a2.1), .string (RS a2.2)] _ rA Tryz.underlying149 (by rfl) (by kernel_rfl) ?_)
      | (refine wpList_load_mid (by rfl) 149 (.tmp 8) (by rfl) b8 0 (by rfl) [.string (RS b0.1), .string (RS b0.2), .string (RS b1.1), .string (RS b1.2), .string (RS b2.1), .string (RS b2.2)] _ rB Tryz.underlying149 (by rfl) (by kernel_rfl) ?_))
    refine (HCL.out wc (hg.below hbWc)).mono ?_
    rintro e w1 ⟨v9, rfl, hrC, hb1⟩
    have hbW1 := hbWc.trans (hb1.mono hbWc.size)
    have e71 := e7.below hb1 e7.lt
    have e81 := e8.below hb1 e8.lt
    have rA1 : w1.rangeAt b7 0 [.string (RS a0.1), .string (RS a0.2), .string (RS a1.1), .string (RS a1.2), .string (RS a2.1), .string (RS a2.2)] := fun j v hv => by rw [Nat.zero_add]; exact e71.cell j hv
    clear rA rB e7 e8 hb1 hbWc HCL
    have hrB : RdP w1 (.slice (some ⟨b8, 0, none⟩) 3 3) (strP [b0, b1, b2]) := by
      refine ⟨_, 3, rfl, Nat.le_refl _, by decide, rfl, fun _ => ⟨_, 0, rfl, fun i x hx => ?_⟩⟩
      rw [Nat.zero_add]
      exact e81.cell i hx
    have HCB : Hid (∀ (x : PtQ) w', Below w1.heap.size w1 w' → _) := fun x w' hb => containsP_any (.slice (some ⟨b8, 0, none⟩) 3 3) [b0, b1, b2] x w' (RdC.below hrB hb)
    have HIX : Hid (∀ i : Nat, (hi : i < 3) → ∃ x, x = [a0, a1, a2][i] ∧ ∀ w, (Instr.index 149 (.agg #[.string (RS a0.1), .string (RS a0.2), .string (RS a1.1), .string (RS a1.2), .string (RS a2.1), .string (RS a2.2)]) (.int .i64 (i : Int))).run Tryz.prog w = .ok (.agg #[.string (RS x.1), .string (RS x.2)]) w) := fun i hi => by
      obtain rfl | rfl | rfl : i = 0 ∨ i = 1 ∨ i = 2 := by omega
      · exact ⟨a0, rfl, idx_P0 _ _ _ _ _ _⟩
      · exact ⟨a1, rfl, idx_P1 _ _ _ _ _ _⟩
      · exact ⟨a2, rfl, idx_P2 _ _ _ _ _ _⟩
    have HSH : Hid (sharedL a0 a1 a2 b0 b1 b2 = (([a0, a1, a2] : List PtQ).take 3).filter (hasP [b0, b1, b2])) := rfl
    obtain ⟨p9, c9, rfl, hc9, hm9, hr9⟩ := hrC.open
    have HR9 := Lib.hid hr9
    rw [strP_length] at hc9 ⊢
    unfold maxLen at hm9
    have hl8 := e81.lt
    clear hrC hr9 hrB
    go_upto_region 4 with fail
    go_wp2_with (refine wpList_load_mid (by rfl) 149 (.tmp 7) (by rfl) b7 0 (by rfl) [.string (RS a0.1), .string (RS a0.2), .string (RS a1.1), .string (RS a1.2), .string (RS a2.1), .string (RS a2.2)] _ rA1 Tryz.underlying149 (by rfl) (by kernel_rfl) ?_)
    clear rA1 e71
    go_loopw [10, 25] (fun t10 t25 wr => ∃ (i n : Nat), t25 = .int .i64 i ∧ i ≤ 3 ∧ n ≤ i ∧ Hid (((([a0, a1, a2] : List PtQ).take i).filter (hasP [b0, b1, b2])).length = n) ∧ wr.ownsRow w1.heap.size 54 2 t10 n (cellsP (strP ((([a0, a1, a2] : List PtQ).take i).filter (hasP [b0, b1, b2])))) ∧ Below w1.heap.size w1 wr) (fun _ t25 _ => 3 - (RowKit.intOf t25).toNat)
    case atStart => exact ⟨0, 0, rfl, Nat.zero_le _, Nat.le_refl _, rfl, World.ownsRow_nil _ _ _ _, Below.refl _ _⟩
    case round =>
      obtain ⟨i, n, rfl, hi3, hni, HLN, hown, hbr⟩ := hrel
      obtain ⟨p10, c10, rfl⟩ := ownsRow_shape hown
      have hzr := hbr.size
      have hbWr := hbW1.trans (hbr.mono hbW1.size)
      rcases Nat.lt_or_ge i 3 with h | h
      · obtain ⟨x, hx, hix⟩ := HIX.out i h
        have HST : Hid ((([a0, a1, a2] : List PtQ).take (i + 1)).filter (hasP [b0, b1, b2]) = (([a0, a1, a2] : List PtQ).take i).filter (hasP [b0, b1, b2]) ++ (if hasP [b0, b1, b2] x then [x] else [])) := by
          unfold Hid
          rw [filter_take_succ _ _ _ h, ← hx]
        have HCBx : Hid (∀ w', Below w1.heap.size w1 w' → _) := fun w' hb => HCB.out x w' hb
        have hiz : (i : Int) < 3 := by omega
        clear hx
        generalize hasP [b0, b1, b2] x = hx at *
        go_upto_region 7 with fail
        obtain ⟨W2, hW2⟩ : ∃ X, X = wr.alloc (.cells #[.string (RS x.1), .string (RS x.2)] 54) := ⟨_, rfl⟩
        have hb2 : Below wr.heap.size wr W2 := by rw [hW2]; exact (Below.refl _ _).alloc (Nat.le_refl _) _
        have e12 : BoxN W2 wr.heap.size 54 [.string (RS x.1), .string (RS x.2)] := by rw [hW2]; exact BoxN.new _ _ _ _ rfl
        rw [← hW2]
        clear hW2 hix
        have hown2 := World.ownsRow.belowAll hown hb2
        have hbr2 := hbr.trans (hb2.mono hzr)
        have hbd : Below w1.heap.size w1 W2.drew := hbr2.trans ((below_drewN W2 1).mono hbr2.size)
        have y0 := e12.cell 0 rfl
        have y1 := e12.cell 1 rfl
        have hl12 := e12.lt
        have hgd : Good W2.drew := ((hg.below hbWr).below hb2).drewN 1
        clear hb2 hown hbr hbWr
        go_region_held3 (fun w' => w'.cell? ⟨wr.heap.size, 0, none⟩ = some (.string (RS x.1)) ∧ w'.cell? ⟨wr.heap.size, 1, none⟩ = some (.string (RS x.2)))
          (first | exact ⟨y0, y1⟩ | exact ⟨p_1_0, p_1_1⟩)
          (first
          | (go_at_call 143; refine (HCBx.out _ hbd).mono ?_; rintro e pw1 ⟨_, rfl, rfl, pb1⟩
             have p_1_0 := (pb1.cell (p := ⟨wr.heap.size, 0, none⟩) (by show wr.heap.size < W2.heap.size; omega)).trans y0
             have p_1_1 := (pb1.cell (p := ⟨wr.heap.size, 1, none⟩) (by show wr.heap.size < W2.heap.size; omega)).trans y1
             have ps1 : W2.heap.size ≤ pw1.heap.size := pb1.size
             have pg1 : Good pw1 := hgd.below pb1))
        have pB : Below W2.heap.size W2 pw1 := ((below_drewN W2 1).trans (pb1.mono (by show W2.heap.size ≤ W2.heap.size; omega)))
        have hown3 := World.ownsRow.belowAll hown2 pB
        have hbr3 := hbr2.trans (pB.mono hbr2.size)
        have e13 := e12.below pB e12.lt
        have hz3 := hbr3.size
        clear pB pb1 ps1 pg1 p_1_0 p_1_1 y0 y1 hgd hbd hown2 hbr2 e12
        cases hx
        · have HE : Hid ((([a0, a1, a2] : List PtQ).take (i + 1)).filter (hasP [b0, b1, b2]) = (([a0, a1, a2] : List PtQ).take i).filter (hasP [b0, b1, b2])) := by unfold Hid; rw [HST.out]; simp
          have HLN1 : Hid (((([a0, a1, a2] : List PtQ).take (i + 1)).filter (hasP [b0, b1, b2])).length = n) := by unfold Hid; rw [HE.out]; exact HLN.out
          rw [← HE.out] at hown3
          go_wp2_with fail
          go_roundw
          case rel => exact ⟨i + 1, n, by go_num, by omega, by omega, HLN1, hown3, hbr3⟩
          case measure => simp [RowKit.intOf]; omega
        · have HE : Hid ((([a0, a1, a2] : List PtQ).take (i + 1)).filter (hasP [b0, b1, b2]) = (([a0, a1, a2] : List PtQ).take i).filter (hasP [b0, b1, b2]) ++ [x]) := by unfold Hid; rw [HST.out]; simp
          have HLN1 : Hid (((([a0, a1, a2] : List PtQ).take (i + 1)).filter (hasP [b0, b1, b2])).length = n + 1) := by unfold Hid; rw [HE.out, List.length_append, HLN.out]; rfl
          have HBE : Hid (cellsP (strP ((([a0, a1, a2] : List PtQ).take (i + 1)).filter (hasP [b0, b1, b2]))) = cellsP (strP ((([a0, a1, a2] : List PtQ).take i).filter (hasP [b0, b1, b2]))) ++ [.string (RS x.1), .string (RS x.2)]) := by unfold Hid; rw [HE.out, cellsP_snoc]
          have y0 := e13.cell 0 rfl
          have y1 := e13.cell 1 rfl
          generalize cellsP (strP ((([a0, a1, a2] : List PtQ).take i).filter (hasP [b0, b1, b2]))) = cs0 at *
          go_wp2_with (at_builtin; refine wpList_append_own _ rfl _ _ 37 rfl w1.heap.size 54 i0 (.agg #[.string ⟨#[]⟩, .string ⟨#[]⟩]) 2 32 Tryz.underlying37 hi hzz0 hzz1 hzz2 rfl (by decide) _ _ _ rfl (hown3.alloc _) ⟨pw1.heap.size, 0, none⟩ 1 1 [.string (RS x.1), .string (RS x.2)] rfl rfl (cell_two _ _ _ _) (pt_strs _ _) (by unfold maxLen; omega) (by omega) (by simp; omega) ?_
                       intro v4 w4 hown4 hgrow4 _
                       have hbr4 : Below w1.heap.size w1 w4 := (hbr3.alloc hz3 _).grown hgrow4 (by simp; omega) (fun j hj => by have := (hown3.lt j hj).1; omega)
                       clear hgrow4)
          rw [← HBE.out] at hown4
          go_wp2_with fail
          go_roundw
          case rel => exact ⟨i + 1, n + 1, by go_num, by omega, by omega, HLN1, hown4, hbr4⟩
          case measure => simp [RowKit.intOf]; omega
      · obtain rfl : i = 3 := by omega
        rw [← HSH.out] at HLN hown
        clear HIX HSH HCB
        generalize sharedL a0 a1 a2 b0 b1 b2 = S at *
        have hrS : RdP wr (.slice p10 n c10) (strP S) := by
          have h1 : RdC 2 wr (.slice p10 n c10) n (cellsP (strP S)) := RdC.of_owns hown
          unfold RdP
          rw [strP_length, HLN.out]
          exact h1
        have HCS : Hid (∀ (x : PtQ) w', Below wr.heap.size wr w' → _) := fun x w' hb => containsP_any (.slice p10 n c10) S x w' (RdC.below hrS hb)
        clear hrS
        by_cases hn3 : n = 3
        · have HE : Hid (true = res) := by unfold Hid; rw [HCN.out, HLN.out, decide_eq_true hn3]; rfl
          have hn3z : (n : Int) = 3 := by omega
          subst hn3
          go_wp2_with fail
          go_ret
          exact ⟨_, rfl, congrArg Value.bool HE.out, hbWr⟩
        · have HRE : Hid (res = C.any fun p => !hasP S p) := by unfold Hid; rw [HCN.out, HLN.out, decide_eq_false hn3]; rfl
          have hn3z : ((n : Int) == 3) = false := by rw [beq_eq_false_iff_ne]; omega
          have hn3y : ¬ (n : Int) = 3 := by omega
          obtain ⟨wo, hwo⟩ : ∃ wo : World, wo = wr := ⟨_, rfl⟩
          subst hwo
          clear hown HCN HLN hn3
          go_wp2_with fail
          clear hn3z hn3y
          go_loopw [41] (fun t41 wr => ∃ j : Nat, t41 = .int .i64 j ∧ j ≤ C.length ∧ Hid (∀ k (h : k < j) (h2 : k < C.length), hasP S C[k] = true) ∧ Below wo.heap.size wo wr) (fun t41 _ => C.length - (RowKit.intOf t41).toNat)
          case atStart => exact ⟨0, rfl, Nat.zero_le _, fun k h => absurd h (by omega), Below.refl _ _⟩
          case round =>
            obtain ⟨j, rfl, hjC, HN, hbl⟩ := hrel
            have hbW := hbWr.trans (hbl.mono hbWr.size)
            rcases Nat.lt_or_ge j C.length with hj | hj
            · obtain ⟨g9, o9, rfl, hg9, hcell9⟩ := HR9.out (by intro e; have := strP_length C; rw [e] at this; simp at this; omega)
              obtain ⟨k0, k1⟩ := hcell9 j (by rw [strP_length]; exact hj)
              rw [strP_get C j hj] at k0 k1
              dsimp only at k0 k1
              replace k0 := (hbl.cell (p := ⟨g9, o9 + j * 2, none⟩) (Nat.lt_of_lt_of_le hg9 hzr)).trans ((hbr.cell (p := ⟨g9, o9 + j * 2, none⟩) hg9).trans k0)
              replace k1 := (hbl.cell (p := ⟨g9, o9 + j * 2 + 1, none⟩) (Nat.lt_of_lt_of_le hg9 hzr)).trans ((hbr.cell (p := ⟨g9, o9 + j * 2 + 1, none⟩) hg9).trans k1)
              have HCSx : Hid (∀ w', Below wo.heap.size wo w' → _) := fun w' hb => HCS.out C[j] w' hb
              have HT : Hid (hasP S C[j] = true → ∀ k (h : k < j + 1) (h2 : k < C.length), hasP S C[k] = true) := fun he k hk h2 => by
                rcases Nat.lt_or_ge k j with h3 | h3
                · exact HN.out k h3 h2
                · obtain rfl : k = j := by omega
                  exact he
              have HFF : Hid (hasP S C[j] = false → true = res) := fun he => by
                rw [HRE.out]
                symm
                rw [List.any_eq_true]
                exact ⟨C[j], List.getElem_mem hj, by rw [he]; rfl⟩
              generalize hasP S C[j] = hx at *
              generalize RS C[j].1 = cx at *
              generalize RS C[j].2 = cy at *
              have hjz : (j : Int) < (C.length : Int) := by omega
              clear hcell9
              go_upto_region 15 with fail
              obtain ⟨W2, hW2⟩ : ∃ X, X = wr.alloc (.cells #[.string cx, .string cy] 54) := ⟨_, rfl⟩
              have hb2 : Below wr.heap.size wr W2 := by rw [hW2]; exact (Below.refl _ _).alloc (Nat.le_refl _) _
              have e14 : BoxN W2 wr.heap.size 54 [.string cx, .string cy] := by rw [hW2]; exact BoxN.new _ _ _ _ rfl
              rw [← hW2]
              clear hW2 k0 k1
              have hbl2 := hbl.trans (hb2.mono hbl.size)
              have y0 := e14.cell 0 rfl
              have y1 := e14.cell 1 rfl
              go_wp2_with fail
              refine (HCSx.out W2 hbl2).mono ?_
              rintro e w5 ⟨_, rfl, rfl, hb5⟩
              have hbl5 := hbl2.trans (hb5.mono hbl2.size)
              have hbW5 := hbWr.trans (hbl5.mono hbWr.size)
              clear y0 y1
              cases hx
              · have HE := Lib.hid (HFF.out rfl)
                go_wp2_with fail
                go_ret
                exact ⟨_, rfl, congrArg Value.bool HE.out, hbW5⟩
              · have HE := Lib.hid (HT.out rfl)
                go_wp2_with fail
                go_roundw
                case rel =>
                  (repeat apply Exists.intro)
                  exact ⟨⟨j + 1, by go_num, by omega, HE, hbl5⟩, rfl⟩
                case measure => simp [RowKit.intOf]; omega
            · obtain rfl : j = C.length := by omega
              have HE : Hid (false = res) := by
                unfold Hid
                rw [HRE.out]
                symm
                rw [List.any_eq_false]
                intro x hx
                obtain ⟨k, hk, rfl⟩ := List.getElem_of_mem hx
                rw [HN.out k hk hk]; simp
              go_wp2_with fail
              go_ret
              exact ⟨_, rfl, congrArg Value.bool HE.out, hbW⟩
end Go.Proofs.YtjfjkiibmfgplaaGreatDoor
