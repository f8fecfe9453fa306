/- The walks over mesh.Edges, mesh.Area. -/
import Derived.Test.YtdhcliekejiegaaGreatDoorM27
import Derived.Test.YtdhcliekejiegaaGreatDoorM22
namespace Go.Proofs.YtdhcliekejiegaaGreatDoor
open Go.RowKit Go.Lib Go.Maps

theorem two_int (x y : Int) : ∀ u ∈ [Value.int .i64 x, .int .i64 y], u.oneCell' = true := by
  intro u hu
  simp at hu
  rcases hu with rfl | rfl <;> rfl
theorem ownsRow_cap {w : World} {base e sz n g c : Nat} {xs : List Value} (h : w.ownsRow base e sz (.slice (some ⟨g, 0, none⟩) n c) n xs) : n ≤ c ∧ c ≤ maxLen := by
  rcases h.2 with ⟨h', _⟩ | ⟨g', cap', cur, h', _, _, h1, h2, _⟩
  · simp at h'
  · simp only [Value.slice.injEq, Option.some.injEq, Addr.mk.injEq, and_true, true_and] at h'
    obtain ⟨_, rfl⟩ := h'
    exact ⟨h1, h2⟩
theorem ownsRow_pos {w : World} {base e sz n : Nat} {v : Value} {xs : List Value} (h : w.ownsRow base e sz v n xs) (hn : 0 < n) : ∃ g c, v = .slice (some ⟨g, 0, none⟩) n c ∧ base ≤ g ∧ g < w.heap.size := by
  rcases h.2 with ⟨_, h0⟩ | ⟨g, cap, cur, hv, hb, hg, _⟩
  · omega
  · exact ⟨g, cap, hv, hb, (Array.getElem?_eq_some_iff.1 hg).1⟩

theorem News2 (w : World) (x y : Int) (E n : Nat) (hn : w.heap.size = n) : ∀ (j : Nat) (u : Value), [Value.int .i64 x, .int .i64 y][j]? = some u → (w.alloc (.cells #[.int .i64 x, .int .i64 y] E)).cell? ((⟨n, 0, none⟩ : Addr).add j) = some u := by
  subst hn; exact cell_two w _ _ E

set_option maxHeartbeats 4000000 in
set_option maxRecDepth 100000 in
theorem edges_ok (w : World) (vp vt : Value) (P : List PtQ) (T : List Tri) (k : Nat) (hp : RdP w vp (strP P)) (ht : RdT w vt T) (hm : MeshOK P T k) (hI : ∀ t ∈ T, InI t.1 ∧ InI t.2.1 ∧ InI t.2.2) (hS : ∀ s ∈ keysOf T, SmE s) (h0 : 0 < (edgesU (keysOf T)).length) (h12 : (edgesU (keysOf T)).length ≤ 12) (hg : Good w) :
    Calls Tryz.prog 11 #[.agg #[vp, vt]] w (Ret (fun r w' => ∃ v, r = .tuple #[v, .int .i64 0] ∧ RdE w' v (edgesL (keysOf T)) ∧ FreshV w.heap.size v) w) := by
  obtain ⟨i0, hi, iz0, iz1, iz2⟩ := info_parts info_pair
  have HCK : Hid (∀ w', Below w.heap.size w w' → Good w' → Calls Tryz.prog 47 #[.agg #[vp, vt]] w' (Ret (fun r _ => r = .int .i64 0) w')) := fun w' hb hg' => check_any w' vp vt P T k (RdC.below hp hb) (RdC.below ht hb) hm hg'
  have HOW : Hid (∀ w', Below w.heap.size w w' → Calls Tryz.prog 52 #[.agg #[vp, vt]] w' (Ret (OwnersP T w'.heap.size) w')) := fun w' hb => owners_any w' vp vt T (RdC.below ht hb) (by have := hm.tlen; omega) hI
  have HND : Hid (keysOf T).Nodup := by
    have := hm.whole
    unfold wholeB at this
    rw [Bool.and_eq_true] at this
    exact (of_decide_eq_true this.1 : (keysOf T).Nodup)
  obtain ⟨pp, cp, rfl, -, -, -⟩ := hp.open
  obtain ⟨pt, ct, rfl, -, -, -⟩ := ht.open
  have hkl : (keysOf T).length = 3 * T.length := by
    unfold keysOf
    generalize T = T
    induction T with
    | nil => rfl
    | cons t T ih => rw [List.flatMap_cons, List.length_append, ih, List.length_cons]; simp [sidesOf]; omega
  have htl := hm.tlen
  have HEE : Hid ((ownL T).map (·.1) = keysOf T) := ownL_keys T
  obtain ⟨E, hE⟩ : ∃ E, E = keysOf T := ⟨_, rfl⟩
  obtain ⟨TL, hTL⟩ : ∃ TL, TL = T.length := ⟨_, rfl⟩
  rw [← hE] at hS h0 h12 HND hkl HEE ⊢
  rw [← hTL] at hkl htl HCK HOW ⊢
  have HS := Lib.hid hS
  have HTL := Lib.hid hTL
  clear hp ht hm hI hS hE hTL
  go_enter Tryz.func11, Tryz.ntmps11
  go_wp2_with fail
  obtain ⟨W, hW⟩ : ∃ W, W = w.alloc (.cells #[.slice pp (strP P).length cp, .slice pt TL ct] 30) := ⟨_, rfl⟩
  have hB : Below w.heap.size w W := by rw [hW]; exact (Below.refl _ _).alloc (Nat.le_refl _) _
  have b1 : BoxN W w.heap.size 30 [.slice pp (strP P).length cp, .slice pt TL ct] := by rw [hW]; exact BoxN.new _ _ _ _ rfl
  rw [← hW]
  clear hW
  refine (HCK.out W hB (hg.below hB)).mono ?_
  rintro e w1 ⟨_, rfl, rfl, hb1⟩
  have hB1 := hB.trans (hb1.mono hB.size)
  have b11 := b1.below hb1 b1.lt
  have x0 := b11.cell 0 rfl
  have x1 := b11.cell 1 rfl
  clear hb1 hB b1
  go_wp2_with fail
  refine (HOW.out w1 hB1).mono ?_
  rintro e w2 ⟨z, rfl, hov, hb2⟩
  have hov : ((keysOf T).Nodup ∧ ∃ b D, w1.heap.size ≤ b ∧ z = .tuple #[.map (some b), .bool true] ∧ MapL viewE 3 (Lit.int .i64) w2 b (3 * T.length) D (ownL T)) ∨ (¬ (keysOf T).Nodup ∧ z = .tuple #[.map none, .bool false]) := hov
  rcases hov with hov | ⟨hnn, _⟩
  rotate_left
  · rw [(ownL_keys T).symm.trans HEE.out] at hnn
    exact absurd HND.out hnn
  obtain ⟨_, bm, D, hbm, rfl, hM⟩ := hov
  rw [← HTL.out] at hM
  have hB2 := hB1.trans (hb2.mono hB1.size)
  have HM := Lib.hid hM
  have hbml : bm < w2.heap.size := hM.owns.lt
  clear hb2 hB1 b11 x0 x1 hM HCK HOW
  have HL0 : Hid (∀ kl, Maps.has D kl = true → ∃ s, (InE s ∧ s ∈ E) ∧ kl = kE s) := fun kl hk => by
    obtain ⟨s, hs, rfl⟩ := HM.out.2.2.2 kl hk
    exact ⟨s, ⟨hs, by rw [← HEE.out]; exact (HM.out.has_iff hs).1 hk⟩, rfl⟩
  have HIE : Hid (∀ s, SmE s → InE s) := fun s hs => by
    obtain ⟨⟨a, b⟩, c, d⟩ := hs
    exact ⟨⟨by omega, by omega⟩, ⟨by omega, by omega⟩⟩
  have HI0 : Hid (([] : List Edge).Perm ((seenE E fun s => Maps.has D (kE s)).map normE)) := by
    unfold Hid
    rw [show (seenE E fun s => Maps.has D (kE s)) = [] from seenE_none fun s hs => (HM.out.has_iff (V := viewE) (HIE.out s (HS.out s hs))).2 (by rw [HEE.out]; exact hs)]
    exact List.Perm.refl _
  go_wp2_with (at_range; refine wpList_range_own _ rfl _ 113 rfl 47 3 lawE und_EI _ bm (3 * TL) D rfl HM.out.owns ?_; intro w0 hrg0 hg0 hs0)
  go_frame
  have hB0 : Below w2.heap.size w2 w0 := (Below.refl _ _).grown hg0 (Nat.le_refl _) (fun j e => by cases e)
  have hz0 : w2.heap.size + 1 ≤ w0.heap.size := by omega
  clear hg0 hs0
  go_loopw [7] (fun t7 wr => ∃ (left : Lit → Bool) (cnt : Nat) (L : List Edge), wr.ownsRow (w2.heap.size + 1) 47 2 t7 L.length (cellsE L) ∧ Hid (L.Perm ((seenE E fun s => left (kE s)).map normE)) ∧ Hid (∀ kl, left kl = true → ∃ s, (InE s ∧ s ∈ E) ∧ kl = kE s) ∧
      Hid (wr.ranges Tryz.prog 47 (plainElem Tryz.prog 3) bm w2.heap.size (3 * TL) D left cnt) ∧ Below w2.heap.size w2 wr ∧ w2.heap.size + 1 ≤ wr.heap.size) (fun _ wr => wr.rangeLeft bm w2.heap.size)
  case atStart => exact ⟨_, _, [], World.ownsRow_nil _ _ _ _, HI0, HL0, Lib.hid hrg0, hB0, hz0⟩
  case round =>
    obtain ⟨left, cnt, L, hown, HP, HL, HR, hBr, hz⟩ := hrel
    clear hrg0 HL0 HI0 hB0 hz0
    have HLN : Hid (L.length ≤ 3 * TL) := by
      unfold Hid
      rw [HP.out.length_eq, List.length_map, ← hkl]
      exact List.length_filter_le _ _
    clear hkl
    go_wp2_with (at_next; refine wpList_next_edges _ rfl _ rfl 47 3 lawE und_I kE (fun s => InE s ∧ s ∈ E) (fun s hs => keyE hs.1.1 hs.1.2) bm w2.heap.size (3 * TL) D left cnt rfl HR.out HL.out ?_ ?_)
    · intro _ hl0
      have HPU : Hid (L.Perm (edgesU E)) := by
        have h := HP.out
        rw [seenE_all fun s _ => hl0 _] at h
        exact h
      have hLl : L.length = (edgesU E).length := HPU.out.length_eq
      have hL0 : 0 < L.length := by omega
      have hL12 : L.length ≤ 12 := by omega
      clear hLl
      obtain ⟨g, c, rfl, hgb, hgl⟩ := ownsRow_pos hown hL0
      have hcap := ownsRow_cap hown
      have hrow : RowE wr g L := RowE.of_owns hown rfl
      have hsm : ∀ s ∈ L, SmE s := fun s hs => edgesU_sm HS.out s (HPU.out.mem_iff.1 hs)
      have hBW := hB2.trans (hBr.mono hB2.size)
      have HSR := Lib.hid (sortPair_any w wr g c L hL12 hsm hrow hgl hBW (by have := hB2.size; omega) hg)
      clear hl0 HR HL hrow hown
      go_wp2_with fail
      refine HSR.out.mono ?_
      rintro e w3 ⟨rfl, l, h1, h2, h3, h4⟩
      have HLE : Hid (l = edgesL E) := edges_unique HND.out HS.out HPU.out h1 h2
      have hll : l.length = L.length := h1.length_eq
      have hB3 : Below w.heap.size w w3 := below_gb (hB2.trans (hBr.mono hB2.size)) h4 (by have := hB2.size; omega)
      have HRE : Hid (RdE w3 (.slice (some ⟨g, 0, none⟩) L.length c) (edgesL E)) := by
        unfold Hid
        rw [← HLE.out, ← hll]
        exact RdE.of_row h3 (by omega) hcap.2
      have HFR : Hid (FreshV w.heap.size (.slice (some ⟨g, 0, none⟩) L.length c)) := fun a l c e => by
        injection e with e
        injection e with e
        subst e
        have := hB2.size
        show w.heap.size ≤ g
        omega
      clear h1 h2 h3 h4 hll
      go_wp2_with fail
      go_ret2
      exact ⟨_, rfl, ⟨_, rfl, HRE.out, HFR.out⟩, hB3⟩
    · intro x y c w3 cnt1 hinE hin hl hrg1 hlt1 hg1 hs1 hen
      have hv := HS.out (x, y) hin
      obtain ⟨⟨hx0, hx1⟩, hy0, hy1⟩ := hv
      dsimp only at hx0 hx1 hy0 hy1
      have hrevIn : InE (y, x) := HIE.out (y, x) ⟨⟨hy0, hy1⟩, ⟨hx0, hx1⟩⟩
      have HB1 : Hid (Below w2.heap.size w2 w3) := hBr.grown hg1 (by omega) (fun j e => by cases e; omega)
      have hz1 : w2.heap.size + 1 ≤ w3.heap.size := by omega
      have hown3 : w3.ownsRow (w2.heap.size + 1) 47 2 u7 L.length (cellsE L) := hown.kept hg1 (.inr (fun e => by have := (hown.lt _ e).1; omega))
      have HR1 := Lib.hid hrg1
      have HMU : Hid (cnt1 < wr.rangeLeft bm w2.heap.size) := by unfold Hid; rw [HR.out.left_eq]; exact hlt1
      have HLL : Hid (∀ kl, (left kl && !kl.sameKey (kE (x, y))) = true → ∃ s, (InE s ∧ s ∈ E) ∧ kl = kE s) := fun kl h => HL.out kl (by simp at h; exact h.1)
      have HNE : Hid (∀ t ∈ E, t ≠ (x, y) → (left (kE t) && !(kE t).sameKey (kE (x, y))) = left (kE t)) := fun t ht hne => by
        have htE : InE t := HIE.out t (HS.out t ht)
        rw [sameKey_ne (fun e => hne (kE_inj htE.1 htE.2 hinE.1 hinE.2 e))]; simp
      have HSE : Hid ((left (kE (x, y)) && !(kE (x, y)).sameKey (kE (x, y))) = false) := by unfold Hid; rw [WideAt.sameKey_self (lawE.key (keyE hinE.1 hinE.2))]; simp
      have hr1 := (HM.out.has_iff (V := viewE) hrevIn)
      rw [HEE.out] at hr1
      have HRV := Lib.hid hr1
      have HK1 : Hid (keyOf Tryz.prog 47 (.agg #[.int .i64 y, .int .i64 x]) = some (kE (y, x))) := keyE hrevIn.1 hrevIn.2
      have HADD : Hid (edgeB E (x, y) = true → (L ++ [normE (x, y)]).Perm ((seenE E fun s => left (kE s) && !(kE s).sameKey (kE (x, y))).map normE)) := fun hb => by
        have h1 := (seenE_add (left := fun s => left (kE s)) HND.out hin hl hb HNE.out HSE.out).map normE
        rw [List.map_cons] at h1
        exact ((List.perm_append_singleton _ _).trans ((List.Perm.cons _ HP.out))).trans h1
      have HSKIP : Hid (edgeB E (x, y) = false → L.Perm ((seenE E fun s => left (kE s) && !(kE s).sameKey (kE (x, y))).map normE)) := fun hb => by
        have h1 := seenE_skip (left := fun s => left (kE s)) (left' := fun s => left (kE s) && !(kE s).sameKey (kE (x, y))) hb HNE.out
        rw [h1]; exact HP.out
      have hL24 : L.length ≤ 2400 := by have := HLN.out; omega
      obtain ⟨pO, cO, rfl⟩ := ownsRow_shape hown3
      clear hg1 hs1 hrg1 hlt1 hr1 HR HL HP hown hBr
      have app : ∀ hb : edgeB E (x, y) = true, True := fun _ => trivial
      cases hin2 : Maps.has D (viewE.lit (y, x))
      · have hnb : (y, x) ∉ E := fun h => by have := HRV.out.2 h; rw [hin2] at this; cases this
        have HPA := Lib.hid (HADD.out (by unfold edgeB revE; simp [hnb]))
        have HIN2 := Lib.hid hin2
        clear hnb hin2 app HADD HSKIP
        rcases (by omega : x < y ∨ ¬ x < y) with hxy | hxy
        all_goals
          go_wp2_with (first
            | (at_lookup; refine wpList_lookup_own_ok_int _ rfl _ _ 113 rfl 47 3 .i64 lawE und_EI und_I (zeroI _) bm (3 * TL) D rfl (HR1.out.owns.alloc _) _ _ rfl HK1.out ?_; rw [show Maps.has D (kE (y, x)) = false from HIN2.out]; intro cz hat hwc; clear hat hwc)
            | (at_builtin; refine wpList_append_own _ rfl _ _ 36 rfl (w2.heap.size + 1) 47 i0 (.agg #[.int .i64 0, .int .i64 0]) 2 16 Tryz.underlying36 hi iz0 iz1 iz2 rfl (by decide) _ _ _ rfl ((hown3.alloc _).alloc _) ⟨w3.heap.size + 1, 0, none⟩ 1 1 [.int .i64 (min x y), .int .i64 (max x y)] rfl rfl (News2 _ _ _ _ _ (by simp)) (two_int _ _) (by unfold maxLen; omega) (by omega) (by simp; omega) ?_
               intro v2 w4 hown4 hgrow4 _
               have hz4 := hgrow4.size
               have HR4 : Hid (w4.ranges Tryz.prog 47 (plainElem Tryz.prog 3) bm w2.heap.size (3 * TL) D (fun z => left z && !z.sameKey (kE (x, y))) cnt1) := ((HR1.out.alloc _).alloc _).kept hgrow4 (fun e => by have := (hown3.lt _ e.symm).1; omega) (fun e => by have := (hown3.lt _ e.symm).1; omega)
               have hB4 : Below w2.heap.size w2 w4 := ((HB1.out.alloc (by omega) _).alloc (by simp; omega) _).grown hgrow4 (by simp; omega) (fun j hj => by have := (hown3.lt j hj).1; omega)
               clear hgrow4))
          go_roundw
          case rel => exact ⟨fun z => left z && !z.sameKey (kE (x, y)), cnt1, L ++ [normE (x, y)], by rw [cellsE_snoc, List.length_append]; exact hown4, HPA, HLL, HR4, hB4, by simp at hz4; omega⟩
          case measure =>
            rw [HR4.out.left_eq]
            exact HMU.out
      · have hnb : (y, x) ∈ E := HRV.out.1 hin2
        have HIN2 := Lib.hid hin2
        clear hin2 app
        by_cases hxy : x < y
        · have HPA := Lib.hid (HADD.out (by unfold edgeB; simp [hxy]))
          clear hnb HADD HSKIP
          go_wp2_with (first
            | (at_lookup; refine wpList_lookup_own_ok_int _ rfl _ _ 113 rfl 47 3 .i64 lawE und_EI und_I (zeroI _) bm (3 * TL) D rfl (HR1.out.owns.alloc _) _ _ rfl HK1.out ?_; rw [show Maps.has D (kE (y, x)) = true from HIN2.out]; intro cz hat hwc; clear hat hwc)
            | (at_builtin; refine wpList_append_own _ rfl _ _ 36 rfl (w2.heap.size + 1) 47 i0 (.agg #[.int .i64 0, .int .i64 0]) 2 16 Tryz.underlying36 hi iz0 iz1 iz2 rfl (by decide) _ _ _ rfl ((hown3.alloc _).alloc _) ⟨w3.heap.size + 1, 0, none⟩ 1 1 [.int .i64 (min x y), .int .i64 (max x y)] rfl rfl (News2 _ _ _ _ _ (by simp)) (two_int _ _) (by unfold maxLen; omega) (by omega) (by simp; omega) ?_
               intro v2 w4 hown4 hgrow4 _
               have hz4 := hgrow4.size
               have HR4 : Hid (w4.ranges Tryz.prog 47 (plainElem Tryz.prog 3) bm w2.heap.size (3 * TL) D (fun z => left z && !z.sameKey (kE (x, y))) cnt1) := ((HR1.out.alloc _).alloc _).kept hgrow4 (fun e => by have := (hown3.lt _ e.symm).1; omega) (fun e => by have := (hown3.lt _ e.symm).1; omega)
               have hB4 : Below w2.heap.size w2 w4 := ((HB1.out.alloc (by omega) _).alloc (by simp; omega) _).grown hgrow4 (by simp; omega) (fun j hj => by have := (hown3.lt j hj).1; omega)
               clear hgrow4))
          go_roundw
          case rel => exact ⟨fun z => left z && !z.sameKey (kE (x, y)), cnt1, L ++ [normE (x, y)], by rw [cellsE_snoc, List.length_append]; exact hown4, HPA, HLL, HR4, hB4, by simp at hz4; omega⟩
          case measure =>
            rw [HR4.out.left_eq]
            exact HMU.out
        · have HPA := Lib.hid (HSKIP.out (by unfold edgeB revE; simp [hxy, hnb]))
          clear hnb HADD HSKIP
          go_wp2_with (at_lookup; refine wpList_lookup_own_ok_int _ rfl _ _ 113 rfl 47 3 .i64 lawE und_EI und_I (zeroI _) bm (3 * TL) D rfl (HR1.out.owns.alloc _) _ _ rfl HK1.out ?_; rw [show Maps.has D (kE (y, x)) = true from HIN2.out]; intro cz hat hwc; clear hat hwc)
          go_roundw
          case rel => exact ⟨fun z => left z && !z.sameKey (kE (x, y)), cnt1, L, hown3.alloc _, HPA, HLL, Lib.hid (HR1.out.alloc _), HB1.out.alloc (by omega) _, by simp; omega⟩
          case measure =>
            rw [(HR1.out.alloc (.cells #[.int .i64 x, .int .i64 y] 47)).left_eq]
            exact HMU.out
end Go.Proofs.YtdhcliekejiegaaGreatDoor
