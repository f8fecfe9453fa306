/- The walks over mesh.Boundary, mesh.right, mesh.Shares, mesh.within. -/
import Derived.Test.YtdhcliekejiegaaGreatDoorM2
import Derived.Test.YtdhcliekejiegaaGreatDoorE5a
import Derived.Test.YtdhcliekejiegaaGreatDoorW1
namespace Go.Proofs.YtdhcliekejiegaaGreatDoor
open Go.RowKit Go.Lib

theorem FreshV.mono {n m : Nat} {v : Value} (h : FreshV n v) (hm : m ≤ n) : FreshV m v := fun a l c e => Nat.le_trans hm (h a l c e)
theorem MeshOK.inI {P : List PtQ} {T : List Tri} {k : Nat} (hm : MeshOK P T k) : ∀ t ∈ T, InI t.1 ∧ InI t.2.1 ∧ InI t.2.2 := fun t ht => by
  have hpl := hm.plen
  have key : ∀ x ∈ idxOf t, InI x := fun x hx => by
    have := hm.idx t ht x hx
    unfold InI
    omega
  exact ⟨key _ (by simp [idxOf]), key _ (by simp [idxOf]), key _ (by simp [idxOf])⟩

set_option maxHeartbeats 1000000 in
set_option maxRecDepth 100000 in
theorem boundary_ok (w : World) (vp vt : Value) (P : List PtQ) (T : List Tri) (k : Nat) (hp : RdP w vp (strP P)) (ht : RdT w vt T) (hm : MeshOK P T k) (hg : Good w) :
    Calls Tryz.prog 13 #[.agg #[vp, vt]] w (Ret (fun r w' => ∃ s, r = .tuple #[s, .int .i64 0] ∧ RdI .i64 w' s (outerL (keysOf T)) ∧ FreshV w.heap.size s) w) := by
  have HCK : Hid (∀ w', Below w.heap.size w w' → Good w' → Calls Tryz.prog 47 #[.agg #[vp, vt]] w' (Ret (fun r _ => r = .int .i64 0) w')) := fun w' hb hg' => check_any w' vp vt P T k (RdC.below hp hb) (RdC.below ht hb) hm hg'
  have HOW : Hid (∀ w', Below w.heap.size w w' → Calls Tryz.prog 52 #[.agg #[vp, vt]] w' (Ret (OwnersP T w'.heap.size) w')) := fun w' hb => owners_any w' vp vt T (RdC.below ht hb) (by have := hm.tlen; omega) hm.inI
  have HND := Lib.hid hm.nodup
  have htl := hm.tlen
  have HEK : Hid (∀ s ∈ (ownL T).map (·.1), (0 ≤ s.1 ∧ s.1 < 1000000) ∧ (0 ≤ s.2 ∧ s.2 < 1000000)) := fun s hs => by
    rw [ownL_keys] at hs
    obtain ⟨t, ht, h1, h2⟩ := keysOf_mem hs
    have a1 := hm.idx t ht _ h1
    have a2 := hm.idx t ht _ h2
    have := hm.plen
    omega
  obtain ⟨pp, cp, rfl, -, -, -⟩ := hp.open
  obtain ⟨pt, ct, rfl, -, -, -⟩ := ht.open
  rw [strP_length] at *
  clear hp ht hm
  go_enter Tryz.func13, Tryz.ntmps13
  go_wp2_with fail
  obtain ⟨W, hW⟩ : ∃ W, W = w.alloc (.cells #[.slice pp P.length cp, .slice pt T.length ct] 30) := ⟨_, rfl⟩
  have hB : Below w.heap.size w W := by rw [hW]; exact (Below.refl _ _).alloc (Nat.le_refl _) _
  have b2 : BoxN W w.heap.size 30 [.slice pp P.length cp, .slice pt T.length ct] := by rw [hW]; exact BoxN.new _ _ _ _ rfl
  rw [← hW]
  clear hW
  refine (HCK.out W hB (hg.below hB)).mono ?_
  rintro e w1 ⟨_, rfl, rfl, hb1⟩
  have hB1 := hB.trans (hb1.mono hB.size)
  have b21 := b2.below hb1 b2.lt
  have x0 := b21.cell 0 rfl
  have x1 := b21.cell 1 rfl
  clear hb1 hB b2
  go_wp2_with fail
  refine (HOW.out w1 hB1).mono ?_
  rintro e w2 ⟨v, rfl, hov, hb2⟩
  rcases hov with hov | ⟨hnn, _⟩
  rotate_left
  · exact absurd HND.out hnn
  obtain ⟨bm, D, hbm, rfl, hM⟩ := hov.2
  have hB2 := hB1.trans (hb2.mono hB1.size)
  have b22 := b21.below hb2 b21.lt
  have HM := Lib.hid hM
  clear hb2 hB1 b21 x0 x1 hM hov
  have x0 := b22.cell 0 rfl
  have x1 := b22.cell 1 rfl
  go_wp2_with fail
  refine (outer_any w2 _ _ bm (3 * T.length) D (ownL T) HM.out (by rw [ownL_keys]; exact HND.out) (by omega) (by
    have := congrArg List.length (ownL_keys T); rw [List.length_map, keysOf_length] at this; omega) HEK.out).mono ?_
  rintro e w3 ⟨_, rfl, ⟨sv, rfl, hrs, hfr⟩, hb3⟩
  rw [ownL_keys] at hrs ⊢
  have HRS := Lib.hid hrs
  have HFR := Lib.hid (hfr.mono hB2.size)
  obtain ⟨ps, cs, rfl, _, _, _⟩ := hrs.open
  have hB3 := hB2.trans (hb3.mono hB2.size)
  clear hrs hfr hb3
  go_wp2_with fail
  go_ret2
  exact ⟨_, rfl, ⟨_, rfl, HRS.out, HFR.out⟩, hB3⟩

theorem mright_ok (q : Rat) (h : Sz 200 q) (w : World) (hg : Good w) :
    Calls Tryz.prog 51 #[.string (RS q)] w (Ret (fun r _ => r = .tuple #[.string (RS q), .int .i64 0]) w) := by
  have hs := h.size (by omega)
  have HE : Hid (errNum (rightQ (RS q).data.toList) = 0) := by unfold Hid; rw [RS_list, rightQ_RL h]; rfl
  clear h
  go_enter Tryz.func51, Tryz.ntmps51
  go_wp2_with fail
  refine (checkQ_any (RS q) (by omega) _ hg).mono ?_
  rintro e w1 ⟨_, rfl, rfl, hb1⟩
  rw [HE.out]
  go_wp2_with fail
  go_ret2
  exact ⟨_, rfl, rfl, hb1⟩

/-- The weight of a corner in a place. -/
def shareQ (c0 c1 c2 p : PtQ) (i : Nat) : Rat := (match i with | 0 => areaQ p c1 c2 | 1 => areaQ p c2 c0 | _ => areaQ p c0 c1) / areaQ c0 c1 c2
/-- What has been stored of the three. -/
def shareL (s0 s1 s2 : ByteArray) (i : Nat) : List Value := [.string (if 0 < i then s0 else ⟨#[]⟩), .string (if 1 < i then s1 else ⟨#[]⟩), .string (if 2 < i then s2 else ⟨#[]⟩)]
theorem areaQ_Sz {a b c : PtQ} {k : Nat} (ha : SzP k a) (hb : SzP k b) (hc : SzP k c) : Sz (8 * k + 5) (areaQ a b c) := by
  unfold areaQ
  exact (((hb.1.sub ha.1).mul (hc.2.sub ha.2)).sub ((hb.2.sub ha.2).mul (hc.1.sub ha.1))).mono (by omega)
theorem areaQ_pos {P : List PtQ} {T : List Tri} {k : Nat} (hm : MeshOK P T k) {tr : Tri} (ht : tr ∈ T) : 0 < areaQ (ptI P tr.1) (ptI P tr.2.1) (ptI P tr.2.2) := by
  have h := hm.turns tr ht
  have hidx := hm.idx tr ht
  have key : ∀ x ∈ idxOf tr, P[x.toNat]?.getD (0, 0) = ptI P x := fun x hx => by
    obtain ⟨h0, h1⟩ := hidx x hx
    obtain ⟨q, rfl⟩ : ∃ q : Nat, x = (q : Int) := ⟨x.toNat, by omega⟩
    have : q < P.length := by omega
    rw [ptI_nat P q this]
    simp [this]
  rw [key _ (by simp [idxOf]), key _ (by simp [idxOf]), key _ (by simp [idxOf])] at h
  unfold turnZ at h
  rw [sign_if] at h
  split at h
  · omega
  · split at h
    · assumption
    · omega

theorem ptI_SzP {P : List PtQ} {T : List Tri} {k : Nat} (hm : MeshOK P T k) {tr : Tri} (ht : tr ∈ T) : SzP k (ptI P tr.1) ∧ SzP k (ptI P tr.2.1) ∧ SzP k (ptI P tr.2.2) := by
  have hidx := hm.idx tr ht
  have key : ∀ x ∈ idxOf tr, SzP k (ptI P x) := fun x hx => by
    obtain ⟨h0, h1⟩ := hidx x hx
    obtain ⟨q, rfl⟩ : ∃ q : Nat, x = (q : Int) := ⟨x.toNat, by omega⟩
    rw [ptI_nat P q (by omega)]
    exact hm.sz _ (List.getElem_mem _)
  exact ⟨key _ (by simp [idxOf]), key _ (by simp [idxOf]), key _ (by simp [idxOf])⟩

theorem shareL_len (s0 s1 s2 : ByteArray) (i : Nat) : (shareL s0 s1 s2 i).length = 3 := rfl
theorem shareL_all (s0 s1 s2 : ByteArray) : shareL s0 s1 s2 3 = [.string s0, .string s1, .string s2] := rfl

set_option maxHeartbeats 4000000 in
set_option maxRecDepth 100000 in
theorem shares_ok (w : World) (vp vt : Value) (P : List PtQ) (T : List Tri) (k m : Nat) (hp : RdP w vp (strP P)) (ht : RdT w vt T) (hm : MeshOK P T k) (hkm : k ≤ m) (hm11 : m ≤ 11) (t : Nat) (htl : t < T.length) (tr : Tri) (htr : tr = T[t]) (p : PtQ) (hps : SzP m p) (hg : Good w) :
    Calls Tryz.prog 43 #[.agg #[vp, vt], .int .i64 (t : Int), .agg #[.string (RS p.1), .string (RS p.2)]] w (Ret (fun r _ => r = .tuple #[.agg #[.string (RS (shareQ (ptI P tr.1) (ptI P tr.2.1) (ptI P tr.2.2) p 0)), .string (RS (shareQ (ptI P tr.1) (ptI P tr.2.1) (ptI P tr.2.2) p 1)), .string (RS (shareQ (ptI P tr.1) (ptI P tr.2.1) (ptI P tr.2.2) p 2))], .int .i64 0]) w) := by
  have hmem : tr ∈ T := by rw [htr]; exact List.getElem_mem htl
  obtain ⟨z0, z1, z2⟩ := ptI_SzP hm hmem
  have hpos := areaQ_pos hm hmem
  have hk0 : 0 < m := by have := hm.kpos; omega
  have HCT : Hid (∀ w', Below w.heap.size w w' → Good w' → Calls Tryz.prog 56 #[.agg #[vp, vt], .int .i64 (t : Int)] w' (Ret (fun r _ => r = .int .i64 0) w')) := fun w' hb hg' => checkTriangle_ok w' vp vt P T k (RdC.below hp hb) (RdC.below ht hb) hm t htl hg'
  have HCP : Hid (∀ w, Good w → _) := fun w hg => cpt_ok p m hps hk0 (by omega) w hg
  have HMC : Hid (∀ w', Below w.heap.size w w' → _) := fun w' hb => mcorners_any w' vp vt P T k (RdC.below hp hb) (RdC.below ht hb) hm.toMeshIn t (t : Int) rfl htl tr htr
  generalize ptI P tr.1 = c0 at *
  generalize ptI P tr.2.1 = c1 at *
  generalize ptI P tr.2.2 = c2 at *
  have z0' : SzP m c0 := ⟨z0.1.mono hkm, z0.2.mono hkm⟩
  have z1' : SzP m c1 := ⟨z1.1.mono hkm, z1.2.mono hkm⟩
  have z2' : SzP m c2 := ⟨z2.1.mono hkm, z2.2.mono hkm⟩
  obtain ⟨A, hA⟩ : ∃ A, A = areaQ c0 c1 c2 := ⟨_, rfl⟩
  have zA : Sz (8 * m + 5) A := by rw [hA]; exact areaQ_Sz z0' z1' z2'
  have hA0 : A ≠ 0 := by rw [hA]; intro e; rw [e] at hpos; exact absurd hpos (Rat.lt_irrefl)
  have HAA : Hid (∀ w, Good w → Calls Tryz.prog 50 #[VP c0, VP c1, VP c2] w (Ret (fun r _ => r = .string (RS A)) w)) := fun w hg => by rw [hA]; exact area_any c0 c1 c2 m hk0 (by omega) z0' z1' z2' w hg
  obtain ⟨s0, hs0⟩ : ∃ s, s = RS (shareQ c0 c1 c2 p 0) := ⟨_, rfl⟩
  obtain ⟨s1, hs1⟩ : ∃ s, s = RS (shareQ c0 c1 c2 p 1) := ⟨_, rfl⟩
  obtain ⟨s2, hs2⟩ : ∃ s, s = RS (shareQ c0 c1 c2 p 2) := ⟨_, rfl⟩
  rw [← hs0, ← hs1, ← hs2]
  unfold VP at HAA
  have HCO : Hid (∀ i : Nat, i < 3 → ∃ (q r : PtQ) (jc kc : Nat), jc < 3 ∧ kc < 3 ∧ ((i : Int) + 1) % 3 = (jc : Int) ∧ ((i : Int) + 2) % 3 = (kc : Int) ∧ SzP m q ∧ SzP m r ∧
      shareL s0 s1 s2 (i + 1) = (shareL s0 s1 s2 i).set i (.string (RS (areaQ p q r / A))) ∧
      ∀ (w' : World) (b t : Nat), BoxN w' b t [.string (RS c0.1), .string (RS c0.2), .string (RS c1.1), .string (RS c1.2), .string (RS c2.1), .string (RS c2.2)] →
        w'.cell? ⟨b, jc * 2, none⟩ = some (.string (RS q.1)) ∧ w'.cell? ⟨b, jc * 2 + 1, none⟩ = some (.string (RS q.2)) ∧ w'.cell? ⟨b, kc * 2, none⟩ = some (.string (RS r.1)) ∧ w'.cell? ⟨b, kc * 2 + 1, none⟩ = some (.string (RS r.2))) := fun i hi => by
    rcases (by omega : i = 0 ∨ i = 1 ∨ i = 2) with rfl | rfl | rfl
    · exact ⟨c1, c2, 1, 2, by omega, by omega, by decide, by decide, z1', z2', by rw [hA, hs0]; rfl, fun w' b t h => ⟨h.cell 2 rfl, h.cell 3 rfl, h.cell 4 rfl, h.cell 5 rfl⟩⟩
    · exact ⟨c2, c0, 2, 0, by omega, by omega, by decide, by decide, z2', z0', by rw [hA, hs1]; rfl, fun w' b t h => ⟨h.cell 4 rfl, h.cell 5 rfl, h.cell 0 rfl, h.cell 1 rfl⟩⟩
    · exact ⟨c0, c1, 0, 1, by omega, by omega, by decide, by decide, z0', z1', by rw [hA, hs2]; rfl, fun w' b t h => ⟨h.cell 0 rfl, h.cell 1 rfl, h.cell 2 rfl, h.cell 3 rfl⟩⟩
  obtain ⟨pp, cp, rfl, -, -, -⟩ := hp.open
  obtain ⟨pt, ct, rfl, -, -, -⟩ := ht.open
  rw [strP_length] at *
  have HPS := Lib.hid hps
  have HZA := Lib.hid zA
  have HA0 := Lib.hid hA0
  clear hp ht hm htr hmem z0 z1 z2 hpos z0' z1' z2' hA hs0 hs1 hs2 hps zA hA0 htl
  go_enter Tryz.func43, Tryz.ntmps43
  go_wp2_with fail
  obtain ⟨W, hW⟩ : ∃ W, W = ((w.alloc (.cells #[.slice pp P.length cp, .slice pt T.length ct] 30)).alloc (.cells #[.string (RS p.1), .string (RS p.2)] 59)).alloc (.cells #[.string ⟨#[]⟩, .string ⟨#[]⟩, .string ⟨#[]⟩] 97) := ⟨_, rfl⟩
  have hB : Below w.heap.size w W := by rw [hW]; exact (((Below.refl _ _).alloc (Nat.le_refl _) _).alloc (by simp) _).alloc (by simp; omega) _
  have b6 : BoxN W (w.heap.size + 2) 97 [.string ⟨#[]⟩, .string ⟨#[]⟩, .string ⟨#[]⟩] := by rw [hW]; exact BoxN.new _ _ _ _ (by simp)
  have b5 : BoxN W (w.heap.size + 1) 59 [.string (RS p.1), .string (RS p.2)] := by
    rw [hW]
    have h1 := (BoxN.new (w.alloc (.cells #[.slice pp P.length cp, .slice pt T.length ct] 30)) #[.string (RS p.1), .string (RS p.2)] 59 (w.heap.size + 1) (by simp))
    exact h1.below ((Below.refl _ _).alloc (Nat.le_refl _) _) h1.lt
  have b3 : BoxN W w.heap.size 30 [.slice pp P.length cp, .slice pt T.length ct] := by
    rw [hW]
    have h1 := (BoxN.new w #[.slice pp P.length cp, .slice pt T.length ct] 30 _ rfl)
    exact (h1.below ((Below.refl _ _).alloc (Nat.le_refl _) _) h1.lt).below ((Below.refl _ _).alloc (Nat.le_refl _) _) (by simp; omega)
  rw [← hW]
  clear hW
  refine (HCT.out W hB (hg.below hB)).mono ?_
  rintro e w1 ⟨_, rfl, rfl, hb1⟩
  have hB1 := hB.trans (hb1.mono hB.size)
  have b61 := b6.below hb1 b6.lt
  have b51 := b5.below hb1 b5.lt
  have b31 := b3.below hb1 b3.lt
  clear hb1 hB b6 b5 b3
  have x0 := b51.cell 0 rfl
  have x1 := b51.cell 1 rfl
  go_wp2_with fail
  refine (HCP.out w1 (hg.below hB1)).mono ?_
  rintro e w2 ⟨_, rfl, rfl, hb2⟩
  have hB2 := hB1.trans (hb2.mono hB1.size)
  have b62 := b61.below hb2 b61.lt
  have b52 := b51.below hb2 b51.lt
  have b32 := b31.below hb2 b31.lt
  clear hb2 hB1 b61 b51 b31 x0 x1
  have x0 := b32.cell 0 rfl
  have x1 := b32.cell 1 rfl
  go_wp2_with fail
  refine (HMC.out w2 hB2).mono ?_
  rintro e w3 ⟨_, rfl, rfl, hb3⟩
  have hB3 := hB2.trans (hb3.mono hB2.size)
  have b63 := b62.below hb3 b62.lt
  have b53 := b52.below hb3 b52.lt
  clear hb3 hB2 b62 b52 b32 x0 x1
  go_wp2_with fail
  obtain ⟨W4, hW4⟩ : ∃ W, W = (w3.alloc (.cells #[.string (RS c0.1), .string (RS c0.2), .string (RS c1.1), .string (RS c1.2), .string (RS c2.1), .string (RS c2.2)] 109)).alloc (.cells #[.string ⟨#[]⟩, .string ⟨#[]⟩, .string ⟨#[]⟩] 97) := ⟨_, rfl⟩
  have hb4 : Below w3.heap.size w3 W4 := by rw [hW4]; exact ((Below.refl _ _).alloc (Nat.le_refl _) _).alloc (by simp) _
  have ob : BoxN W4 (w3.heap.size + 1) 97 (shareL s0 s1 s2 0) := by rw [hW4]; exact BoxN.new _ _ _ _ (by simp)
  have cb : BoxN W4 w3.heap.size 109 [.string (RS c0.1), .string (RS c0.2), .string (RS c1.1), .string (RS c1.2), .string (RS c2.1), .string (RS c2.2)] := by
    rw [hW4]
    have h1 := (BoxN.new w3 #[.string (RS c0.1), .string (RS c0.2), .string (RS c1.1), .string (RS c1.2), .string (RS c2.1), .string (RS c2.2)] 109 _ rfl)
    exact h1.below ((Below.refl _ _).alloc (Nat.le_refl _) _) h1.lt
  rw [← hW4]
  clear hW4
  have hB4 := hB3.trans (hb4.mono hB3.size)
  have B6 := Lib.hid (b63.below hb4 b63.lt)
  have B5 := Lib.hid (b53.below hb4 b53.lt)
  have CB := Lib.hid cb
  have hM3 : w.heap.size + 2 < w3.heap.size := b63.lt
  clear hb4 hB3 b63 b53 cb
  go_loopw [28] (fun t28 wr => ∃ i : Nat, t28 = .int .i64 i ∧ i ≤ 3 ∧ BoxN wr (w3.heap.size + 1) 97 (shareL s0 s1 s2 i) ∧ W4.grownBy wr (some (w3.heap.size + 1))) (fun t28 _ => 3 - (RowKit.intOf t28).toNat)
  case atStart => exact ⟨0, rfl, by omega, ob, gb_refl _ _⟩
  case round =>
    clear ob
    obtain ⟨i, rfl, hi3, obr, hgb⟩ := hrel
    have hbr : Below w.heap.size w wr := below_gb hB4 hgb (by omega)
    have b5r := B5.out.gb hgb (by intro e; injection e with e; omega)
    have cbr := CB.out.gb hgb (by intro e; injection e with e; omega)
    rcases Nat.lt_or_ge i 3 with h | h
    · obtain ⟨q, r, jc, kc, hj3, hk3, hjc, hkc, zq, zr, hsl, hcells⟩ := HCO.out i h
      have HSL := Lib.hid hsl
      have hps := HPS.out
      have zap := areaQ_Sz hps zq zr
      have HA1 : Hid (∀ w, Good w → _) := fun w hg => area_any p q r m hk0 (by omega) hps zq zr w hg
      have HDV : Hid (∀ w, Good w → _) := fun w hg => ratDiv_any (areaQ p q r) A (8 * m + 5) (by omega) (by omega) zap HZA.out HA0.out w hg
      have HRT : Hid (∀ w, Good w → _) := fun w hg => mright_ok (areaQ p q r / A) ((zap.div HZA.out (by omega)).mono (by omega)) w hg
      unfold VP at HA1
      generalize RS (areaQ p q r / A) = sv at *
      generalize RS (areaQ p q r) = sa at *
      obtain ⟨y0, y1, y2, y3⟩ := hcells wr w3.heap.size _ cbr
      have hiz : (i : Int) < 3 := by omega
      have hjz : (jc : Int) < 3 := by omega
      have hkz : (kc : Int) < 3 := by omega
      have hjt : ((i : Int) + 1).tmod 3 = (jc : Int) := by rw [Int.tmod_eq_emod_of_nonneg (by omega)]; exact hjc
      have hkt : ((i : Int) + 2).tmod 3 = (kc : Int) := by rw [Int.tmod_eq_emod_of_nonneg (by omega)]; exact hkc
      have hw1 : IntKind.i64.wrap ((i : Int) + 1) = (i : Int) + 1 := IntWalk.i64_in _ (by omega)
      have hw2 : IntKind.i64.wrap ((i : Int) + 2) = (i : Int) + 2 := IntWalk.i64_in _ (by omega)
      have hw3 : (0 : Int) ≤ (i : Int) + 1 := by omega
      have hw4 : (0 : Int) ≤ (i : Int) + 2 := by omega
      have hw5 : IntKind.i64.wrap (jc : Int) = (jc : Int) := IntWalk.i64_in _ (by omega)
      have hw6 : IntKind.i64.wrap (kc : Int) = (kc : Int) := IntWalk.i64_in _ (by omega)
      obtain ⟨vo, hvo⟩ : ∃ vo, (shareL s0 s1 s2 i)[i]? = some vo := ⟨_, List.getElem?_eq_getElem (by rw [shareL_len]; exact h)⟩
      have OBR := Lib.hid obr
      have HVO := Lib.hid hvo
      clear hps hsl zq zr zap hcells HCO HZA HA0 HPS hvo
      go_upto_region 11 with fail
      have HS : Hid (∀ w', Below wr.heap.size wr w' → w'.cell? ⟨w.heap.size + 1, 0, none⟩ = some (.string (RS p.1)) ∧ w'.cell? ⟨w.heap.size + 1, 1, none⟩ = some (.string (RS p.2)) ∧ w'.cell? ⟨w3.heap.size, jc * 2, none⟩ = some (.string (RS q.1)) ∧ w'.cell? ⟨w3.heap.size, jc * 2 + 1, none⟩ = some (.string (RS q.2)) ∧ w'.cell? ⟨w3.heap.size, kc * 2, none⟩ = some (.string (RS r.1)) ∧ w'.cell? ⟨w3.heap.size, kc * 2 + 1, none⟩ = some (.string (RS r.2)) ∧
          w'.cell? ⟨w3.heap.size, 0, none⟩ = some (.string (RS c0.1)) ∧ w'.cell? ⟨w3.heap.size, 1, none⟩ = some (.string (RS c0.2)) ∧ w'.cell? ⟨w3.heap.size, 2, none⟩ = some (.string (RS c1.1)) ∧ w'.cell? ⟨w3.heap.size, 3, none⟩ = some (.string (RS c1.2)) ∧ w'.cell? ⟨w3.heap.size, 4, none⟩ = some (.string (RS c2.1)) ∧ w'.cell? ⟨w3.heap.size, 5, none⟩ = some (.string (RS c2.2))) := fun w' hb => by
        have hl := cbr.lt
        have d1 := b5r.below hb b5r.lt
        have d2 := cbr.below hb hl
        exact ⟨d1.cell 0 rfl, d1.cell 1 rfl, (hb.cell (p := ⟨w3.heap.size, jc * 2, none⟩) hl).trans y0, (hb.cell (p := ⟨w3.heap.size, jc * 2 + 1, none⟩) hl).trans y1, (hb.cell (p := ⟨w3.heap.size, kc * 2, none⟩) hl).trans y2, (hb.cell (p := ⟨w3.heap.size, kc * 2 + 1, none⟩) hl).trans y3, d2.cell 0 rfl, d2.cell 1 rfl, d2.cell 2 rfl, d2.cell 3 rfl, d2.cell 4 rfl, d2.cell 5 rfl⟩
      have HSS : Hid (∀ w' v, Below wr.heap.size wr w' → (w'.setCell ⟨w3.heap.size + 1, i, none⟩ v).cell? ⟨w.heap.size + 1, 0, none⟩ = some (.string (RS p.1)) ∧ (w'.setCell ⟨w3.heap.size + 1, i, none⟩ v).cell? ⟨w.heap.size + 1, 1, none⟩ = some (.string (RS p.2)) ∧ (w'.setCell ⟨w3.heap.size + 1, i, none⟩ v).cell? ⟨w3.heap.size, jc * 2, none⟩ = some (.string (RS q.1)) ∧ (w'.setCell ⟨w3.heap.size + 1, i, none⟩ v).cell? ⟨w3.heap.size, jc * 2 + 1, none⟩ = some (.string (RS q.2)) ∧ (w'.setCell ⟨w3.heap.size + 1, i, none⟩ v).cell? ⟨w3.heap.size, kc * 2, none⟩ = some (.string (RS r.1)) ∧ (w'.setCell ⟨w3.heap.size + 1, i, none⟩ v).cell? ⟨w3.heap.size, kc * 2 + 1, none⟩ = some (.string (RS r.2)) ∧
          (w'.setCell ⟨w3.heap.size + 1, i, none⟩ v).cell? ⟨w3.heap.size, 0, none⟩ = some (.string (RS c0.1)) ∧ (w'.setCell ⟨w3.heap.size + 1, i, none⟩ v).cell? ⟨w3.heap.size, 1, none⟩ = some (.string (RS c0.2)) ∧ (w'.setCell ⟨w3.heap.size + 1, i, none⟩ v).cell? ⟨w3.heap.size, 2, none⟩ = some (.string (RS c1.1)) ∧ (w'.setCell ⟨w3.heap.size + 1, i, none⟩ v).cell? ⟨w3.heap.size, 3, none⟩ = some (.string (RS c1.2)) ∧ (w'.setCell ⟨w3.heap.size + 1, i, none⟩ v).cell? ⟨w3.heap.size, 4, none⟩ = some (.string (RS c2.1)) ∧ (w'.setCell ⟨w3.heap.size + 1, i, none⟩ v).cell? ⟨w3.heap.size, 5, none⟩ = some (.string (RS c2.2))) := fun w' v hb => by
        obtain ⟨a1, a2, a3, a4, a5, a6, a7, a8, a9, a10, a11, a12⟩ := HS.out w' hb
        have n1 : w3.heap.size + 1 ≠ w.heap.size + 1 := by omega
        have n2 : w3.heap.size + 1 ≠ w3.heap.size := by omega
        exact ⟨(World.cell?_setCell_far _ _ _ _ n1).trans a1, (World.cell?_setCell_far _ _ _ _ n1).trans a2, (World.cell?_setCell_far _ _ _ _ n2).trans a3, (World.cell?_setCell_far _ _ _ _ n2).trans a4, (World.cell?_setCell_far _ _ _ _ n2).trans a5, (World.cell?_setCell_far _ _ _ _ n2).trans a6, (World.cell?_setCell_far _ _ _ _ n2).trans a7, (World.cell?_setCell_far _ _ _ _ n2).trans a8, (World.cell?_setCell_far _ _ _ _ n2).trans a9, (World.cell?_setCell_far _ _ _ _ n2).trans a10, (World.cell?_setCell_far _ _ _ _ n2).trans a11, (World.cell?_setCell_far _ _ _ _ n2).trans a12⟩
      have HGD : Hid (∀ w', Below wr.heap.size wr w' → Good w') := fun w' hb => (hg.below hbr).below hb
      have HTR : Hid (∀ w' w'', Below wr.heap.size wr w' → Below w'.heap.size w' w'' → Below wr.heap.size wr w'') := fun w' w'' h1 h2 => h1.trans (h2.mono h1.size)
      have b0 : Below wr.heap.size wr wr.drew := below_drewN wr 1
      have g0 := HGD.out _ b0
      have HGB := Lib.hid hgb
      have HBW := Lib.hid hB4
      have hol := obr.lt
      clear y0 y1 y2 y3 obr b5r cbr hgb hbr hB4
      go_region_held3 (fun w' => w'.cell? ⟨w.heap.size + 1, 0, none⟩ = some (.string (RS p.1)) ∧ w'.cell? ⟨w.heap.size + 1, 1, none⟩ = some (.string (RS p.2)) ∧ w'.cell? ⟨w3.heap.size, jc * 2, none⟩ = some (.string (RS q.1)) ∧ w'.cell? ⟨w3.heap.size, jc * 2 + 1, none⟩ = some (.string (RS q.2)) ∧ w'.cell? ⟨w3.heap.size, kc * 2, none⟩ = some (.string (RS r.1)) ∧ w'.cell? ⟨w3.heap.size, kc * 2 + 1, none⟩ = some (.string (RS r.2)) ∧
          w'.cell? ⟨w3.heap.size, 0, none⟩ = some (.string (RS c0.1)) ∧ w'.cell? ⟨w3.heap.size, 1, none⟩ = some (.string (RS c0.2)) ∧ w'.cell? ⟨w3.heap.size, 2, none⟩ = some (.string (RS c1.1)) ∧ w'.cell? ⟨w3.heap.size, 3, none⟩ = some (.string (RS c1.2)) ∧ w'.cell? ⟨w3.heap.size, 4, none⟩ = some (.string (RS c2.1)) ∧ w'.cell? ⟨w3.heap.size, 5, none⟩ = some (.string (RS c2.2)))
        ((first | (refine HS.out _ ?_; with_reducible assumption) | (refine HSS.out _ _ ?_; with_reducible assumption)))
        (first
          | (go_at_call 104; (with_reducible refine (HDV.out _ g5).mono ?_); rintro e v6 ⟨_, rfl, rfl, hb6⟩
             have h6 : Below wr.heap.size wr v6 := HTR.out _ _ h5 hb6
             have bz6 := OBR.out.below h6 hol
             have o0 := bz6.cell i HVO.out
             have o1 := bz6.frozen i)
          | (go_at_call 50; (with_reducible refine (HAA.out _ g4).mono ?_); rintro e v5 ⟨_, rfl, rfl, hb5⟩
             have h5 : Below wr.heap.size wr v5 := HTR.out _ _ h4 hb5
             have g5 := HGD.out _ h5)
          | (go_at_call 50; (with_reducible refine (HA1.out _ g0).mono ?_); rintro e v4 ⟨_, rfl, rfl, hb4⟩
             have h4 : Below wr.heap.size wr v4 := HTR.out _ _ b0 hb4
             have g4 := HGD.out _ h4))
      all_goals
        have bz7 : BoxN (v6.setCell ⟨w3.heap.size + 1, i, none⟩ (.string sv)) (w3.heap.size + 1) 97 (shareL s0 s1 s2 (i + 1)) := by rw [HSL.out]; exact bz6.set i _
        have hgb7 : W4.grownBy (v6.setCell ⟨w3.heap.size + 1, i, none⟩ (.string sv)) (some (w3.heap.size + 1)) := gb_set (gb_below HGB.out h6) i _
        have hB7 : Below w.heap.size w (v6.setCell ⟨w3.heap.size + 1, i, none⟩ (.string sv)) := below_gb HBW.out hgb7 (by omega)
        obtain ⟨w7, hw7⟩ : ∃ w7, w7 = v6.setCell ⟨w3.heap.size + 1, i, none⟩ (.string sv) := ⟨_, rfl⟩
        have o7 : w7.cell? ⟨w3.heap.size + 1, i, none⟩ = some (.string sv) := by rw [hw7]; exact World.cell?_setCell_same _ _ _ o0
        rw [← hw7] at bz7 hgb7 hB7 ⊢
        clear hw7 o0 o1 bz6
        go_wp2_with fail
        refine (HRT.out w7 (hg.below hB7)).mono ?_
        rintro e w8 ⟨_, rfl, rfl, hb8⟩
        have bz8 := bz7.below hb8 bz7.lt
        have hgb8 := gb_below hgb7 hb8
        go_wp2_with fail
        go_roundw
        case rel => exact ⟨i + 1, by go_num, by omega, bz8, hgb8⟩
        case measure =>
          show 3 - ((i : Int) + 1).toNat < 3 - (i : Int).toNat
          omega
    · have HJ : Hid (i = 3) := by unfold Hid; omega
      have hige : (3 : Int) ≤ (i : Int) := by omega
      have b6r := B6.out.gb hgb (by intro e; injection e with e; omega)
      have ob3 : BoxN wr (w3.heap.size + 1) 97 [.string s0, .string s1, .string s2] := by rw [← shareL_all, ← HJ.out]; exact obr
      have o0 := ob3.cell 0 rfl
      have o1 := ob3.cell 1 rfl
      have o2 := ob3.cell 2 rfl
      have d0 := b6r.cell 0 rfl
      have d1 := b6r.cell 1 rfl
      have d2 := b6r.cell 2 rfl
      have f0 := b6r.frozen 0
      have f1 := b6r.frozen 1
      have f2 := b6r.frozen 2
      clear HCO obr hgb b5r cbr ob3 HAA HCT HCP HMC
      go_wp2_with fail
      have BF := ((b6r.set 0 (.string s0)).set 1 (.string s1)).set 2 (.string s2)
      have hle : w.heap.size ≤ w.heap.size + 2 := by omega
      have hBF := ((hbr.setCell (p := ⟨w.heap.size + 2, 0, none⟩) hle (.string s0)).setCell (p := ⟨w.heap.size + 2, 1, none⟩) hle (.string s1)).setCell (p := ⟨w.heap.size + 2, 2, none⟩) hle (.string s2)
      have g0 := BF.cell 0 rfl
      have g1 := BF.cell 1 rfl
      have g2 := BF.cell 2 rfl
      exact bodyPost_ret (v := .tuple #[.agg #[.string s0, .string s1, .string s2], .int .i64 0]) (by simp [results, Tryz.results43, go_sem, g0, g1, g2]) rfl ⟨_, rfl, rfl, hBF⟩

end Go.Proofs.YtdhcliekejiegaaGreatDoor
