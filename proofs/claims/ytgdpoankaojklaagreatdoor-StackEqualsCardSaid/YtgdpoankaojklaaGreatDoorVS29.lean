import Derived.Test.YtgdpoankaojklaaGreatDoorVS21
/- slices.Index and slices.Contains at texts The walks over field.Scale, field.Below. The walk over mesh.Check, of any mesh of right points and triangles. Errors of meshes and fields, handed on The error of a pair of surfaces, handed on by all functions. stack.surface stack.Check of any texts. slices.Equal at texts and at fields slices.EqualFunc at fields klippelaw28.Make. -/
set_option maxHeartbeats 4000000
set_option maxRecDepth 100000
namespace Go.Proofs.YtgdpoankaojklaaGreatDoor
open Go.RowKit Go.Lib
theorem ba_inj {a b : ByteArray} (h : a.toList = b.toList) : a = b := by
 rw [ba_toList, ba_toList] at h;cases a; cases b;simpa using h
theorem ba_same (a b : ByteArray) : (a = b /\ (a.toList == b.toList) = true) \/ (a ≠ b /\ (a.toList == b.toList) = false /\ ¬ a.toList = b.toList) := by
 by_cases h : a = b
 ·exact .inl ⟨h, by rw [h]; simp⟩
 ·have h2 : ¬ a.toList = b.toList := fun e => h (ba_inj e)
  exact .inr ⟨h, by simpa using h2, h2⟩
def idxS (l : List ByteArray) (p : ByteArray) : Int := match l.findIdx? (fun q => decide (q = p)) with | some i => (i : Int) | none => -1
theorem idxS_at {l : List ByteArray} {p : ByteArray} {i : Nat} (hi : i < l.length) (hp : l[i] = p) (hb : ∀ j (h : j < i), l[j] ≠ p) : idxS l p = (i : Int) := by
 unfold idxS;have : l.findIdx? (fun q => decide (q = p)) = some i := by
  rw [List.findIdx?_eq_some_iff_getElem];exact ⟨hi, by simp [hp], fun j h => by simpa using hb j h⟩
 rw [this]
theorem idxS_none {l : List ByteArray} {p : ByteArray} (hb : ∀ j (h : j < l.length), l[j] ≠ p) : idxS l p = -1 := by
 unfold idxS;have : l.findIdx? (fun q => decide (q = p)) = none := by
  rw [List.findIdx?_eq_none_iff];intro x hx;obtain ⟨j, hj, rfl⟩ := List.getElem_of_mem hx;simpa using hb j hj
 rw [this]
def hasS (l : List ByteArray) (p : ByteArray) : Bool := decide (0 <= idxS l p)
theorem indexS_any (v : Value) (l : List ByteArray) (p : ByteArray) (w : World) (h : RdS w v l) :
 Calls Tryz.prog 86 #[v, .string p] w (Ret (fun r _ => r = .int .i64 (idxS l p)) w) := by
 obtain ⟨p1, c1, rfl, hlc, hm1, hr1⟩ := h.open;unfold maxLen at hm1;have H1 := hid hr1;obtain ⟨res, hres⟩ : ∃ r, r = idxS l p := ⟨_, rfl⟩;rw [<- hres];have HR := hid hres;clear hr1 h hres;go_enter Tryz.func86, Tryz.ntmps86;go_wp2_with fail;go_loopw [8] (fun t8 wr => ∃ i : Nat, t8 = .int .i64 i /\ i <= l.length /\ Hid (∀ j (h : j < i) (h2 : j < l.length), l[j] ≠ p) /\ Below w.heap.size w wr) (fun t8 _ => l.length - (RowKit.intOf t8).toNat)
 case atStart => exact ⟨0, rfl, Nat.zero_le _, fun j h => absurd h (by omega), Below.refl _ _⟩
 case round =>
  obtain ⟨i, rfl, hi, HN, hbl⟩ := hrel;rcases Nat.lt_or_ge i l.length with h | h
  ·obtain ⟨b1, o1, rfl, hb1, hc1⟩ := H1.out (List.ne_nil_of_length_pos (by omega))
   have x1 := zcq hbl hb1 (hc1 i h);have HQ := hid (ba_same p l[i]);have HLI : Hid (l[i] ≠ p -> ∀ j (h : j < i + 1) (h2 : j < l.length), l[j] ≠ p) := fun hne j hj h2 => by
    rcases Nat.lt_or_ge j i with h3 | h3
    ·exact HN.out j h3 h2
    ·obtain rfl : j = i := by omega
     exact hne
   have HRI : Hid (l[i] = p -> (i : Int) = res) := fun he => by rw [HR.out]; exact (idxS_at h he (fun j hj => HN.out j hj (by omega))).symm
   generalize l[i] = q at *;have hin : (i : Int) < (l.length : Int) := by omega
   clear hc1;rcases HQ.out with ⟨e, e1⟩ | ⟨e, e1, e2⟩
   ·have HE := hid (HRI.out e.symm)
    clear e;go_wp2_with fail;go_ret;exact ⟨_, rfl, congrArg (Value.int .i64) HE.out, hbl⟩
   ·have HE := hid (HLI.out (fun h => e h.symm))
    clear e;go_wp2_with fail;go_roundw
    case rel => exact ⟨i + 1, by go_num, by omega, HE, hbl⟩
    case measure => simp [RowKit.intOf]; omega
  ·obtain rfl : i = l.length := by omega
   have HE : Hid (-1 = res) := by unfold Hid; rw [HR.out]; exact (idxS_none (fun j hj => HN.out j hj hj)).symm
   go_wp2_with fail;go_ret;exact ⟨_, rfl, congrArg (Value.int .i64) HE.out, hbl⟩
theorem containsS_any (v : Value) (l : List ByteArray) (p : ByteArray) (w : World) (h : RdS w v l) :
 Calls Tryz.prog 58 #[v, .string p] w (Ret (fun r _ => r = .bool (hasS l p)) w) := by
 have HI := hid (indexS_any v l p w h);unfold hasS;generalize idxS l p = z at *;clear h;go_enter Tryz.func58, Tryz.ntmps58;go_wp2_with fail;refine HI.out.mono ?_;rintro e w1 ⟨_, rfl, rfl, hb1⟩;go_wp2_with fail;go_ret;exact ⟨_, rfl, rfl, hb1⟩
def belowB (F G : List Rat) : Bool := (List.zipWith (fun a b => decide (a <= b)) F G).all id
theorem belowB_iff (F G : List Rat) (h : F.length = G.length) : belowB F G = true ↔ ∀ i (h1 : i < F.length) (h2 : i < G.length), F[i] <= G[i] := by
 unfold belowB;rw [List.all_eq_true];constructor
 ·intro H i h1 h2
  have := H (decide (F[i] <= G[i])) (List.mem_iff_getElem?.2 ⟨i, by rw [List.getElem?_zipWith]; simp [h1, h2]⟩);simpa using this
 ·intro H x hx
  obtain ⟨i, hi, rfl⟩ := List.getElem_of_mem hx;rw [List.length_zipWith] at hi;rw [List.getElem_zipWith];simpa using H i (by omega) (by omega)
theorem fbelow_ok (w : World) (vp vt vf vg : Value) (P : List PtQ) (T : List Tri) (k : Nat) (F G : List Rat) (h : FieldIn w vp vt vf P T k F) (h2 : FieldIn w vp vt vg P T k G) (hg : Good w) :
 Calls Tryz.prog 94 #[.agg #[vp, vt], vf, vg] w (Ret (fun r _ => r = .tuple #[.bool (belowB F G), .int .i64 0]) w) := by
 have HF := hid h;have HG := hid h2;have hfl := h.fl;have hgl := h2.fl;have hpl := h.m.plen;have HBI := hid (belowB_iff F G (by omega));obtain ⟨n, hn⟩ : ∃ n, n = F.length := ⟨_, rfl⟩;have HFR : Hid (∀ i, i < n -> ∃ (bf of cf : Nat) (x : Rat), vf = .slice (some ⟨bf, of, none⟩) n cf /\ bf < w.heap.size /\ w.cell? ⟨bf, of + i, none⟩ = some (.string (RS x)) /\ F[i]? = some x /\ Sz k x) := fun i hi => by
  obtain ⟨pf, cf, rfl, -, -, hr⟩ := h.f.open;obtain ⟨b, off, rfl, hb, hc⟩ := hr (List.ne_nil_of_length_pos (by omega));exact ⟨b, off, cf, F[i]'(by omega), by rw [hn], hb, hc i (by omega), List.getElem?_eq_getElem _, h.fs _ (List.getElem_mem _)⟩
 have HGR : Hid (∀ i, i < n -> ∃ (bf of cf : Nat) (x : Rat), vg = .slice (some ⟨bf, of, none⟩) n cf /\ bf < w.heap.size /\ w.cell? ⟨bf, of + i, none⟩ = some (.string (RS x)) /\ G[i]? = some x /\ Sz k x) := fun i hi => by
  obtain ⟨pf, cf, rfl, -, -, hr⟩ := h2.f.open;obtain ⟨b, off, rfl, hb, hc⟩ := hr (List.ne_nil_of_length_pos (by omega));exact ⟨b, off, cf, G[i]'(by omega), by rw [hn, hfl, hgl], hb, hc i (by omega), List.getElem?_eq_getElem _, h2.fs _ (List.getElem_mem _)⟩
 obtain ⟨pp, cp, pt, ct, pf, cf, rfl, rfl, rfl⟩ := h.open;obtain ⟨_, _, _, _, pg, cg, -, -, rfl⟩ := h2.open;have hGn : G.length = n := by omega
 rw [<- hn] at HF ⊢;rw [hGn] at HG ⊢;have HNF := hid hn;have HNG := hid hGn;have hpn : n <= 400 := by omega
 clear h h2 hn hGn hfl hgl;go_enter Tryz.func94, Tryz.ntmps94;go_wp2_with fail;obtain ⟨W, hW⟩ : ∃ W, W = (w.alloc (.cells #[.slice pp P.length cp, .slice pt T.length ct] 37)).alloc (.cells #[.slice pf n cf, .slice pg n cg] 39) := ⟨_, rfl⟩;have hB : Below w.heap.size w W := by rw [hW]; exact zal2 _ _ _
 have b2 : BoxN W (w.heap.size + 1) 39 [.slice pf n cf, .slice pg n cg] := by rw [hW]; exact BoxN.new _ _ _ _ (by simp)
 rw [<- hW];clear hW;refine (checks_two W _ _ _ _ P T k F G (HF.out.below hB) (HG.out.below hB) (w.heap.size + 1) (b2.cell 0 rfl) (b2.cell 1 rfl) (hg.below hB)).mono ?_;rintro e w1 ⟨_, rfl, rfl, hb1⟩;have hB1 := hB.trans (hb1.mono hB.size);have hk0 := HF.out.m.kpos;have hk1 := HF.out.m.klim2;clear hb1 b2 hB HF HG;go_wp2_with fail;go_loopw [21] (fun t21 wr => ∃ i : Nat, t21 = .int .i64 i /\ i <= n /\ Hid (∀ j x y, j < i -> F[j]? = some x -> G[j]? = some y -> x <= y) /\ Below w1.heap.size w1 wr) (fun t21 _ => n - (RowKit.intOf t21).toNat)
 case atStart => exact ⟨0, rfl, Nat.zero_le _, (fun j x y h => by omega), Below.refl _ _⟩
 case round =>
  obtain ⟨i, rfl, hi, HJ, hbr⟩ := hrel;have hBr := hB1.trans (hbr.mono hB1.size);rcases Nat.lt_or_ge i n with hlt | hlt
  ·obtain ⟨bf, of, cf', x, e1, hbf, x0, hx, zx⟩ := HFR.out i hlt
   obtain ⟨bg, og, cg', y, e2, hbg, y0, hy, zy⟩ := HGR.out i hlt;injection e1 with e11 e12 e13
   clear e12;injection e2 with e21 e22 e23
   clear e22;subst e11 e13 e21 e23;have c0 := zcq hBr hbf x0;have c1 := zcq hBr hbg y0;have HCMP := hid fun w hg => ratCompare_any x y k hk0 (by omega) zx zy w hg
   have hiz : (i : Int) < (n : Int) := by omega
   have hgr := hg.below hBr;by_cases hxy : x <= y
   ·have hc : ¬ (0 < cmpQ x y) := by
     unfold cmpQ;rcases (by grind : x < y \/ x = y) with h1 | h1
     ·rw [if_pos h1]; decide
     ·rw [if_neg (by rw [h1]; exact Rat.lt_irrefl), if_neg (by rw [h1]; exact Rat.lt_irrefl)]; decide
    have hcd : decide (0 < cmpQ x y) = false := decide_eq_false hc;have HJN : Hid (∀ j x y, j < i + 1 -> F[j]? = some x -> G[j]? = some y -> x <= y) := fun j a b hj ha hb => by
     rcases (by omega : j = i \/ j < i) with rfl | h1
     ·rw [hx] at ha; rw [hy] at hb; cases ha; cases hb; exact hxy
     ·exact HJ.out j a b h1 ha hb
    generalize cmpQ x y = cz at *;clear hx hy zx zy x0 y0 hxy hc;go_wp2_with fail;refine (HCMP.out wr hgr).mono ?_;rintro e w2 ⟨_, rfl, rfl, hb2⟩;have hbr2 := hbr.trans (hb2.mono hbr.size);go_wp2_with fail;go_roundw
    case rel => exact ⟨i + 1, by go_num, hlt, HJN, hbr2⟩
    case measure => simp [RowKit.intOf]; omega
   ·have hc : 0 < cmpQ x y := by
     unfold cmpQ;rw [if_neg (by grind), if_pos (by grind)]; decide
    have hcd : decide (0 < cmpQ x y) = true := decide_eq_true hc;have HBF : Hid (belowB F G = false) := by
     unfold Hid;cases hbb : belowB F G
     ·rfl
     ·obtain ⟨h1, h1'⟩ := List.getElem?_eq_some_iff.1 hx
      obtain ⟨h2, h2'⟩ := List.getElem?_eq_some_iff.1 hy;exact absurd (by rw [<- h1', <- h2']; exact HBI.out.1 hbb i h1 h2) hxy
    generalize cmpQ x y = cz at *;clear hx hy zx zy x0 y0 hxy hc;go_wp2_with fail;refine (HCMP.out wr hgr).mono ?_;rintro e w2 ⟨_, rfl, rfl, hb2⟩;have hB2 := hBr.trans (hb2.mono hBr.size);go_wp2_with fail;go_ret2;exact ⟨_, rfl, congrArg (fun b => Value.tuple #[.bool b, .int .i64 0]) HBF.out.symm, hB2⟩
  ·have HBT : Hid (belowB F G = true) := HBI.out.2 (fun j h1 h2 => HJ.out j _ _ (by have := HNF.out; omega) (List.getElem?_eq_getElem h1) (List.getElem?_eq_getElem h2))
   go_wp2_with fail;go_ret2;exact ⟨_, rfl, congrArg (fun b => Value.tuple #[.bool b, .int .i64 0]) HBT.out.symm, hBr⟩
open Go.Maps
structure MeshPre (P : List PtQ) (T : List Tri) (k : Nat) : Prop extends MeshIn P T k where
 klim2 : k <= 200
 some : T ≠ []
 apart : P.Nodup
 turns : ∀ t ∈ T, 0 < turnZ (P[t.1.toNat]?.getD (0, 0)) (P[t.2.1.toNat]?.getD (0, 0)) (P[t.2.2.toNat]?.getD (0, 0))
theorem MeshPre.ok {P : List PtQ} {T : List Tri} {k : Nat} (h : MeshPre P T k) (hw : wholeB P T = true) : MeshOK P T k :=
 { toMeshIn := h.toMeshIn, klim2 := h.klim2, some := h.some, apart := h.apart, turns := h.turns, whole := hw }
theorem check_empty (w : World) (vp vt : Value) (P : List PtQ) (hp : RdP w vp (strP P)) (ht : RdT w vt []) :
 Calls Tryz.prog 93 #[.agg #[vp, vt]] w (Ret (fun r _ => r = .int .i64 13) w) := by
 obtain ⟨pp, cp, rfl, -, -, -⟩ := hp.open;obtain ⟨pt, ct, rfl, -, -, -⟩ := ht.open;clear hp ht;go_enter Tryz.func93, Tryz.ntmps93;go_wp2_with fail;go_ret;exact ⟨_, rfl, rfl, (Below.refl _ _).alloc (Nat.le_refl _) _⟩
theorem fld_nil (a : Addr) (n c : Nat) (w : World) : (binOp BinOp.eql 39 (.slice (some a) n c) (.slice none 0 0)).run Tryz.prog w = .ok (.bool false) w := by kernel_rfl
theorem clone_any (w : World) (vl : Value) (L : List Rat) (h : RdQ w vl L) (hne : L ≠ []) (hl : L.length <= 1000000) :
 Calls Tryz.prog 64 #[vl] w (Ret (fun r w' => w'.ownsRow w.heap.size 57 1 r L.length (L.map fun q => Value.string (RS q))) w) := by
 obtain ⟨p, c, rfl, hlc, hm, hr⟩ := h.open;obtain ⟨b, off, rfl, hb, hcell⟩ := hr hne;have hl0 := List.length_pos_iff.2 hne;obtain ⟨i0, hi, hz0, hz1, hz2⟩ := info_parts info_str;have HN : Hid (∀ o, ∀ (j : Nat) (u : Value), (L.map fun q => Value.string (RS q))[j]? = some u -> (w.alloc o).cell? ((⟨b, off, none⟩ : Addr).add j) = some u) := fun o j u hu => by
  rw [List.getElem?_map] at hu;rcases Nat.lt_or_ge j L.length with hj | hj
  ·rw [List.getElem?_eq_getElem hj] at hu
   injection hu with hu
   subst hu;have hadd : (⟨b, off, none⟩ : Addr).add j = ⟨b, off + j, none⟩ := by unfold Addr.add; split <;> simp_all
   rw [hadd];exact cell_alloc_l o (hcell j hj)
  ·rw [List.getElem?_eq_none hj] at hu; cases hu
 have HO : Hid (∀ u ∈ (L.map fun q => Value.string (RS q)), u.oneCell' = true) := fun u hu => by
  obtain ⟨q, _, rfl⟩ := List.mem_map.1 hu;rfl
 clear h hr hcell hne;have hnil := fld_nil;go_enter Tryz.func64, Tryz.ntmps64
 go_wp2_with (at_builtin; refine wpList_append_own _ rfl _ _ 39 rfl w.heap.size 57 i0 (.string ⟨#[]⟩) 1 16 Tryz.underlying39 hi hz0 hz1 hz2 rfl (by decide) (.slice (some ⟨w.heap.size, 0, none⟩) 0 0) 0 [] rfl (World.ownsRow_made w #[] 0 (Nat.le_refl _) (by decide) rfl) ⟨b, off, none⟩ L.length c (L.map fun q => Value.string (RS q)) rfl (by simp) (HN.out _) HO.out (by unfold maxLen; omega) (by omega) (by simp) ?_
              intro v7 w7 hown7 hgrow7 _;have hb7 : Below w.heap.size w w7 := ((Below.refl _ _).alloc (Nat.le_refl _) _).grown hgrow7 (by simp) (fun j hj => by simp [Value.ownBlock] at hj; omega);clear hgrow7)
 have HOW : Hid (w7.ownsRow w.heap.size 57 1 v7 L.length (L.map fun q => Value.string (RS q))) := by
  rw [Nat.zero_add, List.nil_append] at hown7;exact hown7
 clear hown7;go_wp2_with fail;go_ret;exact ⟨_, rfl, HOW.out, hb7⟩
structure PairAny (w : World) (vp vt vl vu : Value) (P : List PtQ) (T : List Tri) (l u : List ByteArray) : Prop where
 p : RdP w vp (strP P)
 t : RdT w vt T
 l : RdS w vl l
 u : RdS w vu u
theorem PairAny.below {w w' : World} {vp vt vl vu : Value} {P : List PtQ} {T : List Tri} {l u : List ByteArray} (h : PairAny w vp vt vl vu P T l u) (hb : Below w.heap.size w w') : PairAny w' vp vt vl vu P T l u :=
 ⟨RdC.below h.p hb, RdC.below h.t hb, RdC.below h.l hb, RdC.below h.u hb⟩
theorem PairAny.open {w : World} {vp vt vl vu : Value} {P : List PtQ} {T : List Tri} {l u : List ByteArray} (h : PairAny w vp vt vl vu P T l u) : ∃ pp cp pt ct pl cl pu cu, vp = .slice pp P.length cp /\ vt = .slice pt T.length ct /\ vl = .slice pl l.length cl /\ vu = .slice pu u.length cu := by
 obtain ⟨pp, cp, e1, -, -, -⟩ := h.p.open;obtain ⟨pt, ct, e2, -, -, -⟩ := h.t.open;obtain ⟨pl, cl, e3, -, -, -⟩ := h.l.open;obtain ⟨pu, cu, e4, -, -, -⟩ := h.u.open;rw [strP_length] at e1;exact ⟨pp, cp, pt, ct, pl, cl, pu, cu, e1, e2, e3, e4⟩
def TxtOK (l : List ByteArray) : Prop := (∀ x ∈ l, x.size < 1000000000) /\ l.length <= 1000000
def RdTx (w : World) (v : Value) (S : List (List ByteArray)) : Prop := ∃ us : List Value, RdC 1 w v S.length us /\ ∀ (i : Nat) (u : Value) (F : List ByteArray), us[i]? = some u -> S[i]? = some F -> RdS w u F
theorem RdTx.below {w w' : World} {v : Value} {S : List (List ByteArray)} (h : RdTx w v S) (hb : Below w.heap.size w w') : RdTx w' v S := by
 obtain ⟨us, h1, h2⟩ := h;exact ⟨us, RdC.below h1 hb, fun i u F a b => RdC.below (h2 i u F a b) hb⟩
theorem RdF.toTx {w : World} {v : Value} {S : List (List Rat)} (h : RdF w v S) : RdTx w v (S.map fun F => F.map RS) := by
 obtain ⟨us, h1, h2⟩ := h;refine ⟨us, by rw [List.length_map]; exact h1, fun i u F a b => ?_⟩;rw [List.getElem?_map] at b;cases hS : S[i]? with
 | none => rw [hS] at b; simp at b
 | some G =>
   rw [hS] at b;simp at b;subst b;exact (h2 i u G a hS).toS
theorem RdTx.shape {w : World} {v : Value} {S : List (List ByteArray)} (h : RdTx w v S) : ∃ p c, v = .slice p S.length c /\ S.length <= c /\ c <= maxLen := by
 obtain ⟨us, ⟨p, c, h1, h2, h3, -⟩, -⟩ := h;exact ⟨p, c, h1, h2, h3⟩
theorem RdTx.cells {w : World} {v : Value} {S : List (List ByteArray)} (h : RdTx w v S) (hn : 0 < S.length) : ∃ b o c, v = .slice (some ⟨b, o, none⟩) S.length c /\ b < w.heap.size /\
 ∀ (i : Nat) (hi : i < S.length), ∃ p c', w.cell? ⟨b, o + i, none⟩ = some (.slice p S[i].length c') /\ RdS w (.slice p S[i].length c') S[i] := by
 obtain ⟨us, ⟨p, c, h1, h2, h3, h4, h5⟩, h6⟩ := h;rw [Nat.mul_one] at h4;obtain ⟨b, o, rfl, hc⟩ := h5 (List.ne_nil_of_length_pos (by omega));have h0 := hc 0 us[0] (List.getElem?_eq_getElem (by omega));refine ⟨b, o, c, h1, World.block_lt_of_cell? w _ h0, fun i hi => ?_⟩;have hi2 : i < us.length := by omega
 have hr := h6 i us[i] S[i] (List.getElem?_eq_getElem hi2) (List.getElem?_eq_getElem hi);obtain ⟨p', c', e, -, -, -⟩ := hr.open;have hcell := hc i us[i] (List.getElem?_eq_getElem hi2);rw [e] at hcell hr;exact ⟨p', c', hcell, hr⟩
def firstE (f : Nat -> Int) (n : Nat) : Int := match (List.range n).find? (fun i => decide (f i ≠ 0)) with | some i => f i | none => 0
theorem firstE_at {f : Nat -> Int} {n i : Nat} (hi : i < n) (h : f i ≠ 0) (hb : ∀ j, j < i -> f j = 0) : firstE f n = f i := by
 unfold firstE;have : (List.range n).find? (fun i => decide (f i ≠ 0)) = some i := by
  rw [List.find?_range_eq_some];exact ⟨by simpa using h, List.mem_range.2 hi, fun j hj => by simpa using hb j hj⟩
 rw [this]
theorem firstE_none {f : Nat -> Int} {n : Nat} (hb : ∀ j, j < n -> f j = 0) : firstE f n = 0 := by
 unfold firstE;have : (List.range n).find? (fun i => decide (f i ≠ 0)) = none := by
  rw [List.find?_eq_none];intro j hj;have := hb j (List.mem_range.1 hj);simpa using this
 rw [this]
def unitBad (U : List ByteArray) (i : Nat) : Int := match U[i]? with | some u => if nameQ u then (if hasS (U.take i) u then 9 else 0) else 8 | none => 0
noncomputable def numT (s : ByteArray) : Rat := open Classical in if h : ∃ q, RS q = s then h.choose else 0
theorem numT_RS (q : Rat) : numT (RS q) = q := by
 unfold numT;have h : ∃ p, RS p = RS q := ⟨q, rfl⟩;rw [dif_pos h];exact RS_inj h.choose_spec
theorem numT_map (F : List Rat) : (F.map RS).map numT = F := by
 rw [List.map_map]
 conv => rhs; rw [<- List.map_id F]
 exact List.map_congr_left fun q _ => numT_RS q
def fldT (b : List ByteArray) (S : List (List ByteArray)) (n : Nat) : List ByteArray := (b :: S)[n]?.getD []
noncomputable def surfBad (n : Nat) (b : List ByteArray) (S : List (List ByteArray)) (i : Nat) : Int :=
 if errF n (fldT b S (i + 1)) ≠ 0 then errF n (fldT b S (i + 1)) else if belowB ((fldT b S i).map numT) ((fldT b S (i + 1)).map numT) then 0 else 6
noncomputable def depE (P : List PtQ) (T : List Tri) (b : List ByteArray) (U : List ByteArray) (S : List (List ByteArray)) : Int :=
 if T = [] then 13 else if errF P.length b ≠ 0 then errF P.length b else if U.length = 0 then 13 else if 60 < U.length then 4 else if firstE (unitBad U) U.length ≠ 0 then firstE (unitBad U) U.length else if S.length + 1 ≠ U.length then 5 else firstE (surfBad P.length b S) S.length
structure DepT (w : World) (vp vt vb vu vs : Value) (P : List PtQ) (T : List Tri) (k : Nat) (b : List ByteArray) (U : List ByteArray) (S : List (List ByteArray)) : Prop where
 p : RdP w vp (strP P)
 t : RdT w vt T
 m : T ≠ [] -> MeshOK P T k
 base : RdS w vb b
 unit : RdS w vu U
 surf : RdTx w vs S
 ok : ∀ F ∈ b :: S, TxtOK F
 num : ∀ F ∈ b :: S, errF P.length F = 0 -> ∃ R : List Rat, F = R.map RS /\ R.length = P.length /\ ∀ q ∈ R, Sz k q
theorem DepT.below {w w' : World} {vp vt vb vu vs : Value} {P : List PtQ} {T : List Tri} {k : Nat} {b U : List ByteArray} {S : List (List ByteArray)} (h : DepT w vp vt vb vu vs P T k b U S) (hb : Below w.heap.size w w') : DepT w' vp vt vb vu vs P T k b U S :=
 ⟨RdC.below h.p hb, RdC.below h.t hb, h.m, RdC.below h.base hb, RdC.below h.unit hb, h.surf.below hb, h.ok, h.num⟩
theorem surface_any (w : World) (vb vu vs : Value) (b U : List ByteArray) (S : List (List ByteArray)) (hb : RdS w vb b) (hu : RdS w vu U) (hs : RdTx w vs S) (n : Nat) (hn : n <= S.length) :
 ∃ p c, RdS w (.slice p (fldT b S n).length c) (fldT b S n) /\ ∀ w', Below w.heap.size w w' -> Calls Tryz.prog 65 #[.agg #[vb, vu, vs], .int .i64 (n : Int)] w' (Ret (fun r _ => r = .slice p (fldT b S n).length c) w') := by
 obtain ⟨pb, cb, rfl, -, -, -⟩ := hb.open;obtain ⟨pu, cu, rfl, -, -, -⟩ := hu.open;rcases Nat.eq_zero_or_pos n with h0 | h0
 ·subst h0
  refine ⟨pb, cb, hb, fun w' hw => ?_⟩;have e : fldT b S 0 = b := rfl;rw [e];obtain ⟨ps, cs, rfl, -, -⟩ := hs.shape;clear hb hu hs;rw [show ((0 : Nat) : Int) = 0 from rfl];go_enter Tryz.func65, Tryz.ntmps65;go_wp2_with fail;go_ret;exact ⟨_, rfl, rfl, (Below.refl _ _).alloc (Nat.le_refl _) _⟩
 ·obtain ⟨i, rfl⟩ : ∃ i, n = i + 1 := ⟨n - 1, by omega⟩
  have hlt : i < S.length := by omega
  obtain ⟨_, cs0, -, hm1, hm2⟩ := hs.shape;unfold maxLen at hm2;obtain ⟨bs, os, cs, rfl, hbs, hc⟩ := hs.cells (by omega);obtain ⟨p, c, hcell, hr⟩ := hc i hlt;have e : fldT b S (i + 1) = S[i] := by unfold fldT; rw [List.getElem?_cons_succ, List.getElem?_eq_getElem hlt]; rfl
  rw [e];refine ⟨p, c, hr, fun w' hw => ?_⟩;have hc1 := (((Below.refl w'.heap.size w').alloc (Nat.le_refl _) (.cells #[.slice pb b.length cb, .slice pu U.length cu, .slice (some ⟨bs, os, none⟩) S.length cs] 43)).cell (p := ⟨bs, os + i, none⟩) (Nat.lt_of_lt_of_le hbs hw.size)).trans ((zcq hw hbs hcell :));have hne : ((i : Int) + 1 == 0) = false := by rw [beq_eq_false_iff_ne]; omega
  have hne2 : ¬ ((i : Int) + 1 = 0) := by omega
  have hlz : (i : Int) < (S.length : Int) := by omega
  rw [show (((i + 1 : Nat) : Int)) = (i : Int) + 1 by omega];generalize S[i].length = fl at *;clear hc hb hu hs hr hcell;go_enter Tryz.func65, Tryz.ntmps65;go_wp2_with fail;go_ret;exact ⟨_, rfl, rfl, (Below.refl _ _).alloc (Nat.le_refl _) _⟩
theorem unitBad_name {U : List ByteArray} {i : Nat} (hi : i < U.length) (h : nameQ U[i] = false) : unitBad U i = 8 := by unfold unitBad; rw [List.getElem?_eq_getElem hi]; simp [h]
theorem unitBad_twice {U : List ByteArray} {i : Nat} (hi : i < U.length) (h : nameQ U[i] = true) (h2 : hasS (U.take i) U[i] = true) : unitBad U i = 9 := by unfold unitBad; rw [List.getElem?_eq_getElem hi]; simp [h, h2]
theorem unitBad_ok {U : List ByteArray} {i : Nat} (hi : i < U.length) (h : nameQ U[i] = true) (h2 : hasS (U.take i) U[i] = false) : unitBad U i = 0 := by unfold unitBad; rw [List.getElem?_eq_getElem hi]; simp [h, h2]
theorem RdS.cells {w : World} {v : Value} {l : List ByteArray} (h : RdS w v l) (hn : 0 < l.length) : ∃ b o c : Nat, v = .slice (some ⟨b, o, none⟩) l.length c /\ b < w.heap.size /\ l.length <= c /\ ∀ (i : Nat) (hi : i < l.length), w.cell? ⟨b, o + i, none⟩ = some (.string l[i]) := by
 obtain ⟨p, c, rfl, h1, -, hr⟩ := h.open;obtain ⟨b, o, rfl, hb, hc⟩ := hr (List.ne_nil_of_length_pos hn);exact ⟨b, o, c, rfl, hb, h1, hc⟩
theorem RdS.take {w : World} {p : Option Addr} {c : Nat} {l : List ByteArray} (h : RdS w (.slice p l.length c) l) (m : Nat) (hm : m <= l.length) : RdS w (.slice p m c) (l.take m) := by
 have h1 := RdC.take h m hm;rw [<- List.map_take] at h1;unfold RdS;rw [List.length_take, Nat.min_eq_left hm];exact h1
theorem rdS_toQ {w : World} {v : Value} {l : List Rat} (h : RdS w v (l.map RS)) : RdQ w v l := by
 unfold RdS at h;rw [List.length_map, List.map_map] at h;unfold RdQ;exact h
theorem fldT_next (b : List ByteArray) (S : List (List ByteArray)) {i : Nat} (h : i < S.length) : fldT b S (i + 1) = S[i] := by unfold fldT; rw [List.getElem?_cons_succ, List.getElem?_eq_getElem h]; rfl
theorem fldT_mem (b : List ByteArray) (S : List (List ByteArray)) {i : Nat} (h : i <= S.length) : fldT b S i ∈ b :: S := by
 unfold fldT;rw [List.getElem?_eq_getElem (by simp; omega)];exact List.getElem_mem _
theorem depE_mesh {P : List PtQ} {T : List Tri} {b U : List ByteArray} {S : List (List ByteArray)} (h : T = []) : depE P T b U S = 13 := by unfold depE; rw [if_pos h]
theorem depE_base {P : List PtQ} {T : List Tri} {b U : List ByteArray} {S : List (List ByteArray)} (h : T ≠ []) (h2 : errF P.length b ≠ 0) : depE P T b U S = errF P.length b := by unfold depE; rw [if_neg h, if_pos h2]
theorem depE_rest {P : List PtQ} {T : List Tri} {b U : List ByteArray} {S : List (List ByteArray)} (h : T ≠ []) (h2 : errF P.length b = 0) : depE P T b U S = if U.length = 0 then 13 else if 60 < U.length then 4 else if firstE (unitBad U) U.length ≠ 0 then firstE (unitBad U) U.length else if S.length + 1 ≠ U.length then 5 else firstE (surfBad P.length b S) S.length := by
 conv => lhs; unfold depE
 rw [if_neg h, if_neg (by rw [h2]; decide)]
theorem scheck_any (w : World) (vp vt vb vu vs : Value) (P : List PtQ) (T : List Tri) (k : Nat) (b U : List ByteArray) (S : List (List ByteArray)) (h : DepT w vp vt vb vu vs P T k b U S) (hg : Good w) :
 Calls Tryz.prog 48 #[.agg #[vp, vt], .agg #[vb, vu, vs]] w (Ret (fun r _ => r = .int .i64 (depE P T b U S)) w) := by
 have HD := hid h;obtain ⟨pp, cp, rfl, -, -, -⟩ := h.p.open;obtain ⟨pt, ct, rfl, -, -, -⟩ := h.t.open;obtain ⟨pb, cb, rfl, -, -, -⟩ := h.base.open;obtain ⟨pu, cu, rfl, hu1, hu2, -⟩ := h.unit.open;obtain ⟨ps, cs, rfl, hs1, hs2⟩ := h.surf.shape;unfold maxLen at hu2 hs2;rw [strP_length] at *;obtain ⟨res, hres⟩ : ∃ r, r = depE P T b U S := ⟨_, rfl⟩;rw [<- hres];have HR := hid hres;clear hres h;by_cases hT : T = []
 ·have HF : Hid (res = 13) := by unfold Hid; rw [HR.out]; exact depE_mesh hT
  have HC : Hid (∀ w', Below w.heap.size w w' -> Calls Tryz.prog 93 #[.agg #[.slice pp P.length cp, .slice pt T.length ct]] w' (Ret (fun r _ => r = .int .i64 13) w')) := fun w' hb => by
   have h1 := (HD.out.below hb).t;rw [hT] at h1;exact check_empty w' _ _ P (HD.out.below hb).p (by rw [hT]; exact h1)
  clear HR HD hT;go_enter Tryz.func48, Tryz.ntmps48;go_wp2_with fail;refine (HC.out _ (((Below.refl _ _).alloc (Nat.le_refl _) _).alloc (by simp) _)).mono ?_;rintro e w1 ⟨_, rfl, rfl, hb1⟩;have hB1 : Below w.heap.size w w1 := (((Below.refl _ _).alloc (Nat.le_refl _) _).alloc (by simp) _).trans (hb1.mono (by simp; omega));go_wp2_with fail;go_ret;exact ⟨_, rfl, congrArg (Value.int .i64) HF.out.symm, hB1⟩
 ·have HM := hid (HD.out.m hT)
  have HC : Hid (∀ w', Below w.heap.size w w' -> Good w' -> Calls Tryz.prog 93 #[.agg #[.slice pp P.length cp, .slice pt T.length ct]] w' (Ret (fun r _ => r = .int .i64 0) w')) := fun w' hb hg' =>
   check_any w' _ _ P T k (HD.out.below hb).p (HD.out.below hb).t HM.out hg'
  have HFC : Hid (∀ F ∈ b :: S, ∀ p c, ∀ w', Below w.heap.size w w' -> Good w' -> RdS w' (.slice p F.length c) F -> Calls Tryz.prog 21 #[.agg #[.slice pp P.length cp, .slice pt T.length ct], .slice p F.length c] w' (Ret (fun r _ => r = .int .i64 (errF P.length F)) w')) := fun F hF p c w' hb hg' hr =>
   fcheck_any w' _ _ _ P T k F (HD.out.below hb).p (HD.out.below hb).t HM.out hr (HD.out.ok F hF).1 (HD.out.ok F hF).2 hg'
  have HB0 : Hid (∀ w', Below w.heap.size w w' -> Good w' -> Calls Tryz.prog 21 #[.agg #[.slice pp P.length cp, .slice pt T.length ct], .slice pb b.length cb] w' (Ret (fun r _ => r = .int .i64 (errF P.length b)) w')) := fun w' hb hg' => HFC.out b (by simp) pb cb w' hb hg' (HD.out.below hb).base
  go_enter Tryz.func48, Tryz.ntmps48;go_wp2_with fail;obtain ⟨W, hW⟩ : ∃ W, W = (w.alloc (.cells #[.slice pp P.length cp, .slice pt T.length ct] 37)).alloc (.cells #[.slice pb b.length cb, .slice pu U.length cu, .slice ps S.length cs] 43) := ⟨_, rfl⟩;have hB : Below w.heap.size w W := by rw [hW]; exact zal2 _ _ _
  have b2 : BoxN W (w.heap.size + 1) 43 [.slice pb b.length cb, .slice pu U.length cu, .slice ps S.length cs] := by rw [hW]; exact BoxN.new _ _ _ _ (by simp)
  have b1 : BoxN W w.heap.size 37 [.slice pp P.length cp, .slice pt T.length ct] := by
   rw [hW];have h1 := (BoxN.new w #[.slice pp P.length cp, .slice pt T.length ct] 37 _ rfl);exact h1.below (zal _ _) h1.lt
  rw [<- hW];clear hW;refine (HC.out W hB (hg.below hB)).mono ?_;rintro e w1 ⟨_, rfl, rfl, hb1⟩;have hB1 := hB.trans (hb1.mono hB.size);replace b1 := b1.below hb1 b1.lt;replace b2 := b2.below hb1 b2.lt;have m0 := b1.cell 0 rfl;have m1 := b1.cell 1 rfl;have d0 := b2.cell 0 rfl;have d1 := b2.cell 1 rfl;have d2 := b2.cell 2 rfl;clear hb1 hB;go_wp2_with fail;refine (HB0.out w1 hB1 (hg.below hB1)).mono ?_;rintro e w2 ⟨_, rfl, rfl, hb2⟩;have hB2 := hB1.trans (hb2.mono hB1.size);replace b1 := b1.below hb2 b1.lt;replace b2 := b2.below hb2 b2.lt;clear m0 m1 d0 d1 d2 hb2 hB1;have m0 := b1.cell 0 rfl;have m1 := b1.cell 1 rfl;have d0 := b2.cell 0 rfl;have d1 := b2.cell 1 rfl;have d2 := b2.cell 2 rfl;by_cases hE : errF P.length b = 0
  ·have HRR : Hid (res = _) := HR.out.trans (depE_rest hT hE)
   have hE0 := hid hE;rw [hE];clear HR hE;by_cases hU0 : U.length = 0
   ·have HF : Hid (res = 13) := by unfold Hid; rw [HRR.out, if_pos hU0]
    have hz : ((U.length : Int) == 0) = true := by rw [beq_iff_eq]; omega
    clear HRR;go_wp2_with fail;go_ret;exact ⟨_, rfl, congrArg (Value.int .i64) HF.out.symm, hB2⟩
   have hz : ((U.length : Int) == 0) = false := by rw [beq_eq_false_iff_ne]; omega
   by_cases hU6 : 60 < U.length
   ·have HF : Hid (res = 4) := by unfold Hid; rw [HRR.out, if_neg hU0, if_pos hU6]
    have hz6 : decide ((60 : Int) < (U.length : Int)) = true := decide_eq_true (by omega);clear HRR;go_wp2_with fail;go_ret;exact ⟨_, rfl, congrArg (Value.int .i64) HF.out.symm, hB2⟩
   have hz6 : decide ((60 : Int) < (U.length : Int)) = false := decide_eq_false (by omega);have HR3 : Hid (res = if firstE (unitBad U) U.length ≠ 0 then firstE (unitBad U) U.length else if S.length + 1 ≠ U.length then 5 else firstE (surfBad P.length b S) S.length) := by unfold Hid; rw [HRR.out, if_neg hU0, if_neg hU6]
   clear HRR;go_wp2_with fail;go_loopw [39] (fun t39 wr => ∃ i : Nat, t39 = .int .i64 i /\ i <= U.length /\ Hid (∀ j, j < i -> unitBad U j = 0) /\ Below w2.heap.size w2 wr) (fun t39 _ => U.length - (RowKit.intOf t39).toNat)
   case atStart => exact ⟨0, rfl, Nat.zero_le _, fun j h => absurd h (by omega), Below.refl _ _⟩
   case round =>
    obtain ⟨i, rfl, hi, HJ, hbr⟩ := hrel;have hBr := hB2.trans (hbr.mono hB2.size);have c1 := b1.below hbr b1.lt;have c2 := b2.below hbr b2.lt;have e1 := c2.cell 1 rfl;have e2 := c2.cell 2 rfl;clear m0 m1 d0 d1 d2;rcases Nat.lt_or_ge i U.length with hlt | hlt
    ·obtain ⟨bu, ou, cu', hve, hbu, hcu, hcells⟩ := HD.out.unit.cells (by omega)
     injection hve with hv1 hv2 hv3
     subst hv1 hv3;have x0 := zcq hBr hbu (hcells i hlt);have HI : Hid (∀ w', Calls Tryz.prog 57 #[.string U[i]] w' (Ret (fun r _ => r = .bool (nameQ U[i])) w')) := fun w' => isName_any _ _;have HS : Hid (∀ w', Below w.heap.size w w' -> Calls Tryz.prog 58 #[.slice (some ⟨bu, ou, none⟩) i cu, .string U[i]] w' (Ret (fun r _ => r = .bool (hasS (U.take i) U[i])) w')) := fun w' hb => containsS_any _ _ _ _ (RdS.take (HD.out.below hb).unit i (by omega))
     have H8 : Hid (nameQ U[i] = false -> res = 8) := fun h => by
      have h1 := unitBad_name hlt h;have h2 : firstE (unitBad U) U.length = 8 := by rw [firstE_at hlt (by rw [h1]; decide) HJ.out, h1]
      rw [HR3.out, if_pos (by rw [h2]; decide), h2]
     have H9 : Hid (nameQ U[i] = true -> hasS (U.take i) U[i] = true -> res = 9) := fun h h' => by
      have h1 := unitBad_twice hlt h h';have h2 : firstE (unitBad U) U.length = 9 := by rw [firstE_at hlt (by rw [h1]; decide) HJ.out, h1]
      rw [HR3.out, if_pos (by rw [h2]; decide), h2]
     have H0 : Hid (nameQ U[i] = true -> hasS (U.take i) U[i] = false -> ∀ j, j < i + 1 -> unitBad U j = 0) := fun h h' j hj => by
      rcases (by omega : j < i \/ j = i) with h1 | rfl
      ·exact HJ.out j h1
      ·exact unitBad_ok hlt h h'
     have hiz : (i : Int) < (U.length : Int) := by omega
     have hiu : (i : Int) <= (cu : Int) := by omega
     generalize nameQ U[i] = nb at *;generalize hasS (U.take i) U[i] = hb' at *;generalize U[i] = ui at *;clear hcells;go_wp2_with fail;refine (HI.out wr).mono ?_;rintro e w3 ⟨_, rfl, rfl, hb3⟩;have hB3 := hBr.trans (hb3.mono hBr.size);replace c2 := c2.below hb3 c2.lt;have f1 := c2.cell 1 rfl;cases nb
     ·have HF := hid (H8.out rfl)
      clear H8 H9 H0;go_wp2_with fail;go_ret;exact ⟨_, rfl, congrArg (Value.int .i64) HF.out.symm, hB3⟩
     ·go_wp2_with fail
      refine (HS.out w3 hB3).mono ?_;rintro e w4 ⟨_, rfl, rfl, hb4⟩;have hB4 := hB3.trans (hb4.mono hB3.size);have hbr4 := (hbr.trans (hb3.mono hbr.size)).trans (hb4.mono (by have := hbr.size; have := hb3.size; omega));cases hb'
      ·have HF := hid (H0.out trivial rfl)
       clear H8 H9 H0;go_wp2_with fail;go_roundw
       case rel => exact ⟨i + 1, by go_num, hlt, HF, hbr4⟩
       case measure => simp [RowKit.intOf]; omega
      ·have HF := hid (H9.out trivial rfl)
       clear H8 H9 H0;go_wp2_with fail;go_ret;exact ⟨_, rfl, congrArg (Value.int .i64) HF.out.symm, hB4⟩
    ·obtain rfl : i = U.length := by omega
     have h0 : firstE (unitBad U) U.length = 0 := firstE_none HJ.out;have HR4 : Hid (res = if S.length + 1 ≠ U.length then 5 else firstE (surfBad P.length b S) S.length) := by unfold Hid; rw [HR3.out, if_neg (by rw [h0]; simp)]
     clear HR3 h0 HJ;obtain ⟨wa, hwa⟩ : ∃ x, x = wr := ⟨_, rfl⟩;subst hwa;by_cases hSU : S.length + 1 = U.length
     ·have HRS : Hid (res = firstE (surfBad P.length b S) S.length) := by unfold Hid; rw [HR4.out, if_neg (by omega)]
      have hne : ((S.length : Int) != (U.length : Int) - 1) = false := by rw [bne_eq_false_iff_eq]; omega
      clear HR4;go_wp2_with fail;go_loopw [67] (fun t67 wr => ∃ i : Nat, t67 = .int .i64 i /\ i <= S.length /\ Hid (∀ j, j < i -> surfBad P.length b S j = 0) /\ Below wa.heap.size wa wr) (fun t67 _ => S.length - (RowKit.intOf t67).toNat)
      case atStart => exact ⟨0, rfl, Nat.zero_le _, fun j h => absurd h (by omega), Below.refl _ _⟩
      case round =>
       obtain ⟨i, rfl, hi, HJ, hbr⟩ := hrel;have hBr' := hBr.trans (hbr.mono hBr.size);replace c1 := c1.below hbr c1.lt;replace c2 := c2.below hbr c2.lt;clear e1 e2;have m0 := c1.cell 0 rfl;have m1 := c1.cell 1 rfl;have d0 := c2.cell 0 rfl;have d1 := c2.cell 1 rfl;have d2 := c2.cell 2 rfl;have hk1 := c1.lt;have hk2 := c2.lt;rcases Nat.lt_or_ge i S.length with hlt | hlt
       ·obtain ⟨bs, os, cs', hve, hbs, hcells⟩ := HD.out.surf.cells (by omega)
        injection hve with hv1 hv2 hv3
        subst hv1 hv3;obtain ⟨pg, cg, hcg, hrg⟩ := hcells i hlt;have x0 := zcq hBr' hbs hcg;have hmem : S[i] ∈ b :: S := List.mem_cons_of_mem _ (List.getElem_mem hlt);have HFI : Hid (∀ w', Below w.heap.size w w' -> Good w' -> Calls Tryz.prog 21 #[.agg #[.slice pp P.length cp, .slice pt T.length ct], .slice pg S[i].length cg] w' (Ret (fun r _ => r = .int .i64 (errF P.length S[i])) w')) := fun w' hb hg' => HFC.out S[i] hmem pg cg w' hb hg' (RdC.below hrg hb);have hiz : (i : Int) < (S.length : Int) := by omega
        by_cases hE : errF P.length S[i] = 0
        ·have hEb : errF P.length (fldT b S i) = 0 := by
                    rcases Nat.eq_zero_or_pos i with h0 | h0
                    ·subst h0; exact hE0.out
                    ·have h1 := HJ.out (i - 1) (by omega)
                     unfold surfBad at h1;rw [show i - 1 + 1 = i by omega] at h1;by_cases h2 : errF P.length (fldT b S i) = 0
                     ·exact h2
                     ·rw [if_pos h2] at h1; exact absurd h1 h2
         obtain ⟨R, hR, hRl, hRs⟩ := HD.out.num (fldT b S i) (fldT_mem b S hi) hEb;obtain ⟨Q, hQ, hQl, hQs⟩ := HD.out.num S[i] hmem hE;obtain ⟨pf, cf, hrf, hcallf⟩ := surface_any w _ _ _ b U S HD.out.base HD.out.unit HD.out.surf i hi;have HSF := hid hcallf
         have HBL : Hid (∀ w', Below w.heap.size w w' -> Good w' -> Calls Tryz.prog 94 #[.agg #[.slice pp P.length cp, .slice pt T.length ct], .slice pf (fldT b S i).length cf, .slice pg S[i].length cg] w' (Ret (fun r _ => r = .tuple #[.bool (belowB R Q), .int .i64 0]) w')) := fun w' hb hg' => by
                    have q1 : RdQ w' (.slice pf (fldT b S i).length cf) R := rdS_toQ (by rw [<- hR]; exact RdC.below hrf hb);have q2 : RdQ w' (.slice pg S[i].length cg) Q := rdS_toQ (by rw [<- hQ]; exact RdC.below hrg hb);have hd := HD.out.below hb;exact fbelow_ok w' _ _ _ _ P T k R Q ⟨hd.p, hd.t, HM.out, q1, hRs, hRl⟩ ⟨hd.p, hd.t, HM.out, q2, hQs, hQl⟩ hg'
         have hsb : surfBad P.length b S i = if belowB R Q then 0 else 6 := by
                    unfold surfBad;rw [fldT_next b S hlt, if_neg (by rw [hE]; decide), hR, hQ, numT_map, numT_map]
         have H6 : Hid (belowB R Q = false -> res = 6) := fun h => by
                    have h1 : surfBad P.length b S i = 6 := by rw [hsb, h]; rfl
                    rw [HRS.out, firstE_at hlt (by rw [h1]; decide) HJ.out, h1]
         have H0 : Hid (belowB R Q = true -> ∀ j, j < i + 1 -> surfBad P.length b S j = 0) := fun h j hj => by
                    rcases (by omega : j < i \/ j = i) with h1 | rfl
                    ·exact HJ.out j h1
                    ·rw [hsb, h]; rfl
         rw [hE] at HFI;clear hsb hRs hQs hR hQ hRl hQl hrf hrg hcallf hcg hcells hEb hE hmem;generalize belowB R Q = bq at *;generalize (fldT b S i).length = fl at *;generalize S[i].length = gl at *;go_wp2_with fail;refine (HFI.out wr hBr' (hg.below hBr')).mono ?_;rintro e w5 ⟨_, rfl, rfl, hb5⟩;have hB5 := hBr'.trans (hb5.mono hBr'.size);have hbr5 := hbr.trans (hb5.mono hbr.size);replace c1 := c1.below hb5 c1.lt;replace c2 := c2.below hb5 c2.lt;clear m0 m1 d0 d1 d2 x0;have m0 := c1.cell 0 rfl;have m1 := c1.cell 1 rfl;have d0 := c2.cell 0 rfl;have d1 := c2.cell 1 rfl;have d2 := c2.cell 2 rfl;have hk1 := c1.lt;have hk2 := c2.lt;have hgd : Good w5.drew := (hg.below hB5).drewN 1;have hbd : Below w.heap.size w w5.drew := hB5.trans ((below_drewN w5 1).mono hB5.size);have hsd : w.heap.size <= w5.drew.heap.size := hbd.size;go_upto_region 27 with fail
         go_region_held3 (fun w' => w'.cell? ⟨w.heap.size, 0, none⟩ = some (.slice pp P.length cp) /\ w'.cell? ⟨w.heap.size, 1, none⟩ = some (.slice pt T.length ct) /\ w'.cell? ⟨w.heap.size + 1, 0, none⟩ = some (.slice pb b.length cb) /\ w'.cell? ⟨w.heap.size + 1, 1, none⟩ = some (.slice pu U.length cu) /\ w'.cell? ⟨w.heap.size + 1, 2, none⟩ = some (.slice (some ⟨bs, os, none⟩) S.length cs))
                    (first | exact ⟨m0, m1, d0, d1, d2⟩ | exact ⟨p_1_0, p_1_1, p_1_2, p_1_3, p_1_4⟩ | exact ⟨p_2_0, p_2_1, p_2_2, p_2_3, p_2_4⟩)
                    (first
                    | (go_at_call 94; refine (HBL.out _ (hbd.trans (pb1.mono hsd)) pg1).mono ?_; rintro e pw2 ⟨_, rfl, rfl, pb2⟩
                       have p_2_0 := zct pb2 p_1_0;have p_2_1 := zct pb2 p_1_1;have p_2_2 := zct pb2 p_1_2;have p_2_3 := zct pb2 p_1_3;have p_2_4 := zct pb2 p_1_4;have ps2 := pb2.size;have pg2 := pg1.below pb2)
                    | (go_at_call 65; refine (HSF.out _ hbd).mono ?_; rintro e pw1 ⟨_, rfl, rfl, pb1⟩
                       have p_1_0 := zct pb1 m0;have p_1_1 := zct pb1 m1;have p_1_2 := zct pb1 d0;have p_1_3 := zct pb1 d1;have p_1_4 := zct pb1 d2;have ps1 : w5.heap.size <= pw1.heap.size := pb1.size;have pg1 := hgd.below pb1))
         have pB : Below w5.heap.size w5 pw2 := zbt (zbt (below_drewN w5 1) pb1) pb2;have hbr6 : Below wa.heap.size wa pw2 := hbr5.trans (pB.mono hbr5.size);have hB6 : Below w.heap.size w pw2 := hB5.trans (pB.mono hB5.size);clear pB pb1 pb2 ps1 ps2 pg1 pg2 m0 m1 d0 d1 d2;cases bq
         ·have HF := hid (H6.out rfl)
          clear H6 H0;go_wp2_with fail;go_ret;exact ⟨_, rfl, congrArg (Value.int .i64) HF.out.symm, hB6⟩
         ·have HF := hid (H0.out rfl)
          clear H6 H0;go_wp2_with fail;go_roundw
          case rel => exact ⟨i + 1, by go_num, hlt, HF, hbr6⟩
          case measure => simp [RowKit.intOf]; omega
        ·have HF : Hid (res = errF P.length S[i]) := by
                    have h1 : surfBad P.length b S i = errF P.length S[i] := by unfold surfBad; rw [fldT_next b S hlt, if_pos hE]
                    unfold Hid;rw [HRS.out, firstE_at hlt (by rw [h1]; exact hE) HJ.out, h1]
         have hE2 : (errF P.length S[i] != 0) = true := by rw [bne_iff_ne]; exact hE
         generalize errF P.length S[i] = ez at *;generalize S[i].length = gl at *;clear hcells hcg hrg hmem;go_wp2_with fail;refine (HFI.out wr hBr' (hg.below hBr')).mono ?_;rintro e w5 ⟨_, rfl, rfl, hb5⟩;have hB5 := hBr'.trans (hb5.mono hBr'.size);go_wp2_with fail;go_ret;exact ⟨_, rfl, congrArg (Value.int .i64) HF.out.symm, hB5⟩
       ·obtain rfl : i = S.length := by omega
        have HF : Hid (res = 0) := by unfold Hid; rw [HRS.out]; exact firstE_none HJ.out
        go_wp2_with fail;go_ret;exact ⟨_, rfl, congrArg (Value.int .i64) HF.out.symm, hBr'⟩
     ·have HF : Hid (res = 5) := by unfold Hid; rw [HR4.out, if_pos (by omega)]
      have hne : ((S.length : Int) != (U.length : Int) - 1) = true := by rw [bne_iff_ne]; omega
      clear HR4;go_wp2_with fail;go_ret;exact ⟨_, rfl, congrArg (Value.int .i64) HF.out.symm, hBr⟩
  ·have HF : Hid (res = errF P.length b) := HR.out.trans (depE_base hT hE)
   have hE2 : (errF P.length b != 0) = true := by rw [bne_iff_ne]; exact hE
   clear HR;generalize errF P.length b = ez at *;go_wp2_with fail;go_ret;exact ⟨_, rfl, congrArg (Value.int .i64) HF.out.symm, hB2⟩
theorem list_same {α : Type} {l m : List α} (h : l.length = m.length) (hb : ∀ j (h1 : j < l.length) (h2 : j < m.length), l[j] = m[j]) : l = m := List.ext_getElem h hb
theorem list_not {α : Type} {l m : List α} {i : Nat} (h1 : i < l.length) (h2 : i < m.length) (h : l[i] ≠ m[i]) : l ≠ m := fun e => h (by subst e; rfl)
theorem equalS_any (v u : Value) (l m : List ByteArray) (w : World) (h : RdS w v l) (h2 : RdS w u m) :
 Calls Tryz.prog 54 #[v, u] w (Ret (fun r _ => r = .bool (decide (l = m))) w) := by
 obtain ⟨p1, c1, rfl, hlc, hm1, hr1⟩ := h.open;obtain ⟨p2, c2, rfl, hlc2, hm2, hr2⟩ := h2.open;unfold maxLen at hm1 hm2;have H1 := hid hr1;have H2 := hid hr2;obtain ⟨res, hres⟩ : ∃ r, r = decide (l = m) := ⟨_, rfl⟩;rw [<- hres];have HR := hid hres;clear hr1 hr2 h h2 hres;by_cases hl : l.length = m.length
 ·have hne : ((l.length : Int) != (m.length : Int)) = false := by rw [bne_eq_false_iff_eq]; omega
  have HL := hid hl;obtain ⟨n, hn⟩ : ∃ n, n = l.length := ⟨_, rfl⟩;have HN : Hid (n = l.length) := hn;have hn2 : m.length = n := by omega
  rw [hn2] at hne hlc2 ⊢;rw [<- hn] at hne hlc ⊢;clear hl hn hn2;go_enter Tryz.func54, Tryz.ntmps54;go_wp2_with fail;go_loopw [13] (fun t13 wr => ∃ i : Nat, t13 = .int .i64 i /\ i <= n /\ Hid (∀ j (_ : j < i) (h1 : j < l.length) (h2 : j < m.length), l[j] = m[j]) /\ Below w.heap.size w wr) (fun t13 _ => n - (RowKit.intOf t13).toNat)
  case atStart => exact ⟨0, rfl, Nat.zero_le _, fun j h => absurd h (by omega), Below.refl _ _⟩
  case round =>
   obtain ⟨i, rfl, hi, HJ, hbl⟩ := hrel;rcases Nat.lt_or_ge i n with h | h
   ·have ha1 : i < l.length := by have := HN.out; omega
    have ha2 : i < m.length := by have := HN.out; have := HL.out; omega
    obtain ⟨b1, o1, rfl, hb1, hc1⟩ := H1.out (List.ne_nil_of_length_pos (by omega));obtain ⟨b2, o2, rfl, hb2, hc2⟩ := H2.out (List.ne_nil_of_length_pos (by omega));have x1 := zcq hbl hb1 (hc1 i ha1);have x2 := zcq hbl hb2 (hc2 i ha2);have HQ := hid (ba_same l[i] m[i]);have HNX : Hid (l[i] = m[i] -> ∀ j (_ : j < i + 1) (h1 : j < l.length) (h2 : j < m.length), l[j] = m[j]) := fun he j hj h1 h2 => by
     rcases Nat.lt_or_ge j i with h3 | h3
     ·exact HJ.out j h3 h1 h2
     ·obtain rfl : j = i := by omega
      exact he
    have HNO : Hid (l[i] ≠ m[i] -> false = res) := fun he => by rw [HR.out]; exact (decide_eq_false (list_not ha1 ha2 he)).symm
    generalize l[i] = q1 at *;generalize m[i] = q2 at *;have hin : (i : Int) < (n : Int) := by omega
    clear hc1 hc2 ha1 ha2;go_upto_region 6 with fail;rcases HQ.out with ⟨e, e1⟩ | ⟨e, e1, e2⟩
    ·have HE := hid (HNX.out e)
     clear e;go_quiet (fail);obtain ⟨w2, hw2⟩ : ∃ w2, w2 = wr.drewN nq := ⟨_, rfl⟩;have hb3 : Below w.heap.size w w2 := by rw [hw2]; exact hbl.trans ((below_drewN wr nq).mono hbl.size)
     rw [<- hw2];clear hw2 x1 x2;go_wp2_with fail;go_roundw
     case rel => exact ⟨i + 1, by go_num, by omega, HE, hb3⟩
     case measure => simp [RowKit.intOf]; omega
    ·have HE := hid (HNO.out e)
     clear e;go_quiet (fail);obtain ⟨w2, hw2⟩ : ∃ w2, w2 = wr.drewN nq := ⟨_, rfl⟩;have hb3 : Below w.heap.size w w2 := by rw [hw2]; exact hbl.trans ((below_drewN wr nq).mono hbl.size)
     rw [<- hw2];clear hw2 x1 x2;go_wp2_with fail;go_ret;exact ⟨_, rfl, congrArg Value.bool HE.out, hb3⟩
   ·obtain rfl : i = n := by omega
    have HE : Hid (true = res) := by unfold Hid; rw [HR.out]; exact (decide_eq_true (list_same HL.out (fun j h1 h2 => HJ.out j (by have := HN.out; omega) h1 h2))).symm
    go_wp2_with fail;go_ret;exact ⟨_, rfl, congrArg Value.bool HE.out, hbl⟩
 ·have hne : ((l.length : Int) != (m.length : Int)) = true := by rw [bne_iff_ne]; omega
  have HE : Hid (false = res) := by unfold Hid; rw [HR.out]; exact (decide_eq_false (fun e => hl (by rw [e]))).symm
  clear HR H1 H2;go_enter Tryz.func54, Tryz.ntmps54;go_wp2_with fail;go_ret;exact ⟨_, rfl, congrArg Value.bool HE.out, Below.refl _ _⟩
theorem equalR_any (v u : Value) (l m : List ByteArray) (w : World) (h : RdS w v l) (h2 : RdS w u m) :
 Calls Tryz.prog 99 #[v, u] w (Ret (fun r _ => r = .bool (decide (l = m))) w) := by
 obtain ⟨p1, c1, rfl, hlc, hm1, hr1⟩ := h.open;obtain ⟨p2, c2, rfl, hlc2, hm2, hr2⟩ := h2.open;unfold maxLen at hm1 hm2;have H1 := hid hr1;have H2 := hid hr2;obtain ⟨res, hres⟩ : ∃ r, r = decide (l = m) := ⟨_, rfl⟩;rw [<- hres];have HR := hid hres;clear hr1 hr2 h h2 hres;by_cases hl : l.length = m.length
 ·have hne : ((l.length : Int) != (m.length : Int)) = false := by rw [bne_eq_false_iff_eq]; omega
  have HL := hid hl;obtain ⟨n, hn⟩ : ∃ n, n = l.length := ⟨_, rfl⟩;have HN : Hid (n = l.length) := hn;have hn2 : m.length = n := by omega
  rw [hn2] at hne hlc2 ⊢;rw [<- hn] at hne hlc ⊢;clear hl hn hn2;go_enter Tryz.func99, Tryz.ntmps99;go_wp2_with fail;go_loopw [13] (fun t13 wr => ∃ i : Nat, t13 = .int .i64 i /\ i <= n /\ Hid (∀ j (_ : j < i) (h1 : j < l.length) (h2 : j < m.length), l[j] = m[j]) /\ Below w.heap.size w wr) (fun t13 _ => n - (RowKit.intOf t13).toNat)
  case atStart => exact ⟨0, rfl, Nat.zero_le _, fun j h => absurd h (by omega), Below.refl _ _⟩
  case round =>
   obtain ⟨i, rfl, hi, HJ, hbl⟩ := hrel;rcases Nat.lt_or_ge i n with h | h
   ·have ha1 : i < l.length := by have := HN.out; omega
    have ha2 : i < m.length := by have := HN.out; have := HL.out; omega
    obtain ⟨b1, o1, rfl, hb1, hc1⟩ := H1.out (List.ne_nil_of_length_pos (by omega));obtain ⟨b2, o2, rfl, hb2, hc2⟩ := H2.out (List.ne_nil_of_length_pos (by omega));have x1 := zcq hbl hb1 (hc1 i ha1);have x2 := zcq hbl hb2 (hc2 i ha2);have HQ := hid (ba_same l[i] m[i]);have HNX : Hid (l[i] = m[i] -> ∀ j (_ : j < i + 1) (h1 : j < l.length) (h2 : j < m.length), l[j] = m[j]) := fun he j hj h1 h2 => by
     rcases Nat.lt_or_ge j i with h3 | h3
     ·exact HJ.out j h3 h1 h2
     ·obtain rfl : j = i := by omega
      exact he
    have HNO : Hid (l[i] ≠ m[i] -> false = res) := fun he => by rw [HR.out]; exact (decide_eq_false (list_not ha1 ha2 he)).symm
    generalize l[i] = q1 at *;generalize m[i] = q2 at *;have hin : (i : Int) < (n : Int) := by omega
    clear hc1 hc2 ha1 ha2;go_upto_region 6 with fail;rcases HQ.out with ⟨e, e1⟩ | ⟨e, e1, e2⟩
    ·have HE := hid (HNX.out e)
     clear e;go_quiet (fail);obtain ⟨w2, hw2⟩ : ∃ w2, w2 = wr.drewN nq := ⟨_, rfl⟩;have hb3 : Below w.heap.size w w2 := by rw [hw2]; exact hbl.trans ((below_drewN wr nq).mono hbl.size)
     rw [<- hw2];clear hw2 x1 x2;go_wp2_with fail;go_roundw
     case rel => exact ⟨i + 1, by go_num, by omega, HE, hb3⟩
     case measure => simp [RowKit.intOf]; omega
    ·have HE := hid (HNO.out e)
     clear e;go_quiet (fail);obtain ⟨w2, hw2⟩ : ∃ w2, w2 = wr.drewN nq := ⟨_, rfl⟩;have hb3 : Below w.heap.size w w2 := by rw [hw2]; exact hbl.trans ((below_drewN wr nq).mono hbl.size)
     rw [<- hw2];clear hw2 x1 x2;go_wp2_with fail;go_ret;exact ⟨_, rfl, congrArg Value.bool HE.out, hb3⟩
   ·obtain rfl : i = n := by omega
    have HE : Hid (true = res) := by unfold Hid; rw [HR.out]; exact (decide_eq_true (list_same HL.out (fun j h1 h2 => HJ.out j (by have := HN.out; omega) h1 h2))).symm
    go_wp2_with fail;go_ret;exact ⟨_, rfl, congrArg Value.bool HE.out, hbl⟩
 ·have hne : ((l.length : Int) != (m.length : Int)) = true := by rw [bne_iff_ne]; omega
  have HE : Hid (false = res) := by unfold Hid; rw [HR.out]; exact (decide_eq_false (fun e => hl (by rw [e]))).symm
  clear HR H1 H2;go_enter Tryz.func99, Tryz.ntmps99;go_wp2_with fail;go_ret;exact ⟨_, rfl, congrArg Value.bool HE.out, Below.refl _ _⟩
theorem fEqual_any (v u : Value) (l m : List ByteArray) (w : World) (h : RdS w v l) (h2 : RdS w u m) :
 Calls Tryz.prog 53 #[v, u] w (Ret (fun r _ => r = .bool (decide (l = m))) w) := by
 have HI := hid (equalR_any v u l m w h h2);generalize decide (l = m) = z at *;clear h h2;go_enter Tryz.func53, Tryz.ntmps53;go_wp2_with fail;refine HI.out.mono ?_;rintro e w1 ⟨_, rfl, rfl, hb1⟩;go_wp2_with fail;go_ret;exact ⟨_, rfl, rfl, hb1⟩
theorem equalF_any (v u : Value) (l m : List (List ByteArray)) (w : World) (h : RdTx w v l) (h2 : RdTx w u m) :
 Calls Tryz.prog 55 #[v, u, .func (.func 53) #[] #[]] w (Ret (fun r _ => r = .bool (decide (l = m))) w) := by
 obtain ⟨p1, c1, rfl, hlc, hm1⟩ := h.shape;obtain ⟨p2, c2, rfl, hlc2, hm2⟩ := h2.shape;unfold maxLen at hm1 hm2;have H1 := hid h;have H2 := hid h2;obtain ⟨res, hres⟩ : ∃ r, r = decide (l = m) := ⟨_, rfl⟩;rw [<- hres];have HR := hid hres;clear h h2 hres;by_cases hl : l.length = m.length
 ·have hne : ((l.length : Int) != (m.length : Int)) = false := by rw [bne_eq_false_iff_eq]; omega
  have HL := hid hl;obtain ⟨n, hn⟩ : ∃ n, n = l.length := ⟨_, rfl⟩;have HN : Hid (n = l.length) := hn;have hn2 : m.length = n := by omega
  rw [hn2] at hne hlc2 H2 ⊢;rw [<- hn] at hne hlc H1 ⊢;clear hl hn hn2;go_enter Tryz.func55, Tryz.ntmps55;go_wp2_with fail;go_loopw [17] (fun t17 wr => ∃ i : Nat, t17 = .int .i64 i /\ i <= n /\ Hid (∀ j (_ : j < i) (h1 : j < l.length) (h2 : j < m.length), l[j] = m[j]) /\ Below w.heap.size w wr) (fun t17 _ => n - (RowKit.intOf t17).toNat)
  case atStart => exact ⟨0, rfl, Nat.zero_le _, fun j h => absurd h (by omega), Below.refl _ _⟩
  case round =>
   obtain ⟨i, rfl, hi, HJ, hbl⟩ := hrel;rcases Nat.lt_or_ge i n with h | h
   ·have ha1 : i < l.length := by have := HN.out; omega
    have ha2 : i < m.length := by have := HN.out; have := HL.out; omega
    obtain ⟨b1, o1, c1', e1, hb1, hc1⟩ := H1.out.cells (by omega);obtain ⟨b2, o2, c2', e2, hb2, hc2⟩ := H2.out.cells (by omega);injection e1 with e11 e12 e13
    injection e2 with e21 e22 e23
    clear e12 e22;subst e11 e13 e21 e23;obtain ⟨pa, ca, ka, hra⟩ := hc1 i ha1;obtain ⟨pb, cb, kb, hrb⟩ := hc2 i ha2;have x1 := zcq hbl hb1 ka;have x2 := zcq hbl hb2 kb;have HE := hid (fEqual_any _ _ _ _ wr (RdC.below hra hbl) (RdC.below hrb hbl));have HNX : Hid (l[i] = m[i] -> ∀ j (_ : j < i + 1) (h1 : j < l.length) (h2 : j < m.length), l[j] = m[j]) := fun he j hj h1 h2 => by
     rcases Nat.lt_or_ge j i with h3 | h3
     ·exact HJ.out j h3 h1 h2
     ·obtain rfl : j = i := by omega
      exact he
    have HNO : Hid (l[i] ≠ m[i] -> false = res) := fun he => by rw [HR.out]; exact (decide_eq_false (list_not ha1 ha2 he)).symm
    have HQ : Hid ((decide (l[i] = m[i]) = true -> l[i] = m[i]) /\ (decide (l[i] = m[i]) = false -> l[i] ≠ m[i])) := ⟨of_decide_eq_true, of_decide_eq_false⟩;generalize l[i] = q1 at *;generalize m[i] = q2 at *;generalize decide (q1 = q2) = bq at *;generalize q1.length = n1 at *;generalize q2.length = n2 at *;have hin : (i : Int) < (n : Int) := by omega
    clear hc1 hc2 ha1 ha2 hra hrb ka kb;go_wp2_with fail;refine HE.out.mono ?_;rintro e w3 ⟨_, rfl, rfl, hb3⟩;have hbl3 := hbl.trans (hb3.mono hbl.size);cases bq
    ·have HF := hid (HNO.out (HQ.out.2 rfl))
     clear HNO HQ HNX;go_wp2_with fail;go_ret;exact ⟨_, rfl, congrArg Value.bool HF.out, hbl3⟩
    ·have HF := hid (HNX.out (HQ.out.1 rfl))
     clear HNO HQ HNX;go_wp2_with fail;go_roundw
     case rel => exact ⟨i + 1, by go_num, by omega, HF, hbl3⟩
     case measure => simp [RowKit.intOf]; omega
   ·obtain rfl : i = n := by omega
    have HE : Hid (true = res) := by unfold Hid; rw [HR.out]; exact (decide_eq_true (list_same HL.out (fun j h1 h2 => HJ.out j (by have := HN.out; omega) h1 h2))).symm
    go_wp2_with fail;go_ret;exact ⟨_, rfl, congrArg Value.bool HE.out, hbl⟩
 ·have hne : ((l.length : Int) != (m.length : Int)) = true := by rw [bne_iff_ne]; omega
  have HE : Hid (false = res) := by unfold Hid; rw [HR.out]; exact (decide_eq_false (fun e => hl (by rw [e]))).symm
  clear HR H1 H2;go_enter Tryz.func55, Tryz.ntmps55;go_wp2_with fail;go_ret;exact ⟨_, rfl, congrArg Value.bool HE.out, Below.refl _ _⟩
structure DepR (w : World) (vb vu vs : Value) (b : List ByteArray) (U : List ByteArray) (S : List (List ByteArray)) : Prop where
 base : RdS w vb b
 unit : RdS w vu U
 surf : RdTx w vs S
theorem DepR.below {w w' : World} {vb vu vs : Value} {b U : List ByteArray} {S : List (List ByteArray)} (h : DepR w vb vu vs b U S) (hb : Below w.heap.size w w') : DepR w' vb vu vs b U S :=
 ⟨RdC.below h.base hb, RdC.below h.unit hb, h.surf.below hb⟩
theorem DepR.open {w : World} {vb vu vs : Value} {b U : List ByteArray} {S : List (List ByteArray)} (h : DepR w vb vu vs b U S) : ∃ pb cb pu cu ps cs, vb = .slice pb b.length cb /\ vu = .slice pu U.length cu /\ vs = .slice ps S.length cs := by
 obtain ⟨pb, cb, e1, -, -, -⟩ := h.base.open;obtain ⟨pu, cu, e2, -, -, -⟩ := h.unit.open;obtain ⟨ps, cs, e3, -, -⟩ := h.surf.shape;exact ⟨pb, cb, pu, cu, ps, cs, e1, e2, e3⟩
theorem sEqual_any (w : World) (vb vu vs vb' vu' vs' : Value) (b U b' U' : List ByteArray) (S S' : List (List ByteArray)) (h : DepR w vb vu vs b U S) (h' : DepR w vb' vu' vs' b' U' S') :
 Calls Tryz.prog 16 #[.agg #[vb, vu, vs], .agg #[vb', vu', vs']] w (Ret (fun r _ => r = .bool (decide (b = b' /\ U = U' /\ S = S'))) w) := by
 have HD := hid h;have HD' := hid h';obtain ⟨pb, cb, pu, cu, ps, cs, rfl, rfl, rfl⟩ := h.open;obtain ⟨pb', cb', pu', cu', ps', cs', rfl, rfl, rfl⟩ := h'.open;have H1 : Hid (∀ w', Below w.heap.size w w' -> _) := fun w' hb => fEqual_any _ _ _ _ w' (HD.out.below hb).base (HD'.out.below hb).base;have H2 : Hid (∀ w', Below w.heap.size w w' -> _) := fun w' hb => equalS_any _ _ _ _ w' (HD.out.below hb).unit (HD'.out.below hb).unit;have H3 : Hid (∀ w', Below w.heap.size w w' -> _) := fun w' hb => equalF_any _ _ _ _ w' (HD.out.below hb).surf (HD'.out.below hb).surf;have HR : Hid (decide (b = b' /\ U = U' /\ S = S') = (decide (b = b') && (decide (U = U') && decide (S = S')))) := by
  unfold Hid;by_cases h1 : b = b' <;> by_cases h2 : U = U' <;> by_cases h3 : S = S' <;> simp [h1, h2, h3]
 generalize decide (b = b' /\ U = U' /\ S = S') = res at *;generalize decide (b = b') = r1 at *;generalize decide (U = U') = r2 at *;generalize decide (S = S') = r3 at *;generalize b.length = lb at *;generalize b'.length = lb' at *;generalize U.length = lu at *;generalize U'.length = lu' at *;generalize S.length = ls at *;generalize S'.length = ls' at *;clear h h' HD HD';go_enter Tryz.func16, Tryz.ntmps16;go_wp2_with fail;obtain ⟨W, hW⟩ : ∃ W, W = (w.alloc (.cells #[.slice pb lb cb, .slice pu lu cu, .slice ps ls cs] 43)).alloc (.cells #[.slice pb' lb' cb', .slice pu' lu' cu', .slice ps' ls' cs'] 43) := ⟨_, rfl⟩;have hB : Below w.heap.size w W := by rw [hW]; exact zal2 _ _ _
 have c2 : BoxN W (w.heap.size + 1) 43 [.slice pb' lb' cb', .slice pu' lu' cu', .slice ps' ls' cs'] := by rw [hW]; exact BoxN.new _ _ _ _ (by simp)
 have c1 : BoxN W w.heap.size 43 [.slice pb lb cb, .slice pu lu cu, .slice ps ls cs] := by
  rw [hW];have h1 := (BoxN.new w #[.slice pb lb cb, .slice pu lu cu, .slice ps ls cs] 43 _ rfl);exact h1.below (zal _ _) h1.lt
 have a0 := c1.cell 0 rfl;have b0 := c2.cell 0 rfl;rw [<- hW];clear hW;refine (H1.out W hB).mono ?_;rintro e w1 ⟨_, rfl, rfl, hb1⟩;have hB1 := hB.trans (hb1.mono hB.size);replace c1 := c1.below hb1 c1.lt;replace c2 := c2.below hb1 c2.lt;clear a0 b0;have a1 := c1.cell 1 rfl;have b1 := c2.cell 1 rfl;cases r1
 ·have HF : Hid (res = false) := HR.out
  clear HR;go_wp2_with fail;go_ret;exact ⟨_, rfl, congrArg Value.bool HF.out.symm, hB1⟩
 ·go_wp2_with fail
  refine (H2.out w1 hB1).mono ?_;rintro e w2 ⟨_, rfl, rfl, hb2⟩;have hB2 := hB1.trans (hb2.mono hB1.size);replace c1 := c1.below hb2 c1.lt;replace c2 := c2.below hb2 c2.lt;clear a1 b1;have a2 := c1.cell 2 rfl;have b2 := c2.cell 2 rfl;cases r2
  ·have HF : Hid (res = false) := HR.out
   clear HR;go_wp2_with fail;go_ret;exact ⟨_, rfl, congrArg Value.bool HF.out.symm, hB2⟩
  ·go_wp2_with fail
   refine (H3.out w2 hB2).mono ?_;rintro e w3 ⟨_, rfl, rfl, hb3⟩;have hB3 := hB2.trans (hb3.mono hB2.size);have HF : Hid (res = r3) := by unfold Hid; rw [HR.out]; simp
   clear HR;go_wp2_with fail;go_ret;exact ⟨_, rfl, congrArg Value.bool HF.out.symm, hB3⟩
abbrev StepQ := List Int × Bool
def cellsSt (H : List StepQ) : List Value := H.flatMap fun h => h.1.map (fun x => Value.int .i8 x) ++ [Value.bool h.2]
def RdSt (w : World) (v : Value) (H : List StepQ) : Prop := RdC 7 w v H.length (cellsSt H) /\ ∀ h ∈ H, h.1.length = 6 /\ ∀ x ∈ h.1, -128 <= x /\ x <= 127
theorem RdSt.below {w w' : World} {v : Value} {H : List StepQ} (h : RdSt w v H) (hb : Below w.heap.size w w') : RdSt w' v H := ⟨RdC.below h.1 hb, h.2⟩
theorem cellsSt_get : ∀ (H : List StepQ) (_ : ∀ h ∈ H, h.1.length = 6) (i j : Nat) (hi : i < H.length) (_ : j < 7), (cellsSt H)[i * 7 + j]? = (H[i].1.map (fun x => Value.int .i8 x) ++ [Value.bool H[i].2])[j]?
 | [], _, i, j, hi, _ => by simp at hi
 | h :: H, hl, 0, j, hi, hj => by
   have h6 := hl h (by simp);unfold cellsSt;rw [List.flatMap_cons, List.getElem?_append_left (by simp; omega)];simp
 | h :: H, hl, i + 1, j, hi, hj => by
   have h6 := hl h (by simp);have ih := cellsSt_get H (fun x hx => hl x (by simp [hx])) i j (by simp at hi; omega) hj;unfold cellsSt at ih ⊢;rw [List.flatMap_cons, List.getElem?_append_right (by simp; omega), List.getElem_cons_succ];rw [<- ih];congr 1;simp;omega
theorem list_six {l : List Int} (h : l.length = 6) : ∃ a b c d e f, l = [a, b, c, d, e, f] := by
 match l, h with
 | [a, b, c, d, e, f], _ => exact ⟨a, b, c, d, e, f, rfl⟩
theorem RdSt.cells {w : World} {v : Value} {H : List StepQ} (h : RdSt w v H) {i : Nat} (hi : i < H.length) : ∃ (b o c : Nat) (x0 x1 x2 x3 x4 x5 : Int) (bh : Bool), v = .slice (some ⟨b, o, none⟩) H.length c /\ b < w.heap.size /\ H[i] = ([x0, x1, x2, x3, x4, x5], bh) /\ (∀ x ∈ [x0, x1, x2, x3, x4, x5], -128 <= x /\ x <= 127) /\
 w.cell? ⟨b, o + i * 7, none⟩ = some (.int .i8 x0) /\ w.cell? ⟨b, o + i * 7 + 1, none⟩ = some (.int .i8 x1) /\ w.cell? ⟨b, o + i * 7 + 2, none⟩ = some (.int .i8 x2) /\ w.cell? ⟨b, o + i * 7 + 3, none⟩ = some (.int .i8 x3) /\ w.cell? ⟨b, o + i * 7 + 4, none⟩ = some (.int .i8 x4) /\ w.cell? ⟨b, o + i * 7 + 5, none⟩ = some (.int .i8 x5) /\ w.cell? ⟨b, o + i * 7 + 6, none⟩ = some (.bool bh) := by
 obtain ⟨⟨p, c, rfl, h1, h2, h3, h4⟩, h5⟩ := h;obtain ⟨b, o, rfl, hc⟩ := h4 (List.ne_nil_of_length_pos (by omega));obtain ⟨h6, h7⟩ := h5 H[i] (List.getElem_mem hi);obtain ⟨x0, x1, x2, x3, x4, x5, hx⟩ := list_six h6;have hg : ∀ j u, j < 7 -> (([x0, x1, x2, x3, x4, x5].map (fun x => Value.int .i8 x) ++ [Value.bool H[i].2])[j]? = some u) -> w.cell? ⟨b, o + i * 7 + j, none⟩ = some u := fun j u hj hu => by
  have h8 := cellsSt_get H (fun h hh => (h5 h hh).1) i j hi hj;rw [hx] at h8;have := hc (i * 7 + j) u (by rw [h8]; exact hu);rw [<- Nat.add_assoc] at this;exact this
 refine ⟨b, o, c, x0, x1, x2, x3, x4, x5, H[i].2, rfl, World.block_lt_of_cell? w _ (hg 0 _ (by omega) rfl), Prod.ext hx rfl, ?_, hg 0 _ (by omega) rfl, hg 1 _ (by omega) rfl, hg 2 _ (by omega) rfl, hg 3 _ (by omega) rfl, hg 4 _ (by omega) rfl, hg 5 _ (by omega) rfl, hg 6 _ (by omega) rfl⟩;rw [<- hx];exact h7
theorem boxK_far28 {w : World} {b c t i : Nat} {l : List Value} {v : Value} (h : BoxN w b t l) (hne : b ≠ c) : BoxN (w.setCell ⟨c, i, none⟩ v) b t l :=
 (Below.heap_setCell _ _ _ b (fun e => hne e)).trans h
theorem info_Sg : (Tryz.prog.info? 9).map (fun i => (i.zero, i.size, i.bytes)) = some (some (.string ⟨#[]⟩), 1, 16) := by kernel_rfl
theorem info_Fd : (Tryz.prog.info? 39).map (fun i => (i.zero, i.size, i.bytes)) = some (some (.slice none 0 0), 1, 24) := by kernel_rfl
end Go.Proofs.YtgdpoankaojklaaGreatDoor
