/- Errors of meshes and fields, handed on; slices.Clone. -/
import Derived.Test.YtjfjkiibmfgplaaGreatDoorY5
namespace Go.Proofs.YtjfjkiibmfgplaaGreatDoor
open Go.RowKit Go.Lib

/-- The error of a mesh of right points and triangles, without a triangle perhaps. -/
def checkE (P : List PtQ) (T : List Tri) : Int := if T = [] then 13 else checkZ P T

theorem check_empty (w : World) (vp vt : Value) (P : List PtQ) (hp : RdP w vp (strP P)) (ht : RdT w vt []) :
    Calls Tryz.prog 40 #[.agg #[vp, vt]] w (Ret (fun r _ => r = .int .i64 13) w) := by
  obtain ⟨pp, cp, rfl, -, -, -⟩ := hp.open
  obtain ⟨pt, ct, rfl, -, -, -⟩ := ht.open
  clear hp ht
  go_enter Tryz.func40, Tryz.ntmps40
  go_wp2_with fail
  go_ret
  exact ⟨_, rfl, rfl, (Below.refl _ _).alloc (Nat.le_refl _) _⟩
theorem check_gen (w : World) (vp vt : Value) (P : List PtQ) (T : List Tri) (hp : RdP w vp (strP P)) (ht : RdT w vt T) (hm : T ≠ [] → MeshPre P T 2) (hg : Good w) :
    Calls Tryz.prog 40 #[.agg #[vp, vt]] w (Ret (fun r _ => r = .int .i64 (checkE P T)) w) := by
  unfold checkE
  by_cases h : T = []
  · rw [if_pos h]
    rw [h] at ht
    exact check_empty w vp vt P hp ht
  · rw [if_neg h]
    exact check_pre w vp vt P T 2 rfl hp ht (hm h) hg

theorem checks_err (w : World) (vp vt vs : Value) (e : Int) (pp pt : Option Addr) (np cp nt ct : Nat) (h1 : vp = .slice pp np cp) (h2 : vt = .slice pt nt ct)
    (HCK : ∀ w', Below w.heap.size w w' → Good w' → Calls Tryz.prog 40 #[.agg #[vp, vt]] w' (Ret (fun r _ => r = .int .i64 e) w')) (he : e ≠ 0) (hg : Good w) :
    Calls Tryz.prog 59 #[.agg #[vp, vt], vs] w (Ret (fun r _ => r = .int .i64 e) w) := by
  have HC := Lib.hid HCK
  subst h1 h2
  have hb1 : Below w.heap.size w (w.alloc (.cells #[.slice pp np cp, .slice pt nt ct] 40)) := (Below.refl _ _).alloc (Nat.le_refl _) _
  have hgg := hg.below hb1
  clear HCK
  go_enter Tryz.func59, Tryz.ntmps59
  go_wp2_with fail
  refine (HC.out _ hb1 hgg).mono ?_
  rintro x w1 ⟨_, rfl, rfl, hb2⟩
  have hB := hb1.trans (hb2.mono hb1.size)
  clear hb1 hb2 hgg
  go_wp2_with fail
  go_ret
  exact ⟨_, rfl, rfl, hB⟩
theorem fcheck_err (w : World) (vp vt vf : Value) (e : Int) (pp pt pf : Option Addr) (np cp nt ct nf cf : Nat) (h1 : vp = .slice pp np cp) (h2 : vt = .slice pt nt ct) (h3 : vf = .slice pf nf cf)
    (HCK : ∀ w', Below w.heap.size w w' → Good w' → Calls Tryz.prog 40 #[.agg #[vp, vt]] w' (Ret (fun r _ => r = .int .i64 e) w')) (he : e ≠ 0) (hg : Good w) :
    Calls Tryz.prog 39 #[.agg #[vp, vt], vf] w (Ret (fun r _ => r = .int .i64 e) w) := by
  have HC : Hid (∀ (vs : Value) w', Below w.heap.size w w' → Good w' → _) := fun vs w' hb hg' => checks_err w' vp vt vs e pp pt np cp nt ct h1 h2 (fun w'' hb' hg'' => HCK w'' (hb.trans (hb'.mono hb.size)) hg'') he hg'
  subst h1 h2 h3
  have hb1 : Below w.heap.size w ((w.alloc (.cells #[.slice pp np cp, .slice pt nt ct] 40)).alloc (.cells #[.slice pf nf cf] 42)) := ((Below.refl _ _).alloc (Nat.le_refl _) _).alloc (by simp) _
  have hgg := hg.below hb1
  clear HCK
  go_enter Tryz.func39, Tryz.ntmps39
  go_wp2_with fail
  refine (HC.out _ _ hb1 hgg).mono ?_
  rintro x w1 ⟨_, rfl, rfl, hb2⟩
  have hB := hb1.trans (hb2.mono hb1.size)
  clear hb1 hb2 hgg
  go_wp2_with fail
  go_ret
  exact ⟨_, rfl, rfl, hB⟩

theorem contours_err (w : World) (vp vt vf : Value) (e : Int) (pp pt pf : Option Addr) (np cp nt ct nf cf : Nat) (h1 : vp = .slice pp np cp) (h2 : vt = .slice pt nt ct) (h3 : vf = .slice pf nf cf) (x y : ByteArray) (n : Int)
    (HFC : ∀ w', Below w.heap.size w w' → Good w' → Calls Tryz.prog 39 #[.agg #[vp, vt], vf] w' (Ret (fun r _ => r = .int .i64 e) w')) (he : e ≠ 0) (hg : Good w) :
    Calls Tryz.prog 41 #[.agg #[vp, vt], vf, .agg #[.string x, .string y, .int .i64 n]] w (Ret (fun r _ => r = .tuple #[.slice none 0 0, .int .i64 e]) w) := by
  have HC := Lib.hid HFC
  subst h1 h2 h3
  have hb1 : Below w.heap.size w ((w.alloc (.cells #[.slice pp np cp, .slice pt nt ct] 40)).alloc (.cells #[.string x, .string y, .int .i64 n] 93)) := ((Below.refl _ _).alloc (Nat.le_refl _) _).alloc (by simp) _
  have hgg := hg.below hb1
  clear HFC
  go_enter Tryz.func41, Tryz.ntmps41
  go_wp2_with fail
  refine (HC.out _ hb1 hgg).mono ?_
  rintro x w1 ⟨_, rfl, rfl, hb2⟩
  have hB := hb1.trans (hb2.mono hb1.size)
  clear hb1 hb2 hgg
  go_wp2_with fail
  go_ret2
  exact ⟨_, rfl, rfl, hB⟩
theorem dips_err (w : World) (vp vt vf : Value) (e : Int) (pp pt pf : Option Addr) (np cp nt ct nf cf : Nat) (h1 : vp = .slice pp np cp) (h2 : vt = .slice pt nt ct) (h3 : vf = .slice pf nf cf)
    (HFC : ∀ w', Below w.heap.size w w' → Good w' → Calls Tryz.prog 39 #[.agg #[vp, vt], vf] w' (Ret (fun r _ => r = .int .i64 e) w')) (he : e ≠ 0) (hg : Good w) :
    Calls Tryz.prog 42 #[.agg #[vp, vt], vf] w (Ret (fun r _ => r = .tuple #[.slice none 0 0, .int .i64 e]) w) := by
  have HC := Lib.hid HFC
  subst h1 h2 h3
  have hb1 : Below w.heap.size w (w.alloc (.cells #[.slice pp np cp, .slice pt nt ct] 40)) := (Below.refl _ _).alloc (Nat.le_refl _) _
  have hgg := hg.below hb1
  clear HFC
  go_enter Tryz.func42, Tryz.ntmps42
  go_wp2_with fail
  refine (HC.out _ hb1 hgg).mono ?_
  rintro x w1 ⟨_, rfl, rfl, hb2⟩
  have hB := hb1.trans (hb2.mono hb1.size)
  clear hb1 hb2 hgg
  go_wp2_with fail
  go_ret2
  exact ⟨_, rfl, rfl, hB⟩

theorem fld_nil (a : Addr) (n c : Nat) (w : World) : (binOp BinOp.eql 42 (.slice (some a) n c) (.slice none 0 0)).run Tryz.prog w = .ok (.bool false) w := by kernel_rfl
set_option maxRecDepth 100000 in
theorem clone_any (w : World) (vl : Value) (L : List Rat) (h : RdQ w vl L) (hne : L ≠ []) (hl : L.length ≤ 1000000) :
    Calls Tryz.prog 38 #[vl] w (Ret (fun r w' => w'.ownsRow w.heap.size 33 1 r L.length (L.map fun q => Value.string (RS q))) w) := by
  obtain ⟨p, c, rfl, hlc, hm, hr⟩ := h.open
  obtain ⟨b, off, rfl, hb, hcell⟩ := hr hne
  have hl0 := List.length_pos_iff.2 hne
  obtain ⟨i0, hi, hz0, hz1, hz2⟩ := info_parts info_str
  have HN : Hid (∀ o, ∀ (j : Nat) (u : Value), (L.map fun q => Value.string (RS q))[j]? = some u → (w.alloc o).cell? ((⟨b, off, none⟩ : Addr).add j) = some u) := fun o j u hu => by
    rw [List.getElem?_map] at hu
    rcases Nat.lt_or_ge j L.length with hj | hj
    · rw [List.getElem?_eq_getElem hj] at hu
      injection hu with hu
      subst hu
      have hadd : (⟨b, off, none⟩ : Addr).add j = ⟨b, off + j, none⟩ := by unfold Addr.add; split <;> simp_all
      rw [hadd]
      exact cell_alloc_l o (hcell j hj)
    · rw [List.getElem?_eq_none hj] at hu; cases hu
  have HO : Hid (∀ u ∈ (L.map fun q => Value.string (RS q)), u.oneCell' = true) := fun u hu => by
    obtain ⟨q, _, rfl⟩ := List.mem_map.1 hu
    rfl
  clear h hr hcell hne
  have hnil := fld_nil
  go_enter Tryz.func38, Tryz.ntmps38
  go_wp2_with (at_builtin; refine wpList_append_own _ rfl _ _ 42 rfl w.heap.size 33 i0 (.string ⟨#[]⟩) 1 16 Tryz.underlying42 hi hz0 hz1 hz2 rfl (by decide) (.slice (some ⟨w.heap.size, 0, none⟩) 0 0) 0 [] rfl (World.ownsRow_made w #[] 0 (Nat.le_refl _) (by decide) rfl) ⟨b, off, none⟩ L.length c (L.map fun q => Value.string (RS q)) rfl (by simp) (HN.out _) HO.out (by unfold maxLen; omega) (by omega) (by simp) ?_
               intro v7 w7 hown7 hgrow7 _
               have hb7 : Below w.heap.size w w7 := ((Below.refl _ _).alloc (Nat.le_refl _) _).grown hgrow7 (by simp) (fun j hj => by simp [Value.ownBlock] at hj; omega)
               clear hgrow7)
  have HOW : Hid (w7.ownsRow w.heap.size 33 1 v7 L.length (L.map fun q => Value.string (RS q))) := by
    rw [Nat.zero_add, List.nil_append] at hown7
    exact hown7
  clear hown7
  go_wp2_with fail
  go_ret
  exact ⟨_, rfl, HOW.out, hb7⟩
end Go.Proofs.YtjfjkiibmfgplaaGreatDoor
