import Derived.Laws.StructEq
import Derived.Test.YtegiemcnfbchoaaGreatDoorPF42
/- The walks over klipperef05.At, klippelaw13.example. The walk over klippelaw13.known. The beginning that the laws of klippelaw13 have alike. klippelaw13.FieldProfiles The walks over klipperef05.Toward, klippelaw13.Part. -/
set_option maxHeartbeats 16000000
set_option maxRecDepth 100000
namespace Go.Proofs.YtegiemcnfbchoaaGreatDoor
open Go.RowKit Go.Lib
theorem zga {α : Type} {xs : List α} {i : Nat} (h : i < xs.toArray.size) : xs.toArray[i] = xs[i]'(by simpa using h) := List.getElem_toArray h
theorem zgz {α : Type} (a : α) (l : List α) (h : 0 < (a :: l).length) : (a :: l)[0] = a := List.getElem_cons_zero ..
theorem zgs {α : Type} (a : α) (l : List α) (i : Nat) (h : i + 1 < (a :: l).length) : (a :: l)[i + 1] = l[i]'(by simpa using h) := List.getElem_cons_succ ..
theorem zsa {α : Type} (l : List α) (i : Nat) (a : α) : l.toArray.setIfInBounds i a = (l.set i a).toArray := List.setIfInBounds_toArray ..
theorem zsz {α : Type} {x : α} {xs : List α} {a : α} : (x :: xs).set 0 a = a :: xs := List.set_cons_zero ..
theorem zss {α : Type} {x : α} {xs : List α} {i : Nat} {a : α} : (x :: xs).set (i + 1) a = x :: xs.set i a := List.set_cons_succ ..
theorem at05_any (x y : Int) (hx : -1000 <= x /\ x <= 1000) (hy : -1000 <= y /\ y <= 1000) (w : World) (hg : Good w) :
 Calls Tryz.prog 27 #[.int .i64 x, .int .i64 y] w (Ret (fun r _ => r = .agg #[.string (RS (x : Rat)), .string (RS (y : Rat))]) w) := by
 have key : ∀ z : Int, mkRat z 1 = (z : Rat) := fun z => by rw [<- Rat.mkRat_self (z : Rat)]; rfl
 have H1 := hid fun w hg => ofQ_any x 1 x 1 1 rfl (by omega) (by omega) (by omega) (.inl ⟨rfl, rfl⟩) w hg
 have H2 := hid fun w hg => ofQ_any y 1 y 1 1 rfl (by omega) (by omega) (by omega) (.inl ⟨rfl, rfl⟩) w hg
 rw [key] at H1 H2;generalize RS (x : Rat) = px at *;generalize RS (y : Rat) = py at *;clear key;go_enter Tryz.func27, Tryz.ntmps27;go_wp2_with fail;obtain ⟨W, hW⟩ : ∃ W, W = w.alloc (.cells #[.string ⟨#[]⟩, .string ⟨#[]⟩] 33) := ⟨_, rfl⟩;have hB : Below w.heap.size w W := by rw [hW]; exact zal _ _
 have b4 : BoxN W w.heap.size 33 [.string ⟨#[]⟩, .string ⟨#[]⟩] := by rw [hW]; exact BoxN.new _ _ _ _ rfl
 rw [<- hW];clear hW;refine (H1.out W (hg.below hB)).mono ?_;rintro e w1 ⟨_, rfl, rfl, hb1⟩;have hB1 := hB.trans (hb1.mono hB.size);have b41 := b4.below hb1 b4.lt;clear hb1 b4;go_wp2_with fail;refine (H2.out w1 (hg.below hB1)).mono ?_;rintro e w2 ⟨_, rfl, rfl, hb2⟩;have hB2 := hB1.trans (hb2.mono hB1.size);have b42 := b41.below hb2 b41.lt;have c0 := b42.cell 0 rfl;have c1 := b42.cell 1 rfl;have d0 := b42.frozen 0;have d1 := b42.frozen 1;clear hb2 b41;go_wp2_with fail;have BF := (b42.set 0 (.string px)).set 1 (.string py);have hBF := (hB2.setCell (p := ⟨w.heap.size, 0, none⟩) (Nat.le_refl _) (.string px)).setCell (p := ⟨w.heap.size, 1, none⟩) (Nat.le_refl _) (.string py);have g0 := BF.cell 0 rfl;have g1 := BF.cell 1 rfl;exact bodyPost_ret (v := .agg #[.string px, .string py]) (by simp [results, Tryz.results27, go_sem, g0, g1]) rfl ⟨_, rfl, rfl, hBF⟩
def exP : List PtQ := [(0, 0), (2, 0), (2, 2), (0, 2)]
def exT : List Tri := [(0, 1, 2), (0, 2, 3)]
def exF : List Rat := [0, 2, 4, 0]
theorem ex_ok : MeshOK exP exT 2 := by
 have h := sheet_ok 0 0 0 true;rw [show sPP 0 0 0 true = exP by decide +kernel, show sTT 0 = exT from rfl] at h;exact h
theorem ex_cellsP : cellsP (strP exP) = [.string (RS ((0 : Int) : Rat)), .string (RS ((0 : Int) : Rat)), .string (RS ((2 : Int) : Rat)), .string (RS ((0 : Int) : Rat)), .string (RS ((2 : Int) : Rat)), .string (RS ((2 : Int) : Rat)), .string (RS ((0 : Int) : Rat)), .string (RS ((2 : Int) : Rat))] := rfl
theorem ex_neP : ∀ y ∈ cellsP (strP exP), y ≠ .slice none 0 0 := by
 intro y hy;rw [ex_cellsP] at hy;simp only [List.mem_cons, List.not_mem_nil, or_false] at hy;rcases hy with rfl | rfl | rfl | rfl | rfl | rfl | rfl | rfl <;> exact fun e => by cases e
theorem ex_neT : ∀ y ∈ cellsT exT, y ≠ .slice none 0 0 := by
 intro y hy;rw [show cellsT exT = [.int .i64 0, .int .i64 1, .int .i64 2, .int .i64 0, .int .i64 2, .int .i64 3] from rfl] at hy;simp only [List.mem_cons, List.not_mem_nil, or_false] at hy;rcases hy with rfl | rfl | rfl | rfl | rfl | rfl <;> exact fun e => by cases e
theorem ex_cellsF : [.string ⟨#[48]⟩, .string ⟨#[50]⟩, .string ⟨#[52]⟩, .string ⟨#[48]⟩] = exF.map fun x => Value.string (RS x) := by
 show _ = [Value.string (RS 0), .string (RS 2), .string (RS 4), .string (RS 0)];rw [show RS 0 = ⟨#[48]⟩ by decide +kernel, show RS 2 = ⟨#[50]⟩ by decide +kernel, show RS 4 = ⟨#[52]⟩ by decide +kernel]
theorem ex_neF : ∀ y ∈ exF.map (fun x => Value.string (RS x)), y ≠ .slice none 0 0 := by
 intro y hy;obtain ⟨x, _, rfl⟩ := List.mem_map.1 hy;exact fun e => by cases e
theorem ex_fs : ∀ q ∈ exF, Sz 2 q := by
 intro q hq;simp only [exF, List.mem_cons, List.not_mem_nil, or_false] at hq;rcases hq with rfl | rfl | rfl | rfl <;> exact ⟨by decide +kernel, by decide +kernel⟩
theorem example_any (w : World) (hg : Good w) :
 Calls Tryz.prog 26 #[] w (Ret (fun r w' => ∃ vp vt vf, r = .tuple #[.agg #[vp, vt], vf] /\ FieldIn w' vp vt vf exP exT 2 exF) w) := by
 have H0 := hid fun w hg => at05_any 0 0 (by omega) (by omega) w hg
 have H1 := hid fun w hg => at05_any 2 0 (by omega) (by omega) w hg
 have H2 := hid fun w hg => at05_any 2 2 (by omega) (by omega) w hg
 have H3 := hid fun w hg => at05_any 0 2 (by omega) (by omega) w hg
 have HCP := hid ex_cellsP;have HCF := hid ex_cellsF;generalize RS ((0 : Int) : Rat) = s0 at *;generalize RS ((2 : Int) : Rat) = s2 at *;go_enter Tryz.func26, Tryz.ntmps26;go_wp2_with fail;obtain ⟨W, hW⟩ : ∃ W, W = w.alloc (.cells #[.slice none 0 0, .slice none 0 0] 38) := ⟨_, rfl⟩;have hB : Below w.heap.size w W := by rw [hW]; exact zal _ _
 have b0 : BoxN W w.heap.size 38 [.slice none 0 0, .slice none 0 0] := by rw [hW]; exact BoxN.new _ _ _ _ rfl
 rw [<- hW];clear hW;refine (H0.out W (hg.below hB)).mono ?_;rintro e w1 ⟨_, rfl, rfl, hb1⟩;have hB1 := hB.trans (hb1.mono hB.size);have b1 := b0.below hb1 b0.lt;go_wp2_with fail;refine (H1.out w1 (hg.below hB1)).mono ?_;rintro e w2 ⟨_, rfl, rfl, hb2⟩;have hB2 := hB1.trans (hb2.mono hB1.size);have b2 := b1.below hb2 b1.lt;go_wp2_with fail;refine (H2.out w2 (hg.below hB2)).mono ?_;rintro e w3 ⟨_, rfl, rfl, hb3⟩;have hB3 := hB2.trans (hb3.mono hB2.size);have b3 := b2.below hb3 b2.lt;go_wp2_with fail;refine (H3.out w3 (hg.below hB3)).mono ?_;rintro e w4 ⟨_, rfl, rfl, hb4⟩;have hB4 := hB3.trans (hb4.mono hB3.size);have b4 := b3.below hb4 b3.lt;clear hb1 hb2 hb3 hb4 b0 b1 b2 b3;have c0 := b4.cell 0 rfl;have c1 := b4.cell 1 rfl;have f0 := b4.frozen 0;have f1 := b4.frozen 1;have hl := b4.lt;have c0_1 := fun o => (b4.alloc o).cell 0 rfl;have c1_1 := fun o => (b4.alloc o).cell 1 rfl;have f0_1 := fun o => (b4.alloc o).frozen 0;have f1_1 := fun o => (b4.alloc o).frozen 1;have c0_2 := fun o p => ((b4.alloc o).alloc p).cell 0 rfl;have c1_2 := fun o p => ((b4.alloc o).alloc p).cell 1 rfl;have f0_2 := fun o p => ((b4.alloc o).alloc p).frozen 0;have f1_2 := fun o p => ((b4.alloc o).alloc p).frozen 1;have c0_3 := fun o p q => (((b4.alloc o).alloc p).alloc q).cell 0 rfl;have c1_3 := fun o p q => (((b4.alloc o).alloc p).alloc q).cell 1 rfl;have f0_3 := fun o p q => (((b4.alloc o).alloc p).alloc q).frozen 0;have f1_3 := fun o p q => (((b4.alloc o).alloc p).alloc q).frozen 1;go_wp2_with fail;have bX := ((b4.alloc (.cells #[.string s0, .string s0, .string s2, .string s0, .string s2, .string s2, .string s0, .string s2] 33)).alloc (.cells #[.int .i64 0, .int .i64 1, .int .i64 2, .int .i64 0, .int .i64 2, .int .i64 3] 71)).alloc (.cells #[.string ⟨#[48]⟩, .string ⟨#[50]⟩, .string ⟨#[52]⟩, .string ⟨#[48]⟩] 31);have k0 := bX.cell 0 rfl;have k1 := (bX.set 0 (.slice (some ⟨w4.heap.size, 0, none⟩) 4 4)).cell 1 rfl;have BF := (bX.set 0 (.slice (some ⟨w4.heap.size, 0, none⟩) 4 4)).set 1 (.slice (some ⟨w4.heap.size + 1, 0, none⟩) 2 2);have g0 := BF.cell 0 rfl;have g1 := BF.cell 1 rfl;have hs4 := hB4.size;have hBF := ((((hB4.alloc hB4.size (.cells #[.string s0, .string s0, .string s2, .string s0, .string s2, .string s2, .string s0, .string s2] 33)).alloc (by simp; omega) (.cells #[.int .i64 0, .int .i64 1, .int .i64 2, .int .i64 0, .int .i64 2, .int .i64 3] 71)).alloc (by simp; omega) (.cells #[.string ⟨#[48]⟩, .string ⟨#[50]⟩, .string ⟨#[52]⟩, .string ⟨#[48]⟩] 31)).setCell (p := ⟨w.heap.size, 0, none⟩) (Nat.le_refl _) (.slice (some ⟨w4.heap.size, 0, none⟩) 4 4)).setCell (p := ⟨w.heap.size, 1, none⟩) (Nat.le_refl _) (.slice (some ⟨w4.heap.size + 1, 0, none⟩) 2 2);have hp := ((RdC.fresh 2 w4 #[.string s0, .string s0, .string s2, .string s0, .string s2, .string s2, .string s0, .string s2] 33 4 rfl (by omega) _ HCP.out.symm _ rfl).alloc (.cells #[.int .i64 0, .int .i64 1, .int .i64 2, .int .i64 0, .int .i64 2, .int .i64 3] 71)).alloc (.cells #[.string ⟨#[48]⟩, .string ⟨#[50]⟩, .string ⟨#[52]⟩, .string ⟨#[48]⟩] 31);have ht := (RdC.fresh 3 (w4.alloc (.cells #[.string s0, .string s0, .string s2, .string s0, .string s2, .string s2, .string s0, .string s2] 33)) #[.int .i64 0, .int .i64 1, .int .i64 2, .int .i64 0, .int .i64 2, .int .i64 3] 71 2 rfl (by omega) (cellsT exT) rfl (w4.heap.size + 1) (by simp)).alloc (.cells #[.string ⟨#[48]⟩, .string ⟨#[50]⟩, .string ⟨#[52]⟩, .string ⟨#[48]⟩] 31);have hf := RdQ.fresh ((w4.alloc (.cells #[.string s0, .string s0, .string s2, .string s0, .string s2, .string s2, .string s0, .string s2] 33)).alloc (.cells #[.int .i64 0, .int .i64 1, .int .i64 2, .int .i64 0, .int .i64 2, .int .i64 3] 71)) exF 31 #[.string ⟨#[48]⟩, .string ⟨#[50]⟩, .string ⟨#[52]⟩, .string ⟨#[48]⟩] HCF.out (by decide) 4 rfl (w4.heap.size + 1 + 1) (by simp);exact bodyPost_ret (v := .tuple #[.agg #[.slice (some ⟨w4.heap.size, 0, none⟩) 4 4, .slice (some ⟨w4.heap.size + 1, 0, none⟩) 2 2], .slice (some ⟨w4.heap.size + 1 + 1, 0, none⟩) 4 4]) (by simp [results, Tryz.results26, go_sem, g0, g1]) rfl
  ⟨_, rfl, ⟨_, _, _, rfl, ⟨RdC.set_other (RdC.set_other hp k0 ex_neP) k1 ex_neP, RdC.set_other (RdC.set_other ht k0 ex_neT) k1 ex_neT, ex_ok, RdC.set_other (RdC.set_other hf k0 ex_neF) k1 ex_neF, ex_fs, rfl⟩⟩, hBF⟩
theorem rdc_open {sz : Nat} {w : World} {v : Value} {n : Nat} {cs : List Value} (h : RdC sz w v n cs) (hne : cs ≠ []) : ∃ b off c, v = .slice (some ⟨b, off, none⟩) n c /\ b < w.heap.size /\ ∀ j u, cs[j]? = some u -> w.cell? ⟨b, off + j, none⟩ = some u := by
 obtain ⟨p, c, rfl, _, _, _, h4⟩ := h;obtain ⟨b, off, rfl, hc⟩ := h4 hne;cases cs with
 | nil => exact absurd rfl hne
 | cons x cs => exact ⟨b, off, c, rfl, World.block_lt_of_cell? w _ (hc 0 x rfl), hc⟩
theorem ex_loc : locN exP exT (2, 1) exT.length = [((0 : Nat) : Int)] := by decide +kernel
theorem ex_on : onQ exP exF (0, 1, 2) (2, 1) = 3 := by decide +kernel
theorem ex_slope : sa0 exP exF (0, 1, 2) = (1, 1) := by decide +kernel
theorem ex_slopes : ∀ tr ∈ exT, SzP 200 (sa0 exP exF tr) := by
 intro tr htr;simp only [exT, List.mem_cons, List.not_mem_nil, or_false] at htr;rcases htr with rfl | rfl <;> exact ⟨⟨by decide +kernel, by decide +kernel⟩, by decide +kernel, by decide +kernel⟩
theorem ex_level : ∃ s, levelL exP exT exF 2 = [(0, (1, 1), (2, 0)), s] := ⟨(1, (1, 2), (1, 1)), by decide +kernel⟩
theorem ex_vol : volTo exP exT exF 0 exT.length = 20 / 3 := by decide +kernel
theorem ex_vols : ∀ t, t <= exT.length -> Sz 1009 (volTo exP exT exF 0 t) := by
 intro t ht;have : t = 0 \/ t = 1 \/ t = 2 := by have : exT.length = 2 := rfl; omega
 rcases this with rfl | rfl | rfl <;> exact Sz.mono (j := 3) ⟨by decide +kernel, by decide +kernel⟩ (by omega)
theorem ex_along : alongL exP exT (0, 1) (2, 1) = [(1, 0, 1 / 2), (0, 1 / 2, 1)] := by decide +kernel
theorem ex_prof : pTo exP exT exF (0, 1) (2, 1) [(1, 0, 1 / 2), (0, 1 / 2, 1)] 2 = [(0, 0), (1 / 2, 2), (1, 3)] := by decide +kernel
theorem ex_in (p : PtQ) (h : p = (0, 1) \/ p = (2, 1)) : decide ((0 : Int) < ((locN exP exT p exT.length).length : Int)) = true := by
 rcases h with rfl | rfl <;> decide +kernel
theorem rs0 : RS 0 = ⟨#[48]⟩ := by decide +kernel
theorem rs1 : RS 1 = ⟨#[49]⟩ := by decide +kernel
theorem rs2 : RS 2 = ⟨#[50]⟩ := by decide +kernel
theorem rs3 : RS 3 = ⟨#[51]⟩ := by decide +kernel
theorem rsH : RS (1 / 2) = ⟨#[49, 47, 50]⟩ := by decide +kernel
theorem rsV : RS (20 / 3) = ⟨#[50, 48, 47, 51]⟩ := by decide +kernel
theorem ex_sz {q : Rat} (h : q.num.natAbs < 10 ^ 2 /\ q.den < 10 ^ 2) {k : Nat} (hk : 2 <= k) : Sz k q := Sz.mono (j := 2) h hk
theorem ex_value (w : World) (vp vt vf : Value) (h : FieldIn w vp vt vf exP exT 2 exF) (hg : Good w) :
 Calls Tryz.prog 21 #[.agg #[vp, vt], vf, .agg #[.string ⟨#[50]⟩, .string ⟨#[49]⟩]] w (Ret (fun r _ => r = .tuple #[.string ⟨#[51]⟩, .int .i64 0]) w) := by
 have h1 := value_in w vp vt vf exP exT 2 exF h (2, 1) ⟨ex_sz (by decide +kernel) (by omega), ex_sz (by decide +kernel) (by omega)⟩ 0 [] ex_loc (by decide) (ex_slopes _ (List.getElem_mem _)) (by rw [show exT[0]'(by decide) = (0, 1, 2) from rfl, ex_on]; exact ex_sz (by decide +kernel) (by omega)) hg;rw [show exT[0]'(by decide) = (0, 1, 2) from rfl, ex_on] at h1;dsimp only at h1;rw [rs1, rs2, rs3] at h1;exact h1
theorem ex_slope0 (w : World) (vp vt vf : Value) (h : FieldIn w vp vt vf exP exT 2 exF) (hg : Good w) :
 Calls Tryz.prog 28 #[.agg #[vp, vt], vf, .int .i64 0] w (Ret (fun r _ => r = .tuple #[.agg #[.string ⟨#[49]⟩, .string ⟨#[49]⟩], .int .i64 0]) w) := by
 have h1 := fslope_ok w vp vt vf exP exT 2 exF h 0 0 rfl (by decide) (0, 1, 2) rfl (ex_slopes _ (by decide)) hg;rw [ex_slope] at h1;dsimp only at h1;rw [rs1] at h1;exact h1
theorem ex_level2 (w : World) (vp vt vf : Value) (h : FieldIn w vp vt vf exP exT 2 exF) (hg : Good w) :
 Calls Tryz.prog 29 #[.agg #[vp, vt], vf, .string ⟨#[50]⟩] w (Ret (fun r w' => ∃ b off c, r = .tuple #[.slice (some ⟨b, off, none⟩) 2 c, .int .i64 0] /\ b < w'.heap.size /\ w'.cell? ⟨b, off, none⟩ = some (.int .i64 0) /\ w'.cell? ⟨b, off + 1, none⟩ = some (.string ⟨#[49]⟩) /\ w'.cell? ⟨b, off + 2, none⟩ = some (.string ⟨#[49]⟩) /\ w'.cell? ⟨b, off + 3, none⟩ = some (.string ⟨#[50]⟩) /\ w'.cell? ⟨b, off + 4, none⟩ = some (.string ⟨#[48]⟩)) w) := by
 have h1 := level_ok w vp vt vf exP exT 2 exF h 2 2 (ex_sz (by decide +kernel) (by omega)) (by omega) hg;rw [rs2] at h1;refine h1.mono ?_;rintro e w' ⟨r, rfl, ⟨v, rfl, hv⟩, hb⟩;obtain ⟨s, hs⟩ := ex_level;have h2 : RdC 5 w' v (levelL exP exT exF 2).length (cellsG (levelL exP exT exF 2)) := RdC.of_owns hv;rw [hs] at h2;obtain ⟨b, off, c, rfl, hlt, hc⟩ := rdc_open h2 (by simp [cellsG, cellG]);have k0 := hc 0 (.int .i64 0) rfl;have k1 := hc 1 (.string (RS 1)) rfl;have k2 := hc 2 (.string (RS 1)) rfl;have k3 := hc 3 (.string (RS 2)) rfl;have k4 := hc 4 (.string (RS 0)) rfl;rw [rs1] at k1 k2;rw [rs2] at k3;rw [rs0] at k4;exact ⟨_, rfl, ⟨b, off, c, rfl, hlt, k0, k1, k2, k3, k4⟩, hb⟩
theorem ex_volume (w : World) (vp vt vf : Value) (h : FieldIn w vp vt vf exP exT 2 exF) (hg : Good w) :
 Calls Tryz.prog 14 #[.agg #[vp, vt], vf, .string ⟨#[48]⟩] w (Ret (fun r _ => r = .tuple #[.string ⟨#[50, 48, 47, 51]⟩, .int .i64 0]) w) := by
 have h1 := fVolume_ok w vp vt vf exP exT 2 exF h 0 1 1009 (Sz.zero 1 (by omega)) (by omega) (by omega) (by omega) ex_vols (by rw [ex_vol]; exact ex_sz (by decide +kernel) (by omega)) hg;rw [rs0, ex_vol, rsV] at h1;exact h1
theorem ex_profile (w : World) (vp vt vf : Value) (h : FieldIn w vp vt vf exP exT 2 exF) (hg : Good w) :
 Calls Tryz.prog 9 #[.agg #[vp, vt], vf, .agg #[.string ⟨#[48]⟩, .string ⟨#[49]⟩], .agg #[.string ⟨#[50]⟩, .string ⟨#[49]⟩]] w (Ret (fun r w' => ∃ b off c, r = .tuple #[.slice (some ⟨b, off, none⟩) 3 c, .int .i64 0] /\ b < w'.heap.size /\ w'.cell? ⟨b, off + 2, none⟩ = some (.string ⟨#[49, 47, 50]⟩) /\ w'.cell? ⟨b, off + 3, none⟩ = some (.string ⟨#[50]⟩)) w) := by
 have za : SzP 2 ((0, 1) : PtQ) := ⟨ex_sz (by decide +kernel) (by omega), ex_sz (by decide +kernel) (by omega)⟩;have zb : SzP 2 ((2, 1) : PtQ) := ⟨ex_sz (by decide +kernel) (by omega), ex_sz (by decide +kernel) (by omega)⟩;have h1 := fprofile_ok w vp vt vf exP exT 2 exF h (0, 1) (2, 1) 2 2 (by omega) (by omega) (by omega) (by omega) za zb [(1, 0, 1 / 2), (0, 1 / 2, 1)]
  (fun w' h' hg' => by have := along_ok w' vp vt exP exT 2 2 h'.p h'.t ex_ok (by omega) (by omega) (by decide) (0, 1) (2, 1) za zb (by decide) hg'; rw [ex_along] at this; exact this)
  (fun w' h' hg' => by have := contains_ok w' vp vt exP exT 2 h'.p h'.t ex_ok (0, 1) ⟨za.1.mono (by omega), za.2.mono (by omega)⟩ hg'; rw [ex_in _ (.inl rfl)] at this; exact this)
  (fun w' h' hg' => by have := contains_ok w' vp vt exP exT 2 h'.p h'.t ex_ok (2, 1) ⟨zb.1.mono (by omega), zb.2.mono (by omega)⟩ hg'; rw [ex_in _ (.inr rfl)] at this; exact this)
  (by decide) (by
    intro s hs;simp only [List.mem_cons, List.not_mem_nil, or_false] at hs;rcases hs with rfl | rfl
    ·exact ⟨by decide, ex_sz (by decide +kernel) (by omega), ex_sz (by decide +kernel) (by omega)⟩
    ·exact ⟨by decide, ex_sz (by decide +kernel) (by omega), ex_sz (by decide +kernel) (by omega)⟩) (fun tr htr => ⟨(ex_slopes tr htr).1.mono (by omega), (ex_slopes tr htr).2.mono (by omega)⟩) (by
    rw [show [((1, 0, 1 / 2) : SpanQ), (0, 1 / 2, 1)].length = 2 from rfl, ex_prof];intro kn hk;simp only [List.mem_cons, List.not_mem_nil, or_false] at hk;rcases hk with rfl | rfl | rfl <;> exact ⟨ex_sz (by decide +kernel) (by omega), ex_sz (by decide +kernel) (by omega)⟩) hg
 rw [show [((1, 0, 1 / 2) : SpanQ), (0, 1 / 2, 1)].length = 2 from rfl, ex_prof] at h1;dsimp only at h1;rw [rs0, rs1, rs2] at h1;refine h1.mono ?_;rintro e w' ⟨r, rfl, ⟨v, rfl, hv⟩, hb⟩;obtain ⟨b, off, c, rfl, hlt, hc⟩ := rdc_open hv (by simp [cKn, cellKn]);have k2 := hc 2 (.string (RS (1 / 2))) rfl;have k3 := hc 3 (.string (RS 2)) rfl;rw [rsH] at k2;rw [rs2] at k3;exact ⟨_, rfl, ⟨b, off, c, rfl, hlt, k2, k3⟩, hb⟩
theorem ex_at (x y : Int) (sx sy : ByteArray) (h1 : RS (x : Rat) = sx) (h2 : RS (y : Rat) = sy) (hx : -1000 <= x /\ x <= 1000) (hy : -1000 <= y /\ y <= 1000) (w : World) (hg : Good w) : Calls Tryz.prog 27 #[.int .i64 x, .int .i64 y] w (Ret (fun r _ => r = .agg #[.string sx, .string sy]) w) := by
 have := at05_any x y hx hy w hg;rw [h1, h2] at this;exact this
theorem known13_any (w : World) (hg : Good w) :
 Calls Tryz.prog 6 #[] w (Ret (fun r _ => r = .bool true) w) := by
 have HA21 := hid fun w hg => ex_at 2 1 _ _ rs2 rs1 (by omega) (by omega) w hg
 have HA01 := hid fun w hg => ex_at 0 1 _ _ rs0 rs1 (by omega) (by omega) w hg
 have HA11 := hid fun w hg => ex_at 1 1 _ _ rs1 rs1 (by omega) (by omega) w hg
 have HA20 := hid fun w hg => ex_at 2 0 _ _ rs2 rs0 (by omega) (by omega) w hg
 go_enter Tryz.func6, Tryz.ntmps6;go_wp2_with fail;refine (example_any w hg).mono ?_;rintro e o1 ⟨_, rfl, ⟨vp, vt, vf, rfl, hF⟩, hb1⟩;have HF1 := hid hF;obtain ⟨pp, cp, pt, ct, pf, cf, rfl, rfl, rfl⟩ := hF.open;rw [show exP.length = 4 from rfl, show exT.length = 2 from rfl, show exF.length = 4 from rfl] at *;clear hF;go_upto_region 2 with fail;obtain ⟨o2, ho2⟩ : ∃ W, W = o1.alloc (.cells #[.slice pp 4 cp, .slice pt 2 ct] 38) := ⟨_, rfl⟩;have hb2 : Below o1.heap.size o1 o2 := by rw [ho2]; exact zal _ _
 have m2 : BoxN o2 o1.heap.size 38 [.slice pp 4 cp, .slice pt 2 ct] := by rw [ho2]; exact BoxN.new _ _ _ _ rfl
 rw [<- ho2];clear ho2;have hB2 := hb1.trans (hb2.mono hb1.size);have HFI : Hid (∀ w', Below o2.heap.size o2 w' -> FieldIn w' (.slice pp 4 cp) (.slice pt 2 ct) (.slice pf 4 cf) exP exT 2 exF) := fun w' hb => HF1.out.below (hb2.trans (hb.mono hb2.size));have hgd : Good o2.drew := (hg.below hB2).drewN 1;have x0 := m2.cell 0 rfl;have x1 := m2.cell 1 rfl;have hl2 := m2.lt;clear HF1 hb1 hb2;go_region_held3 (fun w' => w'.cell? ⟨o1.heap.size, 0, none⟩ = some (.slice pp 4 cp) /\ w'.cell? ⟨o1.heap.size, 1, none⟩ = some (.slice pt 2 ct))
  (first | exact ⟨x0, x1⟩ | exact ⟨p_1_0, p_1_1⟩ | exact ⟨p_2_0, p_2_1⟩)
  (first
  | (go_at_call 21; refine (ex_value _ _ _ _ (HFI.out _ ((bdN o2 1).trans (pb1.mono (Nat.le_refl _)))) pg1).mono ?_; rintro e pw2 ⟨_, rfl, rfl, pb2⟩
     have p_2_0 := zct pb2 p_1_0;have p_2_1 := zct pb2 p_1_1;have ps2 := pb2.size;have pg2 := pg1.below pb2)
  | (go_at_call 27; refine (HA21.out _ hgd).mono ?_; rintro e pw1 ⟨_, rfl, rfl, pb1⟩
     have p_1_0 := zct pb1 x0;have p_1_1 := zct pb1 x1;have ps1 : o2.heap.size <= pw1.heap.size := pb1.size;have pg1 := hgd.below pb1))
 have pB : Below o2.heap.size o2 pw2 := zbt (zbt (bdN o2 1) pb1) pb2;have hB3 := hB2.trans (pB.mono hB2.size);have m3 := m2.below pB m2.lt;have HF3 : Hid (∀ w', Below pw2.heap.size pw2 w' -> FieldIn w' (.slice pp 4 cp) (.slice pt 2 ct) (.slice pf 4 cf) exP exT 2 exF) := fun w' hb => HFI.out w' (pB.trans (hb.mono pB.size));obtain ⟨o3, ho3⟩ : ∃ W, W = pw2 := ⟨_, rfl⟩;rw [<- ho3] at hB3 m3 HF3 ⊢;clear ho3 x0 x1 HFI hgd pB pb1 pb2 pg1 pg2 ps1 ps2 p_1_0 p_1_1 p_2_0 p_2_1;have x0 := m3.cell 0 rfl;have x1 := m3.cell 1 rfl;go_wp2_with fail;refine (ex_slope0 o3 _ _ _ (HF3.out o3 (Below.refl _ _)) (hg.below hB3)).mono ?_;rintro e o4 ⟨_, rfl, rfl, hb4⟩;have hB4 := hB3.trans (hb4.mono hB3.size);have m4 := m3.below hb4 m3.lt;clear x0 x1;go_upto_region 4 with fail;obtain ⟨o5, ho5⟩ : ∃ W, W = o4.alloc (.cells #[.string ⟨#[49]⟩, .string ⟨#[49]⟩] 33) := ⟨_, rfl⟩;have hb5 : Below o4.heap.size o4 o5 := by rw [ho5]; exact zal _ _
 have s5 : BoxN o5 o4.heap.size 33 [.string ⟨#[49]⟩, .string ⟨#[49]⟩] := by rw [ho5]; exact BoxN.new _ _ _ _ rfl
 rw [<- ho5];clear ho5;have hB5 := hB4.trans (hb5.mono hB4.size);have m5 := m4.below hb5 m4.lt;have h35 := hb4.trans (hb5.mono hb4.size);have x0 := m5.cell 0 rfl;have x1 := m5.cell 1 rfl;go_wp2_with fail;refine (ex_level2 o5 _ _ _ (HF3.out o5 h35) (hg.below hB5)).mono ?_;rintro e o6 ⟨_, rfl, ⟨bl, ol, cl, rfl, ll6, y0, y1, y2, y3, y4⟩, hb6⟩;have hB6 := hB5.trans (hb6.mono hB5.size);have m6 := m5.below hb6 m5.lt;have s6 := s5.below hb6 s5.lt;have h36 := h35.trans (hb6.mono h35.size);clear x0 x1;have x0 := m6.cell 0 rfl;have x1 := m6.cell 1 rfl;go_wp2_with fail;refine (ex_volume o6 _ _ _ (HF3.out o6 h36) (hg.below hB6)).mono ?_;rintro e o7 ⟨_, rfl, rfl, hb7⟩;have hB7 := hB6.trans (hb7.mono hB6.size);have m7 := m6.below hb7 m6.lt;have s7 := s6.below hb7 s6.lt;have h37 := h36.trans (hb7.mono h36.size);have HY7 : Hid (∀ w', Below o7.heap.size o7 w' -> w'.cell? ⟨bl, ol, none⟩ = some (.int .i64 0) /\ w'.cell? ⟨bl, ol + 1, none⟩ = some (.string ⟨#[49]⟩) /\ w'.cell? ⟨bl, ol + 2, none⟩ = some (.string ⟨#[49]⟩) /\ w'.cell? ⟨bl, ol + 3, none⟩ = some (.string ⟨#[50]⟩) /\ w'.cell? ⟨bl, ol + 4, none⟩ = some (.string ⟨#[48]⟩)) := fun w' hb => by
  have h := hb7.trans (hb.mono hb7.size);exact ⟨(zcq h ll6 y0 :), (zcq h ll6 y1 :), (zcq h ll6 y2 :), (zcq h ll6 y3 :), (zcq h ll6 y4 :)⟩
 have ll7 : bl < o7.heap.size := Nat.lt_of_lt_of_le ll6 hb7.size;clear x0 x1 y0 y1 y2 y3 y4 m3 m4 m5 m6 s5 s6 hb4 hb5 hb6 hb7 h35 h36 hB2 hB3 hB4 hB5 hB6 ll6;have x0 := m7.cell 0 rfl;have x1 := m7.cell 1 rfl;have hgd : Good o7.drew := (hg.below hB7).drewN 1;have hl7 := m7.lt;go_wp2_with fail;go_region_held3 (fun w' => w'.cell? ⟨o1.heap.size, 0, none⟩ = some (.slice pp 4 cp) /\ w'.cell? ⟨o1.heap.size, 1, none⟩ = some (.slice pt 2 ct))
  (first | exact ⟨x0, x1⟩ | exact ⟨q_1_0, q_1_1⟩ | exact ⟨q_2_0, q_2_1⟩ | exact ⟨q_3_0, q_3_1⟩)
  (first
  | (go_at_call 9; refine (ex_profile _ _ _ _ (HF3.out _ (h37.trans (((bdN o7 1).trans ((qb1.trans (qb2.mono qb1.size)).mono (Nat.le_refl _))).mono h37.size))) qg2).mono ?_; rintro e qw3 ⟨_, rfl, ⟨bk, ok, ck, rfl, lk8, z0, z1⟩, qb3⟩
     have q_3_0 := zct qb3 q_2_0;have q_3_1 := zct qb3 q_2_1;have qs3 := qb3.size;have qg3 := qg2.below qb3)
  | (go_at_call 27; refine (HA21.out _ qg1).mono ?_; rintro e qw2 ⟨_, rfl, rfl, qb2⟩
     have q_2_0 := zct qb2 q_1_0;have q_2_1 := zct qb2 q_1_1;have qs2 := qb2.size;have qg2 := qg1.below qb2)
  | (go_at_call 27; refine (HA01.out _ hgd).mono ?_; rintro e qw1 ⟨_, rfl, rfl, qb1⟩
     have q_1_0 := zct qb1 x0;have q_1_1 := zct qb1 x1;have qs1 : o7.heap.size <= qw1.heap.size := qb1.size;have qg1 := hgd.below qb1))
 have qB : Below o7.heap.size o7 qw3 := zbt (zbt (zbt (bdN o7 1) qb1) qb2) qb3;have hB8 := hB7.trans (qB.mono hB7.size);have s8 := s7.below qB s7.lt;obtain ⟨y0, y1, y2, y3, y4⟩ := HY7.out _ qB;have ll : bl < qw3.heap.size := Nat.lt_of_lt_of_le ll7 qB.size;obtain ⟨o8, ho8⟩ : ∃ W, W = qw3 := ⟨_, rfl⟩;rw [<- ho8] at hB8 s8 y0 y1 y2 y3 y4 ll z0 z1 lk8 ⊢;clear ho8 x0 x1 hgd qB qb1 qb2 qb3 qg1 qg2 qg3 qs1 qs2 qs3 q_1_0 q_1_1 q_2_0 q_2_1 q_3_0 q_3_1 HF3 HY7 m7 s7 h37 ll7 hB7;have lk := lk8;have l5 := s8.lt;have v0 := s8.cell 0 rfl;have v1 := s8.cell 1 rfl;obtain ⟨b5, hb5⟩ : ∃ b, b = o4.heap.size := ⟨_, rfl⟩;rw [<- hb5] at l5 v0 v1 ⊢;clear hb5 s8 lk8;have HS : Hid (∀ w', Below o8.heap.size o8 w' -> w'.cell? ⟨b5, 0, none⟩ = some (.string ⟨#[49]⟩) /\ w'.cell? ⟨b5, 1, none⟩ = some (.string ⟨#[49]⟩) /\ w'.cell? ⟨bl, ol, none⟩ = some (.int .i64 0) /\ w'.cell? ⟨bl, ol + 1, none⟩ = some (.string ⟨#[49]⟩) /\ w'.cell? ⟨bl, ol + 2, none⟩ = some (.string ⟨#[49]⟩) /\ w'.cell? ⟨bl, ol + 3, none⟩ = some (.string ⟨#[50]⟩) /\ w'.cell? ⟨bl, ol + 4, none⟩ = some (.string ⟨#[48]⟩) /\ w'.cell? ⟨bk, ok + 2, none⟩ = some (.string ⟨#[49, 47, 50]⟩) /\ w'.cell? ⟨bk, ok + 3, none⟩ = some (.string ⟨#[50]⟩)) := fun w' hb => ⟨(zcq hb l5 v0 :), (zcq hb l5 v1 :), (zcq hb ll y0 :), (zcq hb ll y1 :), (zcq hb ll y2 :), (zcq hb ll y3 :), (zcq hb ll y4 :), (zcq hb lk z0 :), (zcq hb lk z1 :)⟩;have q0 : Below o8.heap.size o8 o8.drew := bdN o8 1;have hg8 := hg.below hB8;clear y0 y1 y2 y3 y4 z0 z1 v0 v1;have eqP : ∀ w : World, Sem.run Tryz.prog (Op.equalIn 10000 33 (.agg #[.string ⟨#[49]⟩, .string ⟨#[49]⟩]) (.agg #[.string ⟨#[49]⟩, .string ⟨#[49]⟩])) w = .ok true w := fun w => by kernel_rfl
 have eqS : ∀ w : World, Sem.run Tryz.prog (Op.equalIn 10000 84 (.agg #[.int .i64 0, .string ⟨#[49]⟩, .string ⟨#[49]⟩, .string ⟨#[50]⟩, .string ⟨#[48]⟩]) (.agg #[.int .i64 0, .string ⟨#[49]⟩, .string ⟨#[49]⟩, .string ⟨#[50]⟩, .string ⟨#[48]⟩])) w = .ok true w := fun w => by kernel_rfl
 have eqK : ∀ w : World, Sem.run Tryz.prog (Op.equalIn 10000 57 (.agg #[.string ⟨#[49, 47, 50]⟩, .string ⟨#[50]⟩]) (.agg #[.string ⟨#[49, 47, 50]⟩, .string ⟨#[50]⟩])) w = .ok true w := fun w => by kernel_rfl
 go_upto_region 7 with fail;refine wp_region_held_drew (S := (fun w' => w'.cell? ⟨b5, 0, none⟩ = some (.string ⟨#[49]⟩) /\ w'.cell? ⟨b5, 1, none⟩ = some (.string ⟨#[49]⟩) /\ w'.cell? ⟨bl, ol, none⟩ = some (.int .i64 0) /\ w'.cell? ⟨bl, ol + 1, none⟩ = some (.string ⟨#[49]⟩) /\ w'.cell? ⟨bl, ol + 2, none⟩ = some (.string ⟨#[49]⟩) /\ w'.cell? ⟨bl, ol + 3, none⟩ = some (.string ⟨#[50]⟩) /\ w'.cell? ⟨bl, ol + 4, none⟩ = some (.string ⟨#[48]⟩) /\ w'.cell? ⟨bk, ok + 2, none⟩ = some (.string ⟨#[49, 47, 50]⟩) /\ w'.cell? ⟨bk, ok + 3, none⟩ = some (.string ⟨#[50]⟩))) (by kernel_rfl) ?_ (fun hHeld => ?_)
 ·first | exact HS.out _ q3 | exact HS.out _ q2 | exact HS.out _ q1 | exact HS.out _ q0
 refine zhk 0 ?_;try simp only [Act.put, zga, zgz, zsa, zsz, zss]
 refine zhk 1 ?_;try simp only [Act.put, zga, zgz, zgs, zsa, zsz, zss]
 refine zhk 2 ?_;try simp only [Act.put, zga, zgz, zgs, zsa, zsz, zss]
 refine zhk 3 ?_;try simp only [Act.put, zga, zgz, zgs, zsa, zsz, zss]
 refine zhk 4 ?_;try simp only [Act.put, zga, zgz, zgs, zsa, zsz, zss]
 refine zhk 5 ?_;try simp only [Act.put, zga, zgz, zgs, zsa, zsz, zss]
 refine zhk 6 ?_;try simp only [Act.put, zga, zgz, zgs, zsa, zsz, zss]
 refine zhk 7 ?_;try simp only [Act.put, zga, zgz, zgs, zsa, zsz, zss]
 refine zhk 8 ?_;try simp only [Act.put, zga, zgz, zgs, zsa, zsz, zss]
 refine zhk 9 ?_;try simp only [Act.put, zga, zgz, zgs, zsa, zsz, zss]
 refine zhk 10 ?_;try simp only [Act.put, zga, zgz, zgs, zsa, zsz, zss]
 refine zhk 11 ?_;try simp only [Act.put, zga, zgz, zgs, zsa, zsz, zss]
 refine wpAnyH_ready (rs := [12]) (by kernel_rfl) (by simp) ?_;refine AllReadyH.cons (o := _) rfl (fun K hK => ?_) AllReadyH.nil;go_simp
 (refine (HA11.out _ (hg8.below q0)).mono ?_; rintro e w1 ⟨_, rfl, rfl, hw1⟩; have q1 := q0.trans (hw1.mono q0.size))
 refine hK.out _ _ ?_ (fun hHeld => ?_)
 ·first | exact HS.out _ q3 | exact HS.out _ q2 | exact HS.out _ q1 | exact HS.out _ q0
 clear hK K;try simp only [Act.put, zga, zgz, zgs, zsa, zsz, zss]
 refine zhk 13 ?_;try simp only [Act.put, zga, zgz, zgs, zsa, zsz, zss]
 refine zhk 14 ?_;try simp only [Act.put, zga, zgz, zgs, zsa, zsz, zss]
 refine zhk 15 ?_;try simp only [Act.put, zga, zgz, zgs, zsa, zsz, zss]
 refine zhk 16 ?_;try simp only [Act.put, zga, zgz, zgs, zsa, zsz, zss]
 refine zhk 17 ?_;try simp only [Act.put, zga, zgz, zgs, zsa, zsz, zss]
 refine zhk 18 ?_;try simp only [Act.put, zga, zgz, zgs, zsa, zsz, zss]
 refine zhk 19 ?_;try simp only [Act.put, zga, zgz, zgs, zsa, zsz, zss]
 refine zhk 20 ?_;try simp only [Act.put, zga, zgz, zgs, zsa, zsz, zss]
 refine zhk 21 ?_;try simp only [Act.put, zga, zgz, zgs, zsa, zsz, zss]
 refine zhk 22 ?_;try simp only [Act.put, zga, zgz, zgs, zsa, zsz, zss]
 refine zhk 23 ?_;try simp only [Act.put, zga, zgz, zgs, zsa, zsz, zss]
 refine zhk 24 ?_;try simp only [Act.put, zga, zgz, zgs, zsa, zsz, zss]
 refine zhk 25 ?_;try simp only [Act.put, zga, zgz, zgs, zsa, zsz, zss]
 refine zhk 26 ?_;try simp only [Act.put, zga, zgz, zgs, zsa, zsz, zss]
 refine zhk 27 ?_;try simp only [Act.put, zga, zgz, zgs, zsa, zsz, zss]
 refine wpAnyH_ready (rs := [28]) (by kernel_rfl) (by simp) ?_;refine AllReadyH.cons (o := _) rfl (fun K hK => ?_) AllReadyH.nil;go_simp
 (refine (HA11.out _ (hg8.below q1)).mono ?_; rintro e w2 ⟨_, rfl, rfl, hw2⟩; have q2 := q1.trans (hw2.mono q1.size))
 refine hK.out _ _ ?_ (fun hHeld => ?_)
 ·first | exact HS.out _ q3 | exact HS.out _ q2 | exact HS.out _ q1 | exact HS.out _ q0
 clear hK K;try simp only [Act.put, zga, zgz, zgs, zsa, zsz, zss]
 refine wpAnyH_ready (rs := [29]) (by kernel_rfl) (by simp) ?_;refine AllReadyH.cons (o := _) rfl (fun K hK => ?_) AllReadyH.nil;go_simp
 (refine (HA20.out _ (hg8.below q2)).mono ?_; rintro e w3 ⟨_, rfl, rfl, hw3⟩; have q3 := q2.trans (hw3.mono q2.size))
 refine hK.out _ _ ?_ (fun hHeld => ?_)
 ·first | exact HS.out _ q3 | exact HS.out _ q2 | exact HS.out _ q1 | exact HS.out _ q0
 clear hK K;try simp only [Act.put, zga, zgz, zgs, zsa, zsz, zss]
 refine zhk 30 ?_;try simp only [Act.put, zga, zgz, zgs, zsa, zsz, zss]
 refine zhk 31 ?_;try simp only [Act.put, zga, zgz, zgs, zsa, zsz, zss]
 refine zhk 32 ?_;try simp only [Act.put, zga, zgz, zgs, zsa, zsz, zss]
 refine zhk 33 ?_;try simp only [Act.put, zga, zgz, zgs, zsa, zsz, zss]
 refine zhk 34 ?_;try simp only [Act.put, zga, zgz, zgs, zsa, zsz, zss]
 refine zhk 35 ?_;try simp only [Act.put, zga, zgz, zgs, zsa, zsz, zss]
 refine zhk 36 ?_;try simp only [Act.put, zga, zgz, zgs, zsa, zsz, zss]
 refine zhk 37 ?_;try simp only [Act.put, zga, zgz, zgs, zsa, zsz, zss]
 refine zhk 38 ?_;try simp only [Act.put, zga, zgz, zgs, zsa, zsz, zss]
 refine zhk 39 ?_;try simp only [Act.put, zga, zgz, zgs, zsa, zsz, zss]
 refine zhk 40 ?_;try simp only [Act.put, zga, zgz, zgs, zsa, zsz, zss]
 refine zhk 41 ?_;try simp only [Act.put, zga, zgz, zgs, zsa, zsz, zss]
 refine zhk 42 ?_;try simp only [Act.put, zga, zgz, zgs, zsa, zsz, zss]
 refine zhk 43 ?_;try simp only [Act.put, zga, zgz, zgs, zsa, zsz, zss]
 refine zhk 44 ?_;try simp only [Act.put, zga, zgz, zgs, zsa, zsz, zss]
 refine zhk 45 ?_;try simp only [Act.put, zga, zgz, zgs, zsa, zsz, zss]
 refine zhk 46 ?_;try simp only [Act.put, zga, zgz, zgs, zsa, zsz, zss]
 refine zhk 47 ?_;try simp only [Act.put, zga, zgz, zgs, zsa, zsz, zss]
 refine zhk 48 ?_;try simp only [Act.put, zga, zgz, zgs, zsa, zsz, zss]
 refine zhk 49 ?_;try simp only [Act.put, zga, zgz, zgs, zsa, zsz, zss]
 refine zhk 50 ?_;try simp only [Act.put, zga, zgz, zgs, zsa, zsz, zss]
 refine zhk 51 ?_;try simp only [Act.put, zga, zgz, zgs, zsa, zsz, zss]
 refine zhk 52 ?_;try simp only [Act.put, zga, zgz, zgs, zsa, zsz, zss]
 refine zhk 53 ?_;try simp only [Act.put, zga, zgz, zgs, zsa, zsz, zss]
 refine zhk 54 ?_;try simp only [Act.put, zga, zgz, zgs, zsa, zsz, zss]
 refine zhk 55 ?_;try simp only [Act.put, zga, zgz, zgs, zsa, zsz, zss]
 refine zhk 56 ?_;try simp only [Act.put, zga, zgz, zgs, zsa, zsz, zss]
 refine zhk 57 ?_;try simp only [Act.put, zga, zgz, zgs, zsa, zsz]
 refine wpAnyH_done (by kernel_rfl) ?_ _;have hB9 := hB8.trans (q3.mono hB8.size);go_wp2_with fail;go_ret;exact ⟨_, rfl, rfl, hB9⟩
theorem make_in {w : World} {vp vt vf : Value} {kk : Nat} {s0 s1 : Int} {half : Bool} {a0 a1 a2 a3 a4 a5 : Int} {ah : Bool} (hp : RdP w vp (strP (sPP kk s0 s1 half))) (ht : RdT w vt (sTT kk)) (hf : RdQ w vf (hFF [a0, a1, a2, a3, a4, a5] ah (sPP kk s0 s1 half).length)) :
 FieldIn w vp vt vf (sPP kk s0 s1 half) (sTT kk) 2 (hFF [a0, a1, a2, a3, a4, a5] ah (sPP kk s0 s1 half).length) :=
 ⟨hp, ht, sheet_ok kk s0 s1 half, hf, heights_Sz _ _ _, heightsF_length _ _ _⟩
theorem owns_one (w : World) (base t : Nat) (v : Value) (hb : base <= w.heap.size) : (w.alloc (.cells #[v] t)).ownsRow base t 1 (.slice (some ⟨w.heap.size, 0, none⟩) 1 1) 1 [v] := by
 refine ⟨by simp, .inr ⟨w.heap.size, 1, #[v], rfl, hb, ?_, Nat.le_refl _, by unfold maxLen; omega, by simp, by simp⟩⟩;exact BoxN.new w #[v] t w.heap.size rfl
theorem fieldProfiles_long (w : World) (kz s0 s1 : Int) (half : Bool) (a0 a1 a2 a3 a4 a5 : Int) (ah : Bool) (b0 b1 b2 b3 b4 b5 : Int) (bh : Bool) (ax ay bx bY : ByteArray) (hl : 40 < ax.size \/ 40 < ay.size \/ 40 < bx.size \/ 40 < bY.size) (hg : Good w) :
 Calls Tryz.prog 3 #[.agg #[.int .u8 kz, .int .i8 s0, .int .i8 s1, .bool half, .int .i8 a0, .int .i8 a1, .int .i8 a2, .int .i8 a3, .int .i8 a4, .int .i8 a5, .bool ah, .int .i8 b0, .int .i8 b1, .int .i8 b2, .int .i8 b3, .int .i8 b4, .int .i8 b5, .bool bh], .agg #[.string ax, .string ay], .agg #[.string bx, .string bY]] w (Ret (fun r _ => r = .bool true) w) := by
 go_enter Tryz.func3, Tryz.ntmps3;go_wp2_with fail;obtain ⟨W, hW⟩ : ∃ W, W = ((w.alloc (.cells #[.int .u8 kz, .int .i8 s0, .int .i8 s1, .bool half, .int .i8 a0, .int .i8 a1, .int .i8 a2, .int .i8 a3, .int .i8 a4, .int .i8 a5, .bool ah, .int .i8 b0, .int .i8 b1, .int .i8 b2, .int .i8 b3, .int .i8 b4, .int .i8 b5, .bool bh] 30)).alloc (.cells #[.string ax, .string ay] 33)).alloc (.cells #[.string bx, .string bY] 33) := ⟨_, rfl⟩;have hB : Below w.heap.size w W := by rw [hW]; exact (((Below.refl _ _).alloc (Nat.le_refl _) _).alloc (by simp) _).alloc (by simp; omega) _
 have bb : BoxN W (w.heap.size + 1 + 1) 33 [.string bx, .string bY] := by rw [hW]; exact BoxN.new _ _ _ _ (by simp)
 have ba : BoxN W (w.heap.size + 1) 33 [.string ax, .string ay] := by rw [hW]; exact (BoxN.new _ _ _ _ (by simp)).alloc _
 have bi : BoxN W w.heap.size 30 [.int .u8 kz, .int .i8 s0, .int .i8 s1, .bool half, .int .i8 a0, .int .i8 a1, .int .i8 a2, .int .i8 a3, .int .i8 a4, .int .i8 a5, .bool ah, .int .i8 b0, .int .i8 b1, .int .i8 b2, .int .i8 b3, .int .i8 b4, .int .i8 b5, .bool bh] := by rw [hW]; exact ((BoxN.new _ _ _ _ rfl).alloc _).alloc _
 rw [<- hW];clear hW;refine (known13_any W (hg.below hB)).mono ?_;rintro e o1 ⟨_, rfl, rfl, hb1⟩;have hB1 := hB.trans (hb1.mono hB.size);have bb1 := bb.below hb1 bb.lt;have ba1 := ba.below hb1 ba.lt;have x0 := ba1.cell 0 rfl;have x1 := ba1.cell 1 rfl;have y0 := bb1.cell 0 rfl;have y1 := bb1.cell 1 rfl;have key : ∃ e1 e2 e3 e4 : Bool, decide ((40 : Int) < (ax.size : Int)) = e1 /\ decide ((40 : Int) < (ay.size : Int)) = e2 /\ decide ((40 : Int) < (bx.size : Int)) = e3 /\ decide ((40 : Int) < (bY.size : Int)) = e4 /\ (e1 = true \/ (e1 = false /\ e2 = true) \/ (e1 = false /\ e2 = false /\ e3 = true) \/ (e1 = false /\ e2 = false /\ e3 = false /\ e4 = true)) := by
  refine ⟨_, _, _, _, rfl, rfl, rfl, rfl, ?_⟩;simp only [decide_eq_true_eq, decide_eq_false_iff_not];omega
 obtain ⟨e1, e2, e3, e4, d1, d2, d3, d4, hc⟩ := key;clear hl;rcases hc with rfl | ⟨rfl, rfl⟩ | ⟨rfl, rfl, rfl⟩ | ⟨rfl, rfl, rfl, rfl⟩
 all_goals
  go_wp2_with fail;refine (known13_any o1 (hg.below hB1)).mono ?_;rintro e o2 ⟨_, rfl, rfl, hb2⟩;go_wp2_with fail;go_ret;exact ⟨_, rfl, rfl, hB1.trans (hb2.mono hB1.size)⟩
theorem fPw (w : World) (kz s0 s1 : Int) (half : Bool) (a0 a1 a2 a3 a4 a5 : Int) (ah : Bool) (b0 b1 b2 b3 b4 b5 : Int) (bh : Bool) (ax ay bx bY : ByteArray) (h1 : ax.size <= 40) (h2 : ay.size <= 40) (h3 : bx.size <= 40) (h4 : bY.size <= 40) (P : List PtQ) (T : List Tri) (F : List Rat) (K : List Knt) (L : List SpanQ) (zc : Int) (ra rb eq ia ib : Bool) (sa sb : ByteArray)
 (hz : zc = if ra = false \/ rb = false then 2 else if eq = true then 17 else if ia = false \/ ib = false then 28 else 0)
 (heq : (eq = true /\ ax.toList = bx.toList /\ ay.toList = bY.toList) \/ (eq = false /\ (¬ ax.toList = bx.toList \/ (ax.toList = bx.toList /\ ¬ ay.toList = bY.toList))))
 (hK0 : zc ≠ 0 -> K = []) (hKL : zc = 0 -> K.length = L.length + 1) (hL0 : L.length <= 8)
 (HMK : Hid (∀ w, Good w -> Calls Tryz.prog 7 #[.agg #[.int .u8 kz, .int .i8 s0, .int .i8 s1, .bool half]] w (Ret (fun r w' => ∃ vp vt, r = .agg #[vp, vt] /\ RdP w' vp (strP P) /\ RdT w' vt T) w)))
 (HMF : Hid (∀ w vp vt, RdP w vp (strP P) -> RdT w vt T -> Good w -> Calls Tryz.prog 8 #[.agg #[vp, vt], .agg #[.int .i8 a0, .int .i8 a1, .int .i8 a2, .int .i8 a3, .int .i8 a4, .int .i8 a5, .bool ah]] w (Ret (fun r w' => FieldIn w' vp vt r P T 2 F) w)))
 (HPR : Hid (∀ w vp vt vf, FieldIn w vp vt vf P T 2 F -> Good w -> Calls Tryz.prog 9 #[.agg #[vp, vt], vf, .agg #[.string ax, .string ay], .agg #[.string bx, .string bY]] w (Ret (fun r w' => ∃ v, r = .tuple #[v, .int .i64 zc] /\ RdC 2 w' v K.length (cKn K)) w)))
 (HRA : Hid (∀ w, Good w -> Calls Tryz.prog 10 #[.agg #[.string ax, .string ay]] w (Ret (fun r _ => r = .bool ra) w)))
 (HRB : Hid (∀ w, Good w -> Calls Tryz.prog 10 #[.agg #[.string bx, .string bY]] w (Ret (fun r _ => r = .bool rb) w)))
 (HTA : Hid (ra = true -> rb = true -> eq = false -> ∀ w vp vt vf, FieldIn w vp vt vf P T 2 F -> Good w -> Calls Tryz.prog 11 #[.agg #[vp, vt], vf, .agg #[.string ax, .string ay]] w (Ret (fun r _ => r = .tuple #[.string sa, .bool ia]) w)))
 (HTB : Hid (ra = true -> rb = true -> eq = false -> ∀ w vp vt vf, FieldIn w vp vt vf P T 2 F -> Good w -> Calls Tryz.prog 11 #[.agg #[vp, vt], vf, .agg #[.string bx, .string bY]] w (Ret (fun r _ => r = .tuple #[.string sb, .bool ib]) w)))
 (HAL : Hid (zc = 0 -> ∀ w vp vt vf, FieldIn w vp vt vf P T 2 F -> Good w -> Calls Tryz.prog 12 #[.agg #[vp, vt], .agg #[.string ax, .string ay], .agg #[.string bx, .string bY]] w (Ret (fun r w' => ∃ v, r = .tuple #[v, .int .i64 0] /\ RdSp w' v L) w)))
 (HTW : Hid (zc = 0 -> ∀ i, i < L.length + 1 -> ∃ (px py : ByteArray) (kn : Knt), K[i]? = some kn /\ kn.1 = knSh L i /\ (∀ w, Good w -> Calls Tryz.prog 13 #[.agg #[.string ax, .string ay], .agg #[.string bx, .string bY], .string (RS (knSh L i))] w (Ret (fun r _ => r = .agg #[.string px, .string py]) w)) /\
   (∀ w vp vt vf, FieldIn w vp vt vf P T 2 F -> Good w -> Calls Tryz.prog 11 #[.agg #[vp, vt], vf, .agg #[.string px, .string py]] w (Ret (fun r _ => r = .tuple #[.string (RS kn.2), .bool true]) w)))) (hg : Good w) :
 Calls Tryz.prog 3 #[.agg #[.int .u8 kz, .int .i8 s0, .int .i8 s1, .bool half, .int .i8 a0, .int .i8 a1, .int .i8 a2, .int .i8 a3, .int .i8 a4, .int .i8 a5, .bool ah, .int .i8 b0, .int .i8 b1, .int .i8 b2, .int .i8 b3, .int .i8 b4, .int .i8 b5, .bool bh], .agg #[.string ax, .string ay], .agg #[.string bx, .string bY]] w (Ret (fun r _ => r = .bool true) w) := by
 have HZ := hid hz;have HEQ := hid heq;have HK0 := hid hK0;have HKL := hid hKL;clear hz heq hK0 hKL;go_enter Tryz.func3, Tryz.ntmps3;go_wp2_with fail;obtain ⟨W, hW⟩ : ∃ W, W = ((w.alloc (.cells #[.int .u8 kz, .int .i8 s0, .int .i8 s1, .bool half, .int .i8 a0, .int .i8 a1, .int .i8 a2, .int .i8 a3, .int .i8 a4, .int .i8 a5, .bool ah, .int .i8 b0, .int .i8 b1, .int .i8 b2, .int .i8 b3, .int .i8 b4, .int .i8 b5, .bool bh] 30)).alloc (.cells #[.string ax, .string ay] 33)).alloc (.cells #[.string bx, .string bY] 33) := ⟨_, rfl⟩;have hB : Below w.heap.size w W := by rw [hW]; exact (((Below.refl _ _).alloc (Nat.le_refl _) _).alloc (by simp) _).alloc (by simp; omega) _
 have bb : BoxN W (w.heap.size + 1 + 1) 33 [.string bx, .string bY] := by rw [hW]; exact BoxN.new _ _ _ _ (by simp)
 have ba : BoxN W (w.heap.size + 1) 33 [.string ax, .string ay] := by rw [hW]; exact (BoxN.new _ _ _ _ (by simp)).alloc _
 have bi : BoxN W w.heap.size 30 [.int .u8 kz, .int .i8 s0, .int .i8 s1, .bool half, .int .i8 a0, .int .i8 a1, .int .i8 a2, .int .i8 a3, .int .i8 a4, .int .i8 a5, .bool ah, .int .i8 b0, .int .i8 b1, .int .i8 b2, .int .i8 b3, .int .i8 b4, .int .i8 b5, .bool bh] := by rw [hW]; exact ((BoxN.new _ _ _ _ rfl).alloc _).alloc _
 rw [<- hW];clear hW;refine (known13_any W (hg.below hB)).mono ?_;rintro e o1 ⟨_, rfl, rfl, hb1⟩;have hB1 := hB.trans (hb1.mono hB.size);have bb1 := bb.below hb1 bb.lt;have ba1 := ba.below hb1 ba.lt;have bi1 := bi.below hb1 bi.lt;clear hb1 hB bi ba bb;have x0 := ba1.cell 0 rfl;have x1 := ba1.cell 1 rfl;have y0 := bb1.cell 0 rfl;have y1 := bb1.cell 1 rfl;have k0 := bi1.cell 0 rfl;have k1 := bi1.cell 1 rfl;have k2 := bi1.cell 2 rfl;have k3 := bi1.cell 3 rfl;have d1 : decide ((40 : Int) < (ax.size : Int)) = false := decide_eq_false (by omega);have d2 : decide ((40 : Int) < (ay.size : Int)) = false := decide_eq_false (by omega);have d3 : decide ((40 : Int) < (bx.size : Int)) = false := decide_eq_false (by omega);have d4 : decide ((40 : Int) < (bY.size : Int)) = false := decide_eq_false (by omega);go_wp2_with fail;refine (HMK.out o1 (hg.below hB1)).mono ?_;rintro e o2 ⟨_, rfl, ⟨vp, vt, rfl, hp, ht⟩, hb2⟩;have hB2 := hB1.trans (hb2.mono hB1.size);have bi2 := bi1.below hb2 bi1.lt;have ba2 := ba1.below hb2 ba1.lt;have bb2 := bb1.below hb2 bb1.lt;obtain ⟨pp, cp, rfl, -, -, -⟩ := hp.open;obtain ⟨pt, ct, rfl, -, -, -⟩ := ht.open;rw [sPl] at *;clear hb2 hB1 bi1 ba1 bb1 k0 k1 k2 k3 HMK d1 d2 d3 d4 x0 x1 y0 y1 h1 h2 h3 h4;go_upto_region 4 with fail;obtain ⟨o3, ho3⟩ : ∃ W, W = o2.alloc (.cells #[.slice pp P.length cp, .slice pt T.length ct] 38) := ⟨_, rfl⟩;have h23 : Below o2.heap.size o2 o3 := by rw [ho3]; exact zal _ _
 have bm : BoxN o3 o2.heap.size 38 [.slice pp P.length cp, .slice pt T.length ct] := by rw [ho3]; exact BoxN.new _ _ _ _ rfl
 have hB3 := hB2.trans (h23.mono hB2.size);have bi3 := bi2.below h23 bi2.lt;have ba3 := ba2.below h23 ba2.lt;have bb3 := bb2.below h23 bb2.lt;have hp3 := RdC.below hp h23;have ht3 := RdC.below ht h23;rw [<- ho3];clear ho3 hp ht bi2 ba2 bb2 h23 hB2;have m0 := bm.cell 0 rfl;have m1 := bm.cell 1 rfl;have k4 := bi3.cell 4 rfl;have k5 := bi3.cell 5 rfl;have k6 := bi3.cell 6 rfl;have k7 := bi3.cell 7 rfl;have k8 := bi3.cell 8 rfl;have k9 := bi3.cell 9 rfl;have k10 := bi3.cell 10 rfl;go_wp2_with fail;refine (HMF.out o3 _ _ hp3 ht3 (hg.below hB3)).mono ?_;rintro e o4 ⟨_, rfl, hF4, hb4⟩;have hB4 := hB3.trans (hb4.mono hB3.size);have bm4 := bm.below hb4 bm.lt;have ba4 := ba3.below hb4 ba3.lt;have bb4 := bb3.below hb4 bb3.lt;have HF4 := hid hF4;obtain ⟨_, _, _, _, pf, cf, -, -, rfl⟩ := hF4.open;clear m0 m1 k4 k5 k6 k7 k8 k9 k10 hb4 hB3 bi3 ba3 bb3 bm hp3 ht3 hF4 HMF;have m0 := bm4.cell 0 rfl;have m1 := bm4.cell 1 rfl;have x0 := ba4.cell 0 rfl;have x1 := ba4.cell 1 rfl;have y0 := bb4.cell 0 rfl;have y1 := bb4.cell 1 rfl;go_wp2_with fail;refine (HPR.out o4 _ _ _ HF4.out (hg.below hB4)).mono ?_;rintro e o5 ⟨_, rfl, ⟨v9, rfl, hkn⟩, hb5⟩;have hB5 := hB4.trans (hb5.mono hB4.size);have bm5 := bm4.below hb5 bm4.lt;have ba5 := ba4.below hb5 ba4.lt;have bb5 := bb4.below hb5 bb4.lt;have HF5 := hid (HF4.out.below hb5);have HKN := hid hkn;obtain ⟨p9, c9, rfl, -⟩ := hkn;clear m0 m1 x0 x1 y0 y1 hb5 hB4 ba4 bb4 bm4 HF4 HPR;have m0 := bm5.cell 0 rfl;have m1 := bm5.cell 1 rfl;have x0 := ba5.cell 0 rfl;have x1 := ba5.cell 1 rfl;have y0 := bb5.cell 0 rfl;have y1 := bb5.cell 1 rfl;go_wp2_with fail;refine (HRA.out o5 (hg.below hB5)).mono ?_;rintro e q1 ⟨_, rfl, rfl, hq1⟩;have hQ1 := hB5.trans (hq1.mono hB5.size);have bm6 := bm5.below hq1 bm5.lt;have ba6 := ba5.below hq1 ba5.lt;have bb6 := bb5.below hq1 bb5.lt;have HF6 := hid (HF5.out.below hq1);have HN6 := hid (RdC.below HKN.out hq1);clear m0 m1 x0 x1 y0 y1 hq1 hB5 bm5 ba5 bb5 HF5 HKN HRA;have m0 := bm6.cell 0 rfl;have m1 := bm6.cell 1 rfl;have x0 := ba6.cell 0 rfl;have x1 := ba6.cell 1 rfl;have y0 := bb6.cell 0 rfl;have y1 := bb6.cell 1 rfl;cases ra
 ·obtain rfl : zc = 2 := by rw [HZ.out]; simp
  have HKE := hid (HK0.out (by decide));rw [HKE.out];clear HK0 HKL HAL HTW HTA HTB;go_wp2_with fail;go_ret;exact ⟨_, rfl, by first | rfl | simp, hQ1⟩
 ·go_wp2_with fail
  refine (HRB.out q1 (hg.below hQ1)).mono ?_;rintro e q2 ⟨_, rfl, rfl, hq2⟩;have hQ2 := hQ1.trans (hq2.mono hQ1.size);have bm7 := bm6.below hq2 bm6.lt;have ba7 := ba6.below hq2 ba6.lt;have bb7 := bb6.below hq2 bb6.lt;have HF7 := hid (HF6.out.below hq2);have HN7 := hid (RdC.below HN6.out hq2);clear m0 m1 x0 x1 y0 y1 hq2 hQ1 bm6 ba6 bb6 HF6 HN6 HRB;have m0 := bm7.cell 0 rfl;have m1 := bm7.cell 1 rfl;have x0 := ba7.cell 0 rfl;have x1 := ba7.cell 1 rfl;have y0 := bb7.cell 0 rfl;have y1 := bb7.cell 1 rfl;cases rb
  ·obtain rfl : zc = 2 := by rw [HZ.out]; simp
   have HKE := hid (HK0.out (by decide));rw [HKE.out];clear HK0 HKL HAL HTW HTA HTB;go_wp2_with fail;go_ret;exact ⟨_, rfl, by first | rfl | simp, hQ2⟩
  ·have heq := HEQ.out
   clear HEQ;rcases heq with ⟨rfl, e1, e2⟩ | ⟨rfl, e1 | ⟨e1, e2⟩⟩
   ·obtain rfl : zc = 17 := by rw [HZ.out]; simp
    have HKE := hid (HK0.out (by decide));rw [HKE.out];clear HK0 HKL HAL HTW HTA HTB;go_wp2_with fail;go_ret;exact ⟨_, rfl, by first | rfl | simp, hQ2⟩
   all_goals
    have hz3 : zc = if ia = false \/ ib = false then 28 else 0 := by rw [HZ.out]; simp
    have HZ3 := hid hz3;clear hz3;go_wp2_with fail;refine (HTA.out (by first | rfl | trivial) (by first | rfl | trivial) (by first | rfl | trivial) q2 _ _ _ HF7.out (hg.below hQ2)).mono ?_;rintro e q3 ⟨_, rfl, rfl, hq3⟩;have hQ3 := hQ2.trans (hq3.mono hQ2.size);have bm8 := bm7.below hq3 bm7.lt;have ba8 := ba7.below hq3 ba7.lt;have bb8 := bb7.below hq3 bb7.lt;have HF8 := hid (HF7.out.below hq3);have HN8 := hid (RdC.below HN7.out hq3);clear m0 m1 x0 x1 y0 y1 hq3 hQ2 bm7 ba7 bb7 HF7 HN7 HTA;have m0 := bm8.cell 0 rfl;have m1 := bm8.cell 1 rfl;have y0 := bb8.cell 0 rfl;have y1 := bb8.cell 1 rfl;go_wp2_with fail;refine (HTB.out (by first | rfl | trivial) (by first | rfl | trivial) (by first | rfl | trivial) q3 _ _ _ HF8.out (hg.below hQ3)).mono ?_;rintro e q4 ⟨_, rfl, rfl, hq4⟩;have hQ4 := hQ3.trans (hq4.mono hQ3.size);have bm9 := bm8.below hq4 bm8.lt;have ba9 := ba8.below hq4 ba8.lt;have bb9 := bb8.below hq4 bb8.lt;have HF9 := hid (HF8.out.below hq4);have HN9 := hid (RdC.below HN8.out hq4);clear m0 m1 y0 y1 hq4 hQ3 bm8 ba8 bb8 HF8 HN8 HTB;by_cases hib : ia = false \/ ib = false
    ·obtain rfl : zc = 28 := by rw [HZ3.out, if_pos hib]
     have HKE := hid (HK0.out (by decide));rw [HKE.out];clear HK0 HKL HAL HTW HZ3;cases ia <;> cases ib;all_goals first | (exfalso; simp at hib; done) | skip
     all_goals
      clear hib;go_wp2_with fail;go_ret;exact ⟨_, rfl, by first | rfl | simp, hQ4⟩
    obtain rfl : zc = 0 := by rw [HZ3.out, if_neg hib]
    obtain rfl : ia = true := by cases ia <;> simp_all
    obtain rfl : ib = true := by cases ib <;> simp_all
    clear hib HZ3 HK0;obtain ⟨M, hM⟩ : ∃ M, M = L.length + 1 := ⟨_, rfl⟩;have hKM : K.length = M := by rw [hM]; exact HKL.out rfl
    have HTX : Hid (∀ i, i < M -> _) := fun i hi => HTW.out rfl i (by omega)
    have HAX : Hid (∀ w vp vt vf, FieldIn w vp vt vf P T 2 F -> Good w -> _) := HAL.out rfl;rw [hKM] at *;clear hKM HKL HTW HAL HZ;have m0 := bm9.cell 0 rfl;have m1 := bm9.cell 1 rfl;have x0 := ba9.cell 0 rfl;have x1 := ba9.cell 1 rfl;have y0 := bb9.cell 0 rfl;have y1 := bb9.cell 1 rfl;go_wp2_with fail;refine (HAX.out q4 _ _ _ HF9.out (hg.below hQ4)).mono ?_;rintro e q5 ⟨_, rfl, ⟨vs, rfl, hsp⟩, hb5⟩;have hQ5 := hQ4.trans (hb5.mono hQ4.size);have bmA := bm9.below hb5 bm9.lt;have baA := ba9.below hb5 ba9.lt;have bbA := bb9.below hb5 bb9.lt;have HFA := hid (HF9.out.below hb5);have HNA := hid (RdC.below HN9.out hb5);obtain ⟨ps, cs, rfl, hsc⟩ := hsp.cells;have HSC := hid hsc;have hwM : IntKind.i64.wrap ((L.length : Int) + 1) = (M : Int) := by rw [IntWalk.i64_in _ (by omega)]; omega
    have hMz : (M : Int) = (L.length : Int) + 1 := by omega
    have HM := hid hM;have hM8 : M <= 9 := by omega
    have hM1 : 0 < M := by omega
    clear m0 m1 x0 x1 y0 y1 hb5 hQ4 bm9 ba9 bb9 HF9 HN9 HAX hsp hsc hM;go_upto_region 21 with fail;clear hMz;obtain ⟨SH, hSH⟩ : ∃ SH : List Rat, SH = (List.range M).map (knSh L) := ⟨_, rfl⟩;have hSl : SH.length = M := by rw [hSH]; simp
    have hSg : ∀ i, i < M -> SH[i]? = some (knSh L i) := fun i hi => by rw [hSH, List.getElem?_map, List.getElem?_range hi]; rfl
    have HSG := hid hSg;have HSL := hid hSl;have HTS : Hid (∀ i, i + 1 < M -> SH.take (i + 2) = SH.take (i + 1) ++ [knSh L (i + 1)]) := fun i hi => take_snoc _ _ _ (hSg _ hi);have HS1 : Hid (SH.take 1 = [knSh L 0]) := by
     have := take_snoc SH 0 (knSh L 0) (hSg 0 (by omega));rw [List.take_zero, List.nil_append] at this;exact this
    have HK0' : Hid (knSh L 0 = 0) := rfl;have own0 := owns_one q5 q5.heap.size 31 (.string ⟨#[48]⟩) (Nat.le_refl _);obtain ⟨W5, hW5⟩ : ∃ W, W = q5.alloc (.cells #[.string ⟨#[48]⟩] 31) := ⟨_, rfl⟩;have hb5W : Below q5.heap.size q5 W5 := by rw [hW5]; exact zal _ _
    rw [<- hW5] at own0 ⊢;obtain ⟨i0, hi, hz0, hz1, hz2⟩ := info_parts info_str;clear hW5 hSH hSg hSl;have hLM : ∀ i : Nat, i < L.length -> i + 1 < M := fun i hi => by have := HM.out; omega
    have HLM := hid hLM;have HLL : Hid (L.length + 1 = M) := HM.out.symm;clear hLM;go_wp2_with fail;go_loopw [18, 19] (fun t18 t19 wr => ∃ i : Nat, t19 = .int .i64 i /\ i <= L.length /\ wr.ownsRow q5.heap.size 31 1 t18 (i + 1) ((SH.take (i + 1)).map fun q => Value.string (RS q)) /\ Below q5.heap.size q5 wr) (fun _ t19 _ => L.length - (RowKit.intOf t19).toNat)
    case atStart => exact ⟨0, rfl, Nat.zero_le _, by rw [HS1.out, HK0'.out, List.map_cons, RS_zero, List.map_nil]; exact own0, hb5W⟩
    case round =>
     obtain ⟨i, rfl, hin, hown, hbr⟩ := hrel;obtain ⟨p18, c18, rfl⟩ := oRs hown;have hQr := hQ5.trans (hbr.mono hQ5.size);have hzr := hbr.size;rcases Nat.lt_or_ge i L.length with hlt | hlt
     ·have hiz : (i : Int) < (L.length : Int) := by omega
      obtain ⟨bs, os, rfl, hbs, hsc⟩ := HSC.out (List.ne_nil_of_length_pos (by omega));have s2 := (hsc i (spanI L i) (by unfold spanI; rw [List.getElem?_eq_getElem hlt]; rfl)).2.2;have s2r := zcq hbr hbs s2;have HT1 := hid (HTS.out i (HLM.out i hlt));have HKS : Hid (knSh L (i + 1) = (spanI L i).2.2) := rfl;have HBE : Hid (((SH.take (i + 2)).map fun q => Value.string (RS q)) = ((SH.take (i + 1)).map fun q => Value.string (RS q)) ++ [.string (RS (spanI L i).2.2)]) := by unfold Hid; rw [HT1.out, List.map_append, HKS.out]; rfl
      generalize RS (spanI L i).2.2 = ss at *;have hi8 : i + 1 <= 9 := by omega
      clear hsc s2
      go_wp2_with (at_builtin; refine wpList_append_own _ rfl _ _ 40 rfl q5.heap.size 31 i0 (.string ⟨#[]⟩) 1 16 Tryz.underlying40 hi hz0 hz1 hz2 rfl (by decide) _ _ _ rfl (hown.alloc _) ⟨wr.heap.size, 0, none⟩ 1 1 [.string ss] rfl rfl (cell_one_str _ _ _) (one_cell_str _) (by unfold maxLen; omega) (by omega) (by simp; omega) ?_
                   intro v6 w6 hown6 hgrow6 _;have hbr6 : Below q5.heap.size q5 w6 := (hbr.alloc hzr _).grown hgrow6 (by simp; omega) (fun j hj => by have := (hown.lt j hj).1; omega);clear hgrow6)
      rw [<- HBE.out] at hown6;go_roundw
      case rel => exact ⟨i + 1, by go_num, by omega, hown6, hbr6⟩
      case measure => simp [RowKit.intOf]; omega
     ·obtain rfl : i = L.length := by omega
      have hiz : ¬ (L.length : Int) < (L.length : Int) := by omega
      have hrd : RdQ wr (.slice p18 (L.length + 1) c18) SH := by
       have h1 : RdC 1 wr (.slice p18 (L.length + 1) c18) (L.length + 1) ((SH.take (L.length + 1)).map fun q => Value.string (RS q)) := RdC.of_owns hown;rw [HLL.out] at h1 ⊢;rw [List.take_of_length_le (by rw [HSL.out]; exact Nat.le_refl _)] at h1;unfold RdQ;rw [HSL.out];exact h1
      obtain ⟨bz, oz, cz, ez, hbz, hzc⟩ := hrd.cells (by rw [HSL.out]; exact hM1);injection ez with ez1 ez2 ez3
      subst ez1; subst ez3;clear ez2;have HZC : Hid (∀ j : Nat, j < M -> wr.cell? ⟨bz, oz + j, none⟩ = some (.string (RS (knSh L j)))) := fun j hj => by
       have h1 := hzc j (by rw [HSL.out]; exact hj);rw [show hI SH (j : Int) = knSh L j by unfold hI; rw [show ((j : Int)).toNat = j from rfl, HSG.out j hj]; rfl] at h1;exact h1
      obtain ⟨q6, hq6⟩ : ∃ q6 : World, q6 = wr := ⟨_, rfl⟩;subst hq6;have bmB := bmA.below hbr bmA.lt;have baB := baA.below hbr baA.lt;have bbB := bbA.below hbr bbA.lt;have HFB := hid (HFA.out.below hbr);have HNB := hid (RdC.below HNA.out hbr);rw [HLL.out];have HNC : Hid (∀ (j : Nat) (kn : Knt), j < M -> K[j]? = some kn -> ∃ b9 o9 : Nat, p9 = some ⟨b9, o9, none⟩ /\ b9 < q6.heap.size /\ q6.cell? ⟨b9, o9 + j * 2, none⟩ = some (.string (RS kn.1)) /\ q6.cell? ⟨b9, o9 + j * 2 + 1, none⟩ = some (.string (RS kn.2))) := fun j kn hj hk => by
       obtain ⟨hjl, hkj⟩ := List.getElem?_eq_some_iff.1 hk;obtain ⟨pq, cq, e1, -, -, h3, h4⟩ := HNB.out;injection e1 with e1 _ _
       obtain ⟨g0, g1⟩ := cellsKn_get K j hjl;rw [hkj] at g0 g1;obtain ⟨b9, o9, rfl, h5⟩ := h4 (by intro e; rw [e] at g0; simp at g0);have c0 := h5 _ _ g0;refine ⟨b9, o9, e1, World.block_lt_of_cell? q6 _ c0, c0, ?_⟩;have c1 := h5 _ _ g1;rw [<- Nat.add_assoc] at c1;exact c1
      clear hown hrd hzc own0 hb5W HTS HS1 HLM HSG HSL HSC HNA HNB HFA bmA baA bbA hiz hin hlt hi hz0 hz1 hz2;go_wp2_with fail;go_loopw [20] (fun t20 wr => ∃ i : Nat, t20 = .int .i64 i /\ i <= M /\ Below q6.heap.size q6 wr) (fun t20 _ => M - (RowKit.intOf t20).toNat)
      case atStart => exact ⟨0, rfl, Nat.zero_le _, Below.refl _ _⟩
      case round =>
       obtain ⟨i, rfl, hin, hbr2⟩ := hrel;have hQ7 := hQr.trans (hbr2.mono hQr.size);rcases Nat.lt_or_ge i M with hlt | hlt
       ·have hiz : (i : Int) < (M : Int) := by omega
        obtain ⟨px, py, kn, hkn, hk1, HT1, HT2⟩ := HTX.out i hlt;obtain ⟨b9, o9, rfl, hb9, n0, n1⟩ := HNC.out i kn hlt hkn;rw [hk1] at n0;have z0 := HZC.out i hlt;generalize RS (knSh L i) = ks at *;generalize RS kn.2 = vs2 at *;have HT1' := hid HT1;have HT2' := hid HT2;have bmC := bmB.below hbr2 bmB.lt;have baC := baB.below hbr2 baB.lt;have bbC := bbB.below hbr2 bbB.lt;have HFC := hid (HFB.out.below hbr2);have z0r := zcq hbr2 hbz z0;have m0 := bmC.cell 0 rfl;have m1 := bmC.cell 1 rfl;have x0 := baC.cell 0 rfl;have x1 := baC.cell 1 rfl;have y0 := bbC.cell 0 rfl;have y1 := bbC.cell 1 rfl;have lm := bmC.lt;have la := baC.lt;have lb := bbC.lt;have lz : bz < wr.heap.size := Nat.lt_of_lt_of_le hbz hbr2.size;have hgd : Good wr.drew := (hg.below hQ7).drewN 1;clear hkn hk1 HT1 HT2;go_upto_region 28 with fail;go_cut [21, 22] (fun s21 s22 wx => s21 = .string vs2 /\ s22 = .bool true /\ Below wr.heap.size wr wx)
        case first =>
               go_region_held3 (fun w' => w'.cell? ⟨o2.heap.size, 0, none⟩ = some (.slice pp P.length cp) /\ w'.cell? ⟨o2.heap.size, 1, none⟩ = some (.slice pt T.length ct) /\ w'.cell? ⟨w.heap.size + 1, 0, none⟩ = some (.string ax) /\ w'.cell? ⟨w.heap.size + 1, 1, none⟩ = some (.string ay) /\ w'.cell? ⟨w.heap.size + 1 + 1, 0, none⟩ = some (.string bx) /\ w'.cell? ⟨w.heap.size + 1 + 1, 1, none⟩ = some (.string bY) /\ w'.cell? ⟨bz, oz + i, none⟩ = some (.string ks))
                (first | exact ⟨m0, m1, x0, x1, y0, y1, z0r⟩ | exact ⟨p_1_0, p_1_1, p_1_2, p_1_3, p_1_4, p_1_5, p_1_6⟩ | exact ⟨p_2_0, p_2_1, p_2_2, p_2_3, p_2_4, p_2_5, p_2_6⟩)
                (first
                | (go_at_call 11; refine (HT2'.out _ _ _ _ (HFC.out.below ((bdN wr 1).trans (pb1.mono (Nat.le_refl _)))) pg1).mono ?_; rintro e pw2 ⟨_, rfl, rfl, pb2⟩
                   have p_2_0 := zct pb2 p_1_0;have p_2_1 := zct pb2 p_1_1;have p_2_2 := zct pb2 p_1_2;have p_2_3 := zct pb2 p_1_3;have p_2_4 := zct pb2 p_1_4;have p_2_5 := zct pb2 p_1_5;have p_2_6 := zct pb2 p_1_6;have ps2 := pb2.size;have pg2 := pg1.below pb2)
                | (go_at_call 13; refine (HT1'.out _ hgd).mono ?_; rintro e pw1 ⟨_, rfl, rfl, pb1⟩
                   have p_1_0 := zct pb1 m0;have p_1_1 := zct pb1 m1;have p_1_2 := zct pb1 x0;have p_1_3 := zct pb1 x1;have p_1_4 := zct pb1 y0;have p_1_5 := zct pb1 y1;have p_1_6 := zct pb1 z0r;have ps1 : wr.heap.size <= pw1.heap.size := pb1.size;have pg1 := hgd.below pb1))
               have pB : Below wr.heap.size wr pw2 := zbt (zbt (bdN wr 1) pb1) pb2;go_wp2_with fail;go_meet;exact ⟨rfl, rfl, pB⟩
        case rest =>
        obtain ⟨rfl, rfl, hbx⟩ := hcut;have hbr3 := hbr2.trans (hbx.mono hbr2.size);have n0r := zcq hbr3 hb9 n0;have n1r := zcq hbr3 hb9 n1;have z1r := zcq hbr3 hbz z0;clear m0 m1 x0 x1 y0 y1 z0r hgd bmC baC bbC HFC HT1' HT2' lm la lb lz n0 n1 z0;have HKA : Hid (∀ w', w' = wc.drew -> w'.cell? ⟨b9, o9 + i * 2, none⟩ = some (.string ks) /\ w'.cell? ⟨b9, o9 + i * 2 + 1, none⟩ = some (.string vs2) /\ w'.cell? ⟨bz, oz + i, none⟩ = some (.string ks)) := fun w' h => by rw [h]; exact ⟨n0r, n1r, z1r⟩
        have hbd : Below q6.heap.size q6 wc.drew := hbr3.trans ((bdN wc 1).mono hbr3.size);go_upto_region 29 with fail;refine wp_region_held_drew (S := (fun w' => w'.cell? ⟨b9, o9 + i * 2, none⟩ = some (.string ks) /\ w'.cell? ⟨b9, o9 + i * 2 + 1, none⟩ = some (.string vs2) /\ w'.cell? ⟨bz, oz + i, none⟩ = some (.string ks))) (by kernel_rfl) ?_ (fun hHeld => ?_)
        ·exact HKA.out _ rfl
        refine zhk 0 ?_;try simp only [Act.put, zga, zgz, zsa, zsz, zss]
        refine zhk 1 ?_;try simp only [Act.put, zga, zgz, zgs, zsa, zsz, zss]
        refine zhk 2 ?_;try simp only [Act.put, zga, zgz, zgs, zsa, zsz, zss]
        refine zhk 3 ?_;try simp only [Act.put, zga, zgz, zgs, zsa, zsz, zss]
        refine zhk 4 ?_;try simp only [Act.put, zga, zgz, zgs, zsa, zsz, zss]
        refine zhk 5 ?_;try simp only [Act.put, zga, zgz, zgs, zsa, zsz, zss]
        refine zhk 6 ?_;try simp only [Act.put, zga, zgz, zgs, zsa, zsz, zss]
        refine zhk 7 ?_;try simp only [Act.put, zga, zgz, zgs, zsa, zsz, zss]
        refine zhk 8 ?_;try simp only [Act.put, zga, zgz, zgs, zsa, zsz, zss]
        refine zhk 9 ?_;try simp only [Act.put, zga, zgz, zgs, zsa, zsz, zss]
        refine zhk 10 ?_;try simp only [Act.put, zga, zgz, zgs, zsa, zsz, zss]
        refine zhk 11 ?_;try simp only [Act.put, zga, zgz, zgs, zsa, zsz, zss]
        refine zhk 12 ?_;try simp only [Act.put, zga, zgz, zgs, zsa, zsz, zss]
        refine zhk 13 ?_;try simp only [Act.put, zga, zgz, zgs, zsa, zsz, zss]
        refine zhk 14 ?_;try simp only [Act.put, zga, zgz, zgs, zsa, zsz, zss]
        refine wpAnyH_done (by kernel_rfl) ?_ _;go_wp2_with fail;go_roundw
        case rel => exact ⟨i + 1, by go_num, by omega, hbd⟩
        case measure => simp [RowKit.intOf]; omega
       ·obtain rfl : i = M := by omega
        have hiz : ¬ (i : Int) < (i : Int) := by omega
        go_wp2_with fail;go_ret;exact ⟨_, rfl, rfl, hQ7⟩
theorem tow05_any (a b : PtQ) (s : Rat) (n m : Nat) (hn : 0 < n) (hm : m + 3 * n + 2 <= 20000) (ha : SzP n a) (hb : SzP n b) (hs : Sz m s) (w : World) (hg : Good w) :
 Calls Tryz.prog 13 #[.agg #[.string (RS a.1), .string (RS a.2)], .agg #[.string (RS b.1), .string (RS b.2)], .string (RS s)] w (Ret (fun r _ => r = .agg #[.string (RS (towQ a.1 b.1 s)), .string (RS (towQ a.2 b.2 s))]) w) := by
 have H1 := hid fun w hg => subQ_any b.1 a.1 n hn (by omega) hb.1 ha.1 w hg
 have H4 := hid fun w hg => subQ_any b.2 a.2 n hn (by omega) hb.2 ha.2 w hg
 have z1 : Sz (2 * n + 1) (b.1 - a.1) := (hb.1.sub ha.1).mono (by omega);have z2 : Sz (2 * n + 1) (b.2 - a.2) := (hb.2.sub ha.2).mono (by omega);have H2 := hid fun w hg => mulQ_any s (b.1 - a.1) (m + 2 * n + 1) (by omega) (by omega) (hs.mono (by omega)) (z1.mono (by omega)) w hg
 have H5 := hid fun w hg => mulQ_any s (b.2 - a.2) (m + 2 * n + 1) (by omega) (by omega) (hs.mono (by omega)) (z2.mono (by omega)) w hg
 have y1 : Sz (m + 2 * n + 1) (s * (b.1 - a.1)) := (hs.mul z1).mono (by omega);have y2 : Sz (m + 2 * n + 1) (s * (b.2 - a.2)) := (hs.mul z2).mono (by omega);have H3 := hid fun w hg => addQ_any a.1 (s * (b.1 - a.1)) (m + 2 * n + 1) (by omega) (by omega) (ha.1.mono (by omega)) y1 w hg
 have H6 := hid fun w hg => addQ_any a.2 (s * (b.2 - a.2)) (m + 2 * n + 1) (by omega) (by omega) (ha.2.mono (by omega)) y2 w hg
 unfold towQ;generalize RS (a.1 + s * (b.1 - a.1)) = r1 at *;generalize RS (a.2 + s * (b.2 - a.2)) = r2 at *;generalize RS (s * (b.1 - a.1)) = p1 at *;generalize RS (s * (b.2 - a.2)) = p2 at *;generalize RS (b.1 - a.1) = d1 at *;generalize RS (b.2 - a.2) = d2 at *;generalize RS a.1 = ax at *;generalize RS a.2 = ay at *;generalize RS b.1 = bx at *;generalize RS b.2 = by' at *;generalize RS s = sz at *;clear ha hb hs z1 z2 y1 y2 hm;go_enter Tryz.func13, Tryz.ntmps13;go_wp2_with fail;obtain ⟨W, hW⟩ : ∃ W, W = ((w.alloc (.cells #[.string ax, .string ay] 33)).alloc (.cells #[.string bx, .string by'] 33)).alloc (.cells #[.string ⟨#[]⟩, .string ⟨#[]⟩] 33) := ⟨_, rfl⟩;have hB : Below w.heap.size w W := by rw [hW]; exact (((Below.refl _ _).alloc (Nat.le_refl _) _).alloc (by simp) _).alloc (by simp; omega) _
 have b6 : BoxN W (w.heap.size + 1 + 1) 33 [.string ⟨#[]⟩, .string ⟨#[]⟩] := by rw [hW]; exact BoxN.new _ _ _ _ (by simp)
 have b4 : BoxN W (w.heap.size + 1) 33 [.string bx, .string by'] := by
  rw [hW];have h1 := (BoxN.new (w.alloc (.cells #[.string ax, .string ay] 33)) #[.string bx, .string by'] 33 (w.heap.size + 1) (by simp));exact h1.below (zal _ _) h1.lt
 have b3 : BoxN W w.heap.size 33 [.string ax, .string ay] := by
  rw [hW];have h1 := (BoxN.new w #[.string ax, .string ay] 33 _ rfl);exact h1.below (((Below.refl _ _).alloc (Nat.le_refl _) _).alloc (by simp) _) h1.lt
 rw [<- hW];clear hW;have hgd : Good W.drew := (hg.below hB).drewN 1;have HF : Hid (∀ w', Below W.heap.size W w' -> (w'.cell? ⟨w.heap.size, 0, none⟩ = some (.string ax) /\ w'.cell? ⟨w.heap.size, 1, none⟩ = some (.string ay) /\ w'.cell? ⟨w.heap.size + 1, 0, none⟩ = some (.string bx) /\ w'.cell? ⟨w.heap.size + 1, 1, none⟩ = some (.string by')) /\ Good w' /\ BoxN w' (w.heap.size + 1 + 1) 33 [.string ⟨#[]⟩, .string ⟨#[]⟩] /\ Below w.heap.size w w') := fun w' hb => by
  have x3 := b3.below hb b3.lt;have x4 := b4.below hb b4.lt;exact ⟨⟨x3.cell 0 rfl, x3.cell 1 rfl, x4.cell 0 rfl, x4.cell 1 rfl⟩, (hg.below hB).below hb, b6.below hb b6.lt, hB.trans (hb.mono hB.size)⟩
 have HTR : Hid (∀ w' w'', Below W.heap.size W w' -> Below w'.heap.size w' w'' -> Below W.heap.size W w'') := fun w' w'' h1 h2 => h1.trans (h2.mono h1.size);have hb0 := bdN W 1;have hx0 := (HF.out _ hb0).1;have HFAR : Hid (∀ (X : World) (i j b m : Nat) (u v : Value), b < w.heap.size + 1 + 1 -> ((X.setCell ⟨w.heap.size + 1 + 1, i, none⟩ u).setCell ⟨w.heap.size + 1 + 1, j, none⟩ v).cell? ⟨b, m, none⟩ = X.cell? ⟨b, m, none⟩) := fun X i j b m u v h => by
  have hne : w.heap.size + 1 + 1 ≠ b := by omega
  rw [World.cell?_setCell_far _ _ _ _ hne, World.cell?_setCell_far _ _ _ _ hne]
 clear b3 b4 b6 hB;go_region_held3 (fun w' => w'.cell? ⟨w.heap.size, 0, none⟩ = some (.string ax) /\ w'.cell? ⟨w.heap.size, 1, none⟩ = some (.string ay) /\ w'.cell? ⟨w.heap.size + 1, 0, none⟩ = some (.string bx) /\ w'.cell? ⟨w.heap.size + 1, 1, none⟩ = some (.string by'))
  (first | exact hx0 | exact hx1 | exact hx2 | exact hx3 | exact hx4 | exact hx5 | exact hx6 | exact ⟨(HFAR.out _ _ _ _ _ _ _ (by omega)).trans hx6.1, (HFAR.out _ _ _ _ _ _ _ (by omega)).trans hx6.2.1, (HFAR.out _ _ _ _ _ _ _ (by omega)).trans hx6.2.2.1, (HFAR.out _ _ _ _ _ _ _ (by omega)).trans hx6.2.2.2⟩)
  (first
    | (go_at_call 22; refine (H6.out _ hg5).mono ?_; rintro e v6 ⟨_, rfl, rfl, hbb6⟩
       have hb_6 := HTR.out _ _ hb_5 hbb6;obtain ⟨hx6, hg6, b6_6, hB6⟩ := HF.out _ hb_6;have y0 := b6_6.cell 0 rfl;have y1 := b6_6.cell 1 rfl;have y0f := b6_6.frozen 0;have y1f := b6_6.frozen 1)
    | (go_at_call 24; refine (H5.out _ hg4).mono ?_; rintro e v5 ⟨_, rfl, rfl, hbb5⟩
       have hb_5 := HTR.out _ _ hb_4 hbb5;obtain ⟨hx5, hg5, b6_5, hB5⟩ := HF.out _ hb_5)
    | (go_at_call 16; refine (H4.out _ hg3).mono ?_; rintro e v4 ⟨_, rfl, rfl, hbb4⟩
       have hb_4 := HTR.out _ _ hb_3 hbb4;obtain ⟨hx4, hg4, b6_4, hB4⟩ := HF.out _ hb_4)
    | (go_at_call 22; refine (H3.out _ hg2).mono ?_; rintro e v3 ⟨_, rfl, rfl, hbb3⟩
       have hb_3 := HTR.out _ _ hb_2 hbb3;obtain ⟨hx3, hg3, b6_3, hB3⟩ := HF.out _ hb_3)
    | (go_at_call 24; refine (H2.out _ hg1).mono ?_; rintro e v2 ⟨_, rfl, rfl, hbb2⟩
       have hb_2 := HTR.out _ _ hb_1 hbb2;obtain ⟨hx2, hg2, b6_2, hB2⟩ := HF.out _ hb_2)
    | (go_at_call 16; refine (H1.out _ hgd).mono ?_; rintro e v1 ⟨_, rfl, rfl, hbb1⟩
       have hb_1 := HTR.out _ _ hb0 hbb1;obtain ⟨hx1, hg1, b6_1, hB1⟩ := HF.out _ hb_1))
 all_goals
  go_wp2_with fail;have BF := (b6_6.set 0 (.string r1)).set 1 (.string r2);have g0 := BF.cell 0 rfl;have g1 := BF.cell 1 rfl;have hle : w.heap.size <= w.heap.size + 1 + 1 := by omega
  have hBF := (hB6.setCell (p := ⟨w.heap.size + 1 + 1, 0, none⟩) hle (.string r1)).setCell (p := ⟨w.heap.size + 1 + 1, 1, none⟩) hle (.string r2);exact bodyPost_ret (v := .agg #[.string r1, .string r2]) (by simp [results, Tryz.results13, go_sem, g0, g1]) rfl ⟨_, rfl, rfl, hBF⟩
end Go.Proofs.YtegiemcnfbchoaaGreatDoor
