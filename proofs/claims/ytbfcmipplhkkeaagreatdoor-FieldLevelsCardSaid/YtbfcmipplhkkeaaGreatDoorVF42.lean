import Derived.Test.YtbfcmipplhkkeaaGreatDoorVF7
import Derived.Laws.StructEq
import Derived.Deep.MidRow
/- The walks over klipperef05.At, klippelaw13.example. The walk over klippelaw13.known. The beginning that the laws of klippelaw13 have alike. Plain The walks over slices.MinFunc, MaxFunc, field.Range, thickness.Extremes, At. klippelaw38.ThicknessVertical returns true at every plan and place klippelaw12.Place by 3 -/
set_option maxHeartbeats 8000000
set_option maxRecDepth 100000
namespace Go.Proofs.YtbfcmipplhkkeaaGreatDoor
open Go.RowKit Go.Lib
theorem zga {α : Type} {xs : List α} {i : Nat} (h : i < xs.toArray.size) : xs.toArray[i] = xs[i]'(by simpa using h) := List.getElem_toArray h
theorem zgz {α : Type} (a : α) (l : List α) (h : 0 < (a :: l).length) : (a :: l)[0] = a := List.getElem_cons_zero ..
theorem zgs {α : Type} (a : α) (l : List α) (i : Nat) (h : i + 1 < (a :: l).length) : (a :: l)[i + 1] = l[i]'(by simpa using h) := List.getElem_cons_succ ..
theorem zsa {α : Type} (l : List α) (i : Nat) (a : α) : l.toArray.setIfInBounds i a = (l.set i a).toArray := List.setIfInBounds_toArray ..
theorem zsz {α : Type} {x : α} {xs : List α} {a : α} : (x :: xs).set 0 a = a :: xs := List.set_cons_zero ..
theorem zss {α : Type} {x : α} {xs : List α} {i : Nat} {a : α} : (x :: xs).set (i + 1) a = x :: xs.set i a := List.set_cons_succ ..
theorem a0a (x y : Int) (hx : -1000 <= x /\ x <= 1000) (hy : -1000 <= y /\ y <= 1000) (w : World) (U : Good w) :
 Calls Tryz.prog 19 #[.int .i64 x, .int .i64 y] w (Ret (fun r _ => r = .agg #[.string (RS (x : Rat)), .string (RS (y : Rat))]) w) := by
 have key : ∀ z : Int, mkRat z 1 = (z : Rat) := fun z => by rw [<- Rat.mkRat_self (z : Rat)]; rfl
 have L := hid fun w U => oQa x 1 x 1 1 rfl (by omega) (by omega) (by omega) (.inl ⟨rfl, rfl⟩) w U
 have K := hid fun w U => oQa y 1 y 1 1 rfl (by omega) (by omega) (by omega) (.inl ⟨rfl, rfl⟩) w U
 rw [key] at L K;generalize RS (x : Rat) = px at *;generalize RS (y : Rat) = py at *;clear key;go_enter Tryz.func19, Tryz.ntmps19;go_wp2_with fail;obtain ⟨W, R⟩ := zex (w.alloc (.cells #[.string ⟨#[]⟩, .string ⟨#[]⟩] 50));have J : Below w.heap.size w W := by rw [R]; exact zal _ _
 have Q : BoxN W w.heap.size 50 [.string ⟨#[]⟩, .string ⟨#[]⟩] := by rw [R]; exact BoxN.new _ _ _ _ rfl
 rw [<- R];clear R;refine (L.out W (U.below J)).mono ?_;rintro e G ⟨_, rfl, rfl, X⟩;have S := zbt J X;have Y := Q.below X Q.lt;clear X Q;go_wp2_with fail;refine (K.out G (U.below S)).mono ?_;rintro e C ⟨_, rfl, rfl, V⟩;have O := zbt S V;have Z := Y.below V Y.lt;have c0 := Z.cell 0 rfl;have c1 := Z.cell 1 rfl;have E := Z.frozen 0;have D := Z.frozen 1;clear V Y;go_wp2_with fail;have M := (Z.set 0 (.string px)).set 1 (.string py);have N := (O.setCell (p := ⟨w.heap.size, 0, none⟩) (Nat.le_refl _) (.string px)).setCell (p := ⟨w.heap.size, 1, none⟩) (Nat.le_refl _) (.string py);have I := M.cell 0 rfl;have H := M.cell 1 rfl;exact bodyPost_ret (v := .agg #[.string px, .string py]) (by simp [results, Tryz.results19, go_sem, I, H]) rfl ⟨_, rfl, rfl, N⟩
def exP : List PtQ := [(0, 0), (2, 0), (2, 2), (0, 2)]
def exT : List Tri := [(0, 1, 2), (0, 2, 3)]
def exF : List Rat := [0, 2, 4, 0]
theorem ex_ok : MeshOK exP exT 2 := by
 have h := sok 0 0 0 true;rw [show sPP 0 0 0 true = exP by decide +kernel, show sa0 0 = exT from rfl] at h;exact h
theorem ecP : cPP (strP exP) = [.string (RS ((0 : Int) : Rat)), .string (RS ((0 : Int) : Rat)), .string (RS ((2 : Int) : Rat)), .string (RS ((0 : Int) : Rat)), .string (RS ((2 : Int) : Rat)), .string (RS ((2 : Int) : Rat)), .string (RS ((0 : Int) : Rat)), .string (RS ((2 : Int) : Rat))] := rfl
theorem enP : ∀ y ∈ cPP (strP exP), y ≠ .slice none 0 0 := by
 intro y hy;rw [ecP] at hy;simp only [List.mem_cons, List.not_mem_nil, or_false] at hy;rcases hy with rfl | rfl | rfl | rfl | rfl | rfl | rfl | rfl <;> exact fun e => by cases e
theorem enT : ∀ y ∈ cTT exT, y ≠ .slice none 0 0 := by
 intro y hy;rw [show cTT exT = [.int .i64 0, .int .i64 1, .int .i64 2, .int .i64 0, .int .i64 2, .int .i64 3] from rfl] at hy;simp only [List.mem_cons, List.not_mem_nil, or_false] at hy;rcases hy with rfl | rfl | rfl | rfl | rfl | rfl <;> exact fun e => by cases e
theorem ecF : [.string ⟨#[48]⟩, .string ⟨#[50]⟩, .string ⟨#[52]⟩, .string ⟨#[48]⟩] = exF.map fun x => Value.string (RS x) := by
 show _ = [Value.string (RS 0), .string (RS 2), .string (RS 4), .string (RS 0)];rw [show RS 0 = ⟨#[48]⟩ by decide +kernel, show RS 2 = ⟨#[50]⟩ by decide +kernel, show RS 4 = ⟨#[52]⟩ by decide +kernel]
theorem enF : ∀ y ∈ exF.map (fun x => Value.string (RS x)), y ≠ .slice none 0 0 := by
 intro y hy;obtain ⟨x, _, rfl⟩ := List.mem_map.1 hy;exact fun e => by cases e
theorem ex_fs : ∀ q ∈ exF, Sz 2 q := by
 intro q hq;simp only [exF, List.mem_cons, List.not_mem_nil, or_false] at hq;rcases hq with rfl | rfl | rfl | rfl <;> exact ⟨by decide +kernel, by decide +kernel⟩
theorem eay (w : World) (X : Good w) :
 Calls Tryz.prog 18 #[] w (Ret (fun r w' => ∃ vp vt vf, r = .tuple #[.agg #[vp, vt], vf] /\ FieldIn w' vp vt vf exP exT 2 exF) w) := by
 have y := hid fun w X => a0a 0 0 (by omega) (by omega) w X
 have x := hid fun w X => a0a 2 0 (by omega) (by omega) w X
 have t := hid fun w X => a0a 2 2 (by omega) (by omega) w X
 have s := hid fun w X => a0a 0 2 (by omega) (by omega) w X
 have J := hid ecP;have K := hid ecF;generalize RS ((0 : Int) : Rat) = s0 at *;generalize RS ((2 : Int) : Rat) = s2 at *;go_enter Tryz.func18, Tryz.ntmps18;go_wp2_with fail;obtain ⟨W, L⟩ := zex (w.alloc (.cells #[.slice none 0 0, .slice none 0 0] 35));have z : Below w.heap.size w W := by rw [L]; exact zal _ _
 have I : BoxN W w.heap.size 35 [.slice none 0 0, .slice none 0 0] := by rw [L]; exact BoxN.new _ _ _ _ rfl
 rw [<- L];clear L;refine (y.out W (X.below z)).mono ?_;rintro e h ⟨_, rfl, rfl, U⟩;have O := zbt z U;have b1 := I.below U I.lt;go_wp2_with fail;refine (x.out h (X.below O)).mono ?_;rintro e g ⟨_, rfl, rfl, S⟩;have N := zbt O S;have H := b1.below S b1.lt;go_wp2_with fail;refine (t.out g (X.below N)).mono ?_;rintro e f ⟨_, rfl, rfl, R⟩;have M := zbt N R;have G := H.below R H.lt;go_wp2_with fail;refine (s.out f (X.below M)).mono ?_;rintro e Y ⟨_, rfl, rfl, Q⟩;have V := zbt M Q;have Z := G.below Q G.lt;clear U S R Q I b1 H G;have c0 := Z.cell 0 rfl;have c1 := Z.cell 1 rfl;have f0 := Z.frozen 0;have f1 := Z.frozen 1;have d := Z.lt;have c0_1 := fun o => (Z.alloc o).cell 0 rfl;have c1_1 := fun o => (Z.alloc o).cell 1 rfl;have f0_1 := fun o => (Z.alloc o).frozen 0;have f1_1 := fun o => (Z.alloc o).frozen 1;have c0_2 := fun o p => ((Z.alloc o).alloc p).cell 0 rfl;have c1_2 := fun o p => ((Z.alloc o).alloc p).cell 1 rfl;have f0_2 := fun o p => ((Z.alloc o).alloc p).frozen 0;have f1_2 := fun o p => ((Z.alloc o).alloc p).frozen 1;have c0_3 := fun o p q => (((Z.alloc o).alloc p).alloc q).cell 0 rfl;have c1_3 := fun o p q => (((Z.alloc o).alloc p).alloc q).cell 1 rfl;have f0_3 := fun o p q => (((Z.alloc o).alloc p).alloc q).frozen 0;have f1_3 := fun o p q => (((Z.alloc o).alloc p).alloc q).frozen 1;go_wp2_with fail;have E := ((Z.alloc (.cells #[.string s0, .string s0, .string s2, .string s0, .string s2, .string s2, .string s0, .string s2] 50)).alloc (.cells #[.int .i64 0, .int .i64 1, .int .i64 2, .int .i64 0, .int .i64 2, .int .i64 3] 121)).alloc (.cells #[.string ⟨#[48]⟩, .string ⟨#[50]⟩, .string ⟨#[52]⟩, .string ⟨#[48]⟩] 40);have C := E.cell 0 rfl;have B := (E.set 0 (.slice (some ⟨Y.heap.size, 0, none⟩) 4 4)).cell 1 rfl;have A := (E.set 0 (.slice (some ⟨Y.heap.size, 0, none⟩) 4 4)).set 1 (.slice (some ⟨Y.heap.size + 1, 0, none⟩) 2 2);have n := A.cell 0 rfl;have m := A.cell 1 rfl;have j := V.size;have D := ((((V.alloc V.size (.cells #[.string s0, .string s0, .string s2, .string s0, .string s2, .string s2, .string s0, .string s2] 50)).alloc (by simp; omega) (.cells #[.int .i64 0, .int .i64 1, .int .i64 2, .int .i64 0, .int .i64 2, .int .i64 3] 121)).alloc (by simp; omega) (.cells #[.string ⟨#[48]⟩, .string ⟨#[50]⟩, .string ⟨#[52]⟩, .string ⟨#[48]⟩] 40)).setCell (p := ⟨w.heap.size, 0, none⟩) (Nat.le_refl _) (.slice (some ⟨Y.heap.size, 0, none⟩) 4 4)).setCell (p := ⟨w.heap.size, 1, none⟩) (Nat.le_refl _) (.slice (some ⟨Y.heap.size + 1, 0, none⟩) 2 2);have k := ((RdC.fresh 2 Y #[.string s0, .string s0, .string s2, .string s0, .string s2, .string s2, .string s0, .string s2] 50 4 rfl (by omega) _ J.out.symm _ rfl).alloc (.cells #[.int .i64 0, .int .i64 1, .int .i64 2, .int .i64 0, .int .i64 2, .int .i64 3] 121)).alloc (.cells #[.string ⟨#[48]⟩, .string ⟨#[50]⟩, .string ⟨#[52]⟩, .string ⟨#[48]⟩] 40);have i := (RdC.fresh 3 (Y.alloc (.cells #[.string s0, .string s0, .string s2, .string s0, .string s2, .string s2, .string s0, .string s2] 50)) #[.int .i64 0, .int .i64 1, .int .i64 2, .int .i64 0, .int .i64 2, .int .i64 3] 121 2 rfl (by omega) (cTT exT) rfl (Y.heap.size + 1) (by simp)).alloc (.cells #[.string ⟨#[48]⟩, .string ⟨#[50]⟩, .string ⟨#[52]⟩, .string ⟨#[48]⟩] 40);have l := RdQ.fresh ((Y.alloc (.cells #[.string s0, .string s0, .string s2, .string s0, .string s2, .string s2, .string s0, .string s2] 50)).alloc (.cells #[.int .i64 0, .int .i64 1, .int .i64 2, .int .i64 0, .int .i64 2, .int .i64 3] 121)) exF 40 #[.string ⟨#[48]⟩, .string ⟨#[50]⟩, .string ⟨#[52]⟩, .string ⟨#[48]⟩] K.out (by decide) 4 rfl (Y.heap.size + 1 + 1) (by simp);exact bodyPost_ret (v := .tuple #[.agg #[.slice (some ⟨Y.heap.size, 0, none⟩) 4 4, .slice (some ⟨Y.heap.size + 1, 0, none⟩) 2 2], .slice (some ⟨Y.heap.size + 1 + 1, 0, none⟩) 4 4]) (by simp [results, Tryz.results18, go_sem, n, m]) rfl
  ⟨_, rfl, ⟨_, _, _, rfl, ⟨RdC.set_other (RdC.set_other k C enP) B enP, RdC.set_other (RdC.set_other i C enT) B enT, ex_ok, RdC.set_other (RdC.set_other l C enF) B enF, ex_fs, rfl⟩⟩, D⟩
theorem rd0 {sz : Nat} {w : World} {v : Value} {n : Nat} {cs : List Value} (h : RdC sz w v n cs) (Z : cs ≠ []) : ∃ b off c, v = .slice (some ⟨b, off, none⟩) n c /\ b < w.heap.size /\ ∀ j u, cs[j]? = some u -> w.cell? ⟨b, off + j, none⟩ = some u := by
 obtain ⟨p, c, rfl, _, _, _, X⟩ := h;obtain ⟨b, off, rfl, Y⟩ := X Z;cases cs with
 | nil => exact absurd rfl Z
 | cons x cs => exact ⟨b, off, c, rfl, World.block_lt_of_cell? w _ (Y 0 x rfl), Y⟩
theorem elc : locN exP exT (2, 1) exT.length = [((0 : Nat) : Int)] := by decide +kernel
theorem ex_on : onQ exP exF (0, 1, 2) (2, 1) = 3 := by decide +kernel
theorem ese : sTT exP exF (0, 1, 2) = (1, 1) := by decide +kernel
theorem ess : ∀ tr ∈ exT, SzP 200 (sTT exP exF tr) := by
 intro tr Z;simp only [exT, List.mem_cons, List.not_mem_nil, or_false] at Z;rcases Z with rfl | rfl <;> exact ⟨⟨by decide +kernel, by decide +kernel⟩, by decide +kernel, by decide +kernel⟩
theorem ell : ∃ s, lLL exP exT exF 2 = [(0, (1, 1), (2, 0)), s] := ⟨(1, (1, 2), (1, 1)), by decide +kernel⟩
theorem evl : volTo exP exT exF 0 exT.length = 20 / 3 := by decide +kernel
theorem evs : ∀ t, t <= exT.length -> Sz 1009 (volTo exP exT exF 0 t) := by
 intro t Z;have : t = 0 \/ t = 1 \/ t = 2 := by have : exT.length = 2 := rfl; omega
 rcases this with rfl | rfl | rfl <;> exact Sz.mono (j := 3) ⟨by decide +kernel, by decide +kernel⟩ (by omega)
theorem eag : aLL exP exT (0, 1) (2, 1) = [(1, 0, 1 / 2), (0, 1 / 2, 1)] := by decide +kernel
theorem epf : pTo exP exT exF (0, 1) (2, 1) [(1, 0, 1 / 2), (0, 1 / 2, 1)] 2 = [(0, 0), (1 / 2, 2), (1, 3)] := by decide +kernel
theorem ex_in (p : PtQ) (h : p = (0, 1) \/ p = (2, 1)) : decide ((0 : Int) < ((locN exP exT p exT.length).length : Int)) = true := by
 rcases h with rfl | rfl <;> decide +kernel
theorem rs0 : RS 0 = ⟨#[48]⟩ := by decide +kernel
theorem rs1 : RS 1 = ⟨#[49]⟩ := by decide +kernel
theorem rs2 : RS 2 = ⟨#[50]⟩ := by decide +kernel
theorem rs3 : RS 3 = ⟨#[51]⟩ := by decide +kernel
theorem rsH : RS (1 / 2) = ⟨#[49, 47, 50]⟩ := by decide +kernel
theorem rsV : RS (20 / 3) = ⟨#[50, 48, 47, 51]⟩ := by decide +kernel
theorem ex_sz {q : Rat} (h : q.num.natAbs < 10 ^ 2 /\ q.den < 10 ^ 2) {k : Nat} (Z : 2 <= k) : Sz k q := Sz.mono (j := 2) h Z
theorem ea0 (w : World) (Y X Z : Value) (h : FieldIn w Y X Z exP exT 2 exF) (V : Good w) :
 Calls Tryz.prog 11 #[.agg #[Y, X], Z, .agg #[.string ⟨#[50]⟩, .string ⟨#[49]⟩]] w (Ret (fun r _ => r = .tuple #[.string ⟨#[51]⟩, .int .i64 0]) w) := by
 have h1 := vin w Y X Z exP exT 2 exF h (2, 1) ⟨ex_sz (by decide +kernel) (by omega), ex_sz (by decide +kernel) (by omega)⟩ 0 [] elc (by decide) (ess _ (List.getElem_mem _)) (by rw [show exT[0]'(by decide) = (0, 1, 2) from rfl, ex_on]; exact ex_sz (by decide +kernel) (by omega)) V;rw [show exT[0]'(by decide) = (0, 1, 2) from rfl, ex_on] at h1;dsimp only at h1;rw [rs1, rs2, rs3] at h1;exact h1
theorem es0 (w : World) (Y X Z : Value) (h : FieldIn w Y X Z exP exT 2 exF) (V : Good w) :
 Calls Tryz.prog 20 #[.agg #[Y, X], Z, .int .i64 0] w (Ret (fun r _ => r = .tuple #[.agg #[.string ⟨#[49]⟩, .string ⟨#[49]⟩], .int .i64 0]) w) := by
 have h1 := fd0 w Y X Z exP exT 2 exF h 0 0 rfl (by decide) (0, 1, 2) rfl (ess _ (by decide)) V;rw [ese] at h1;dsimp only at h1;rw [rs1] at h1;exact h1
theorem el2 (w : World) (V U X : Value) (h : FieldIn w V U X exP exT 2 exF) (M : Good w) :
 Calls Tryz.prog 9 #[.agg #[V, U], X, .string ⟨#[50]⟩] w (Ret (fun r w' => ∃ b off c, r = .tuple #[.slice (some ⟨b, off, none⟩) 2 c, .int .i64 0] /\ b < w'.heap.size /\ w'.cell? ⟨b, off, none⟩ = some (.int .i64 0) /\ w'.cell? ⟨b, off + 1, none⟩ = some (.string ⟨#[49]⟩) /\ w'.cell? ⟨b, off + 2, none⟩ = some (.string ⟨#[49]⟩) /\ w'.cell? ⟨b, off + 3, none⟩ = some (.string ⟨#[50]⟩) /\ w'.cell? ⟨b, off + 4, none⟩ = some (.string ⟨#[48]⟩)) w) := by
 have h1 := li0 w V U X exP exT 2 exF h 2 2 (ex_sz (by decide +kernel) (by omega)) (by omega) M;rw [rs2] at h1;refine h1.mono ?_;rintro e w' ⟨r, rfl, ⟨v, rfl, K⟩, N⟩;obtain ⟨s, L⟩ := ell;have h2 : RdC 5 w' v (lLL exP exT exF 2).length (cGG (lLL exP exT exF 2)) := RdC.of_owns K;rw [L] at h2;obtain ⟨b, off, c, rfl, Y, Z⟩ := rd0 h2 (by simp [cGG, cellG]);have J := Z 0 (.int .i64 0) rfl;have S := Z 1 (.string (RS 1)) rfl;have R := Z 2 (.string (RS 1)) rfl;have Q := Z 3 (.string (RS 2)) rfl;have O := Z 4 (.string (RS 0)) rfl;rw [rs1] at S R;rw [rs2] at Q;rw [rs0] at O;exact ⟨_, rfl, ⟨b, off, c, rfl, Y, J, S, R, Q, O⟩, N⟩
theorem eve (w : World) (Y X Z : Value) (h : FieldIn w Y X Z exP exT 2 exF) (V : Good w) :
 Calls Tryz.prog 21 #[.agg #[Y, X], Z, .string ⟨#[48]⟩] w (Ret (fun r _ => r = .tuple #[.string ⟨#[50, 48, 47, 51]⟩, .int .i64 0]) w) := by
 have h1 := fVo w Y X Z exP exT 2 exF h 0 1 1009 (Sz.zero 1 (by omega)) (by omega) (by omega) (by omega) evs (by rw [evl]; exact ex_sz (by decide +kernel) (by omega)) V;rw [rs0, evl, rsV] at h1;exact h1
theorem epe (w : World) (Z Y S : Value) (h : FieldIn w Z Y S exP exT 2 exF) (K : Good w) :
 Calls Tryz.prog 22 #[.agg #[Z, Y], S, .agg #[.string ⟨#[48]⟩, .string ⟨#[49]⟩], .agg #[.string ⟨#[50]⟩, .string ⟨#[49]⟩]] w (Ret (fun r w' => ∃ b off c, r = .tuple #[.slice (some ⟨b, off, none⟩) 3 c, .int .i64 0] /\ b < w'.heap.size /\ w'.cell? ⟨b, off + 2, none⟩ = some (.string ⟨#[49, 47, 50]⟩) /\ w'.cell? ⟨b, off + 3, none⟩ = some (.string ⟨#[50]⟩)) w) := by
 have X : SzP 2 ((0, 1) : PtQ) := ⟨ex_sz (by decide +kernel) (by omega), ex_sz (by decide +kernel) (by omega)⟩;have V : SzP 2 ((2, 1) : PtQ) := ⟨ex_sz (by decide +kernel) (by omega), ex_sz (by decide +kernel) (by omega)⟩;have h1 := fc0 w Z Y S exP exT 2 exF h (0, 1) (2, 1) 2 2 (by omega) (by omega) (by omega) (by omega) X V [(1, 0, 1 / 2), (0, 1 / 2, 1)]
  (fun w' h' hg' => by have := aok w' Z Y exP exT 2 2 h'.p h'.t ex_ok (by omega) (by omega) (by decide) (0, 1) (2, 1) X V (by decide) hg'; rw [eag] at this; exact this)
  (fun w' h' hg' => by have := ck0 w' Z Y exP exT 2 h'.p h'.t ex_ok (0, 1) ⟨X.1.mono (by omega), X.2.mono (by omega)⟩ hg'; rw [ex_in _ (.inl rfl)] at this; exact this)
  (fun w' h' hg' => by have := ck0 w' Z Y exP exT 2 h'.p h'.t ex_ok (2, 1) ⟨V.1.mono (by omega), V.2.mono (by omega)⟩ hg'; rw [ex_in _ (.inr rfl)] at this; exact this)
  (by decide) (by
    intro s O;simp only [List.mem_cons, List.not_mem_nil, or_false] at O;rcases O with rfl | rfl
    ·exact ⟨by decide, ex_sz (by decide +kernel) (by omega), ex_sz (by decide +kernel) (by omega)⟩
    ·exact ⟨by decide, ex_sz (by decide +kernel) (by omega), ex_sz (by decide +kernel) (by omega)⟩) (fun tr htr => ⟨(ess tr htr).1.mono (by omega), (ess tr htr).2.mono (by omega)⟩) (by
    rw [show [((1, 0, 1 / 2) : SpanQ), (0, 1 / 2, 1)].length = 2 from rfl, epf];intro I Q;simp only [List.mem_cons, List.not_mem_nil, or_false] at Q;rcases Q with rfl | rfl | rfl <;> exact ⟨ex_sz (by decide +kernel) (by omega), ex_sz (by decide +kernel) (by omega)⟩) K
 rw [show [((1, 0, 1 / 2) : SpanQ), (0, 1 / 2, 1)].length = 2 from rfl, epf] at h1;dsimp only at h1;rw [rs0, rs1, rs2] at h1;refine h1.mono ?_;rintro e w' ⟨r, rfl, ⟨v, rfl, J⟩, L⟩;obtain ⟨b, off, c, rfl, U, R⟩ := rd0 J (by simp [cKn, cv0]);have N := R 2 (.string (RS (1 / 2))) rfl;have M := R 3 (.string (RS 2)) rfl;rw [rsH] at N;rw [rs2] at M;exact ⟨_, rfl, ⟨b, off, c, rfl, U, N, M⟩, L⟩
theorem ex_at (x y : Int) (Z Y : ByteArray) (h1 : RS (x : Rat) = Z) (h2 : RS (y : Rat) = Y) (hx : -1000 <= x /\ x <= 1000) (hy : -1000 <= y /\ y <= 1000) (w : World) (X : Good w) : Calls Tryz.prog 19 #[.int .i64 x, .int .i64 y] w (Ret (fun r _ => r = .agg #[.string Z, .string Y]) w) := by
 have := a0a x y hx hy w X;rw [h1, h2] at this;exact this
theorem k1a (w : World) (U : Good w) :
 Calls Tryz.prog 5 #[] w (Ret (fun r _ => r = .bool true) w) := by
 have s := hid fun w U => ex_at 2 1 _ _ rs2 rs1 (by omega) (by omega) w U
 have h4 := hid fun w U => ex_at 0 1 _ _ rs0 rs1 (by omega) (by omega) w U
 have t := hid fun w U => ex_at 1 1 _ _ rs1 rs1 (by omega) (by omega) w U
 have h5 := hid fun w U => ex_at 2 0 _ _ rs2 rs0 (by omega) (by omega) w U
 go_enter Tryz.func5, Tryz.ntmps5;go_wp2_with fail;refine (eay w U).mono ?_;rintro e q ⟨_, rfl, ⟨vp, vt, vf, rfl, hF⟩, h9⟩;have h6 := hid hF;obtain ⟨pp, cp, pt, ct, pf, cf, rfl, rfl, rfl⟩ := hF.open;rw [show exP.length = 4 from rfl, show exT.length = 2 from rfl, show exF.length = 4 from rfl] at *;clear hF;go_upto_region 2 with fail;obtain ⟨C, z⟩ : ∃ W, W = q.alloc (.cells #[.slice pp 4 cp, .slice pt 2 ct] 35) := ⟨_, rfl⟩;have d : Below q.heap.size q C := by rw [z]; exact zal _ _
 have m2 : BoxN C q.heap.size 35 [.slice pp 4 cp, .slice pt 2 ct] := by rw [z]; exact BoxN.new _ _ _ _ rfl
 rw [<- z];clear z;have k := zbt h9 d;have p : Hid (∀ w', Below C.heap.size C w' -> FieldIn w' (.slice pp 4 cp) (.slice pt 2 ct) (.slice pf 4 cf) exP exT 2 exF) := fun w' hb => h6.out.below ((zbt d hb));have R : Good C.drew := (U.below k).drewN 1;have G := m2.cell 0 rfl;have E := m2.cell 1 rfl;have hv := m2.lt;clear h6 h9 d;go_region_held3 (fun w' => w'.cell? ⟨q.heap.size, 0, none⟩ = some (.slice pp 4 cp) /\ w'.cell? ⟨q.heap.size, 1, none⟩ = some (.slice pt 2 ct))
  (first | exact ⟨G, E⟩ | exact ⟨p_1_0, p_1_1⟩ | exact ⟨p_2_0, p_2_1⟩)
  (first
  | (go_at_call 11; refine (ea0 _ _ _ _ (p.out _ ((bdN C 1).trans (N.mono (Nat.le_refl _)))) h0).mono ?_; rintro e v ⟨_, rfl, rfl, I⟩
     have p_2_0 := zct I p_1_0;have p_2_1 := zct I p_1_1;have hl := I.size;have hj := h0.below I)
  | (go_at_call 19; refine (s.out _ R).mono ?_; rintro e hm ⟨_, rfl, rfl, N⟩
     have p_1_0 := zct N G;have p_1_1 := zct N E;have hk : C.heap.size <= hm.heap.size := N.size;have h0 := R.below N))
 have pB : Below C.heap.size C v := zbt (zbt (bdN C 1) N) I;have B := zbt k pB;have m3 := m2.below pB m2.lt;have J : Hid (∀ w', Below v.heap.size v w' -> FieldIn w' (.slice pp 4 cp) (.slice pt 2 ct) (.slice pf 4 cf) exP exT 2 exF) := fun w' hb => p.out w' ((zbt pB hb));obtain ⟨o3, ha⟩ : ∃ W, W = v := ⟨_, rfl⟩;rw [<- ha] at B m3 J ⊢;clear ha G E p R pB N I h0 hj hk hl p_1_0 p_1_1 p_2_0 p_2_1;have G := m3.cell 0 rfl;have E := m3.cell 1 rfl;go_wp2_with fail;refine (es0 o3 _ _ _ (J.out o3 (Below.refl _ _)) (U.below B)).mono ?_;rintro e o4 ⟨_, rfl, rfl, A⟩;have h8 := zbt B A;have m4 := m3.below A m3.lt;clear G E;go_upto_region 4 with fail;obtain ⟨o5, y⟩ : ∃ W, W = o4.alloc (.cells #[.string ⟨#[49]⟩, .string ⟨#[49]⟩] 50) := ⟨_, rfl⟩;have X : Below o4.heap.size o4 o5 := by rw [y]; exact zal _ _
 have s5 : BoxN o5 o4.heap.size 50 [.string ⟨#[49]⟩, .string ⟨#[49]⟩] := by rw [y]; exact BoxN.new _ _ _ _ rfl
 rw [<- y];clear y;have j := zbt h8 X;have m5 := m4.below X m4.lt;have n := zbt A X;have G := m5.cell 0 rfl;have E := m5.cell 1 rfl;go_wp2_with fail;refine (el2 o5 _ _ _ (J.out o5 n) (U.below j)).mono ?_;rintro e o6 ⟨_, rfl, ⟨Z, O, cl, rfl, Q, y0, y1, y2, y3, y4⟩, D⟩;have i := zbt j D;have m6 := m5.below D m5.lt;have s6 := s5.below D s5.lt;have m := zbt n D;clear G E;have G := m6.cell 0 rfl;have E := m6.cell 1 rfl;go_wp2_with fail;refine (eve o6 _ _ _ (J.out o6 m) (U.below i)).mono ?_;rintro e x ⟨_, rfl, rfl, V⟩;have g := zbt i V;have m7 := m6.below V m6.lt;have s7 := s6.below V s6.lt;have l := zbt m V;have h7 : Hid (∀ w', Below x.heap.size x w' -> w'.cell? ⟨Z, O, none⟩ = some (.int .i64 0) /\ w'.cell? ⟨Z, O + 1, none⟩ = some (.string ⟨#[49]⟩) /\ w'.cell? ⟨Z, O + 2, none⟩ = some (.string ⟨#[49]⟩) /\ w'.cell? ⟨Z, O + 3, none⟩ = some (.string ⟨#[50]⟩) /\ w'.cell? ⟨Z, O + 4, none⟩ = some (.string ⟨#[48]⟩)) := fun w' hb => by
  have h := zbt V hb;exact ⟨(zcq h Q y0 :), (zcq h Q y1 :), (zcq h Q y2 :), (zcq h Q y3 :), (zcq h Q y4 :)⟩
 have hd : Z < x.heap.size := Nat.lt_of_lt_of_le Q V.size;clear G E y0 y1 y2 y3 y4 m3 m4 m5 m6 s5 s6 A X D V n m k B h8 j i Q;have G := m7.cell 0 rfl;have E := m7.cell 1 rfl;have R : Good x.drew := (U.below g).drewN 1;have hw := m7.lt;go_wp2_with fail;go_region_held3 (fun w' => w'.cell? ⟨q.heap.size, 0, none⟩ = some (.slice pp 4 cp) /\ w'.cell? ⟨q.heap.size, 1, none⟩ = some (.slice pt 2 ct))
  (first | exact ⟨G, E⟩ | exact ⟨q_1_0, q_1_1⟩ | exact ⟨q_2_0, q_2_1⟩ | exact ⟨q_3_0, q_3_1⟩)
  (first
  | (go_at_call 22; refine (epe _ _ _ _ (J.out _ (l.trans (((bdN x 1).trans (((zbt M L)).mono (Nat.le_refl _))).mono l.size))) h2).mono ?_; rintro e h3 ⟨_, rfl, ⟨bk, ok, ck, rfl, a, z0, z1⟩, H⟩
     have q_3_0 := zct H q_2_0;have q_3_1 := zct H q_2_1;have hq := H.size;have hn := h2.below H)
  | (go_at_call 19; refine (s.out _ h1).mono ?_; rintro e hx ⟨_, rfl, rfl, L⟩
     have q_2_0 := zct L q_1_0;have q_2_1 := zct L q_1_1;have hp := L.size;have h2 := h1.below L)
  | (go_at_call 19; refine (h4.out _ R).mono ?_; rintro e hr ⟨_, rfl, rfl, M⟩
     have q_1_0 := zct M G;have q_1_1 := zct M E;have ho : x.heap.size <= hr.heap.size := M.size;have h1 := R.below M))
 have qB : Below x.heap.size x h3 := zbt (zbt (zbt (bdN x 1) M) L) H;have f := zbt g qB;have s8 := s7.below qB s7.lt;obtain ⟨y0, y1, y2, y3, y4⟩ := h7.out _ qB;have ll : Z < h3.heap.size := Nat.lt_of_lt_of_le hd qB.size;obtain ⟨o8, hc⟩ : ∃ W, W = h3 := ⟨_, rfl⟩;rw [<- hc] at f s8 y0 y1 y2 y3 y4 ll z0 z1 a ⊢;clear hc G E R qB M L H h1 h2 hn ho hp hq q_1_0 q_1_1 q_2_0 q_2_1 q_3_0 q_3_1 J h7 m7 s7 l hd g;have lk := a;have l5 := s8.lt;have v0 := s8.cell 0 rfl;have v1 := s8.cell 1 rfl;obtain ⟨b5, X⟩ : ∃ b, b = o4.heap.size := ⟨_, rfl⟩;rw [<- X] at l5 v0 v1 ⊢;clear X s8 a;have Y : Hid (∀ w', Below o8.heap.size o8 w' -> w'.cell? ⟨b5, 0, none⟩ = some (.string ⟨#[49]⟩) /\ w'.cell? ⟨b5, 1, none⟩ = some (.string ⟨#[49]⟩) /\ w'.cell? ⟨Z, O, none⟩ = some (.int .i64 0) /\ w'.cell? ⟨Z, O + 1, none⟩ = some (.string ⟨#[49]⟩) /\ w'.cell? ⟨Z, O + 2, none⟩ = some (.string ⟨#[49]⟩) /\ w'.cell? ⟨Z, O + 3, none⟩ = some (.string ⟨#[50]⟩) /\ w'.cell? ⟨Z, O + 4, none⟩ = some (.string ⟨#[48]⟩) /\ w'.cell? ⟨bk, ok + 2, none⟩ = some (.string ⟨#[49, 47, 50]⟩) /\ w'.cell? ⟨bk, ok + 3, none⟩ = some (.string ⟨#[50]⟩)) := fun w' hb => ⟨(zcq hb l5 v0 :), (zcq hb l5 v1 :), (zcq hb ll y0 :), (zcq hb ll y1 :), (zcq hb ll y2 :), (zcq hb ll y3 :), (zcq hb ll y4 :), (zcq hb lk z0 :), (zcq hb lk z1 :)⟩;have q0 : Below o8.heap.size o8 o8.drew := bdN o8 1;have c := U.below f;clear y0 y1 y2 y3 y4 z0 z1 v0 v1;have ht : ∀ w : World, Sem.run Tryz.prog (Op.equalIn 10000 50 (.agg #[.string ⟨#[49]⟩, .string ⟨#[49]⟩]) (.agg #[.string ⟨#[49]⟩, .string ⟨#[49]⟩])) w = .ok true w := fun w => by kernel_rfl
 have hu : ∀ w : World, Sem.run Tryz.prog (Op.equalIn 10000 52 (.agg #[.int .i64 0, .string ⟨#[49]⟩, .string ⟨#[49]⟩, .string ⟨#[50]⟩, .string ⟨#[48]⟩]) (.agg #[.int .i64 0, .string ⟨#[49]⟩, .string ⟨#[49]⟩, .string ⟨#[50]⟩, .string ⟨#[48]⟩])) w = .ok true w := fun w => by kernel_rfl
 have hs : ∀ w : World, Sem.run Tryz.prog (Op.equalIn 10000 78 (.agg #[.string ⟨#[49, 47, 50]⟩, .string ⟨#[50]⟩]) (.agg #[.string ⟨#[49, 47, 50]⟩, .string ⟨#[50]⟩])) w = .ok true w := fun w => by kernel_rfl
 go_upto_region 7 with fail;refine wp_region_held_drew (S := (fun w' => w'.cell? ⟨b5, 0, none⟩ = some (.string ⟨#[49]⟩) /\ w'.cell? ⟨b5, 1, none⟩ = some (.string ⟨#[49]⟩) /\ w'.cell? ⟨Z, O, none⟩ = some (.int .i64 0) /\ w'.cell? ⟨Z, O + 1, none⟩ = some (.string ⟨#[49]⟩) /\ w'.cell? ⟨Z, O + 2, none⟩ = some (.string ⟨#[49]⟩) /\ w'.cell? ⟨Z, O + 3, none⟩ = some (.string ⟨#[50]⟩) /\ w'.cell? ⟨Z, O + 4, none⟩ = some (.string ⟨#[48]⟩) /\ w'.cell? ⟨bk, ok + 2, none⟩ = some (.string ⟨#[49, 47, 50]⟩) /\ w'.cell? ⟨bk, ok + 3, none⟩ = some (.string ⟨#[50]⟩))) (by kernel_rfl) ?_ (fun hHeld => ?_)
 ·first | exact Y.out _ q3 | exact Y.out _ q2 | exact Y.out _ q1 | exact Y.out _ q0
 refine zhk 0 ?_;try simp only [Act.put, zga, zgz, zsa, zsz, zss]
 refine zhk 1 ?_;try simp only [Act.put, zga, zgz, zgs, zsa, zsz, zss]
 refine zhk 2 ?_;try simp only [Act.put, zga, zgz, zgs, zsa, zsz, zss]
 refine zhk 3 ?_;try simp only [Act.put, zga, zgz, zgs, zsa, zsz, zss]
 refine zhk 4 ?_;try simp only [Act.put, zga, zgz, zgs, zsa, zsz, zss]
 refine zhk 5 ?_;try simp only [Act.put, zga, zgz, zgs, zsa, zsz, zss]
 refine zhk 6 ?_;try simp only [Act.put, zga, zgz, zgs, zsa, zsz, zss]
 refine zhk 7 ?_;try simp only [Act.put, zga, zgz, zgs, zsa, zsz, zss]
 refine zhk 8 ?_;try simp only [Act.put, zga, zgz, zgs, zsa, zsz, zss]
 refine zhk 9 ?_;try simp only [Act.put, zga, zgz, zgs, zsa, zsz, zss]
 refine zhk 10 ?_;try simp only [Act.put, zga, zgz, zgs, zsa, zsz, zss]
 refine zhk 11 ?_;try simp only [Act.put, zga, zgz, zgs, zsa, zsz, zss]
 refine wpAnyH_ready (rs := [12]) (by kernel_rfl) (by simp) ?_;refine AllReadyH.cons (o := _) rfl (fun K hK => ?_) AllReadyH.nil;go_simp
 (refine (t.out _ (c.below q0)).mono ?_; rintro e w1 ⟨_, rfl, rfl, hf⟩; have q1 := zbt q0 hf)
 refine hK.out _ _ ?_ (fun hHeld => ?_)
 ·first | exact Y.out _ q3 | exact Y.out _ q2 | exact Y.out _ q1 | exact Y.out _ q0
 clear hK K;try simp only [Act.put, zga, zgz, zgs, zsa, zsz, zss]
 refine zhk 13 ?_;try simp only [Act.put, zga, zgz, zgs, zsa, zsz, zss]
 refine zhk 14 ?_;try simp only [Act.put, zga, zgz, zgs, zsa, zsz, zss]
 refine zhk 15 ?_;try simp only [Act.put, zga, zgz, zgs, zsa, zsz, zss]
 refine zhk 16 ?_;try simp only [Act.put, zga, zgz, zgs, zsa, zsz, zss]
 refine zhk 17 ?_;try simp only [Act.put, zga, zgz, zgs, zsa, zsz, zss]
 refine zhk 18 ?_;try simp only [Act.put, zga, zgz, zgs, zsa, zsz, zss]
 refine zhk 19 ?_;try simp only [Act.put, zga, zgz, zgs, zsa, zsz, zss]
 refine zhk 20 ?_;try simp only [Act.put, zga, zgz, zgs, zsa, zsz, zss]
 refine zhk 21 ?_;try simp only [Act.put, zga, zgz, zgs, zsa, zsz, zss]
 refine zhk 22 ?_;try simp only [Act.put, zga, zgz, zgs, zsa, zsz, zss]
 refine zhk 23 ?_;try simp only [Act.put, zga, zgz, zgs, zsa, zsz, zss]
 refine zhk 24 ?_;try simp only [Act.put, zga, zgz, zgs, zsa, zsz, zss]
 refine zhk 25 ?_;try simp only [Act.put, zga, zgz, zgs, zsa, zsz, zss]
 refine zhk 26 ?_;try simp only [Act.put, zga, zgz, zgs, zsa, zsz, zss]
 refine zhk 27 ?_;try simp only [Act.put, zga, zgz, zgs, zsa, zsz, zss]
 refine wpAnyH_ready (rs := [28]) (by kernel_rfl) (by simp) ?_;refine AllReadyH.cons (o := _) rfl (fun K hK => ?_) AllReadyH.nil;go_simp
 (refine (t.out _ (c.below q1)).mono ?_; rintro e w2 ⟨_, rfl, rfl, hh⟩; have q2 := zbt q1 hh)
 refine hK.out _ _ ?_ (fun hHeld => ?_)
 ·first | exact Y.out _ q3 | exact Y.out _ q2 | exact Y.out _ q1 | exact Y.out _ q0
 clear hK K;try simp only [Act.put, zga, zgz, zgs, zsa, zsz, zss]
 refine wpAnyH_ready (rs := [29]) (by kernel_rfl) (by simp) ?_;refine AllReadyH.cons (o := _) rfl (fun K hK => ?_) AllReadyH.nil;go_simp
 (refine (h5.out _ (c.below q2)).mono ?_; rintro e w3 ⟨_, rfl, rfl, hi⟩; have q3 := zbt q2 hi)
 refine hK.out _ _ ?_ (fun hHeld => ?_)
 ·first | exact Y.out _ q3 | exact Y.out _ q2 | exact Y.out _ q1 | exact Y.out _ q0
 clear hK K;try simp only [Act.put, zga, zgz, zgs, zsa, zsz, zss]
 refine zhk 30 ?_;try simp only [Act.put, zga, zgz, zgs, zsa, zsz, zss]
 refine zhk 31 ?_;try simp only [Act.put, zga, zgz, zgs, zsa, zsz, zss]
 refine zhk 32 ?_;try simp only [Act.put, zga, zgz, zgs, zsa, zsz, zss]
 refine zhk 33 ?_;try simp only [Act.put, zga, zgz, zgs, zsa, zsz, zss]
 refine zhk 34 ?_;try simp only [Act.put, zga, zgz, zgs, zsa, zsz, zss]
 refine zhk 35 ?_;try simp only [Act.put, zga, zgz, zgs, zsa, zsz, zss]
 refine zhk 36 ?_;try simp only [Act.put, zga, zgz, zgs, zsa, zsz, zss]
 refine zhk 37 ?_;try simp only [Act.put, zga, zgz, zgs, zsa, zsz, zss]
 refine zhk 38 ?_;try simp only [Act.put, zga, zgz, zgs, zsa, zsz, zss]
 refine zhk 39 ?_;try simp only [Act.put, zga, zgz, zgs, zsa, zsz, zss]
 refine zhk 40 ?_;try simp only [Act.put, zga, zgz, zgs, zsa, zsz, zss]
 refine zhk 41 ?_;try simp only [Act.put, zga, zgz, zgs, zsa, zsz, zss]
 refine zhk 42 ?_;try simp only [Act.put, zga, zgz, zgs, zsa, zsz, zss]
 refine zhk 43 ?_;try simp only [Act.put, zga, zgz, zgs, zsa, zsz, zss]
 refine zhk 44 ?_;try simp only [Act.put, zga, zgz, zgs, zsa, zsz, zss]
 refine zhk 45 ?_;try simp only [Act.put, zga, zgz, zgs, zsa, zsz, zss]
 refine zhk 46 ?_;try simp only [Act.put, zga, zgz, zgs, zsa, zsz, zss]
 refine zhk 47 ?_;try simp only [Act.put, zga, zgz, zgs, zsa, zsz, zss]
 refine zhk 48 ?_;try simp only [Act.put, zga, zgz, zgs, zsa, zsz, zss]
 refine zhk 49 ?_;try simp only [Act.put, zga, zgz, zgs, zsa, zsz, zss]
 refine zhk 50 ?_;try simp only [Act.put, zga, zgz, zgs, zsa, zsz, zss]
 refine zhk 51 ?_;try simp only [Act.put, zga, zgz, zgs, zsa, zsz, zss]
 refine zhk 52 ?_;try simp only [Act.put, zga, zgz, zgs, zsa, zsz, zss]
 refine zhk 53 ?_;try simp only [Act.put, zga, zgz, zgs, zsa, zsz, zss]
 refine zhk 54 ?_;try simp only [Act.put, zga, zgz, zgs, zsa, zsz, zss]
 refine zhk 55 ?_;try simp only [Act.put, zga, zgz, zgs, zsa, zsz, zss]
 refine zhk 56 ?_;try simp only [Act.put, zga, zgz, zgs, zsa, zsz, zss]
 refine zhk 57 ?_;try simp only [Act.put, zga, zgz, zgs, zsa, zsz]
 refine wpAnyH_done (by kernel_rfl) ?_ _;have he := zbt f q3;go_wp2_with fail;go_ret;exact ⟨_, rfl, rfl, he⟩
theorem mh0 {w : World} {vp vt vf : Value} {kk : Nat} {s0 s1 : Int} {half : Bool} {a0 a1 a2 a3 a4 a5 : Int} {ah : Bool} (Y : RdP w vp (strP (sPP kk s0 s1 half))) (X : RdT w vt (sa0 kk)) (Z : RdQ w vf (hFF [a0, a1, a2, a3, a4, a5] ah (sPP kk s0 s1 half).length)) :
 FieldIn w vp vt vf (sPP kk s0 s1 half) (sa0 kk) 2 (hFF [a0, a1, a2, a3, a4, a5] ah (sPP kk s0 s1 half).length) :=
 ⟨Y, X, sok kk s0 s1 half, Z, hSz _ _ _, hFl _ _ _⟩
def ltP (a b : PtQ) : Prop := a.1 < b.1 \/ (a.1 = b.1 /\ a.2 < b.2)
instance (a b : PtQ) : Decidable (ltP a b) := by unfold ltP; exact inferInstance
theorem lPi (a : PtQ) : ¬ ltP a a := by unfold ltP; grind
theorem lPt {a b c : PtQ} (h : ltP a b) (k : ltP b c) : ltP a c := by unfold ltP at *; grind
theorem lc0 (a b : PtQ) : ltP a b \/ a = b \/ ltP b a := by
 unfold ltP;rcases (by grind : a.1 < b.1 \/ a.1 = b.1 \/ b.1 < a.1) with h | h | h
 ·exact .inl (.inl h)
 ·rcases (by grind : a.2 < b.2 \/ a.2 = b.2 \/ b.2 < a.2) with g | g | g
  ·exact .inl (.inr ⟨h, g⟩)
  ·exact .inr (.inl (Prod.ext h g))
  ·exact .inr (.inr (.inr ⟨h.symm, g⟩))
 ·exact .inr (.inr (.inl h))
def popC (x : PtQ) : List PtQ -> List PtQ
 | b :: a :: l => if areaQ a b x <= 0 then popC x (a :: l) else b :: a :: l
 | l => l
def ca0 (l : List PtQ) : List PtQ := l.foldl (fun s x => x :: popC x s) []
def cLL (l : List PtQ) : List PtQ := (ca0 l).tail.reverse
def hullL (s : List PtQ) : List PtQ := cLL s ++ cLL s.reverse
theorem arv (a b c : PtQ) : areaQ c b a = - areaQ a b c := by unfold areaQ; grind
theorem ac0 (a b c : PtQ) : areaQ b c a = areaQ a b c := by unfold areaQ; grind
theorem asp (a b c : PtQ) : areaQ a c b = - areaQ a b c := by unfold areaQ; grind
theorem h3u {a b c : PtQ} (h : 0 < areaQ a b c) : hullL [a, b, c] = [a, b, c] := by
 have h1 : ¬ areaQ a b c <= 0 := Rat.not_le.2 h;have h2 : areaQ c b a <= 0 := by rw [arv]; grind
 simp [hullL, cLL, ca0, popC, h1, h2]
theorem h3d {a b c : PtQ} (h : areaQ a b c < 0) : hullL [a, b, c] = [a, c, b] := by
 have h1 : areaQ a b c <= 0 := Rat.le_of_lt h;have h2 : ¬ areaQ c b a <= 0 := by rw [arv]; grind
 simp [hullL, cLL, ca0, popC, h1, h2]
theorem dxx (p q r s : PtQ) : areaQ q r s * p.1 + areaQ p q s * r.1 = areaQ p r s * q.1 + areaQ p q r * s.1 := by unfold areaQ; grind
theorem dyy (p q r s : PtQ) : areaQ q r s * p.2 + areaQ p q s * r.2 = areaQ p r s * q.2 + areaQ p q r * s.2 := by unfold areaQ; grind
theorem dww (p q r s : PtQ) : areaQ q r s + areaQ p q s = areaQ p r s + areaQ p q r := by unfold areaQ; grind
theorem nvy {p q r s : PtQ} (h0 : 0 < areaQ p q r) (h1 : 0 < areaQ q r s) (_h2 : 0 < areaQ p q s) (Y : 0 < areaQ p r s) (V : ltP p r) (U : ltP r q) (S : ltP r s) : False := by
 have E := dxx p q r s;have z := dyy p q r s;have X := dww p q r s;generalize areaQ q r s = A at *;generalize areaQ p q s = B at *;generalize areaQ p r s = C at *;generalize areaQ p q r = D at *;have y : A * r.1 + B * r.1 = C * r.1 + D * r.1 := by rw [<- Rat.add_mul, <- Rat.add_mul, X]
 have x : A * r.2 + B * r.2 = C * r.2 + D * r.2 := by rw [<- Rat.add_mul, <- Rat.add_mul, X]
 have m : ∀ {w u v : Rat}, 0 < w -> u <= v -> w * u <= w * v := fun hw h => Rat.mul_le_mul_of_nonneg_left h (Rat.le_of_lt hw);have Z : ∀ {w u v : Rat}, 0 < w -> u < v -> w * u < w * v := fun hw h => Rat.mul_lt_mul_of_pos_left h hw;have R : p.1 <= r.1 := by unfold ltP at V; grind
 have Q : r.1 <= q.1 := by unfold ltP at U; grind
 have O : r.1 <= s.1 := by unfold ltP at S; grind
 have K := m h1 R;have J := m Y Q;have I := m h0 O;by_cases e1 : p.1 < r.1
 ·have := Z h1 e1; grind
 ·by_cases e2 : r.1 < q.1
  ·have := Z Y e2; grind
  ·by_cases e3 : r.1 < s.1
   ·have := Z h0 e3; grind
   ·have N : p.2 < r.2 := by unfold ltP at V; grind
    have M : r.2 < q.2 := by unfold ltP at U; grind
    have L : r.2 < s.2 := by unfold ltP at S; grind
    have b1 := Z h1 N;have H := Z Y M;have G := Z h0 L;grind
theorem lPu {a b : List PtQ} (U : a.Pairwise ltP) (S : b.Pairwise ltP) (h : ∀ q, q ∈ a ↔ q ∈ b) : a = b := by
 induction a generalizing b with
 | nil =>
   cases b with
   | nil => rfl
   | cons y b => exact absurd ((h y).2 (List.mem_cons_self ..)) (by simp)
 | cons x a ih =>
   cases b with
   | nil => exact absurd ((h x).1 (List.mem_cons_self ..)) (by simp)
   | cons y b =>
     obtain ⟨Y, X⟩ := List.pairwise_cons.1 U;obtain ⟨b1, V⟩ := List.pairwise_cons.1 S;have Z : x = y := by
      rcases List.mem_cons.1 ((h x).1 (List.mem_cons_self ..)) with e | e
      ·exact e
      ·rcases List.mem_cons.1 ((h y).2 (List.mem_cons_self ..)) with f | f
       ·exact f.symm
       ·exact absurd (lPt (b1 x e) (Y y f)) (lPi y)
     subst Z;congr 1;refine ih X V fun q => ⟨fun hq => ?_, fun hq => ?_⟩
     ·rcases List.mem_cons.1 ((h q).1 (List.mem_cons_of_mem _ hq)) with e | e
      ·subst e; exact absurd (Y q hq) (lPi q)
      ·exact e
     ·rcases List.mem_cons.1 ((h q).2 (List.mem_cons_of_mem _ hq)) with e | e
      ·subst e; exact absurd (b1 q hq) (lPi q)
      ·exact e
theorem hull3 {p q r : PtQ} (h0 : 0 < areaQ p q r) (X : ltP p q) (V : ltP p r) {S : List PtQ} (Z : S.Pairwise ltP) (Y : ∀ x, x ∈ S ↔ x ∈ [p, q, r]) : hullL S = [p, q, r] := by
 rcases lc0 q r with g | g | g
 ·have : S = [p, q, r] := lPu Z (by simp [X, V, g]) Y
  rw [this]; exact h3u h0
 ·exfalso; subst g; have : areaQ p q q = 0 := by unfold areaQ; grind
  rw [this] at h0; exact absurd h0 (by decide)
 ·have : S = [p, r, q] := lPu Z (by simp [X, V, g]) (fun x => by rw [Y]; simp; grind)
  rw [this]; exact h3d (by rw [asp]; grind)
theorem hull4 {p q r s : PtQ} (h0 : 0 < areaQ p q r) (h1 : 0 < areaQ q r s) (h2 : 0 < areaQ p q s) (Y : 0 < areaQ p r s) (U : ltP p q) (X : ltP p r) (R : ltP p s) {S : List PtQ} (H : S.Pairwise ltP) (G : ∀ x, x ∈ S ↔ x ∈ [p, q, r, s]) : hullL S = [p, q, r, s] := by
 have pos : ∀ {a b c : PtQ}, 0 < areaQ a b c -> (¬ areaQ a b c <= 0) /\ (¬ areaQ b c a <= 0) /\ (¬ areaQ c a b <= 0) /\ areaQ a c b <= 0 /\ areaQ c b a <= 0 /\ areaQ b a c <= 0 := fun {a b c} h => by
  have N : areaQ b c a = areaQ a b c := ac0 a b c;have M : areaQ c a b = areaQ a b c := by unfold areaQ; grind
  have K : areaQ a c b = - areaQ a b c := asp a b c;have J : areaQ c b a = - areaQ a b c := arv a b c;have I : areaQ b a c = - areaQ a b c := by unfold areaQ; grind
  rw [N, M, K, J, I];exact ⟨by grind, by grind, by grind, by grind, by grind, by grind⟩
 obtain ⟨a0, E, D, C, B, A⟩ := pos h0;obtain ⟨z, b1, y, v, t, o⟩ := pos h1;obtain ⟨c0, c1, c2, n, m, l⟩ := pos h2;obtain ⟨i, f, d, d3, d4, d5⟩ := pos Y
 have Q : q ≠ r := fun e => by subst e; have : areaQ p q q = 0 := by unfold areaQ; grind
                               rw [this] at h0; exact absurd h0 (by decide)
 have O : q ≠ s := fun e => by subst e; have : areaQ p q q = 0 := by unfold areaQ; grind
                               rw [this] at h2; exact absurd h2 (by decide)
 have V : r ≠ s := fun e => by subst e; have : areaQ p r r = 0 := by unfold areaQ; grind
                               rw [this] at Y; exact absurd Y (by decide)
 have Z : ∀ L : List PtQ, L.Pairwise ltP -> (∀ x, x ∈ L ↔ x ∈ [p, q, r, s]) -> hullL L = [p, q, r, s] -> hullL S = [p, q, r, s] := fun L h1 h2 Y => by
  rw [lPu H h1 (fun x => by rw [G, h2]), Y]
 rcases lc0 q r with g | g | g
 ·rcases lc0 r s with k | k | k
  ·exact Z [p, q, r, s] (by simp [U, X, R, g, k, lPt g k]) (fun x => Iff.rfl) (by simp [hullL, cLL, ca0, popC, *])
  ·exact absurd k V
  ·rcases lc0 q s with j | j | j
   ·exact Z [p, q, s, r] (by simp [U, X, R, g, k, j]) (fun x => by simp; grind) (by simp [hullL, cLL, ca0, popC, *])
   ·exact absurd j O
   ·exact Z [p, s, q, r] (by simp [U, X, R, g, k, j]) (fun x => by simp; grind) (by simp [hullL, cLL, ca0, popC, *])
 ·exact absurd g Q
 ·rcases lc0 r s with k | k | k
  ·exact absurd (nvy h0 h1 h2 Y X g k) id
  ·exact absurd k V
  ·exact Z [p, s, r, q] (by simp [U, X, R, g, k, lPt k g]) (fun x => by simp; grind) (by simp [hullL, cLL, ca0, popC, *])
def CapP (A x y w V : Rat) : Prop := (y < 0 \/ w < 0) /\ 0 < x /\ y <= 0 /\ w <= 0 /\ ∃ r s : Rat, r * (x - y) = x /\ s * (x - w) = x /\ 6 * V = A * (x * r * s)
def NotP (A x y w V : Rat) : Prop := (0 < y \/ 0 < w) /\ x < 0 /\ 0 <= y /\ 0 <= w /\ ∃ r s : Rat, r * (x - y) = x /\ s * (x - w) = x /\ 6 * V = A * (x + y + w) - A * (x * r * s)
def VolP (A x y w V : Rat) : Prop :=
 (x <= 0 /\ y <= 0 /\ w <= 0 /\ V = 0) \/ (0 <= x /\ 0 <= y /\ 0 <= w /\ 6 * V = A * (x + y + w)) \/ (CapP A x y w V \/ NotP A x y w V) \/ (CapP A y w x V \/ NotP A y w x V) \/ (CapP A w x y V \/ NotP A w x y V)
theorem sng {q : Rat} (h : q < 0) : q.num.sign = -1 := by rw [sif, if_pos h]
theorem sps {q : Rat} (h : 0 < q) : q.num.sign = 1 := by rw [sif, if_neg (by grind), if_pos h]
theorem szo {q : Rat} (h : q = 0) : q.num.sign = 0 := by rw [sif, h]; decide +kernel
def CvxL (l : List PtQ) : Prop :=
 (∃ a b c, l = [a, b, c] /\ 0 < areaQ a b c) \/ ∃ a b c d, l = [a, b, c, d] /\ 0 < areaQ a b c /\ 0 < areaQ b c d /\ 0 < areaQ a b d /\ 0 < areaQ a c d
theorem cvx3 {a b c : PtQ} (h : 0 < areaQ a b c) : CvxL [a, b, c] := .inl ⟨a, b, c, rfl, h⟩
theorem cvx4 {u v w : PtQ} {s t : Rat} (hA : 0 < areaQ u v w) (Z : 0 < s) (R : s < 1) (S : 0 < t) (Q : t < 1) :
 0 < areaQ u v (towQ v.1 w.1 s, towQ v.2 w.2 s) /\ 0 < areaQ v (towQ v.1 w.1 s, towQ v.2 w.2 s) (towQ w.1 u.1 t, towQ w.2 u.2 t) /\ 0 < areaQ u v (towQ w.1 u.1 t, towQ w.2 u.2 t) /\ 0 < areaQ u (towQ v.1 w.1 s, towQ v.2 w.2 s) (towQ w.1 u.1 t, towQ w.2 u.2 t) := by
 have Y : areaQ u v (towQ v.1 w.1 s, towQ v.2 w.2 s) = s * areaQ u v w := by unfold areaQ towQ; grind
 have X : areaQ v (towQ v.1 w.1 s, towQ v.2 w.2 s) (towQ w.1 u.1 t, towQ w.2 u.2 t) = s * t * areaQ u v w := by unfold areaQ towQ; grind
 have V : areaQ u v (towQ w.1 u.1 t, towQ w.2 u.2 t) = (1 - t) * areaQ u v w := by unfold areaQ towQ; grind
 have U : areaQ u (towQ v.1 w.1 s, towQ v.2 w.2 s) (towQ w.1 u.1 t, towQ w.2 u.2 t) = (1 - s) * (1 - t) * areaQ u v w := by unfold areaQ towQ; grind
 rw [Y, X, V, U];exact ⟨Rat.mul_pos Z hA, Rat.mul_pos (Rat.mul_pos Z S) hA, Rat.mul_pos (by grind) hA, Rat.mul_pos (Rat.mul_pos (by grind) (by grind)) hA⟩
theorem cr3 {a b c : PtQ} (h : 0 < areaQ a b c) : 0 < areaQ b c a /\ 0 < areaQ c a b := by
 have Z : areaQ b c a = areaQ a b c := ac0 a b c;have Y : areaQ c a b = areaQ a b c := by unfold areaQ; grind
 rw [Z, Y]; exact ⟨h, h⟩
theorem ch0 {a : PtQ} {l : List PtQ} (h : CvxL (a :: l)) : CvxL (l ++ [a]) := by
 rcases h with ⟨x, y, z, e, h0⟩ | ⟨x, y, z, t, e, h0, h1, h2, Z⟩
 ·injection e with e1 e2
  subst e1; subst e2;exact .inl ⟨_, _, _, rfl, (cr3 h0).1⟩
 ·injection e with e1 e2
  subst e1; subst e2;exact .inr ⟨_, _, _, _, rfl, h1, (cr3 Z).1, (cr3 h0).1, (cr3 h2).1⟩
theorem cbg {l : List PtQ} (h : CvxL l) : ∀ n, n <= l.length -> CvxL (begL l n)
 | 0, _ => by unfold begL; rw [List.drop_zero, List.take_zero, List.append_nil]; exact h
 | n + 1, hn => by
   have Z := cbg h n (by omega);unfold begL at Z ⊢;rw [List.drop_eq_getElem_cons (show n < l.length by omega), List.cons_append] at Z;have := ch0 Z;rw [List.append_assoc, <- List.take_succ_eq_append_getElem (show n < l.length by omega)] at this;exact this
theorem chl {p : PtQ} {l : List PtQ} (h : CvxL (p :: l)) (Z : ∀ q ∈ l, ltP p q) {S : List PtQ} (Y : S.Pairwise ltP) (X : ∀ x, x ∈ S ↔ x ∈ p :: l) : hullL S = p :: l := by
 rcases h with ⟨x, y, z, e, h0⟩ | ⟨x, y, z, t, e, h0, h1, h2, V⟩
 ·injection e with e1 e2
  subst e1; subst e2;exact hull3 h0 (Z _ (by simp)) (Z _ (by simp)) Y X
 ·injection e with e1 e2
  subst e1; subst e2;exact hull4 h0 h1 h2 V (Z _ (by simp)) (Z _ (by simp)) (Z _ (by simp)) Y X
theorem ccx (c0 c1 c2 : Cor) (z : Rat) (hA : 0 < areaQ c0.1 c1.1 c2.1) (Z : cutL c0 c1 c2 z ≠ []) : CvxL ((cutL c0 c1 c2 z).map (·.1)) := by
 have Q := @cse (c0.2 - z) (c1.2 - z);have O := @cse (c1.2 - z) (c2.2 - z);have N := @cse (c2.2 - z) (c0.2 - z);have M : 0 < areaQ c1.1 c2.1 c0.1 := (cr3 hA).1;have L : 0 < areaQ c2.1 c0.1 c1.1 := (cr3 hA).2;revert Z;simp only [cutL, sTo, cutTo, corA, corB, cutS, cKK];generalize (c0.2 - z) / ((c0.2 - z) - (c1.2 - z)) = r01 at *;generalize (c1.2 - z) / ((c1.2 - z) - (c2.2 - z)) = r12 at *;generalize (c2.2 - z) / ((c2.2 - z) - (c0.2 - z)) = r20 at *;have tri : ∀ q : Rat, q < 0 \/ q = 0 \/ 0 < q := fun q => by grind
 rcases tri (c0.2 - z) with h0 | h0 | h0 <;> rcases tri (c1.2 - z) with h1 | h1 | h1 <;> rcases tri (c2.2 - z) with h2 | h2 | h2
 all_goals
  first | rw [sng h0] at * | rw [szo h0] at * | rw [sps h0] at *
  first | rw [sng h1] at * | rw [szo h1] at * | rw [sps h1] at *
  first | rw [sng h2] at * | rw [szo h2] at * | rw [sps h2] at *
  simp only [Int.reduceLE, Int.reduceLT, Int.reduceMul, Int.reduceNeg, decide_true, decide_false, Bool.or_true, Bool.or_false, if_false, if_pos, Bool.false_eq_true, List.nil_append, List.cons_append, List.append_nil, forall_const] at *;intro Z;clear h0 h1 h2
 ·exact absurd rfl Z
 ·exact absurd rfl Z
 ·obtain ⟨X, S, -⟩ := O; obtain ⟨V, R, -⟩ := N; exact cvx3 (by rw [show areaQ (towQ c1.1.1 c2.1.1 r12, towQ c1.1.2 c2.1.2 r12) c2.1 (towQ c2.1.1 c0.1.1 r20, towQ c2.1.2 c0.1.2 r20) = (r20 * (1 - r12)) * areaQ c0.1 c1.1 c2.1 by unfold areaQ towQ; grind]; exact Rat.mul_pos (Rat.mul_pos V (by grind)) hA)
 ·exact absurd rfl Z
 ·exact absurd rfl Z
 ·obtain ⟨V, R, -⟩ := N; exact cvx3 (by rw [show areaQ c1.1 c2.1 (towQ c2.1.1 c0.1.1 r20, towQ c2.1.2 c0.1.2 r20) = r20 * areaQ c0.1 c1.1 c2.1 by unfold areaQ towQ; grind]; exact Rat.mul_pos (V) hA)
 ·obtain ⟨Y, U, -⟩ := Q; obtain ⟨X, S, -⟩ := O; exact cvx3 (by rw [show areaQ (towQ c0.1.1 c1.1.1 r01, towQ c0.1.2 c1.1.2 r01) c1.1 (towQ c1.1.1 c2.1.1 r12, towQ c1.1.2 c2.1.2 r12) = (r12 * (1 - r01)) * areaQ c0.1 c1.1 c2.1 by unfold areaQ towQ; grind]; exact Rat.mul_pos (Rat.mul_pos X (by grind)) hA)
 ·obtain ⟨Y, U, -⟩ := Q; exact cvx3 (by rw [show areaQ (towQ c0.1.1 c1.1.1 r01, towQ c0.1.2 c1.1.2 r01) c1.1 c2.1 = (1 - r01) * areaQ c0.1 c1.1 c2.1 by unfold areaQ towQ; grind]; exact Rat.mul_pos ((by grind)) hA)
 ·obtain ⟨Y, U, -⟩ := Q; obtain ⟨V, R, -⟩ := N; have h := cvx4 M V R Y U; exact (ch0 (ch0 (ch0 (show CvxL _ from .inr ⟨_, _, _, _, rfl, h⟩))))
 ·exact absurd rfl Z
 ·exact absurd rfl Z
 ·obtain ⟨X, S, -⟩ := O; exact cvx3 (by rw [show areaQ c0.1 (towQ c1.1.1 c2.1.1 r12, towQ c1.1.2 c2.1.2 r12) c2.1 = (1 - r12) * areaQ c0.1 c1.1 c2.1 by unfold areaQ towQ; grind]; exact Rat.mul_pos ((by grind)) hA)
 ·exact absurd rfl Z
 ·exact absurd rfl Z
 ·exact cvx3 hA
 ·obtain ⟨X, S, -⟩ := O; exact cvx3 (by rw [show areaQ c0.1 c1.1 (towQ c1.1.1 c2.1.1 r12, towQ c1.1.2 c2.1.2 r12) = r12 * areaQ c0.1 c1.1 c2.1 by unfold areaQ towQ; grind]; exact Rat.mul_pos (X) hA)
 ·exact cvx3 hA
 ·exact cvx3 hA
 ·obtain ⟨Y, U, -⟩ := Q; obtain ⟨V, R, -⟩ := N; exact cvx3 (by rw [show areaQ c0.1 (towQ c0.1.1 c1.1.1 r01, towQ c0.1.2 c1.1.2 r01) (towQ c2.1.1 c0.1.1 r20, towQ c2.1.2 c0.1.2 r20) = (r01 * (1 - r20)) * areaQ c0.1 c1.1 c2.1 by unfold areaQ towQ; grind]; exact Rat.mul_pos (Rat.mul_pos Y (by grind)) hA)
 ·obtain ⟨Y, U, -⟩ := Q; exact cvx3 (by rw [show areaQ c0.1 (towQ c0.1.1 c1.1.1 r01, towQ c0.1.2 c1.1.2 r01) c2.1 = r01 * areaQ c0.1 c1.1 c2.1 by unfold areaQ towQ; grind]; exact Rat.mul_pos (Y) hA)
 ·obtain ⟨Y, U, -⟩ := Q; obtain ⟨X, S, -⟩ := O; have h := cvx4 L Y U X S; exact (ch0 (show CvxL _ from .inr ⟨_, _, _, _, rfl, h⟩))
 ·obtain ⟨V, R, -⟩ := N; exact cvx3 (by rw [show areaQ c0.1 c1.1 (towQ c2.1.1 c0.1.1 r20, towQ c2.1.2 c0.1.2 r20) = (1 - r20) * areaQ c0.1 c1.1 c2.1 by unfold areaQ towQ; grind]; exact Rat.mul_pos ((by grind)) hA)
 ·exact cvx3 hA
 ·exact cvx3 hA
 ·obtain ⟨X, S, -⟩ := O; obtain ⟨V, R, -⟩ := N; have h := cvx4 hA X S V R; exact (show CvxL _ from .inr ⟨_, _, _, _, rfl, h⟩)
 ·exact cvx3 hA
 ·exact cvx3 hA
theorem pcx {P : List PtQ} {F : List Rat} {tr : Tri} {z : Rat} (hA : 0 < areaQ (ptI P tr.1) (ptI P tr.2.1) (ptI P tr.2.2)) (Z : partT P F z tr ≠ []) : CvxL ((partT P F z tr).map (·.1)) := ccx (corP P F tr.1) (corP P F tr.2.1) (corP P F tr.2.2) z hA Z
theorem co0 {x : Rat} {q : Nat} (hq : 0 < q) (h : x * (q : Rat) = 0) : x = 0 := by
 rcases Rat.mul_eq_zero.1 h with h | h
 ·exact h
 ·have : q = 0 := by exact_mod_cast h
  omega
structure TriI (A x y w : Rat) (a h0 h1 h2 p : Int) (q : Nat) : Prop where
 hq : 0 < q
 hA : A * 4 = (a : Rat)
 hx : x * (2 * (q : Rat)) = (h0 : Rat) * (q : Rat) - 2 * (p : Rat)
 hy : y * (2 * (q : Rat)) = (h1 : Rat) * (q : Rat) - 2 * (p : Rat)
 hw : w * (2 * (q : Rat)) = (h2 : Rat) * (q : Rat) - 2 * (p : Rat)
theorem TriI.turn {A x y w : Rat} {a h0 h1 h2 p : Int} {q : Nat} (h : TriI A x y w a h0 h1 h2 p q) : TriI A y w x a h1 h2 h0 p q := ⟨h.hq, h.hA, h.hy, h.hw, h.hx⟩
section
variable {A x y w V : Rat} {a h0 h1 h2 p : Int} {q : Nat}
theorem TriI.dif (h : TriI A x y w a h0 h1 h2 p q) : (x - y) * 2 = (h0 : Rat) - (h1 : Rat) /\ (x - w) * 2 = (h0 : Rat) - (h2 : Rat) := by
 have Z := h.hx;have Y := h.hy;have X := h.hw;constructor
 ·have := co0 (x := (x - y) * 2 - ((h0 : Rat) - (h1 : Rat))) h.hq (by grind)
  grind
 ·have := co0 (x := (x - w) * 2 - ((h0 : Rat) - (h2 : Rat))) h.hq (by grind)
  grind
theorem TriI.cap (h : TriI A x y w a h0 h1 h2 p q) {r s : Rat} (N : r * (x - y) = x) (M : s * (x - w) = x) (R : 6 * V = A * (x * r * s)) :
 V * (48 * (q : Rat) * q * q * (((h0 - h1) * (h0 - h2) : Int) : Rat)) = ((a * ((h0 * q - 2 * p) * (h0 * q - 2 * p) * (h0 * q - 2 * p)) : Int) : Rat) := by
 obtain ⟨Z, Y⟩ := h.dif;have hx := h.hx;have hA := h.hA;have X : (((h0 - h1) * (h0 - h2) : Int) : Rat) = ((h0 : Rat) - (h1 : Rat)) * ((h0 : Rat) - (h2 : Rat)) := by rw [Rat.intCast_mul, Rat.intCast_sub, Rat.intCast_sub]
 have U : ((a * ((h0 * q - 2 * p) * (h0 * q - 2 * p) * (h0 * q - 2 * p)) : Int) : Rat) = (a : Rat) * (((h0 : Rat) * (q : Rat) - 2 * (p : Rat)) * ((h0 : Rat) * (q : Rat) - 2 * (p : Rat)) * ((h0 : Rat) * (q : Rat) - 2 * (p : Rat))) := by
  rw [Rat.intCast_mul, Rat.intCast_mul, Rat.intCast_mul, Rat.intCast_sub, Rat.intCast_mul, Rat.intCast_mul]; rfl
 rw [X, U, <- hx, <- hA, <- Z, <- Y];have Q : r * ((x - y) * 2) = 2 * x := by grind
 have O : s * ((x - w) * 2) = 2 * x := by grind
 have g : V * (48 * (q : Rat) * q * q * ((x - y) * 2 * ((x - w) * 2))) = 8 * q * q * q * (6 * V) * ((x - y) * 2) * ((x - w) * 2) := by grind
 rw [g, R];have S : 8 * (q : Rat) * q * q * (A * (x * r * s)) * ((x - y) * 2) * ((x - w) * 2) = 8 * q * q * q * A * x * (r * ((x - y) * 2)) * (s * ((x - w) * 2)) := by grind
 rw [S, Q, O];grind
theorem TriI.whole (h : TriI A x y w a h0 h1 h2 p q) (Y : 6 * V = A * (x + y + w)) :
 V * (48 * (q : Rat)) = ((a * ((h0 + h1 + h2) * q - 6 * p) : Int) : Rat) := by
 have hx := h.hx;have hy := h.hy;have hw := h.hw;have hA := h.hA;have Z : ((a * ((h0 + h1 + h2) * q - 6 * p) : Int) : Rat) = (a : Rat) * (((h0 : Rat) + (h1 : Rat) + (h2 : Rat)) * (q : Rat) - 6 * (p : Rat)) := by
  rw [Rat.intCast_mul, Rat.intCast_sub, Rat.intCast_mul, Rat.intCast_mul, Rat.intCast_add, Rat.intCast_add]; rfl
 have g : V * (48 * (q : Rat)) = 8 * q * (6 * V) := by grind
 rw [Z, g, Y, <- hA];grind
theorem TriI.not (h : TriI A x y w a h0 h1 h2 p q) {r s : Rat} (Y : r * (x - y) = x) (U : s * (x - w) = x) (S : 6 * V = A * (x + y + w) - A * (x * r * s)) :
 V * (48 * (q : Rat) * q * q * (((h0 - h1) * (h0 - h2) : Int) : Rat)) = ((a * ((h0 + h1 + h2) * q - 6 * p) * (q * q * ((h0 - h1) * (h0 - h2))) - a * ((h0 * q - 2 * p) * (h0 * q - 2 * p) * (h0 * q - 2 * p)) : Int) : Rat) := by
 have c1 := h.cap (V := A * (x * r * s) / 6) Y U (by grind);have c2 := h.whole (V := A * (x + y + w) / 6) (by grind);have e : V = A * (x + y + w) / 6 - A * (x * r * s) / 6 := by grind
 generalize a * ((h0 + h1 + h2) * q - 6 * p) = X at *;generalize (h0 - h1) * (h0 - h2) = D at *;rw [Rat.intCast_sub, <- c1, Rat.intCast_mul, <- c2, Rat.intCast_mul, Rat.intCast_mul, e];have Z : (((q : Nat) : Int) : Rat) = (q : Rat) := rfl;rw [Z];generalize A * (x + y + w) / 6 = V1;generalize A * (x * r * s) / 6 = V2;grind
end
theorem nA3 (a b c : Int) {A B C : Nat} (h1 : a.natAbs <= A) (h2 : b.natAbs <= B) (Z : c.natAbs <= C) : (a * b * c).natAbs <= A * B * C := by
 rw [Int.natAbs_mul, Int.natAbs_mul];exact Nat.mul_le_mul (Nat.mul_le_mul h1 h2) Z
end Go.Proofs.YtbfcmipplhkkeaaGreatDoor
namespace Go.Proofs.YtbfcmipplhkkeaaGreatDoor
open Go.RowKit Go.Lib
theorem ipo {n : Int} (h : (0 : Rat) < (n : Rat)) : 0 < n := by
 have : ((0 : Int) : Rat) < (n : Rat) := h;exact Rat.intCast_lt_intCast.1 this
theorem ino {n : Int} (h : (n : Rat) < 0) : n < 0 := by
 have : (n : Rat) < ((0 : Int) : Rat) := h;exact Rat.intCast_lt_intCast.1 this
section
variable {A x y w V : Rat} {a h0 h1 h2 p : Int} {q : Nat}
theorem TriI.dpos (h : TriI A x y w a h0 h1 h2 p q) (U : (y < x /\ w < x) \/ (x < y /\ x < w)) : 0 < (h0 - h1) * (h0 - h2) := by
 obtain ⟨X, V⟩ := h.dif;have Z : ((h0 - h1 : Int) : Rat) = (x - y) * 2 := by rw [Rat.intCast_sub, X]
 have Y : ((h0 - h2 : Int) : Rat) = (x - w) * 2 := by rw [Rat.intCast_sub, V]
 rcases U with ⟨S, R⟩ | ⟨S, R⟩
 ·exact Int.mul_pos (ipo (by rw [Z]; grind)) (ipo (by rw [Y]; grind))
 ·exact Int.mul_pos_of_neg_of_neg (ino (by rw [Z]; grind)) (ino (by rw [Y]; grind))
def NumP (V : Rat) (q : Nat) : Prop := ∃ D N : Int, 0 < D /\ D.natAbs <= 23104 /\ N.natAbs <= 1000000000000 * (q * q * q) /\ V * (48 * (q : Rat) * q * q * (D : Rat)) = (N : Rat)
theorem nbs (Y : a.natAbs <= 5408) (U : h0.natAbs <= 76) (b1 : h1.natAbs <= 76) (N : h2.natAbs <= 76) (M : p.natAbs <= 76 * q) :
 (a * ((h0 * q - 2 * p) * (h0 * q - 2 * p) * (h0 * q - 2 * p))).natAbs <= 100000000000 * (q * q * q) /\ (a * ((h0 + h1 + h2) * q - 6 * p) * (q * q * ((h0 - h1) * (h0 - h2)))).natAbs <= 100000000000 * (q * q * q) /\ (a * ((h0 + h1 + h2) * q - 6 * p) * (q * q)).natAbs <= 100000000000 * (q * q * q) /\ ((h0 - h1) * (h0 - h2)).natAbs <= 23104 := by
 have u0 : (h0 * q - 2 * p).natAbs <= 228 * q := by
  have := Int.natAbs_sub_le (h0 * q) (2 * p);rw [Int.natAbs_mul, Int.natAbs_mul] at this;have O : h0.natAbs * ((q : Int).natAbs) <= 76 * q := Nat.mul_le_mul U (by omega);have Z : (2 : Int).natAbs = 2 := rfl;rw [Z] at this;omega
 have V : ((h0 + h1 + h2) * q - 6 * p).natAbs <= 684 * q := by
  have := Int.natAbs_sub_le ((h0 + h1 + h2) * q) (6 * p);rw [Int.natAbs_mul, Int.natAbs_mul] at this;have O : (h0 + h1 + h2).natAbs * ((q : Int).natAbs) <= 228 * q := Nat.mul_le_mul (by omega) (by omega);have Z : (6 : Int).natAbs = 6 := rfl;rw [Z] at this;omega
 have S : (h0 - h1).natAbs <= 152 := by omega
 have R : (h0 - h2).natAbs <= 152 := by omega
 have Q : ((h0 - h1) * (h0 - h2)).natAbs <= 152 * 152 := by rw [Int.natAbs_mul]; exact Nat.mul_le_mul S R
 have X : ((q : Int) * q).natAbs = q * q := by rw [Int.natAbs_mul]; rfl
 refine ⟨?_, ?_, ?_, by omega⟩
 ·rw [Int.natAbs_mul]
  refine Nat.le_trans (Nat.mul_le_mul Y (nA3 _ _ _ u0 u0 u0)) ?_;have : 5408 * (228 * q * (228 * q) * (228 * q)) = (5408 * 228 * 228 * 228) * (q * q * q) := by grind
  rw [this];exact Nat.mul_le_mul_right _ (by decide)
 ·refine Nat.le_trans (nA3 _ _ _ Y V (C := q * q * (152 * 152)) ?_) ?_
  ·rw [Int.natAbs_mul, X]; exact Nat.mul_le_mul_left _ Q
  ·have : 5408 * (684 * q) * (q * q * (152 * 152)) = (5408 * 684 * (152 * 152)) * (q * q * q) := by grind
   rw [this];exact Nat.mul_le_mul_right _ (by decide)
 ·refine Nat.le_trans (nA3 _ _ _ Y V (C := q * q) (by rw [X]; exact Nat.le_refl _)) ?_
  have : 5408 * (684 * q) * (q * q) = (5408 * 684) * (q * q * q) := by grind
  rw [this];exact Nat.mul_le_mul_right _ (by decide)
theorem TriI.capnot (h : TriI A x y w a h0 h1 h2 p q) (K : CapP A x y w V \/ NotP A x y w V) (L : a.natAbs <= 5408) (S : h0.natAbs <= 76) (b1 : h1.natAbs <= 76) (R : h2.natAbs <= 76) (Q : p.natAbs <= 76 * q) : NumP V q := by
 obtain ⟨J, I, -, U⟩ := nbs (q := q) L S b1 R Q;rcases K with ⟨-, O, N, M, r, s, Y, X, Z⟩ | ⟨-, O, N, M, r, s, Y, X, Z⟩
 ·exact ⟨_, _, h.dpos (.inl ⟨by grind, by grind⟩), U, by omega, h.cap Y X Z⟩
 ·refine ⟨_, _, h.dpos (.inr ⟨by grind, by grind⟩), U, ?_, h.not Y X Z⟩
  refine Nat.le_trans (Int.natAbs_sub_le _ _) ?_;omega
theorem TriI.num (h : TriI A x y w a h0 h1 h2 p q) (Z : VolP A x y w V) (S : a.natAbs <= 5408) (Y : h0.natAbs <= 76) (b1 : h1.natAbs <= 76) (X : h2.natAbs <= 76) (U : p.natAbs <= 76 * q) : NumP V q := by
 rcases Z with ⟨-, -, -, rfl⟩ | ⟨-, -, -, O⟩ | Z | Z | Z
 ·exact ⟨1, 0, by decide, by decide, by simp, by grind⟩
 ·obtain ⟨-, -, N, -⟩ := nbs (q := q) S Y b1 X U
  refine ⟨1, _, by decide, by decide, Nat.le_trans N (by omega), ?_⟩;have c := h.whole O;rw [Rat.intCast_mul, <- c, Rat.intCast_mul];have R : (((q : Nat) : Int) : Rat) = (q : Rat) := rfl;have Q : ((1 : Int) : Rat) = 1 := rfl;rw [R, Q];grind
 ·exact h.capnot Z S Y b1 X U
 ·exact h.turn.capnot Z S b1 X Y U
 ·exact h.turn.turn.capnot Z S X Y b1 U
end
end Go.Proofs.YtbfcmipplhkkeaaGreatDoor
namespace Go.Proofs.YtbfcmipplhkkeaaGreatDoor
open Go.RowKit Go.Lib
theorem cQc (x m : Rat) : (x < m /\ cmpQ x m = -1) \/ (x = m /\ cmpQ x m = 0) \/ (m < x /\ cmpQ x m = 1) := by
 unfold cmpQ;by_cases h1 : x < m
 ·exact .inl ⟨h1, by rw [if_pos h1]⟩
 ·by_cases h2 : m < x
  ·exact .inr (.inr ⟨h2, by rw [if_neg h1, if_pos h2]⟩)
  ·exact .inr (.inl ⟨Rat.le_antisymm (Rat.not_lt.1 h2) (Rat.not_lt.1 h1), by rw [if_neg h1, if_neg h2]⟩)
def Fr (d B : Nat) (q : Rat) : Prop := ∃ n : Int, q * (d : Rat) = (n : Rat) /\ n.natAbs <= B
theorem Fr.zero (d B : Nat) : Fr d B 0 := ⟨0, by grind, by simp⟩
theorem Fr.mono {d B C : Nat} {q : Rat} (h : Fr d B q) (Z : B <= C) : Fr d C q := by
 obtain ⟨n, h1, h2⟩ := h;exact ⟨n, h1, Nat.le_trans h2 Z⟩
theorem Fr.add {d A B : Nat} {p q : Rat} (Z : Fr d A p) (hq : Fr d B q) : Fr d (A + B) (p + q) := by
 obtain ⟨m, h1, h2⟩ := Z;obtain ⟨n, Y, X⟩ := hq;exact ⟨m + n, by rw [Rat.intCast_add]; grind, by omega⟩
theorem Fr.sub {d A B : Nat} {p q : Rat} (Z : Fr d A p) (hq : Fr d B q) : Fr d (A + B) (p - q) := by
 obtain ⟨m, h1, h2⟩ := Z;obtain ⟨n, Y, X⟩ := hq;exact ⟨m - n, by rw [Rat.intCast_sub]; grind, by omega⟩
theorem Fr.mul {d e A B : Nat} {p q : Rat} (X : Fr d A p) (hq : Fr e B q) : Fr (d * e) (A * B) (p * q) := by
 obtain ⟨m, h1, h2⟩ := X;obtain ⟨n, Z, Y⟩ := hq;refine ⟨m * n, ?_, ?_⟩
 ·rw [Rat.intCast_mul, Rat.natCast_mul, <- h1, <- Z]
  grind
 ·rw [Int.natAbs_mul]
  exact Nat.mul_le_mul h2 Y
theorem rMM {s : ByteArray} {m : Nat} (h : rQQ s.data.toList = true) (Y : 0 < m) (U : s.size <= m) : ∃ q : Rat, s = RS q /\ Sz m q := by
 obtain ⟨q, hq, _⟩ := rQv h;have V : s = RS q := by
  have : s.data = (RL q).toArray := by rw [<- hq]
  unfold RS;rw [<- this]
 refine ⟨q, V, ?_⟩;have Z : (RL q).length <= m := by
  have h1 : s.data.toList.length = s.size := by rw [Array.length_toList]; rfl
  rw [hq] at h1;omega
 have key : ∀ n : Nat, (decDigits n).length <= m -> n < 10 ^ m := fun n h => (ldD n m Y).1 h;have X : (itoa q.num).length <= m -> q.num.natAbs < 10 ^ m := fun h => by
  rw [iln] at h;exact key _ (by rw [decDigits_length]; omega)
 unfold RL at Z;by_cases h1 : q.den = 1
 ·rw [if_pos h1] at Z
  exact ⟨X Z, by rw [h1]; exact Nat.lt_of_lt_of_le (by decide : 1 < 10 ^ 1) (Nat.pow_le_pow_right (by decide) Y)⟩
 ·rw [if_neg h1, List.length_append, List.length_cons] at Z
  exact ⟨X (by omega), key _ (by omega)⟩
theorem sfs {A B C : PtQ} {a b c : Rat} (h : areaQ A B C ≠ 0) : (sQQ A B C a b c).1 * (B.1 - A.1) + (sQQ A B C a b c).2 * (B.2 - A.2) = b - a /\ (sQQ A B C a b c).1 * (C.1 - A.1) + (sQQ A B C a b c).2 * (C.2 - A.2) = c - a := by
 unfold sQQ mQQ;unfold areaQ at h;dsimp only;have Y : (B.1 - A.1) * (C.2 - A.2) - (B.2 - A.2) * (C.1 - A.1) ≠ 0 := h;generalize X : (B.1 - A.1) * (C.2 - A.2) - (B.2 - A.2) * (C.1 - A.1) = D at *;have Z : 1 / D * D = 1 := by rw [Rat.div_mul_cancel Y]
 generalize 1 / D = k at *;constructor
 ·have : (b - a) * (k * D) = b - a := by rw [Z, Rat.mul_one]
  grind
 ·have : (c - a) * (k * D) = c - a := by rw [Z, Rat.mul_one]
  grind
theorem ppe {P : List PtQ} {F : List Rat} {tr : Tri} {z : Rat} (hA : areaQ (ptI P tr.1) (ptI P tr.2.1) (ptI P tr.2.2) ≠ 0) : ∀ a ∈ partT P F z tr, a.2 = onQ P F tr a.1 := by
 obtain ⟨Y, X⟩ := sfs (a := hI F tr.1) (b := hI F tr.2.1) (c := hI F tr.2.2) hA;have := cTp (corP P F tr.1) (corP P F tr.2.1) (corP P F tr.2.2) z (hI F tr.1 - (sTT P F tr).1 * (ptI P tr.1).1 - (sTT P F tr).2 * (ptI P tr.1).2) (sTT P F tr).1 (sTT P F tr).2 (by unfold corP; grind) (by unfold corP sTT; grind) (by unfold corP sTT; grind);intro a Z;rw [this a Z];unfold onQ;grind
section
variable {A x y w V V' : Rat}
def TipP (A x y w V : Rat) : Prop := CapP A x y w V \/ NotP A x y w V
theorem TipP.sgn (h : TipP A x y w V) : ((y < 0 \/ w < 0) /\ 0 < x /\ y <= 0 /\ w <= 0) \/ ((0 < y \/ 0 < w) /\ x < 0 /\ 0 <= y /\ 0 <= w) := by
 rcases h with ⟨Z, Y, X, U, -⟩ | ⟨Z, Y, X, U, -⟩
 ·exact .inl ⟨Z, Y, X, U⟩
 ·exact .inr ⟨Z, Y, X, U⟩
end
end Go.Proofs.YtbfcmipplhkkeaaGreatDoor
namespace Go.Proofs.YtbfcmipplhkkeaaGreatDoor
open Go.RowKit Go.Lib
theorem RdQ.cells {w : World} {v : Value} {l : List Rat} (h : RdQ w v l) (X : 0 < l.length) : ∃ b o c : Nat, v = .slice (some ⟨b, o, none⟩) l.length c /\ b < w.heap.size /\ ∀ i : Nat, i < l.length -> w.cell? ⟨b, o + i, none⟩ = some (.string (RS (hI l i))) := by
 obtain ⟨p, c, rfl, -, -, V⟩ := h.open;obtain ⟨b, o, rfl, Z, Y⟩ := V (List.ne_nil_of_length_pos X);exact ⟨b, o, c, rfl, Z, fun i hi => by rw [he0 l i hi]; exact Y i hi⟩
theorem RdP.cells {w : World} {v : Value} {P : List PtQ} (h : RdP w v (strP P)) (X : 0 < P.length) : ∃ b o c : Nat, v = .slice (some ⟨b, o, none⟩) P.length c /\ b < w.heap.size /\ ∀ i : Nat, i < P.length -> w.cell? ⟨b, o + i * 2, none⟩ = some (.string (RS (ptI P i).1)) /\ w.cell? ⟨b, o + i * 2 + 1, none⟩ = some (.string (RS (ptI P i).2)) := by
 obtain ⟨p, c, rfl, -, -, V⟩ := h.open;obtain ⟨b, o, rfl, Z, Y⟩ := V (List.ne_nil_of_length_pos (by rw [sPl]; exact X));refine ⟨b, o, c, by rw [sPl], Z, fun i hi => ?_⟩;have h1 := Y i (by rw [sPl]; exact hi);rw [sPg P i hi] at h1;rw [pIn P i hi];exact h1
theorem RdT.cells {w : World} {v : Value} {T : List Tri} (h : RdT w v T) (X : 0 < T.length) : ∃ b o c : Nat, v = .slice (some ⟨b, o, none⟩) T.length c /\ b < w.heap.size /\ ∀ t : Nat, t < T.length -> w.cell? ⟨b, o + t * 3, none⟩ = some (.int .i64 (triI T t).1) /\ w.cell? ⟨b, o + t * 3 + 1, none⟩ = some (.int .i64 (triI T t).2.1) /\ w.cell? ⟨b, o + t * 3 + 2, none⟩ = some (.int .i64 (triI T t).2.2) := by
 obtain ⟨p, c, rfl, -, -, V⟩ := h.open;obtain ⟨b, o, rfl, Z, Y⟩ := V (List.ne_nil_of_length_pos X);refine ⟨b, o, c, rfl, Z, fun t ht => ?_⟩;rw [tIn T t ht];exact Y t ht
end Go.Proofs.YtbfcmipplhkkeaaGreatDoor
