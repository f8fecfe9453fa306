import Derived.Test.YtlodicfimpgibaaGreatDoorZS56a
/- Plain What Log, At, unit return at a place of a plan's deposit, with the heights -/
namespace Go.Proofs.YtlodicfimpgibaaGreatDoor
open Go.RowKit Go.Lib
inductive ChainI : Rat -> List Itv -> Rat -> Prop
 | nil (a : Rat) : ChainI a [] a
 | snoc {a : Rat} {l : List Itv} {b : Rat} (c : Itv) : ChainI a l b -> c.fro = b -> c.fro < c.til -> ChainI a (l ++ [c]) c.til
theorem lTc (U : List ByteArray) (H : List Rat) (z : Rat) (l : List Nat) : ChainI 0 (logTo U H z l).1 (z - (logTo U H z l).2) /\ ((logTo U H z l).1 = [] -> (logTo U H z l).2 = z) := by
 refine sid (p := fun l => ChainI 0 (logTo U H z l).1 (z - (logTo U H z l).2) /\ ((logTo U H z l).1 = [] -> (logTo U H z l).2 = z)) ?_ (fun l i ih => ?_) l
 ·show ChainI 0 [] (z - z) /\ (([] : List Itv) = [] -> z = z)
  rw [Rat.sub_self];exact ⟨.nil 0, fun _ => rfl⟩
 ·rw [lTs]
  unfold lSp;split
  ·rename_i h
   refine ⟨ChainI.snoc ⟨_, _, _⟩ ih.1 rfl ?_, fun e => ?_⟩
   ·show z - (logTo U H z l).2 < z - (H[i]?.getD 0)
    grind
   ·exact absurd e (by simp)
  ·exact ih
theorem lTl (U : List ByteArray) (H : List Rat) (z : Rat) (l : List Nat) : (∀ i ∈ l, (logTo U H z l).2 <= H[i]?.getD 0) /\ ((logTo U H z l).2 = z \/ ∃ i ∈ l, (logTo U H z l).2 = H[i]?.getD 0) /\ ((logTo U H z l).1 ≠ [] -> ∃ i ∈ l, (logTo U H z l).2 = H[i]?.getD 0) := by
 refine sid (p := fun l => (∀ i ∈ l, (logTo U H z l).2 <= H[i]?.getD 0) /\ ((logTo U H z l).2 = z \/ ∃ i ∈ l, (logTo U H z l).2 = H[i]?.getD 0) /\ ((logTo U H z l).1 ≠ [] -> ∃ i ∈ l, (logTo U H z l).2 = H[i]?.getD 0)) ?_ (fun l j ih => ?_) l
 ·exact ⟨(fun i hi => by cases hi), .inl rfl, fun h => absurd rfl h⟩
 ·rw [lTs]
  unfold lSp;split
  ·rename_i h
   refine ⟨fun i hi => ?_, .inr ⟨j, by simp, rfl⟩, fun _ => ⟨j, by simp, rfl⟩⟩;rcases List.mem_append.1 hi with Z | Z
   ·exact Rat.le_trans (Rat.le_of_lt h) (ih.1 i Z)
   ·rw [List.mem_singleton.1 Z]
    exact Rat.le_refl
  ·rename_i h
   refine ⟨fun i hi => ?_, ?_, fun hne => ?_⟩
   ·rcases List.mem_append.1 hi with Z | Z
    ·exact ih.1 i Z
    ·rw [List.mem_singleton.1 Z]
     exact Rat.not_lt.1 h
   ·rcases ih.2.1 with Z | ⟨i, Z, Y⟩
    ·exact .inl Z
    ·exact .inr ⟨i, by simp [Z], Y⟩
   ·obtain ⟨i, Z, Y⟩ := ih.2.2 hne
    exact ⟨i, by simp [Z], Y⟩
theorem lLf {U : List ByteArray} {H : List Rat} {z : Rat} (R : 0 < H.length) (I : ∀ i j (Y : i < H.length) (G : j < H.length), i <= j -> H[i] <= H[j]) (V : 0 ∈ bwd H.length H.length) (S : ∀ i ∈ bwd H.length H.length, i < H.length) :
 (logL U H z = [] /\ z <= H[0]) \/ (logL U H z ≠ [] /\ ChainI 0 (logL U H z) (z - H[0])) := by
 have Q := lTc U H z (bwd H.length H.length);have O := lTl U H z (bwd H.length H.length);have L : ∀ i (Y : i < H.length), H[i]?.getD 0 = H[i] := fun i Y => by rw [List.getElem?_eq_getElem Y]; rfl
 have Z := O.1 0 V;rw [L 0 R] at Z;unfold logL;by_cases hn : (logTo U H z (bwd H.length H.length)).1 = []
 ·left
  refine ⟨hn, ?_⟩;rw [Q.2 hn] at Z;exact Z
 ·right
  refine ⟨hn, ?_⟩;obtain ⟨i, Y, M⟩ := O.2.2 hn;have X := S i Y;rw [L i X] at M;have K := I 0 i R X (Nat.zero_le _);have J : (logTo U H z (bwd H.length H.length)).2 = H[0] := Rat.le_antisymm Z (by rw [M]; exact K);have N := Q.1;rw [J] at N;exact N
theorem Fr.lift {d B : Nat} {q : Rat} (h : Fr d B q) (c : Nat) : Fr (d * c) (B * c) q := by
 obtain ⟨n, Z, Y⟩ := h;refine ⟨n * c, ?_, ?_⟩
 ·rw [Rat.natCast_mul, <- Rat.mul_assoc, Z, Rat.intCast_mul]; rfl
 ·rw [Int.natAbs_mul]; exact Nat.mul_le_mul Y (by simp)
theorem FrP.lift {d B : Nat} {p : PtQ} (h : FrP d B p) (c : Nat) : FrP (d * c) (B * c) p := ⟨h.1.lift c, h.2.lift c⟩
theorem fPp (s : Int) (Z : Bool) (x : Int) (hx : -128 <= x /\ x <= 127) : Fr 8 312 (pBB 4 s Z x) := by
 have h := t8b s;unfold pBB;refine fmR _ _ 8 312 (by cases Z <;> decide) (by cases Z <;> decide) ?_;have Y : 8 / (halfD Z * 4) <= 2 := by cases Z <;> decide
 have X : (x + s.tmod 8 * ((4 : Nat) : Int)).natAbs <= 156 := by omega
 calc (x + s.tmod 8 * ((4 : Nat) : Int)).natAbs * (8 / (halfD Z * 4)) <= 156 * 2 := Nat.mul_le_mul X Y
  _ = 312 := rfl
theorem fa8 {a b c : PtQ} (Z : FrP 8 312 a) (Y : FrP 8 104 b) (X : FrP 8 104 c) : Fr 64 346112 (areaQ a b c) := by
 unfold areaQ;have u1 := Y.1.sub Z.1;have u2 := X.2.sub Z.2;have u3 := Y.2.sub Z.2;have u4 := X.1.sub Z.1;exact ((u1.mul u2).sub (u3.mul u4)).mono (by omega)
theorem oh0 {P : List PtQ} {T : List Tri} {k : Nat} (O : MeshOK P T k) (N : ∀ p ∈ P, FrP 2 26 p) {F : List Rat} (S : ∀ q ∈ F, Fr 2 152 q) {tr : Tri} (X : tr ∈ T) {p : PtQ} (Y : FrP 8 312 p) : Sz 9 (onQ P F tr p) := by
 have hA := aQp O X;have V : areaQ (ptI P tr.1) (ptI P tr.2.1) (ptI P tr.2.2) ≠ 0 := fun e => by rw [e] at hA; exact absurd hA (by decide)
 have Z := O.idx;have R : ∀ z ∈ idxOf tr, FrP 8 104 (ptI P z) := fun z hz => by
  obtain ⟨D, C⟩ := Z tr X z hz;obtain ⟨q, rfl⟩ : ∃ q : Nat, z = (q : Int) := ⟨z.toNat, by omega⟩;rw [pIn P q (by omega)];have Q := N _ (List.getElem_mem (by omega : q < P.length));exact ⟨Q.1.lift 4, Q.2.lift 4⟩
 have c0 := R tr.1 (by simp [idxOf]);have c1 := R tr.2.1 (by simp [idxOf]);have c2 := R tr.2.2 (by simp [idxOf]);have f0 := fr_hI S tr.1;have f1 := fr_hI S tr.2.1;have f2 := fr_hI S tr.2.2;have H := (fa8 Y c1 c2).mul f0;have G := (fa8 Y c2 c0).mul f1;have E := (fa8 Y c0 c1).mul f2;obtain ⟨n, J, I⟩ := ((((Fr.zero 128 0).add H).add G).add E);obtain ⟨a, U, K⟩ := faa N Z X;unfold areaT at U;rw [<- lTe V];have L : a ≠ 0 := fun e => by
  rw [e] at U;have : areaQ (ptI P tr.1) (ptI P tr.2.1) (ptI P tr.2.2) * ((4 : Nat) : Rat) = 0 := by rw [U]; rfl
  grind
 refine sod (n := 32 * a) (m := n) (by omega) (by omega) (by omega) ?_;unfold lonT;rw [<- J];have M : ((32 * a : Int) : Rat) = 32 * (areaQ (ptI P tr.1) (ptI P tr.2.1) (ptI P tr.2.2) * ((4 : Nat) : Rat)) := by rw [U]; push_cast; rfl
 rw [M, Rat.div_def];generalize areaQ (ptI P tr.1) (ptI P tr.2.1) (ptI P tr.2.2) = A at *;have B : A⁻¹ * A = 1 := Rat.inv_mul_cancel _ V;push_cast;grind
theorem pin {w : World} {pp pt pb pu ps : Option Addr} {cp ct cb cu cs : Nat} {P : List PtQ} {T : List Tri} {B : List Rat} {U : List ByteArray} {H : List StepQ} {n : Nat} (h2 : MeshOK P T 2) (hn : n <= 3) (h9 : B.length = P.length) (hu : U.length = n + 1) (hd : ∀ u ∈ U, u ≠ ⟨#[]⟩)
 (h : DepN w (.slice pp P.length cp) (.slice pt T.length ct) (.slice pb P.length cb) (.slice pu U.length cu) (.slice ps n cs) P T 3 B U (sTo P.length B H n)) (hh : ∀ p ∈ P, FrP 2 26 p) (ha : ∀ F ∈ B :: sTo P.length B H n, ∀ q ∈ F, Fr 2 152 q) (p : PtQ) (z : Rat) (hp : SzP 20 p) (hk : FrP 8 312 p) (hz : Sz 9 z) {t : Nat} {l : List Int} (d : locN P T p T.length = (t : Int) :: l) :
 ∃ L : List Rat, L.length = n + 1 /\ (∀ q ∈ L, Sz 9 q) /\ (∀ i j (Z : i < L.length) (hj : j < L.length), i <= j -> L[i] <= L[j]) /\
  (∀ w', Below w.heap.size w w' -> Good w' -> Calls Tryz.prog 13 #[.agg #[.slice pp P.length cp, .slice pt T.length ct], .agg #[.slice pb P.length cb, .slice pu U.length cu, .slice ps n cs], .agg #[.string (RS p.1), .string (RS p.2), .string (RS z)]] w' (Ret (fun r _ => r = .tuple #[.string (uAt U L z), .bool (decide (cHH L z = 0)), .int .i64 0]) w')) /\
  (∀ w', Below w.heap.size w w' -> Good w' -> Calls Tryz.prog 12 #[.agg #[.slice pp P.length cp, .slice pt T.length ct], .agg #[.slice pb P.length cb, .slice pu U.length cu, .slice ps n cs], .agg #[.string (RS p.1), .string (RS p.2), .string (RS z)]] w' (Ret (fun r Y => ∃ v, r = .tuple #[v, .int .i64 0] /\ Y.ownsRow w'.heap.size 66 3 v (logL U L z).length (cIv (logL U L z))) w')) /\
  (∀ w', Below w.heap.size w w' -> Good w' -> Calls Tryz.prog 18 #[.agg #[.slice pp P.length cp, .slice pt T.length ct], .agg #[.slice pb P.length cb, .slice pu U.length cu, .slice ps n cs], .agg #[.string (RS p.1), .string (RS p.2), .string (RS z)]] w' (Ret (fun r Y => ∃ vh, r = .tuple #[.int .i64 ((cHH L z : Int) - 1), vh] /\ RdQ Y vh L) w')) /\
  (∀ w', Below w.heap.size w w' -> Good w' -> Calls Tryz.prog 14 #[.agg #[.slice pp P.length cp, .slice pt T.length ct], .slice pb P.length cb, .agg #[.string (RS p.1), .string (RS p.2)]] w' (Ret (fun r _ => r = .tuple #[.string (RS (L[0]?.getD 0)), .int .i64 0]) w')) /\
  (∀ i, i < n -> ∃ (b o : Nat) (N : Option Addr) (E S : Nat), ps = some ⟨b, o, none⟩ /\ b < w.heap.size /\ w.cell? ⟨b, o + i, none⟩ = some (.slice N E S) /\ ∀ w', Below w.heap.size w w' -> Good w' -> Calls Tryz.prog 14 #[.agg #[.slice pp P.length cp, .slice pt T.length ct], .slice N E S, .agg #[.string (RS p.1), .string (RS p.2)]] w' (Ret (fun r _ => r = .tuple #[.string (RS (L[i + 1]?.getD 0)), .int .i64 0]) w')) := by
 have Q : SzP 200 p := ⟨hp.1.mono (by omega), hp.2.mono (by omega)⟩;have g : Sz 200 z := hz.mono (by omega);have C : ∀ w', Below w.heap.size w w' -> Good w' -> _ := fun w' hb hg' => cPo w' _ _ _ _ _ P T 3 B U _ (h.below hb) p z Q g hg';have O := sTl P.length B H n;have ht : t < T.length := by
  have hx : (t : Int) ∈ locN P T p T.length := by rw [d]; simp
  unfold locN at hx;obtain ⟨t', f, e⟩ := List.mem_map.1 hx;obtain rfl : t' = t := by omega
  exact List.mem_range.1 (List.mem_filter.1 f).1
 have hg : iBB (ptI P T[t].1) (ptI P T[t].2.1) (ptI P T[t].2.2) p = true := by
  have hx : (t : Int) ∈ locN P T p T.length := by rw [d]; simp
  unfold locN at hx;obtain ⟨t', f, e⟩ := List.mem_map.1 hx;obtain rfl : t' = t := by omega
  have h3 := (List.mem_filter.1 f).2;unfold iTT at h3;rw [List.getElem?_eq_getElem ht] at h3;exact h3
 have G : T[t] ∈ T := List.getElem_mem ht;rw [d] at C;obtain ⟨L, hL⟩ := zex (hgtL P B (sTo P.length B H n) T[t] p);have y : L.length = n + 1 := by rw [hL, hC0, O]
 have A : ∀ i, i < n + 1 -> L[i]?.getD 0 = onQ P (fldN B (sTo P.length B H n) i) T[t] p := fun i Z => by
  rw [hL, hJ0 _ _ _ _ _ i (by rw [O]; exact Z)];rfl
 have R : ∀ i, i < n + 1 -> fldN B (sTo P.length B H n) i ∈ B :: sTo P.length B H n := fun i Z => fNm _ _ (by omega)
 have M : ∀ q ∈ L, Sz 9 q := fun q hq => by
  obtain ⟨i, Z, rfl⟩ := List.getElem_of_mem hq;have f := A i (by omega);rw [List.getElem?_eq_getElem Z] at f;have h8 : L[i] = _ := f;rw [h8];exact oh0 h2 hh (ha _ (R i (by omega))) G hk
 have h4 : ∀ i, i < n + 1 -> ∀ w' v, Below w.heap.size w w' -> RdQ w' v (fldN B (sTo P.length B H n) i) -> FieldIn w' (.slice pp P.length cp) (.slice pt T.length ct) v P T 3 (fldN B (sTo P.length B H n) i) := fun i Z w' v hb hv => ⟨(h.below hb).p, (h.below hb).t, h.m, hv, h.fs _ (R i Z), h.fl _ (R i Z)⟩;have K : ∀ i, i < n + 1 -> ∀ w' v, Below w.heap.size w w' -> RdQ w' v (fldN B (sTo P.length B H n) i) -> Good w' -> Calls Tryz.prog 14 #[.agg #[.slice pp P.length cp, .slice pt T.length ct], v, .agg #[.string (RS p.1), .string (RS p.2)]] w' (Ret (fun r _ => r = .tuple #[.string (RS (L[i]?.getD 0)), .int .i64 0]) w') := fun i Z w' v hb hv hg' => by
  rw [A i Z];exact vin w' _ _ _ P T 3 _ (h4 i Z w' v hb hv) p Q t l d ht (by have := sS2 h2 (by omega) (h.fs _ (R i Z)) G; exact ⟨this.1.mono (by omega), this.2.mono (by omega)⟩) ((oQS h2 (by omega) (h.fs _ (R i Z)) G hp).mono (by omega)) hg'
 have a : ∀ i, i < n + 1 -> ∀ w' v, Below w.heap.size w w' -> RdQ w' v (fldN B (sTo P.length B H n) i) -> Good w' -> Calls Tryz.prog 42 #[.agg #[.slice pp P.length cp, .slice pt T.length ct], v, .agg #[.string (RS p.1), .string (RS p.2)]] w' (Ret (fun r _ => r = .tuple #[.string (RS (L[i]?.getD 0)), .bool true]) w') := fun i Z w' v hb hv hg' => by
  refine (a1k w' _ _ _ P T 3 _ (h4 i Z w' v hb hv) p 20 (by omega) (by omega) (by omega) hp hg').mono ?_;rintro e Y ⟨r, rfl, m, x⟩;rcases m with ⟨h0, -⟩ | ⟨t', hw, l', he, m⟩
  ·rw [d] at h0; cases h0
  ·rw [d] at he
   injection he with he1 he2
   obtain rfl : t = t' := by omega
   rw [A i Z];exact ⟨_, rfl, m, x⟩
 have h7 : ∀ i : Nat, ∃ V : Option Addr × Nat, i < U.length -> RdQ w (.slice V.1 P.length V.2) (fldN B (sTo P.length B H n) i) /\ ∀ w', Below w.heap.size w w' -> Calls Tryz.prog 46 #[.agg #[.slice pb P.length cb, .slice pu U.length cu, .slice ps n cs], .int .i64 (i : Int)] w' (Ret (fun r _ => r = .slice V.1 P.length V.2) w') := fun i => by
  by_cases Z : i < U.length
  ·obtain ⟨q, c, a1, a2⟩ := h.surface i (by rw [O]; omega)
   exact ⟨(q, c), fun _ => ⟨a1, a2⟩⟩
  ·exact ⟨(none, 0), fun h' => absurd h' Z⟩
 obtain ⟨V, I⟩ : ∃ V : Nat -> Option Addr × Nat, ∀ i : Nat, i < U.length -> RdQ w (.slice (V i).1 P.length (V i).2) (fldN B (sTo P.length B H n) i) /\ ∀ w', Below w.heap.size w w' -> Calls Tryz.prog 46 #[.agg #[.slice pb P.length cb, .slice pu U.length cu, .slice ps n cs], .int .i64 (i : Int)] w' (Ret (fun r _ => r = .slice (V i).1 P.length (V i).2) w') := ⟨fun i => (h7 i).choose, fun i => (h7 i).choose_spec⟩;have D : ∀ i, i < n -> ∃ (b o : Nat) (N : Option Addr) (E S : Nat), ps = some ⟨b, o, none⟩ /\ b < w.heap.size /\ w.cell? ⟨b, o + i, none⟩ = some (.slice N E S) /\ RdQ w (.slice N E S) (fldN B (sTo P.length B H n) (i + 1)) := fun i Z => by
  obtain ⟨us, ⟨q, c, e, -, -, hm, m⟩, hF⟩ := h.surf;rw [O] at e hm;have hy : us.length = n := by omega
  obtain ⟨b, o, rfl, hc⟩ := m (List.ne_nil_of_length_pos (by omega));have h6 : i < us.length := by omega
  have h5 := hc i us[i] (List.getElem?_eq_getElem h6);have hS : (sTo P.length B H n)[i]? = some (fldN B (sTo P.length B H n) (i + 1)) := by
   unfold fldN;rw [List.getElem?_cons_succ, List.getElem?_eq_getElem (by rw [O]; exact Z)];rfl
  have hq := hF i us[i] _ (List.getElem?_eq_getElem h6) hS;obtain ⟨N, S, e3, -, -, -⟩ := hq.open;injection e with e11 _ _
  exact ⟨b, o, N, _, S, e11, World.block_lt_of_cell? w _ h5, by rw [h5, e3], by rw [<- e3]; exact hq⟩
 have X := psd h2 (H := H) h9 G hg n;rw [<- hL] at X;have ho := uTa (z := z) X n y;have hs := cHl L z;refine ⟨L, y, M, X, fun w' hb hg' => ?_, fun w' hb hg' => ?_, fun w' hb hg' => ?_, fun w' hb hg' => ?_, fun i Z => ?_⟩
 ·exact at_ok w' hg' pp pt pb pu ps P.length T.length n cp ct cb cu cs (RS p.1) (RS p.2) z U L (by omega) (by omega) hd (h.below hb).unit 9 (by omega) (by omega) M hz (fun i => (V i).1) (fun i => (V i).2)
   (hid fun Y hb2 hg2 => C Y ((zbt hb hb2)) hg2) (hid fun i Z Y hb2 => (I i Z).2 Y ((zbt hb hb2)))
   (hid fun i Z Y hb2 hg2 => K i (by omega) Y _ ((zbt hb hb2)) (RdC.below (I i Z).1 ((zbt hb hb2))) hg2)
 ·exact ln0 w' hg' pp pt pb pu ps P.length T.length n cp ct cb cu cs (RS p.1) (RS p.2) z U L (by omega) (by omega) (by omega) (h.below hb).unit 9 (by omega) (by omega) M hz (fun i => (V i).1) (fun i => (V i).2)
   (hid fun Y hb2 hg2 => C Y ((zbt hb hb2)) hg2) (hid fun i Z Y hb2 => (I i Z).2 Y ((zbt hb hb2)))
   (hid fun i Z Y hb2 hg2 => K i (by omega) Y _ ((zbt hb hb2)) (RdC.below (I i Z).1 ((zbt hb hb2))) hg2)
 ·have hf := h.base
  refine (u2a w' hg' pp pt pb pu ps P.length T.length P.length U.length n cp ct cb cu cs (RS p.1) (RS p.2) z L y (by omega) 9 (by omega) (by omega) M hz
   (hid fun Y hb2 hg2 => a 0 (by omega) Y _ ((zbt hb hb2)) (RdC.below hf ((zbt hb hb2))) hg2) (hid fun i Z => ?_)).mono ?_
  ·obtain ⟨b, o, N, E, S, e1, J, s, k⟩ := D i Z
   exact ⟨b, o, N, E, S, e1, Nat.lt_of_lt_of_le J hb.size, (zcq hb J s :), fun Y hb2 hg2 => a (i + 1) (by omega) Y _ ((zbt hb hb2)) (RdC.below k ((zbt hb hb2))) hg2⟩
  ·rintro e Y ⟨r, rfl, ⟨vh, rfl, m⟩, x⟩
   rw [ho];exact ⟨_, rfl, ⟨_, rfl, m⟩, x⟩
 ·exact K 0 (by omega) w' _ hb (RdC.below h.base hb) hg'
 ·obtain ⟨b, o, N, E, S, e1, J, s, k⟩ := D i Z
  exact ⟨b, o, N, E, S, e1, J, s, fun w' hb hg' => K (i + 1) (by omega) w' _ hb (RdC.below k hb) hg'⟩
theorem cQl {p q : Rat} (h : p < q) : cmpQ p q = -1 := by
 rcases cQc p q with ⟨_, e⟩ | ⟨e, _⟩ | ⟨e, _⟩
 ·exact e
 ·rw [e] at h; exact absurd h Rat.lt_irrefl
 ·exact absurd (Rat.le_of_lt e) (Rat.not_le.2 h)
theorem lTf (U : List ByteArray) (H : List Rat) (z : Rat) : ∀ k, k <= H.length ->
 ((logTo U H z (bwd H.length k)).1 = [] /\ (logTo U H z (bwd H.length k)).2 = z /\ ∀ j, j < k -> z <= H[H.length - 1 - j]?.getD 0) \/
 (∃ Z c rest, Z < k /\ (∀ j, j < Z -> z <= H[H.length - 1 - j]?.getD 0) /\ H[H.length - 1 - Z]?.getD 0 < z /\ (logTo U H z (bwd H.length k)).1 = c :: rest /\ c.unit = U[H.length - 1 - Z]?.getD ⟨#[]⟩)
 | 0, _ => .inl ⟨rfl, rfl, fun j hj => by omega⟩
 | k + 1, hk => by
   rw [bsc, lTs];rcases lTf U H z k (by omega) with ⟨V, Y, X⟩ | ⟨Z, c, rest, V, Y, X, S, R⟩
   ·unfold lSp
    split
    ·rename_i h
     rw [Y] at h;refine .inr ⟨k, _, [], by omega, X, h, by rw [V]; rfl, rfl⟩
    ·rename_i h
     rw [Y] at h;refine .inl ⟨V, Y, fun j hj => ?_⟩;by_cases e : j = k
     ·rw [e]; exact Rat.not_lt.1 h
     ·exact X j (by omega)
   ·unfold lSp
    split
    ·exact .inr ⟨Z, c, rest ++ _, by omega, Y, X, by rw [S]; rfl, R⟩
    ·exact .inr ⟨Z, c, rest, by omega, Y, X, S, R⟩
theorem lk0 {U : List ByteArray} {H : List Rat} {z : Rat} {k : Nat} (V : 0 < k) (X : ∀ q ∈ H, Sz k q) (Y : Sz k z) (l : List Nat) : ∀ c ∈ (logTo U H z l).1, Sz (k + k + 1) c.fro /\ Sz (k + k + 1) c.til := by
 refine sid (p := fun l => ∀ c ∈ (logTo U H z l).1, Sz (k + k + 1) c.fro /\ Sz (k + k + 1) c.til) (fun c Z => by cases Z) (fun l i ih => ?_) l;rw [lTs];unfold lSp;split
 ·intro c Z
  rcases List.mem_append.1 Z with h | h
  ·exact ih c h
  ·rw [List.mem_singleton.1 h]
   refine ⟨Y.sub (lTS V X Y l), Y.sub ?_⟩;cases hi : H[i]? with
   | none => exact Sz.zero _ V
   | some q => exact X q (List.mem_of_getElem? hi)
 ·exact ih
theorem cIa : ∀ (l : List Itv) (i : Nat) (Z : i < l.length), (cIv l)[i * 3]? = some (.string l[i].unit) /\ (cIv l)[i * 3 + 1]? = some (.string (RS l[i].fro)) /\ (cIv l)[i * 3 + 2]? = some (.string (RS l[i].til))
 | [], i, Z => by cases Z
 | c :: l, 0, _ => ⟨rfl, rfl, rfl⟩
 | c :: l, i + 1, Z => by
   have Y := cIa l i (by simpa using Z);have e : cIv (c :: l) = [.string c.unit, .string (RS c.fro), .string (RS c.til)] ++ cIv l := rfl;have X : (i + 1) * 3 = 3 + i * 3 := by omega
   rw [e, X];refine ⟨?_, ?_, ?_⟩ <;> rw [List.getElem?_append_right (by simp <;> omega)]
   ·rw [show 3 + i * 3 - [Value.string c.unit, .string (RS c.fro), .string (RS c.til)].length = i * 3 by simp]; exact Y.1
   ·rw [show 3 + i * 3 + 1 - [Value.string c.unit, .string (RS c.fro), .string (RS c.til)].length = i * 3 + 1 by simp; omega]; exact Y.2.1
   ·rw [show 3 + i * 3 + 2 - [Value.string c.unit, .string (RS c.fro), .string (RS c.til)].length = i * 3 + 2 by simp; omega]; exact Y.2.2
theorem bzm {n : Nat} (h : 0 < n) : 0 ∈ bwd n n := by
 unfold bwd;exact List.mem_map.2 ⟨n - 1, List.mem_range.2 (by omega), by omega⟩
theorem bml {n : Nat} : ∀ i ∈ bwd n n, i < n := fun i hi => by
 unfold bwd at hi;obtain ⟨j, Z, rfl⟩ := List.mem_map.1 hi;have := List.mem_range.1 Z;omega
theorem lLa {U : List ByteArray} {H : List Rat} {z : Rat} (V : 0 < H.length) (M : ∀ i j (Y : i < H.length) (D : j < H.length), i <= j -> H[i] <= H[j]) :
 (logL U H z = [] /\ (cHH H z = 0 \/ z = H[0]?.getD 0)) \/ (∃ c rest, logL U H z = c :: rest /\ ChainI 0 (logL U H z) (z - H[0]?.getD 0) /\ cHH H z ≠ 0 /\ (c.unit = uAt U H z \/ ∃ j, j + 1 < H.length /\ H[j + 1]?.getD 0 = z)) := by
 have Q : ∀ i (Y : i < H.length), H[i]?.getD 0 = H[i] := fun i Y => by rw [List.getElem?_eq_getElem Y]; rfl
 obtain ⟨k, s, t, v, I⟩ := cHf H z;rcases lLf (U := U) (z := z) V M (bzm V) bml with ⟨L, K⟩ | ⟨L, K⟩
 ·refine .inl ⟨L, ?_⟩
  by_cases e : z = H[0]
  ·right; rw [Q 0 V]; exact e
  ·left
   refine cHn V fun h => e (Rat.le_antisymm K h)
 ·right
  rcases lTf U H z H.length (Nat.le_refl _) with ⟨G, _⟩ | ⟨Z, c, rest, G, B, S, A, y⟩
  ·exact absurd G L
  ·refine ⟨c, rest, A, by rw [Q 0 V]; exact K, ?_, ?_⟩
   ·intro E
    have J : k = 0 := by omega
    have N := I (by omega);subst J;have x := M 0 (H.length - 1 - Z) V (by omega) (Nat.zero_le _);rw [Q _ (by omega)] at S;exact N (Rat.le_trans x (Rat.le_of_lt S))
   ·by_cases he : ∃ j, j + 1 < H.length /\ H[j + 1]?.getD 0 = z
    ·exact .inr he
    ·left
     have Y : H.length - 1 - Z < H.length := by omega
     rw [Q _ Y] at S;have E : cHH H z = H.length - 1 - Z + 1 := by
      by_cases D : H.length - 1 - Z + 1 = H.length
      ·rw [D]
       refine cc0 fun q hq => ?_;obtain ⟨i, O, rfl⟩ := List.getElem_of_mem hq;exact Rat.le_trans (M i _ O Y (by omega)) (Rat.le_of_lt S)
      ·have X : H.length - 1 - Z + 1 < H.length := by omega
       refine cHa X (fun i O => Rat.le_trans (M i _ (by omega) Y (by omega)) (Rat.le_of_lt S)) fun hle => ?_
       have N := B (Z - 1) (by omega);have C : H.length - 1 - (Z - 1) = H.length - 1 - Z + 1 := by omega
       rw [C] at N;refine he ⟨H.length - 1 - Z, X, ?_⟩;have R := N;rw [Q _ X] at R ⊢;exact Rat.le_antisymm hle R
     rw [y];unfold uAt;rw [E, if_neg (by omega)];rfl
theorem ChainI.of_nil {a b : Rat} {l : List Itv} (h : ChainI a l b) (e : l = []) : b = a := by
 induction h with
 | nil => rfl
 | snoc c _ _ _ => simp at e
theorem ChainI.get {a b : Rat} {l : List Itv} (h : ChainI a l b) : ∀ i (Z : i < l.length), l[i].fro < l[i].til /\ (i = 0 -> l[i].fro = a) /\ (∀ j (Y : j < l.length), j + 1 = i -> l[i].fro = l[j].til) /\ (i + 1 = l.length -> l[i].til = b) := by
 induction h with
 | nil => exact fun i Z => absurd Z (Nat.not_lt_zero i)
 | @snoc l b c h1 h2 h3 ih =>
   intro i Z;have R : (l ++ [c]).length = l.length + 1 := by simp
   by_cases e : i < l.length
   ·obtain ⟨V, U, S, Q⟩ := ih i e
    rw [List.getElem_append_left e];refine ⟨V, U, fun j Y hji => ?_, fun hx => by omega⟩;rw [List.getElem_append_left (by omega)];exact S j (by omega) hji
   ·obtain rfl : i = l.length := by omega
    have X : (l ++ [c])[l.length] = c := by simp
    rw [X];refine ⟨h3, fun h0 => ?_, fun j Y hji => ?_, fun _ => rfl⟩
    ·rw [h2]
     exact h1.of_nil (List.length_eq_zero_iff.1 h0)
    ·rw [h2, List.getElem_append_left (by omega)]
     exact ((ih j (by omega)).2.2.2 (by omega)).symm
def atI (l : List Itv) (i : Nat) : Rat := if i = 0 then 0 else (l[i - 1]?.map Itv.til).getD 0
theorem ChainI.at {b : Rat} {l : List Itv} (h : ChainI 0 l b) {i : Nat} (Z : i < l.length) : l[i].fro = atI l i /\ l[i].fro < l[i].til /\ l[i].til = atI l (i + 1) := by
 obtain ⟨Y, X, V, -⟩ := h.get i Z;refine ⟨?_, Y, ?_⟩
 ·unfold atI
  split
  ·rename_i e; exact X e
  ·rename_i e
   rw [V (i - 1) (by omega) (by omega), List.getElem?_eq_getElem (by omega)];rfl
 ·unfold atI
  rw [if_neg (by omega)];show _ = (l[i]?.map Itv.til).getD 0;rw [List.getElem?_eq_getElem Z];rfl
theorem ChainI.last {b : Rat} {l : List Itv} (h : ChainI 0 l b) (Z : 0 < l.length) : atI l l.length = b := by
 unfold atI;rw [if_neg (by omega), List.getElem?_eq_getElem (by omega)];exact (h.get (l.length - 1) (by omega)).2.2.2 (by omega)
end Go.Proofs.YtlodicfimpgibaaGreatDoor
