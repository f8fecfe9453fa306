import Derived.Test.YtmcbeajdloaliaaGreatDoorUF37
import Derived.Deep.MidRow
import Derived.Laws.IdiomStrings
/- The walks over field.combine with rational.Sub, field.Excess. Plain klippelaw38.ThicknessVertical returns true at every plan and place klippelaw12.Place by 3 Slices of slices of numbers Names slices.Index and slices.Contains at texts The walks over field.Scale, field.Below. The walk over mesh.Check, of any mesh of right points and triangles. Errors of meshes and fields, handed on The walk over klippelaw38.ThicknessFields. The error of a pair of surfaces, handed on by all functions. stack.surface -/
set_option maxHeartbeats 4000000
set_option maxRecDepth 100000
namespace Go.Proofs.YtmcbeajdloaliaaGreatDoor
open Go.RowKit Go.Lib
theorem csb (w : World) (vf vg : Value) (k : Nat) (F G : List Rat) (hk : 0 < k) (p : k <= 20000) (c : RdQ w vf F) (b : RdQ w vg G) (M : F.length = G.length) (hn : G.length <= 1000000) (E : ∀ q ∈ F, Sz k q) (D : ∀ q ∈ G, Sz k q) (hg : Good w) :
 Calls Tryz.prog 106 #[vf, vg, .func (.func 23) #[] #[]] w (Ret (fun r w' => RdQ w' r (subQ F G) /\ FreshV w.heap.size r) w) := by
 obtain ⟨pl, cl, rfl, R, h5, H⟩ := c.open;obtain ⟨pu, cu, rfl, O, h6, C⟩ := b.open;obtain ⟨n, Q⟩ := zex (G.length);have B := hid H;have z := hid C;have HL := hid E;have HU := hid D;have U : Hid (F.length = n) := by unfold Hid; omega
 have V : Hid (G.length = n) := Q.symm;rw [M, <- Q];rw [<- Q] at hn O;have a : n <= cl := by omega
 clear c b H C E D M Q R;obtain ⟨i0, hi, m, g, f⟩ := info_parts isr;go_enter Tryz.func106, Tryz.ntmps106;go_wp2_with fail;go_loopw [7, 12] (fun t7 t12 wr => ∃ (i : Nat), t12 = .int .i64 i /\ i <= n /\ wr.ownsRow w.heap.size 55 1 t7 i (((subQ F G).take i).map fun q => Value.string (RS q)) /\ Below w.heap.size w wr) (fun _ t12 _ => n - (RowKit.intOf t12).toNat)
 case atStart => exact ⟨0, rfl, Nat.zero_le _, World.ownsRow_nil _ _ _ _, Below.refl _ _⟩
 case round =>
  obtain ⟨i, rfl, h3, Y, X⟩ := hrel;obtain ⟨d, L, rfl⟩ := oRs Y;rcases Nat.lt_or_ge i n with h | h
  ·obtain ⟨bl, ol, rfl, v, R⟩ := B.out (by intro e; have := U.out; rw [e] at this; simp at this; omega)
   obtain ⟨bu, ou, rfl, t, O⟩ := z.out (by intro e; have := V.out; rw [e] at this; simp at this; omega);have l1 := R i (by have := U.out; omega);have u1 := O i (by have := V.out; omega);have hq := sQg F G i (by have := U.out; omega) (by have := V.out; omega);have zl := HL.out _ (List.getElem_mem (show i < F.length by have := U.out; omega));have zu := HU.out _ (List.getElem_mem (show i < G.length by have := V.out; omega));generalize F[i]'_ = l at *;generalize G[i]'_ = u at *;have A := hid (tsc _ _ _ hq);have y := hid zl;have x := hid zu;have xl := zcq X v l1;have xu := zcq X t u1;have I : Good wr := hg.below X;have h4 : (i : Int) < (n : Int) := by omega
   clear R O l1 u1 hq zl zu;go_wp2_with fail;refine zR (rSa l u k hk p y.out x.out _ I) fun w2 hb2 => ?_;have S := WRA Y hb2;have N : Below w.heap.size w w2 := zbt X hb2;have h7 := X.size;have h0 : w.heap.size <= w2.heap.size := N.size;clear hb2 Y X I xl xu
   go_wp2_with (at_builtin; refine wpList_append_own _ rfl _ _ 33 rfl w.heap.size 55 i0 (.string ⟨#[]⟩) 1 16 Tryz.underlying33 hi m g f rfl (by decide) _ _ _ rfl (S.alloc _) ⟨w2.heap.size, 0, none⟩ 1 1 [.string (RS (l - u))] rfl rfl (cos _ _ _) (ocs _) (by unfold maxLen; omega) (by omega) (by simp; omega) ?_
                intro v2 w3 K Z _;have h2 := Z.size;have J : Below w.heap.size w w3 := (N.alloc (by omega) _).grown Z (by simp; omega) (fun j hj => by have := (S.lt j hj).1; omega);clear Z)
   go_roundw
   case rel => exact ⟨i + 1, by go_num, by omega, by rw [A.out, List.map_append]; exact K, J⟩
   case measure =>
    show n - ((i : Int) + 1).toNat < n - (i : Int).toNat;omega
  ·obtain rfl : i = n := by omega
   have s : FreshV w.heap.size (.slice d i L) := FreshV.of_owns Y;have o : RdQ wr (.slice d i L) (subQ F G) := by
    have hl : (subQ F G).length = i := by rw [sQl _ _ (by rw [U.out, V.out]), V.out]
    have h1 : RdC 1 wr (.slice d i L) i ((List.take i (subQ F G)).map fun q => Value.string (RS q)) := RdC.of_owns Y;rw [List.take_of_length_le (by omega)] at h1;unfold RdQ;rw [hl];exact h1
   go_wp2_with fail;go_ret;exact ⟨_, rfl, ⟨o, s⟩, X⟩
theorem sQS {F G : List Rat} {k : Nat} (Z : ∀ q ∈ F, Sz k q) (Y : ∀ q ∈ G, Sz k q) : ∀ q ∈ subQ F G, Sz (2 * k + 1) q := fun q hq => by
 unfold subQ at hq;obtain ⟨i, X, rfl⟩ := List.getElem_of_mem hq;rw [List.getElem_zipWith];rw [List.length_zipWith] at X;exact ((Z _ (List.getElem_mem (by omega))).sub (Y _ (List.getElem_mem (by omega)))).mono (by omega)
theorem MeshOK.up {P : List PtQ} {T : List Tri} {k m : Nat} (h : MeshOK P T k) (Z : k <= m) (Y : m <= 200) : MeshOK P T m :=
 { kpos := by have := h.kpos; omega, klim := by omega, sz := fun p hp => ⟨(h.sz p hp).1.mono Z, (h.sz p hp).2.mono Z⟩, plen := h.plen, tlen := h.tlen, idx := h.idx, klim2 := Y, some := h.some, apart := h.apart, turns := h.turns, whole := h.whole }
theorem vTS {P : List PtQ} {T : List Tri} {F : List Rat} {z : Rat} {k m c : Nat} (U : 0 < k) (V : ∀ tr ∈ T, ∀ x ∈ idxOf tr, SzP k (ptI P x) /\ Sz k (hI F x)) (Y : Sz m z) (X : (14 * (6 * k + m + 4) + 14) * 4 + 1 <= c) : ∀ t, t <= T.length -> Sz (t * (c + 1) + 1) (volTo P T F z t)
 | 0, _ => Sz.zero _ (by omega)
 | t + 1, ht => by
   have h0 := vTS U V Y X t (by omega);have Z : ∀ d ∈ partT P F z (triI T t), SzP (6 * k + m + 4) d.1 /\ Sz (6 * k + m + 4) d.2 := fun d hd => by
    have := pTS (V (triI T t) (by rw [tIn T t (by omega)]; exact List.getElem_mem (by omega))) Y d hd;exact ⟨this.1, this.2.mono (by omega)⟩
   have h1 : Sz c (integ (partT P F z (triI T t)) z) := by
    have := fIS (l := partT P F z (triI T t)) (z := z) (k := 6 * k + m + 4) (by omega) Z (Y.mono (by omega)) ((partT P F z (triI T t)).length - 2);refine this.mono (Nat.le_trans (Nat.add_le_add_right (Nat.mul_le_mul_left _ ?_) 1) X);have := pTl P F z (triI T t);omega
   show Sz _ (volTo P T F z t + integ (partT P F z (triI T t)) z);exact (h0.add h1).mono (by rw [Nat.add_mul]; omega)
theorem fg0 (w : World) (U S a vg : Value) (P : List PtQ) (T : List Tri) (k : Nat) (F G : List Rat) (h : FieldIn w U S a P T k F) (h2 : FieldIn w U S vg P T k G) (hk : k <= 2) (hT : T.length <= 8) (K : Sz 200 (volTo P T (subQ F G) 0 T.length)) (B : Good w) :
 Calls Tryz.prog 59 #[.agg #[U, S], a, vg] w (Ret (fun r _ => r = .tuple #[.string (RS (volTo P T (subQ F G) 0 T.length)), .int .i64 0]) w) := by
 have HF := hid h;have HG := hid h2;have j := h.m.kpos;have l := h.fl;have H := h2.fl;have h4 := h.m.plen;have Q : (subQ F G).length = P.length := by rw [sQl _ _ (by omega), H]
 have h3 := hid Q;have O := sQS h.fs h2.fs;have z : Hid (∀ w' v, RdP w' U (strP P) -> RdT w' S T -> RdQ w' v (subQ F G) -> FieldIn w' U S v P T (2 * k + 1) (subQ F G)) := fun w' v hp ht i => ⟨hp, ht, h.m.up (by omega) (by omega), i, O, Q⟩
 have E : ∀ tr ∈ T, ∀ x ∈ idxOf tr, SzP (2 * k + 1) (ptI P x) /\ Sz (2 * k + 1) (hI (subQ F G) x) := fun tr htr x hx => by
  obtain ⟨h0, h1⟩ := h.m.idx tr htr x hx;obtain ⟨q, rfl⟩ : ∃ q : Nat, x = (q : Int) := ⟨x.toNat, by omega⟩;rw [pIn P q (by omega), hh0 (subQ F G) q (by omega)];exact ⟨⟨(h.m.sz _ (List.getElem_mem _)).1.mono (by omega), (h.m.sz _ (List.getElem_mem _)).2.mono (by omega)⟩, O _ (List.getElem_mem _)⟩
 have hV : ∀ t, t <= T.length -> Sz 20000 (volTo P T (subQ F G) 0 t) := fun t ht => (vTS (k := 2 * k + 1) (m := 1) (c := 2017) (by omega) E (Sz.zero _ (by omega)) (by omega) t ht).mono (by
  have : t <= 8 := by omega
  rcases (by omega : t = 0 \/ t = 1 \/ t = 2 \/ t = 3 \/ t = 4 \/ t = 5 \/ t = 6 \/ t = 7 \/ t = 8) with e | e | e | e | e | e | e | e | e <;> rw [e] <;> omega)
 have M : Hid (∀ w' v, FieldIn w' U S v P T (2 * k + 1) (subQ F G) -> Good w' -> _) := fun w' v h B => fd0 w' U S v P T (2 * k + 1) (subQ F G) h 0 1 20000 (Sz.zero _ (by omega)) (by omega) (Nat.le_refl _) (by omega) hV B
 have y : Hid (∀ w', Good w' -> _) := fun w' hg' => fok (volTo P T (subQ F G) 0 T.length) K w' hg';have A : Hid (∀ w', Below w.heap.size w w' -> Good w' -> _) := fun w' hb hg' => csb w' a vg k F G j (by omega) (HF.out.below hb).f (HG.out.below hb).f (by omega) (by omega) h.fs h2.fs hg'
 have N : Hid (∀ w', Below w.heap.size w w' -> RdP w' U (strP P) /\ RdT w' S T) := fun w' hb => ⟨RdC.below h.p hb, RdC.below h.t hb⟩;rw [RS_zero] at M;obtain ⟨g, p, f, o, pf, cf, rfl, rfl, rfl⟩ := h.open;obtain ⟨_, _, _, _, pg, cg, -, -, rfl⟩ := h2.open;generalize volTo P T (subQ F G) 0 T.length = res at *;clear h h2 K hV E O Q l H;go_enter Tryz.func59, Tryz.ntmps59;go_wp2_with fail;obtain ⟨W, J⟩ := zex ((w.alloc (.cells #[.slice g P.length p, .slice f T.length o] 41)).alloc (.cells #[.slice pf F.length cf, .slice pg G.length cg] 33));have L : Below w.heap.size w W := by rw [J]; exact zal2 _ _ _
 have b0 : BoxN W w.heap.size 41 [.slice g P.length p, .slice f T.length o] := by rw [J]; exact (BoxN.new _ _ _ _ rfl).alloc _
 have s : BoxN W (w.heap.size + 1) 33 [.slice pf F.length cf, .slice pg G.length cg] := by rw [J]; exact BoxN.new _ _ _ _ (by simp)
 rw [<- J];clear J;refine zR (cto W _ _ _ _ P T k F G (HF.out.below L) (HG.out.below L) (w.heap.size + 1) (s.cell 0 rfl) (s.cell 1 rfl) (B.below L)) fun w1 hb1 => ?_;have V := zbt L hb1;have b1 := b0.bl hb1;clear hb1 s L b0;obtain ⟨x0, x1⟩ := zk2 b1;have lm := b1.lt;go_upto_region 4 with fail;go_cut [6, 7] (fun s6 s7 wx => s6 = .string (RS res) /\ s7 = .int .i64 0 /\ Below w1.heap.size w1 wx)
 case first =>
  have I : Good w1.drew := (B.below V).drewN 1;have R : Below w.heap.size w w1.drew := V.trans ((bdN w1 1).mono V.size);go_region_held3 (fun w' => w'.cell? ⟨w.heap.size, 0, none⟩ = some (.slice g P.length p) /\ w'.cell? ⟨w.heap.size, 1, none⟩ = some (.slice f T.length o))
   (first | exact ⟨x0, x1⟩ | exact ⟨p_1_0, p_1_1⟩ | exact ⟨p_2_0, p_2_1⟩ | exact ⟨p_3_0, p_3_1⟩)
   (first
   | (go_at_call 104; refine (y.out _ C).mono ?_; rintro e b ⟨_, rfl, rfl, X⟩
      have p_3_0 := zct X p_2_0;have p_3_1 := zct X p_2_1;have h8 := X.size;have h5 := C.below X)
   | (go_at_call 105; refine (M.out _ _ (z.out _ _ (N.out _ ((zbt R Z))).1 (N.out _ ((zbt R Z))).2 HV.out) D).mono ?_; rintro e h9 ⟨_, rfl, rfl, Y⟩
      have p_2_0 := zct Y p_1_0;have p_2_1 := zct Y p_1_1;have h7 := Y.size;have C := D.below Y)
   | (go_at_call 106; refine (A.out _ R I).mono ?_; rintro e d ⟨v, rfl, ⟨i, -⟩, Z⟩
      have p_1_0 := zct Z x0;have p_1_1 := zct Z x1;have h6 : w1.heap.size <= d.heap.size := Z.size;have D := I.below Z;have HV := hid i))
  have pB : Below w1.heap.size w1 b := zbt (zbt (zbt (bdN w1 1) Z) Y) X;go_wp2_with fail;go_meet;exact ⟨rfl, rfl, pB⟩
 case rest =>
 obtain ⟨rfl, rfl, n⟩ := hcut;go_wp2_with fail;go_ret2;exact ⟨_, rfl, rfl, (zbt V n)⟩
theorem ch0 {x : Rat} {q : Nat} (hq : 0 < q) (h : x * (q : Rat) = 0) : x = 0 := by
 rcases Rat.mul_eq_zero.1 h with h | h
 ·exact h
 ·have : q = 0 := by exact_mod_cast h
  omega
structure TriI (A x y w : Rat) (a h0 h1 h2 p : Int) (q : Nat) : Prop where
 hq : 0 < q
 hA : A * 4 = (a : Rat)
 hx : x * (2 * (q : Rat)) = (h0 : Rat) * (q : Rat) - 2 * (p : Rat)
 hy : y * (2 * (q : Rat)) = (h1 : Rat) * (q : Rat) - 2 * (p : Rat)
 hw : w * (2 * (q : Rat)) = (h2 : Rat) * (q : Rat) - 2 * (p : Rat)
theorem TriI.turn {A x y w : Rat} {a h0 h1 h2 p : Int} {q : Nat} (h : TriI A x y w a h0 h1 h2 p q) : TriI A y w x a h1 h2 h0 p q := ⟨h.hq, h.hA, h.hy, h.hw, h.hx⟩
section
variable {A x y w V : Rat} {a h0 h1 h2 p : Int} {q : Nat}
theorem TriI.dif (h : TriI A x y w a h0 h1 h2 p q) : (x - y) * 2 = (h0 : Rat) - (h1 : Rat) /\ (x - w) * 2 = (h0 : Rat) - (h2 : Rat) := by
 have Z := h.hx;have Y := h.hy;have X := h.hw;constructor
 ·have := ch0 (x := (x - y) * 2 - ((h0 : Rat) - (h1 : Rat))) h.hq (by grind)
  grind
 ·have := ch0 (x := (x - w) * 2 - ((h0 : Rat) - (h2 : Rat))) h.hq (by grind)
  grind
theorem TriI.cap (h : TriI A x y w a h0 h1 h2 p q) {r s : Rat} (N : r * (x - y) = x) (M : s * (x - w) = x) (R : 6 * V = A * (x * r * s)) :
 V * (48 * (q : Rat) * q * q * (((h0 - h1) * (h0 - h2) : Int) : Rat)) = ((a * ((h0 * q - 2 * p) * (h0 * q - 2 * p) * (h0 * q - 2 * p)) : Int) : Rat) := by
 obtain ⟨Z, Y⟩ := h.dif;have hx := h.hx;have hA := h.hA;have X : (((h0 - h1) * (h0 - h2) : Int) : Rat) = ((h0 : Rat) - (h1 : Rat)) * ((h0 : Rat) - (h2 : Rat)) := by rw [Rat.intCast_mul, Rat.intCast_sub, Rat.intCast_sub]
 have U : ((a * ((h0 * q - 2 * p) * (h0 * q - 2 * p) * (h0 * q - 2 * p)) : Int) : Rat) = (a : Rat) * (((h0 : Rat) * (q : Rat) - 2 * (p : Rat)) * ((h0 : Rat) * (q : Rat) - 2 * (p : Rat)) * ((h0 : Rat) * (q : Rat) - 2 * (p : Rat))) := by
  rw [Rat.intCast_mul, Rat.intCast_mul, Rat.intCast_mul, Rat.intCast_sub, Rat.intCast_mul, Rat.intCast_mul]; rfl
 rw [X, U, <- hx, <- hA, <- Z, <- Y];have Q : r * ((x - y) * 2) = 2 * x := by grind
 have O : s * ((x - w) * 2) = 2 * x := by grind
 have g : V * (48 * (q : Rat) * q * q * ((x - y) * 2 * ((x - w) * 2))) = 8 * q * q * q * (6 * V) * ((x - y) * 2) * ((x - w) * 2) := by grind
 rw [g, R];have S : 8 * (q : Rat) * q * q * (A * (x * r * s)) * ((x - y) * 2) * ((x - w) * 2) = 8 * q * q * q * A * x * (r * ((x - y) * 2)) * (s * ((x - w) * 2)) := by grind
 rw [S, Q, O];grind
theorem TriI.whole (h : TriI A x y w a h0 h1 h2 p q) (Y : 6 * V = A * (x + y + w)) :
 V * (48 * (q : Rat)) = ((a * ((h0 + h1 + h2) * q - 6 * p) : Int) : Rat) := by
 have hx := h.hx;have hy := h.hy;have hw := h.hw;have hA := h.hA;have Z : ((a * ((h0 + h1 + h2) * q - 6 * p) : Int) : Rat) = (a : Rat) * (((h0 : Rat) + (h1 : Rat) + (h2 : Rat)) * (q : Rat) - 6 * (p : Rat)) := by
  rw [Rat.intCast_mul, Rat.intCast_sub, Rat.intCast_mul, Rat.intCast_mul, Rat.intCast_add, Rat.intCast_add]; rfl
 have g : V * (48 * (q : Rat)) = 8 * q * (6 * V) := by grind
 rw [Z, g, Y, <- hA];grind
theorem TriI.not (h : TriI A x y w a h0 h1 h2 p q) {r s : Rat} (Y : r * (x - y) = x) (U : s * (x - w) = x) (S : 6 * V = A * (x + y + w) - A * (x * r * s)) :
 V * (48 * (q : Rat) * q * q * (((h0 - h1) * (h0 - h2) : Int) : Rat)) = ((a * ((h0 + h1 + h2) * q - 6 * p) * (q * q * ((h0 - h1) * (h0 - h2))) - a * ((h0 * q - 2 * p) * (h0 * q - 2 * p) * (h0 * q - 2 * p)) : Int) : Rat) := by
 have c1 := h.cap (V := A * (x * r * s) / 6) Y U (by grind);have c2 := h.whole (V := A * (x + y + w) / 6) (by grind);have e : V = A * (x + y + w) / 6 - A * (x * r * s) / 6 := by grind
 generalize a * ((h0 + h1 + h2) * q - 6 * p) = X at *;generalize (h0 - h1) * (h0 - h2) = D at *;rw [Rat.intCast_sub, <- c1, Rat.intCast_mul, <- c2, Rat.intCast_mul, Rat.intCast_mul, e];have Z : (((q : Nat) : Int) : Rat) = (q : Rat) := rfl;rw [Z];generalize A * (x + y + w) / 6 = V1;generalize A * (x * r * s) / 6 = V2;grind
end
theorem nA3 (a b c : Int) {A B C : Nat} (h1 : a.natAbs <= A) (h2 : b.natAbs <= B) (Z : c.natAbs <= C) : (a * b * c).natAbs <= A * B * C := by
 rw [Int.natAbs_mul, Int.natAbs_mul];exact Nat.mul_le_mul (Nat.mul_le_mul h1 h2) Z
end Go.Proofs.YtmcbeajdloaliaaGreatDoor
namespace Go.Proofs.YtmcbeajdloaliaaGreatDoor
open Go.RowKit Go.Lib
theorem ipo {n : Int} (h : (0 : Rat) < (n : Rat)) : 0 < n := by
 have : ((0 : Int) : Rat) < (n : Rat) := h;exact Rat.intCast_lt_intCast.1 this
theorem ino {n : Int} (h : (n : Rat) < 0) : n < 0 := by
 have : (n : Rat) < ((0 : Int) : Rat) := h;exact Rat.intCast_lt_intCast.1 this
section
variable {A x y w V : Rat} {a h0 h1 h2 p : Int} {q : Nat}
theorem TriI.dpos (h : TriI A x y w a h0 h1 h2 p q) (U : (y < x /\ w < x) \/ (x < y /\ x < w)) : 0 < (h0 - h1) * (h0 - h2) := by
 obtain ⟨X, V⟩ := h.dif;have Z : ((h0 - h1 : Int) : Rat) = (x - y) * 2 := by rw [Rat.intCast_sub, X]
 have Y : ((h0 - h2 : Int) : Rat) = (x - w) * 2 := by rw [Rat.intCast_sub, V]
 rcases U with ⟨S, R⟩ | ⟨S, R⟩
 ·exact Int.mul_pos (ipo (by rw [Z]; grind)) (ipo (by rw [Y]; grind))
 ·exact Int.mul_pos_of_neg_of_neg (ino (by rw [Z]; grind)) (ino (by rw [Y]; grind))
def NumP (V : Rat) (q : Nat) : Prop := ∃ D N : Int, 0 < D /\ D.natAbs <= 23104 /\ N.natAbs <= 1000000000000 * (q * q * q) /\ V * (48 * (q : Rat) * q * q * (D : Rat)) = (N : Rat)
theorem nbs (Y : a.natAbs <= 5408) (V : h0.natAbs <= 76) (b1 : h1.natAbs <= 76) (O : h2.natAbs <= 76) (N : p.natAbs <= 76 * q) :
 (a * ((h0 * q - 2 * p) * (h0 * q - 2 * p) * (h0 * q - 2 * p))).natAbs <= 100000000000 * (q * q * q) /\ (a * ((h0 + h1 + h2) * q - 6 * p) * (q * q * ((h0 - h1) * (h0 - h2)))).natAbs <= 100000000000 * (q * q * q) /\ (a * ((h0 + h1 + h2) * q - 6 * p) * (q * q)).natAbs <= 100000000000 * (q * q * q) /\ ((h0 - h1) * (h0 - h2)).natAbs <= 23104 := by
 have u0 : (h0 * q - 2 * p).natAbs <= 228 * q := by
  have := Int.natAbs_sub_le (h0 * q) (2 * p);rw [Int.natAbs_mul, Int.natAbs_mul] at this;have Q : h0.natAbs * ((q : Int).natAbs) <= 76 * q := Nat.mul_le_mul V (by omega);have Z : (2 : Int).natAbs = 2 := rfl;rw [Z] at this;omega
 have us : ((h0 + h1 + h2) * q - 6 * p).natAbs <= 684 * q := by
  have := Int.natAbs_sub_le ((h0 + h1 + h2) * q) (6 * p);rw [Int.natAbs_mul, Int.natAbs_mul] at this;have Q : (h0 + h1 + h2).natAbs * ((q : Int).natAbs) <= 228 * q := Nat.mul_le_mul (by omega) (by omega);have Z : (6 : Int).natAbs = 6 := rfl;rw [Z] at this;omega
 have U : (h0 - h1).natAbs <= 152 := by omega
 have S : (h0 - h2).natAbs <= 152 := by omega
 have R : ((h0 - h1) * (h0 - h2)).natAbs <= 152 * 152 := by rw [Int.natAbs_mul]; exact Nat.mul_le_mul U S
 have X : ((q : Int) * q).natAbs = q * q := by rw [Int.natAbs_mul]; rfl
 refine ⟨?_, ?_, ?_, by omega⟩
 ·rw [Int.natAbs_mul]
  refine Nat.le_trans (Nat.mul_le_mul Y (nA3 _ _ _ u0 u0 u0)) ?_;have : 5408 * (228 * q * (228 * q) * (228 * q)) = (5408 * 228 * 228 * 228) * (q * q * q) := by grind
  rw [this];exact Nat.mul_le_mul_right _ (by decide)
 ·refine Nat.le_trans (nA3 _ _ _ Y us (C := q * q * (152 * 152)) ?_) ?_
  ·rw [Int.natAbs_mul, X]; exact Nat.mul_le_mul_left _ R
  ·have : 5408 * (684 * q) * (q * q * (152 * 152)) = (5408 * 684 * (152 * 152)) * (q * q * q) := by grind
   rw [this];exact Nat.mul_le_mul_right _ (by decide)
 ·refine Nat.le_trans (nA3 _ _ _ Y us (C := q * q) (by rw [X]; exact Nat.le_refl _)) ?_
  have : 5408 * (684 * q) * (q * q) = (5408 * 684) * (q * q * q) := by grind
  rw [this];exact Nat.mul_le_mul_right _ (by decide)
theorem TriI.capnot (h : TriI A x y w a h0 h1 h2 p q) (K : CapP A x y w V \/ NotP A x y w V) (L : a.natAbs <= 5408) (S : h0.natAbs <= 76) (b1 : h1.natAbs <= 76) (R : h2.natAbs <= 76) (Q : p.natAbs <= 76 * q) : NumP V q := by
 obtain ⟨J, I, -, U⟩ := nbs (q := q) L S b1 R Q;rcases K with ⟨-, O, N, M, r, s, Y, X, Z⟩ | ⟨-, O, N, M, r, s, Y, X, Z⟩
 ·exact ⟨_, _, h.dpos (.inl ⟨by grind, by grind⟩), U, by omega, h.cap Y X Z⟩
 ·refine ⟨_, _, h.dpos (.inr ⟨by grind, by grind⟩), U, ?_, h.not Y X Z⟩
  refine Nat.le_trans (Int.natAbs_sub_le _ _) ?_;omega
theorem TriI.num (h : TriI A x y w a h0 h1 h2 p q) (Z : VolP A x y w V) (S : a.natAbs <= 5408) (Y : h0.natAbs <= 76) (b1 : h1.natAbs <= 76) (X : h2.natAbs <= 76) (U : p.natAbs <= 76 * q) : NumP V q := by
 rcases Z with ⟨-, -, -, rfl⟩ | ⟨-, -, -, O⟩ | Z | Z | Z
 ·exact ⟨1, 0, by decide, by decide, by simp, by grind⟩
 ·obtain ⟨-, -, N, -⟩ := nbs (q := q) S Y b1 X U
  refine ⟨1, _, by decide, by decide, Nat.le_trans N (by omega), ?_⟩;have c := h.whole O;rw [Rat.intCast_mul, <- c, Rat.intCast_mul];have R : (((q : Nat) : Int) : Rat) = (q : Rat) := rfl;have Q : ((1 : Int) : Rat) = 1 := rfl;rw [R, Q];grind
 ·exact h.capnot Z S Y b1 X U
 ·exact h.turn.capnot Z S b1 X Y U
 ·exact h.turn.turn.capnot Z S X Y b1 U
end
end Go.Proofs.YtmcbeajdloaliaaGreatDoor
namespace Go.Proofs.YtmcbeajdloaliaaGreatDoor
open Go.RowKit Go.Lib
def Fr (d B : Nat) (q : Rat) : Prop := ∃ n : Int, q * (d : Rat) = (n : Rat) /\ n.natAbs <= B
theorem Fr.zero (d B : Nat) : Fr d B 0 := ⟨0, by grind, by simp⟩
theorem Fr.mono {d B C : Nat} {q : Rat} (h : Fr d B q) (Z : B <= C) : Fr d C q := by
 obtain ⟨n, h1, h2⟩ := h;exact ⟨n, h1, Nat.le_trans h2 Z⟩
theorem Fr.add {d A B : Nat} {p q : Rat} (Z : Fr d A p) (hq : Fr d B q) : Fr d (A + B) (p + q) := by
 obtain ⟨m, h1, h2⟩ := Z;obtain ⟨n, Y, X⟩ := hq;exact ⟨m + n, by rw [Rat.intCast_add]; grind, by omega⟩
theorem Fr.sub {d A B : Nat} {p q : Rat} (Z : Fr d A p) (hq : Fr d B q) : Fr d (A + B) (p - q) := by
 obtain ⟨m, h1, h2⟩ := Z;obtain ⟨n, Y, X⟩ := hq;exact ⟨m - n, by rw [Rat.intCast_sub]; grind, by omega⟩
theorem Fr.mul {d e A B : Nat} {p q : Rat} (X : Fr d A p) (hq : Fr e B q) : Fr (d * e) (A * B) (p * q) := by
 obtain ⟨m, h1, h2⟩ := X;obtain ⟨n, Z, Y⟩ := hq;refine ⟨m * n, ?_, ?_⟩
 ·rw [Rat.intCast_mul, Rat.natCast_mul, <- h1, <- Z]
  grind
 ·rw [Int.natAbs_mul]
  exact Nat.mul_le_mul h2 Y
theorem sod {m n : Int} {k : Nat} (Y : n ≠ 0) (V : m.natAbs < 10 ^ k) (Z : n.natAbs < 10 ^ k) {q : Rat} (h : q * (n : Rat) = (m : Rat)) : Sz k q := by
 have X : (n : Rat) ≠ 0 := by simpa using Y
 have e : q = mkRat (if 0 < n then m else -m) n.natAbs := by
  rw [Rat.mkRat_eq_div];rcases Int.lt_or_lt_of_ne Y with h0 | h0
  ·rw [if_neg (by omega)]
   have : ((n.natAbs : Nat) : Rat) = -(n : Rat) := by
    have h1 : ((n.natAbs : Nat) : Int) = -n := by omega
    have : (((n.natAbs : Nat) : Int) : Rat) = ((-n : Int) : Rat) := by rw [h1]
    rw [Rat.intCast_neg] at this;exact this
   rw [this, Rat.intCast_neg, <- h];grind
  ·rw [if_pos h0]
   have : ((n.natAbs : Nat) : Rat) = (n : Rat) := by
    have h1 : ((n.natAbs : Nat) : Int) = n := by omega
    have : (((n.natAbs : Nat) : Int) : Rat) = ((n : Int) : Rat) := by rw [h1]
    exact this
   rw [this, <- h];grind
 rw [e];exact Sz.mkRat (by omega) (by split <;> omega) Z
theorem fmR (n : Int) (d e B : Nat) (Y : d ≠ 0) (X : d ∣ e) (Z : n.natAbs * (e / d) <= B) : Fr e B (mkRat n d) := by
 obtain ⟨c, rfl⟩ := X;have h0 : (d : Rat) ≠ 0 := by simpa using Y
 rw [Nat.mul_div_cancel_left c (by omega)] at Z;refine ⟨n * c, ?_, by rw [Int.natAbs_mul]; simpa using Z⟩;rw [Rat.mkRat_eq_div, Rat.natCast_mul, Rat.intCast_mul];have : ((c : Int) : Rat) = (c : Rat) := rfl;rw [this];grind
theorem fht (Y : List Int) (Z : Bool) (n : Nat) : ∀ q ∈ hFF Y Z n, Fr 2 38 q := fun q hq => by
 obtain ⟨i, _, rfl⟩ := List.mem_map.1 hq;unfold hQQ;have := t2b (Y[i % 6]?.getD 0);cases Z
 ·exact fmR _ 1 2 38 (by decide) (by decide) (by show ((Y[i % 6]?.getD 0).tmod 20).natAbs * 2 <= 38; omega)
 ·exact fmR _ 2 2 38 (by decide) (by decide) (by show ((Y[i % 6]?.getD 0).tmod 20).natAbs * 1 <= 38; omega)
theorem cQl {a b : Rat} (h : a <= b) : cmpQ a b <= 0 := by
 unfold cmpQ;split
 ·omega
 ·split
  ·rename_i h1; exact absurd h1 (Rat.not_lt.2 h)
  ·omega
theorem RdQ.cells {w : World} {v : Value} {l : List Rat} (h : RdQ w v l) (X : 0 < l.length) : ∃ b o c : Nat, v = .slice (some ⟨b, o, none⟩) l.length c /\ b < w.heap.size /\ ∀ i : Nat, i < l.length -> w.cell? ⟨b, o + i, none⟩ = some (.string (RS (hI l i))) := by
 obtain ⟨p, c, rfl, -, -, V⟩ := h.open;obtain ⟨b, o, rfl, Z, Y⟩ := V (List.ne_nil_of_length_pos X);exact ⟨b, o, c, rfl, Z, fun i hi => by rw [hh0 l i hi]; exact Y i hi⟩
theorem RdP.cells {w : World} {v : Value} {P : List PtQ} (h : RdP w v (strP P)) (X : 0 < P.length) : ∃ b o c : Nat, v = .slice (some ⟨b, o, none⟩) P.length c /\ b < w.heap.size /\ ∀ i : Nat, i < P.length -> w.cell? ⟨b, o + i * 2, none⟩ = some (.string (RS (ptI P i).1)) /\ w.cell? ⟨b, o + i * 2 + 1, none⟩ = some (.string (RS (ptI P i).2)) := by
 obtain ⟨p, c, rfl, -, -, V⟩ := h.open;obtain ⟨b, o, rfl, Z, Y⟩ := V (List.ne_nil_of_length_pos (by rw [sPl]; exact X));refine ⟨b, o, c, by rw [sPl], Z, fun i hi => ?_⟩;have h1 := Y i (by rw [sPl]; exact hi);rw [sPg P i hi] at h1;rw [pIn P i hi];exact h1
theorem RdT.cells {w : World} {v : Value} {T : List Tri} (h : RdT w v T) (X : 0 < T.length) : ∃ b o c : Nat, v = .slice (some ⟨b, o, none⟩) T.length c /\ b < w.heap.size /\ ∀ t : Nat, t < T.length -> w.cell? ⟨b, o + t * 3, none⟩ = some (.int .i64 (triI T t).1) /\ w.cell? ⟨b, o + t * 3 + 1, none⟩ = some (.int .i64 (triI T t).2.1) /\ w.cell? ⟨b, o + t * 3 + 2, none⟩ = some (.int .i64 (triI T t).2.2) := by
 obtain ⟨p, c, rfl, -, -, V⟩ := h.open;obtain ⟨b, o, rfl, Z, Y⟩ := V (List.ne_nil_of_length_pos X);refine ⟨b, o, c, rfl, Z, fun t ht => ?_⟩;rw [tIn T t ht];exact Y t ht
def RdF (w : World) (v : Value) (S : List (List Rat)) : Prop := ∃ us : List Value, RdC 1 w v S.length us /\ ∀ (i : Nat) (u : Value) (F : List Rat), us[i]? = some u -> S[i]? = some F -> RdQ w u F
theorem RdF.below {w w' : World} {v : Value} {S : List (List Rat)} (h : RdF w v S) (Z : Below w.heap.size w w') : RdF w' v S := by
 obtain ⟨us, h1, h2⟩ := h;exact ⟨us, RdC.below h1 Z, fun i u F a b => RdC.below (h2 i u F a b) Z⟩
theorem RdF.nil (w : World) : RdF w (.slice none 0 0) [] := ⟨[], RdC.nil0 _ _, fun i u F a _ => by simp at a⟩
theorem RdF.shape {w : World} {v : Value} {S : List (List Rat)} (h : RdF w v S) : ∃ p c, v = .slice p S.length c /\ S.length <= c /\ c <= maxLen := by
 obtain ⟨us, ⟨p, c, h1, h2, Z, -⟩, -⟩ := h;exact ⟨p, c, h1, h2, Z⟩
theorem RdF.cells {w : World} {v : Value} {S : List (List Rat)} (h : RdF w v S) (L : 0 < S.length) : ∃ b o c, v = .slice (some ⟨b, o, none⟩) S.length c /\ b < w.heap.size /\
 ∀ (i : Nat) (U : i < S.length), ∃ p c', w.cell? ⟨b, o + i, none⟩ = some (.slice p S[i].length c') /\ RdQ w (.slice p S[i].length c') S[i] := by
 obtain ⟨us, ⟨p, c, h1, h2, M, R, Q⟩, O⟩ := h;rw [Nat.mul_one] at R;obtain ⟨b, o, rfl, V⟩ := Q (List.ne_nil_of_length_pos (by omega));have h0 := V 0 us[0] (List.getElem?_eq_getElem (by omega));refine ⟨b, o, c, h1, World.block_lt_of_cell? w _ h0, fun i U => ?_⟩;have Y : i < us.length := by omega
 have X := O i us[i] S[i] (List.getElem?_eq_getElem Y) (List.getElem?_eq_getElem U);obtain ⟨N, c', e, -, -, -⟩ := X.open;have Z := V i us[i] (List.getElem?_eq_getElem Y);rw [e] at Z X;exact ⟨N, c', Z, X⟩
def cFd (F : List Rat) : List Value := F.map fun q => Value.string (RS q)
def FldV (w : World) (B : Nat) (v : Value) (F : List Rat) : Prop := w.ownsRow B 55 1 v F.length (cFd F)
theorem FldV.below {w w' : World} {B : Nat} {v : Value} {F : List Rat} (h : FldV w B v F) (Z : Below w.heap.size w w') : FldV w' B v F := WRA h Z
theorem FldV.base {w : World} {B B' : Nat} {v : Value} {F : List Rat} (h : FldV w B v F) (Z : B' <= B) : FldV w B' v F := oRb h Z
theorem FldV.shape {w : World} {B : Nat} {v : Value} {F : List Rat} (h : FldV w B v F) : ∃ p c, v = .slice p F.length c := oRs h
theorem FldV.rd {w : World} {B : Nat} {v : Value} {F : List Rat} (h : FldV w B v F) : RdQ w v F := by
 have h1 : RdC 1 w v F.length (cFd F) := RdC.of_owns h;unfold RdQ;exact h1
def FlsV (E : Nat) (w : World) (B : Nat) (v : Value) (S : List (List Rat)) : Prop :=
 ∃ us : List Value, us.length = S.length /\ w.ownsRow B E 1 v S.length us /\ ∀ (i : Nat) (u : Value) (F : List Rat), us[i]? = some u -> S[i]? = some F -> FldV w B u F
theorem FlsV.nil (E : Nat) (w : World) (B : Nat) : FlsV E w B (.slice none 0 0) [] := ⟨[], rfl, World.ownsRow_nil _ _ _ _, fun i u F h => by simp at h⟩
theorem FlsV.below {E : Nat} {w w' : World} {B : Nat} {v : Value} {S : List (List Rat)} (h : FlsV E w B v S) (Z : Below w.heap.size w w') : FlsV E w' B v S := by
 obtain ⟨us, h0, h1, h2⟩ := h;exact ⟨us, h0, WRA h1 Z, fun i u F a b => (h2 i u F a b).below Z⟩
theorem FlsV.base {E : Nat} {w : World} {B B' : Nat} {v : Value} {S : List (List Rat)} (h : FlsV E w B v S) (Z : B' <= B) : FlsV E w B' v S := by
 obtain ⟨us, h0, h1, h2⟩ := h;exact ⟨us, h0, oRb h1 Z, fun i u F a b => (h2 i u F a b).base Z⟩
theorem FlsV.shape {E : Nat} {w : World} {B : Nat} {v : Value} {S : List (List Rat)} (h : FlsV E w B v S) : ∃ p c, v = .slice p S.length c := by
 obtain ⟨us, -, h1, -⟩ := h;exact oRs h1
theorem FlsV.rd {E : Nat} {w : World} {B : Nat} {v : Value} {S : List (List Rat)} (h : FlsV E w B v S) : RdF w v S := by
 obtain ⟨us, h0, h1, h2⟩ := h;exact ⟨us, RdC.of_owns h1, fun i u F a b => (h2 i u F a b).rd⟩
theorem FlsV.snoc {E : Nat} (X : 55 ≠ E) {w w' : World} {B : Nat} {v v' u : Value} {S : List (List Rat)} {us : List Value} {F : List Rat} (h0 : us.length = S.length) (h1 : w.ownsRow B E 1 v S.length us)
 (h2 : ∀ (i : Nat) (u : Value) (F : List Rat), us[i]? = some u -> S[i]? = some F -> FldV w B u F) (V : w.grownBy w' v.ownBlock) (Z : w'.ownsRow B E 1 v' (S.length + 1) (us ++ [u])) (U : FldV w B u F) : FlsV E w' B v' (S ++ [F]) := by
 have key : ∀ {x F}, FldV w B x F -> FldV w' B x F := fun h => World.ownsRow.kept h V (oat h h1 X);refine ⟨us ++ [u], by simp [h0], by rw [List.length_append]; exact Z, fun i x G a b => ?_⟩;rcases Nat.lt_or_ge i S.length with h | h
 ·rw [List.getElem?_append_left (by omega)] at a
  rw [List.getElem?_append_left h] at b;exact key (h2 i x G a b)
 ·have Y := (List.getElem?_eq_some_iff.1 b).1
  rw [List.length_append] at Y;obtain rfl : i = S.length := by simp at Y; omega
  rw [List.getElem?_append_right (Nat.le_refl _), Nat.sub_self] at b;rw [List.getElem?_append_right (by omega), h0, Nat.sub_self] at a;simp at a b;subst a; subst b;exact key U
theorem FlsV.kept {E : Nat} {w w' : World} {B : Nat} {v : Value} {S : List (List Rat)} {row : Option Nat} (h : FlsV E w B v S) (Y : w.grownBy w' row) (Z : ∀ (x : Value) (e s n : Nat) (xs : List Value), (e = E \/ e = 55) -> w.ownsRow B e s x n xs -> x.ownBlock = none \/ x.ownBlock ≠ row) : FlsV E w' B v S := by
 obtain ⟨us, h0, h1, h2⟩ := h;exact ⟨us, h0, World.ownsRow.kept h1 Y (Z _ _ _ _ _ (.inl rfl) h1), fun i u F a b => World.ownsRow.kept (h2 i u F a b) Y (Z _ _ _ _ _ (.inr rfl) (h2 i u F a b))⟩
def letC (c : Int) : Bool := (decide (97 <= c) && decide (c <= 122)) || (decide (65 <= c) && decide (c <= 90))
def digC (c : Int) : Bool := (decide (48 <= c) && decide (c <= 57)) || decide (c = 95)
def okC (i : Nat) (c : Int) : Bool := letC c || (decide (i ≠ 0) && digC c)
def byI (s : ByteArray) (i : Nat) : Int := ((s.data.toList[i]?.getD 0).toNat : Int)
theorem bIr (s : ByteArray) (i : Nat) : 0 <= byI s i /\ byI s i <= 255 := by
 unfold byI;have := (s.data.toList[i]?.getD 0).toNat_lt;omega
def nTo (s : ByteArray) (k : Nat) : Bool := (List.range k).all fun i => okC i (byI s i)
def nameQ (s : ByteArray) : Bool := decide (0 < s.size) && (decide (s.size <= 32) && nTo s s.size)
theorem nTn (s : ByteArray) (k : Nat) : nTo s (k + 1) = (nTo s k && okC k (byI s k)) := by
 unfold nTo; rw [List.range_succ, List.all_append]; simp
theorem nb0 {s : ByteArray} {k n : Nat} (Z : k < n) (h : okC k (byI s k) = false) : nTo s n = false := by
 unfold nTo;rw [List.all_eq_false];exact ⟨k, List.mem_range.2 Z, by rw [h]; decide⟩
theorem oCc {i : Nat} {c : Int} (_h : 0 <= c /\ c <= 255) : (c < 48 /\ okC i c = false) \/ (48 <= c /\ c <= 57 /\ okC i c = decide (i ≠ 0)) \/ (57 < c /\ c < 65 /\ okC i c = false) \/ (65 <= c /\ c <= 90 /\ okC i c = true) \/ (90 < c /\ c < 95 /\ okC i c = false) \/ (c = 95 /\ okC i c = decide (i ≠ 0)) \/ (c = 96 /\ okC i c = false) \/ (97 <= c /\ c <= 122 /\ okC i c = true) \/ (122 < c /\ okC i c = false) := by
 have key : okC i c = (((decide (97 <= c) && decide (c <= 122)) || (decide (65 <= c) && decide (c <= 90))) || (decide (i ≠ 0) && ((decide (48 <= c) && decide (c <= 57)) || decide (c = 95)))) := rfl;rcases (by omega : c < 48 \/ (48 <= c /\ c <= 57) \/ (57 < c /\ c < 65) \/ (65 <= c /\ c <= 90) \/ (90 < c /\ c < 95) \/ c = 95 \/ c = 96 \/ (97 <= c /\ c <= 122) \/ 122 < c) with h | ⟨h, g⟩ | ⟨h, g⟩ | ⟨h, g⟩ | ⟨h, g⟩ | h | h | ⟨h, g⟩ | h
 ·exact .inl ⟨h, by rw [key, decide_eq_false (show ¬ 97 <= c by omega), decide_eq_false (show ¬ 65 <= c by omega), decide_eq_false (show ¬ 48 <= c by omega), decide_eq_false (show ¬ c = 95 by omega)]; simp⟩
 ·exact .inr (.inl ⟨h, g, by rw [key, decide_eq_false (show ¬ 97 <= c by omega), decide_eq_false (show ¬ 65 <= c by omega), decide_eq_true h, decide_eq_true g]; simp⟩)
 ·exact .inr (.inr (.inl ⟨h, g, by rw [key, decide_eq_false (show ¬ 97 <= c by omega), decide_eq_false (show ¬ 65 <= c by omega), decide_eq_false (show ¬ c <= 57 by omega), decide_eq_false (show ¬ c = 95 by omega)]; simp⟩))
 ·exact .inr (.inr (.inr (.inl ⟨h, g, by rw [key, decide_eq_true h, decide_eq_true g]; simp⟩)))
 ·exact .inr (.inr (.inr (.inr (.inl ⟨h, g, by rw [key, decide_eq_false (show ¬ 97 <= c by omega), decide_eq_false (show ¬ c <= 90 by omega), decide_eq_false (show ¬ c <= 57 by omega), decide_eq_false (show ¬ c = 95 by omega)]; simp⟩))))
 ·exact .inr (.inr (.inr (.inr (.inr (.inl ⟨h, by rw [key, decide_eq_false (show ¬ 97 <= c by omega), decide_eq_false (show ¬ c <= 90 by omega), decide_eq_true h]; simp⟩)))))
 ·exact .inr (.inr (.inr (.inr (.inr (.inr (.inl ⟨h, by rw [key, decide_eq_false (show ¬ 97 <= c by omega), decide_eq_false (show ¬ c <= 90 by omega), decide_eq_false (show ¬ c <= 57 by omega), decide_eq_false (show ¬ c = 95 by omega)]; simp⟩))))))
 ·exact .inr (.inr (.inr (.inr (.inr (.inr (.inr (.inl ⟨h, g, by rw [key, decide_eq_true h, decide_eq_true g]; simp⟩)))))))
 ·exact .inr (.inr (.inr (.inr (.inr (.inr (.inr (.inr ⟨h, by rw [key, decide_eq_false (show ¬ c <= 122 by omega), decide_eq_false (show ¬ c <= 90 by omega), decide_eq_false (show ¬ c <= 57 by omega), decide_eq_false (show ¬ c = 95 by omega)]; simp⟩)))))))
theorem bRc (w : World) (s : ByteArray) (cap : Nat) (E : Nat) (fr : Nat × Nat) {i : Nat} (Z : i < s.size) : (w.alloc (.cells (bytesRow s cap) E fr)).cell? ⟨w.heap.size, i, none⟩ = some (.int .u8 (byI s i)) := by
 have Y : s.data.toList.length = s.size := by simp
 have h0 : (bytesRow s cap)[i]? = some (.int .u8 (byI s i)) := by
  unfold bytesRow byI;rw [Array.getElem?_append_left (by simp; exact Z)];rw [Array.getElem?_map];have e : s.data[i]? = some (s.data.toList[i]'(by omega)) := by
   rw [Array.getElem?_eq_getElem (by simpa using Z)]; simp
  rw [e, List.getElem?_eq_getElem (by omega)];rfl
 have h1 := cell_of_row (w.alloc (.cells (bytesRow s cap) E fr)) w.heap.size i (bytesRow s cap) E fr (World.alloc_heap_new w _);rw [h1];exact h0
theorem eof {s : ByteArray} (h : s.size = 0) : s.toList = [] := by
 rw [btL];exact List.length_eq_zero_iff.1 (by simpa using h)
theorem nEo {s : ByteArray} (h : 0 < s.size) : s.toList.isEmpty = false /\ ¬ s.toList = [] := by
 have h1 : s.toList.length = s.size := by rw [btL]; simp
 have h2 : ¬ s.toList = [] := fun e => by rw [e] at h1; simp at h1; omega
 exact ⟨by cases h3 : s.toList with | nil => exact absurd h3 h2 | cons a l => rfl, h2⟩
theorem iNa (s : ByteArray) (w : World) :
 Calls Tryz.prog 40 #[.string s] w (Ret (fun r _ => r = .bool (nameQ s)) w) := by
 rcases Nat.eq_zero_or_pos s.size with h0 | h0
 ·have t : Hid (nameQ s = false) := by unfold Hid nameQ; rw [decide_eq_false (by omega)]; rfl
  have j := eof h0;have n : s.toList.isEmpty = true := by rw [j]; rfl
  clear h0;go_enter Tryz.func40, Tryz.ntmps40;go_wp2_with fail;go_ret;exact ⟨_, rfl, congrArg Value.bool t.out.symm, Below.refl _ _⟩
 ·obtain ⟨j, n⟩ := nEo h0
  by_cases h32 : s.size <= 32
  ·have l : Hid (nameQ s = nTo s s.size) := by unfold Hid nameQ; rw [decide_eq_true h0, decide_eq_true h32]; rfl
   have L := fun (w : World) => run_bytes_of_string (P := Tryz.prog) w 9 90 5 s Tryz.underlying9 Tryz.underlying90 Tryz.underlying5
   have z : decide ((32 : Int) < (s.size : Int)) = false := decide_eq_false (by omega);go_enter Tryz.func40, Tryz.ntmps40;go_wp2_with fail;obtain ⟨U, B⟩ := zex ((w.alloc (.cells (bytesRow s (grownCap w s.size 0 5)) 5 ((bytesRow s (grownCap w s.size 0 5)).size, (bytesRow s (grownCap w s.size 0 5)).size + 1))).drew);have p : Below w.heap.size w U := by rw [B]; exact ((Below.refl _ _).alloc (Nat.le_refl _) _).trans ((bdN _ 1).mono (by simp))
   have x : Hid (∀ i, i < s.size -> U.cell? ⟨w.heap.size, i, none⟩ = some (.int .u8 (byI s i))) := fun i hi => by rw [B]; exact bRc w s _ _ _ hi
   have m : w.heap.size < U.heap.size := by rw [B]; show w.heap.size < (w.heap.push _).size; simp
   rw [<- B];clear B L;have g : s.size <= 32 := h32;go_loopw [17] (fun t17 wr => ∃ i : Nat, t17 = .int .i64 i /\ i <= s.size /\ Hid (nTo s i = true) /\ Below U.heap.size U wr) (fun t17 _ => s.size - (RowKit.intOf t17).toNat)
   case atStart => exact ⟨0, rfl, Nat.zero_le _, rfl, Below.refl _ _⟩
   case round =>
    obtain ⟨i, rfl, h4, q, X⟩ := hrel;have M := zbt p X;rcases Nat.lt_or_ge i s.size with K | K
    ·have h5 : (i : Int) < (s.size : Int) := by omega
     have f := zcq X m (x.out i K);have O := hid (nTn s i);have J := bIr s i;have Q : Hid (okC i (byI s i) = false -> nameQ s = false) := fun h => l.out.trans (nb0 K h)
     have V := hid (oCc (i := i) J);obtain ⟨c, A⟩ := zex (byI s i);rw [<- A] at f O J Q V;clear A;obtain ⟨e, o⟩ := J;have R : (okC i c = true -> Hid (nTo s (i + 1) = true)) := fun h => by unfold Hid; rw [O.out, q.out, h]; rfl
     have S := hid R;clear R O q;rcases Nat.eq_zero_or_pos i with y | y
     ·subst y
      rw [show ((0 : Nat) : Int) = 0 from rfl];rcases V.out with ⟨h1, h2⟩ | ⟨h1, Y, h2⟩ | ⟨h1, Y, h2⟩ | ⟨h1, Y, h2⟩ | ⟨h1, Y, h2⟩ | ⟨h1, h2⟩ | ⟨h1, h2⟩ | ⟨h1, Y, h2⟩ | ⟨h1, h2⟩
      all_goals (first | (have D : 97 <= c := by omega) | (have D : ¬ 97 <= c := by omega)); all_goals (first | (have Z : c <= 122 := by omega) | (have Z : ¬ c <= 122 := by omega)); all_goals (first | (have G : 65 <= c := by omega) | (have G : ¬ 65 <= c := by omega)); all_goals (first | (have E : c <= 90 := by omega) | (have E : ¬ c <= 90 := by omega)); all_goals (first | (have I : 48 <= c := by omega) | (have I : ¬ 48 <= c := by omega)); all_goals (first | (have H : c <= 57 := by omega) | (have H : ¬ c <= 57 := by omega)); all_goals (first | (have N : (c == 95) = false := by rw [beq_eq_false_iff_ne]; omega) | (subst h1; have N : ((95 : Int) == 95) = true := rfl))
      all_goals first
       | (have v := S.out h2
          clear h2 V;go_wp2_with fail;go_roundw
          case rel => exact ⟨1, rfl, by omega, v, X⟩
          case measure => simp [RowKit.intOf]; omega)
       | (have C := hid (Q.out h2)
          clear h2 V;go_wp2_with fail;go_ret;exact ⟨_, rfl, congrArg Value.bool C.out.symm, M⟩)
     ·have b : ((i : Int) == 0) = false := by rw [beq_eq_false_iff_ne]; omega
      have a : ¬ (i : Int) = 0 := by omega
      have k : decide (i ≠ 0) = true := decide_eq_true (by omega);rw [k] at V;clear k;rcases V.out with ⟨h1, h2⟩ | ⟨h1, Y, h2⟩ | ⟨h1, Y, h2⟩ | ⟨h1, Y, h2⟩ | ⟨h1, Y, h2⟩ | ⟨h1, h2⟩ | ⟨h1, h2⟩ | ⟨h1, Y, h2⟩ | ⟨h1, h2⟩
      all_goals (first | (have D : 97 <= c := by omega) | (have D : ¬ 97 <= c := by omega)); all_goals (first | (have Z : c <= 122 := by omega) | (have Z : ¬ c <= 122 := by omega)); all_goals (first | (have G : 65 <= c := by omega) | (have G : ¬ 65 <= c := by omega)); all_goals (first | (have E : c <= 90 := by omega) | (have E : ¬ c <= 90 := by omega)); all_goals (first | (have I : 48 <= c := by omega) | (have I : ¬ 48 <= c := by omega)); all_goals (first | (have H : c <= 57 := by omega) | (have H : ¬ c <= 57 := by omega)); all_goals (first | (have N : (c == 95) = false := by rw [beq_eq_false_iff_ne]; omega) | (subst h1; have N : ((95 : Int) == 95) = true := rfl))
      all_goals first
       | (have v := S.out h2
          clear h2 V;go_wp2_with fail;go_roundw
          case rel => exact ⟨i + 1, by go_num, by omega, v, X⟩
          case measure => simp [RowKit.intOf]; omega)
       | (have C := hid (Q.out h2)
          clear h2 V;go_wp2_with fail;go_ret;exact ⟨_, rfl, congrArg Value.bool C.out.symm, M⟩)
    ·have d : ¬ (i : Int) < (s.size : Int) := by omega
     obtain rfl : i = s.size := by omega
     have C : Hid (nameQ s = true) := l.out.trans q.out;go_wp2_with fail;go_ret;exact ⟨_, rfl, congrArg Value.bool C.out.symm, M⟩
  ·have t : Hid (nameQ s = false) := by unfold Hid nameQ; rw [decide_eq_false h32]; simp
   have z : decide ((32 : Int) < (s.size : Int)) = true := decide_eq_true (by omega);go_enter Tryz.func40, Tryz.ntmps40;go_wp2_with fail;go_ret;exact ⟨_, rfl, congrArg Value.bool t.out.symm, Below.refl _ _⟩
theorem bij {a b : ByteArray} (h : a.toList = b.toList) : a = b := by
 rw [btL, btL] at h;cases a; cases b;simpa using h
theorem bse (a b : ByteArray) : (a = b /\ (a.toList == b.toList) = true) \/ (a ≠ b /\ (a.toList == b.toList) = false /\ ¬ a.toList = b.toList) := by
 by_cases h : a = b
 ·exact .inl ⟨h, by rw [h]; simp⟩
 ·have h2 : ¬ a.toList = b.toList := fun e => h (bij e)
  exact .inr ⟨h, by simpa using h2, h2⟩
def idxS (l : List ByteArray) (p : ByteArray) : Int := match l.findIdx? (fun q => decide (q = p)) with | some i => (i : Int) | none => -1
theorem in0 {l : List ByteArray} {p : ByteArray} {i : Nat} (Y : i < l.length) (X : l[i] = p) (Z : ∀ j (h : j < i), l[j] ≠ p) : idxS l p = (i : Int) := by
 unfold idxS;have : l.findIdx? (fun q => decide (q = p)) = some i := by
  rw [List.findIdx?_eq_some_iff_getElem];exact ⟨Y, by simp [X], fun j h => by simpa using Z j h⟩
 rw [this]
theorem iSn {l : List ByteArray} {p : ByteArray} (Z : ∀ j (h : j < l.length), l[j] ≠ p) : idxS l p = -1 := by
 unfold idxS;have : l.findIdx? (fun q => decide (q = p)) = none := by
  rw [List.findIdx?_eq_none_iff];intro x hx;obtain ⟨j, Y, rfl⟩ := List.getElem_of_mem hx;simpa using Z j Y
 rw [this]
def hasS (l : List ByteArray) (p : ByteArray) : Bool := decide (0 <= idxS l p)
theorem hK0 {l : List ByteArray} {p : ByteArray} (h : p ∈ l) : hasS l p = true := by
 unfold hasS idxS;cases h1 : l.findIdx? (fun q => decide (q = p)) with
 | some i => simp
 | none =>
   rw [List.findIdx?_eq_none_iff] at h1;have := h1 p h;simp at this
theorem hSf {l : List ByteArray} {p : ByteArray} (h : p ∉ l) : hasS l p = false := by
 unfold hasS;rw [iSn (fun j hj e => h (by rw [<- e]; exact List.getElem_mem hj))];rfl
theorem iSa (v : Value) (l : List ByteArray) (p : ByteArray) (w : World) (h : RdS w v l) :
 Calls Tryz.prog 67 #[v, .string p] w (Ret (fun r _ => r = .int .i64 (idxS l p)) w) := by
 obtain ⟨A, c1, rfl, E, M, U⟩ := h.open;unfold maxLen at M;have J := hid U;obtain ⟨S, Z⟩ : ∃ r, r = idxS l p := ⟨_, rfl⟩;rw [<- Z];have L := hid Z;clear U h Z;go_enter Tryz.func67, Tryz.ntmps67;go_wp2_with fail;go_loopw [8] (fun t8 wr => ∃ i : Nat, t8 = .int .i64 i /\ i <= l.length /\ Hid (∀ j (h : j < i) (h2 : j < l.length), l[j] ≠ p) /\ Below w.heap.size w wr) (fun t8 _ => l.length - (RowKit.intOf t8).toNat)
 case atStart => exact ⟨0, rfl, Nat.zero_le _, fun j h => absurd h (by omega), Below.refl _ _⟩
 case round =>
  obtain ⟨i, rfl, C, Q, Y⟩ := hrel;rcases Nat.lt_or_ge i l.length with h | h
  ·obtain ⟨b1, B, rfl, N, V⟩ := J.out (List.ne_nil_of_length_pos (by omega))
   have x1 := zcq Y N (V i h);have I := hid (bse p l[i]);have R : Hid (l[i] ≠ p -> ∀ j (h : j < i + 1) (h2 : j < l.length), l[j] ≠ p) := fun hne j hj h2 => by
    rcases Nat.lt_or_ge j i with K | K
    ·exact Q.out j K h2
    ·obtain rfl : j = i := by omega
     exact hne
   have O : Hid (l[i] = p -> (i : Int) = S) := fun he => by rw [L.out]; exact (in0 h he (fun j hj => Q.out j hj (by omega))).symm
   generalize l[i] = q at *;have G : (i : Int) < (l.length : Int) := by omega
   clear V;rcases I.out with ⟨e, H⟩ | ⟨e, H, D⟩
   ·have X := hid (O.out e.symm)
    clear e;go_wp2_with fail;go_ret;exact ⟨_, rfl, congrArg (Value.int .i64) X.out, Y⟩
   ·have X := hid (R.out (fun h => e h.symm))
    clear e;go_wp2_with fail;go_roundw
    case rel => exact ⟨i + 1, by go_num, by omega, X, Y⟩
    case measure => simp [RowKit.intOf]; omega
  ·obtain rfl : i = l.length := by omega
   have X : Hid (-1 = S) := by unfold Hid; rw [L.out]; exact (iSn (fun j hj => Q.out j hj hj)).symm
   go_wp2_with fail;go_ret;exact ⟨_, rfl, congrArg (Value.int .i64) X.out, Y⟩
theorem cSa (v : Value) (l : List ByteArray) (p : ByteArray) (w : World) (h : RdS w v l) :
 Calls Tryz.prog 41 #[v, .string p] w (Ret (fun r _ => r = .bool (hasS l p)) w) := by
 have Y := hid (iSa v l p w h);unfold hasS;generalize idxS l p = z at *;clear h;go_enter Tryz.func41, Tryz.ntmps41;go_wp2_with fail;refine Y.out.mono ?_;rintro e X ⟨_, rfl, rfl, Z⟩;go_wp2_with fail;go_ret;exact ⟨_, rfl, rfl, Z⟩
theorem bIg (s : ByteArray) : ∀ (n : Nat) (h : n < s.size), ((s[n]'h).toNat : Int) = byI s n := fun n h => by
 unfold byI;have Z : s.data.toList.length = s.size := by simp
 rw [List.getElem?_eq_getElem (by omega)];rfl
theorem lNa (s : ByteArray) (j : s.size < 1000000000) (w : World) :
 Calls Tryz.prog 50 #[.string s] w (Ret (fun r _ => r = .bool (nameQ s)) w) := by
 have C : Hid (nameQ s = (decide (0 < s.size) && (decide (s.size <= 32) && nTo s s.size))) := rfl;go_enter Tryz.func50, Tryz.ntmps50;go_wp2_with fail;go_loopw [8] (fun t8 wr => ∃ i : Nat, t8 = .int .i64 i /\ i <= s.size /\ Hid (nTo s i = true) /\ Below w.heap.size w wr) (fun t8 _ => s.size - (RowKit.intOf t8).toNat)
 case atStart => exact ⟨0, rfl, Nat.zero_le _, rfl, Below.refl _ _⟩
 case round =>
  obtain ⟨i, rfl, v, B, Z⟩ := hrel;rcases Nat.lt_or_ge i s.size with L | L
  ·have k : (i : Int) < (s.size : Int) := by omega
   have O := hid (nTn s i);have K := bIr s i;have Q : Hid (okC i (byI s i) = false -> nameQ s = false) := fun h => by unfold Hid at C; rw [C, nb0 L h]; simp
   have V := hid (oCc (i := i) K);have o := bIg s;go_upto_region 5 with fail;obtain ⟨c, M⟩ := zex (byI s i);rw [<- M] at O K Q V;try rw [<- M]
   clear M o;obtain ⟨n, y⟩ := K;have R : (okC i c = true -> Hid (nTo s (i + 1) = true)) := fun h => by unfold Hid; rw [O.out, B.out, h]; rfl
   have U := hid R;clear R O B;rcases Nat.eq_zero_or_pos i with D | D
   ·subst D
    rw [show ((0 : Nat) : Int) = 0 from rfl];rcases V.out with ⟨h1, h2⟩ | ⟨h1, X, h2⟩ | ⟨h1, X, h2⟩ | ⟨h1, X, h2⟩ | ⟨h1, X, h2⟩ | ⟨h1, h2⟩ | ⟨h1, h2⟩ | ⟨h1, X, h2⟩ | ⟨h1, h2⟩
    all_goals (first | (have E : 97 <= c := by omega) | (have E : ¬ 97 <= c := by omega)); all_goals (first | (have Y : c <= 122 := by omega) | (have Y : ¬ c <= 122 := by omega)); all_goals (first | (have H : 65 <= c := by omega) | (have H : ¬ 65 <= c := by omega)); all_goals (first | (have G : c <= 90 := by omega) | (have G : ¬ c <= 90 := by omega)); all_goals (first | (have J : c < 48 := by omega) | (have J : ¬ c < 48 := by omega)); all_goals (first | (have I : 57 < c := by omega) | (have I : ¬ 57 < c := by omega)); all_goals (first | (have N : (c != 95) = true := by rw [bne_iff_ne]; omega) | (subst h1; have N : ((95 : Int) != 95) = false := rfl))
    all_goals first
     | (have A := U.out h2
        clear h2 V;go_wp2_with fail;go_roundw
        case rel => exact ⟨1, rfl, by omega, A, Z⟩
        case measure => simp [RowKit.intOf]; omega)
     | (have S := hid (Q.out h2)
        clear h2 V;go_wp2_with fail;go_ret;exact ⟨_, rfl, congrArg Value.bool S.out.symm, Z⟩)
   ·have m : ((i : Int) == 0) = false := by rw [beq_eq_false_iff_ne]; omega
    have l : ¬ (i : Int) = 0 := by omega
    have t : decide (i ≠ 0) = true := decide_eq_true (by omega);rw [t] at V;clear t;rcases V.out with ⟨h1, h2⟩ | ⟨h1, X, h2⟩ | ⟨h1, X, h2⟩ | ⟨h1, X, h2⟩ | ⟨h1, X, h2⟩ | ⟨h1, h2⟩ | ⟨h1, h2⟩ | ⟨h1, X, h2⟩ | ⟨h1, h2⟩
    all_goals (first | (have E : 97 <= c := by omega) | (have E : ¬ 97 <= c := by omega)); all_goals (first | (have Y : c <= 122 := by omega) | (have Y : ¬ c <= 122 := by omega)); all_goals (first | (have H : 65 <= c := by omega) | (have H : ¬ 65 <= c := by omega)); all_goals (first | (have G : c <= 90 := by omega) | (have G : ¬ c <= 90 := by omega)); all_goals (first | (have J : c < 48 := by omega) | (have J : ¬ c < 48 := by omega)); all_goals (first | (have I : 57 < c := by omega) | (have I : ¬ 57 < c := by omega)); all_goals (first | (have N : (c != 95) = true := by rw [bne_iff_ne]; omega) | (subst h1; have N : ((95 : Int) != 95) = false := rfl))
    all_goals first
     | (have A := U.out h2
        clear h2 V;go_wp2_with fail;go_roundw
        case rel => exact ⟨i + 1, by go_num, by omega, A, Z⟩
        case measure => simp [RowKit.intOf]; omega)
     | (have S := hid (Q.out h2)
        clear h2 V;go_wp2_with fail;go_ret;exact ⟨_, rfl, congrArg Value.bool S.out.symm, Z⟩)
  ·have x : ¬ (i : Int) < (s.size : Int) := by omega
   obtain rfl : i = s.size := by omega
   have S : Hid (nameQ s = (decide ((1 : Int) <= (s.size : Int)) && decide ((s.size : Int) <= 32))) := by
    unfold Hid;rw [C.out, B.out, Bool.and_true];congr 1 <;> exact decide_eq_decide.2 (by omega)
   clear C B v L x;rcases Nat.eq_zero_or_pos s.size with q | q
   ·have z : Hid (nameQ s = false) := by unfold Hid; rw [S.out, decide_eq_false (show ¬ (1 : Int) <= (s.size : Int) by omega)]; rfl
    have p : ¬ (1 : Int) <= (s.size : Int) := by omega
    clear S;go_wp2_with fail;go_ret;exact ⟨_, rfl, congrArg Value.bool z.out.symm, Z⟩
   ·have z : Hid (nameQ s = decide ((s.size : Int) <= 32)) := by unfold Hid; rw [S.out, decide_eq_true (show (1 : Int) <= (s.size : Int) by omega)]; rfl
    have p : (1 : Int) <= (s.size : Int) := by omega
    clear S;go_wp2_with fail;go_ret;exact ⟨_, rfl, congrArg Value.bool z.out.symm, Z⟩
theorem lIN (s : ByteArray) (X : s.size < 1000000000) (w : World) :
 Calls Tryz.prog 12 #[.string s] w (Ret (fun r _ => r = .bool (nameQ s)) w) := by
 have Y := hid (lNa s X w);generalize nameQ s = z at *;go_enter Tryz.func12, Tryz.ntmps12;go_wp2_with fail;refine Y.out.mono ?_;rintro e V ⟨_, rfl, rfl, Z⟩;go_wp2_with fail;go_ret;exact ⟨_, rfl, rfl, Z⟩
def belowB (F G : List Rat) : Bool := (List.zipWith (fun a b => decide (a <= b)) F G).all id
theorem bBi (F G : List Rat) (h : F.length = G.length) : belowB F G = true ↔ ∀ i (h1 : i < F.length) (h2 : i < G.length), F[i] <= G[i] := by
 unfold belowB;rw [List.all_eq_true];constructor
 ·intro H i h1 h2
  have := H (decide (F[i] <= G[i])) (List.mem_iff_getElem?.2 ⟨i, by rw [List.getElem?_zipWith]; simp [h1, h2]⟩);simpa using this
 ·intro H x hx
  obtain ⟨i, Z, rfl⟩ := List.getElem_of_mem hx;rw [List.length_zipWith] at Z;rw [List.getElem_zipWith];simpa using H i (by omega) (by omega)
theorem fk0 (w : World) (vp vt vf vg : Value) (P : List PtQ) (T : List Tri) (k : Nat) (F G : List Rat) (h : FieldIn w vp vt vf P T k F) (h2 : FieldIn w vp vt vg P T k G) (C : Good w) :
 Calls Tryz.prog 63 #[.agg #[vp, vt], vf, vg] w (Ret (fun r _ => r = .tuple #[.bool (belowB F G), .int .i64 0]) w) := by
 have N := hid h;have t := hid h2;have J := h.fl;have I := h2.fl;have h8 := h.m.plen;have O := hid (bBi F G (by omega));obtain ⟨n, E⟩ := zex (F.length);have v : Hid (∀ i, i < n -> ∃ (S of Y : Nat) (x : Rat), vf = .slice (some ⟨S, of, none⟩) n Y /\ S < w.heap.size /\ w.cell? ⟨S, of + i, none⟩ = some (.string (RS x)) /\ F[i]? = some x /\ Sz k x) := fun i hi => by
  obtain ⟨B, Y, rfl, -, -, hr⟩ := h.f.open;obtain ⟨b, off, rfl, Q, X⟩ := hr (List.ne_nil_of_length_pos (by omega));exact ⟨b, off, Y, F[i]'(by omega), by rw [E], Q, X i (by omega), List.getElem?_eq_getElem _, h.fs _ (List.getElem_mem _)⟩
 have s : Hid (∀ i, i < n -> ∃ (S of Y : Nat) (x : Rat), vg = .slice (some ⟨S, of, none⟩) n Y /\ S < w.heap.size /\ w.cell? ⟨S, of + i, none⟩ = some (.string (RS x)) /\ G[i]? = some x /\ Sz k x) := fun i hi => by
  obtain ⟨B, Y, rfl, -, -, hr⟩ := h2.f.open;obtain ⟨b, off, rfl, Q, X⟩ := hr (List.ne_nil_of_length_pos (by omega));exact ⟨b, off, Y, G[i]'(by omega), by rw [E, J, I], Q, X i (by omega), List.getElem?_eq_getElem _, h2.fs _ (List.getElem_mem _)⟩
 obtain ⟨pp, cp, pt, ct, B, Y, rfl, rfl, rfl⟩ := h.open;obtain ⟨_, _, _, _, pg, cg, -, -, rfl⟩ := h2.open;have R : G.length = n := by omega
 rw [<- E] at N ⊢;rw [R] at t ⊢;have p := hid E;have h3 := hid R;have h9 : n <= 400 := by omega
 clear h h2 E R J I;go_enter Tryz.func63, Tryz.ntmps63;go_wp2_with fail;obtain ⟨W, D⟩ := zex ((w.alloc (.cells #[.slice pp P.length cp, .slice pt T.length ct] 41)).alloc (.cells #[.slice B n Y, .slice pg n cg] 33));have M : Below w.heap.size w W := by rw [D]; exact zal2 _ _ _
 have o : BoxN W (w.heap.size + 1) 33 [.slice B n Y, .slice pg n cg] := by rw [D]; exact BoxN.new _ _ _ _ (by simp)
 rw [<- D];clear D;refine zR (cto W _ _ _ _ P T k F G (N.out.below M) (t.out.below M) (w.heap.size + 1) (o.cell 0 rfl) (o.cell 1 rfl) (C.below M)) fun w1 hb1 => ?_;have g := zbt M hb1;have h0 := N.out.m.kpos;have h7 := N.out.m.klim2;clear hb1 o M N t;go_wp2_with fail;go_loopw [21] (fun t21 wr => ∃ i : Nat, t21 = .int .i64 i /\ i <= n /\ Hid (∀ j x y, j < i -> F[j]? = some x -> G[j]? = some y -> x <= y) /\ Below w1.heap.size w1 wr) (fun t21 _ => n - (RowKit.intOf t21).toNat)
 case atStart => exact ⟨0, rfl, Nat.zero_le _, (fun j x y h => by omega), Below.refl _ _⟩
 case round =>
  obtain ⟨i, rfl, hi, HJ, L⟩ := hrel;have Z := zbt g L;rcases Nat.lt_or_ge i n with V | V
  ·obtain ⟨S, of, h4, x, e1, e, x0, hx, zx⟩ := v.out i V
   obtain ⟨bg, og, h5, y, e2, d, y0, hy, zy⟩ := s.out i V;injection e1 with e11 e12 e13
   clear e12;injection e2 with e21 e22 e23
   clear e22;subst e11 e13 e21 e23;have c0 := zcq Z e x0;have c1 := zcq Z d y0;have U := hid fun w C => rCa x y k h0 (by omega) zx zy w C
   have h6 : (i : Int) < (n : Int) := by omega
   have H := C.below Z;by_cases hxy : x <= y
   ·have X : ¬ (0 < cmpQ x y) := by
     unfold cmpQ;rcases (by grind : x < y \/ x = y) with h1 | h1
     ·rw [if_pos h1]; decide
     ·rw [if_neg (by rw [h1]; exact Rat.lt_irrefl), if_neg (by rw [h1]; exact Rat.lt_irrefl)]; decide
    have c : decide (0 < cmpQ x y) = false := decide_eq_false X;have q : Hid (∀ j x y, j < i + 1 -> F[j]? = some x -> G[j]? = some y -> x <= y) := fun j a b hj ha Q => by
     rcases (by omega : j = i \/ j < i) with rfl | h1
     ·rw [hx] at ha; rw [hy] at Q; cases ha; cases Q; exact hxy
     ·exact HJ.out j a b h1 ha Q
    generalize cmpQ x y = cz at *;clear hx hy zx zy x0 y0 hxy X;go_wp2_with fail;refine zR (U.out wr H) fun w2 hb2 => ?_;have K := zbt L hb2;go_wp2_with fail;go_roundw
    case rel => exact ⟨i + 1, by go_num, V, q, K⟩
    case measure => simp [RowKit.intOf]; omega
   ·have X : 0 < cmpQ x y := by
     unfold cmpQ;rw [if_neg (by grind), if_pos (by grind)]; decide
    have c : decide (0 < cmpQ x y) = true := decide_eq_true X;have A : Hid (belowB F G = false) := by
     unfold Hid;cases hbb : belowB F G
     ·rfl
     ·obtain ⟨h1, m⟩ := List.getElem?_eq_some_iff.1 hx
      obtain ⟨h2, l⟩ := List.getElem?_eq_some_iff.1 hy;exact absurd (by rw [<- m, <- l]; exact O.out.1 hbb i h1 h2) hxy
    generalize cmpQ x y = cz at *;clear hx hy zx zy x0 y0 hxy X;go_wp2_with fail;refine zR (U.out wr H) fun w2 hb2 => ?_;have f := zbt Z hb2;go_wp2_with fail;go_ret2;exact ⟨_, rfl, congrArg (fun b => Value.tuple #[.bool b, .int .i64 0]) A.out.symm, f⟩
  ·have z : Hid (belowB F G = true) := O.out.2 (fun j h1 h2 => HJ.out j _ _ (by have := p.out; omega) (List.getElem?_eq_getElem h1) (List.getElem?_eq_getElem h2))
   go_wp2_with fail;go_ret2;exact ⟨_, rfl, congrArg (fun b => Value.tuple #[.bool b, .int .i64 0]) z.out.symm, Z⟩
open Go.Maps
structure MeshPre (P : List PtQ) (T : List Tri) (k : Nat) : Prop extends MeshIn P T k where
 klim2 : k <= 200
 some : T ≠ []
 apart : P.Nodup
 turns : ∀ t ∈ T, 0 < turnZ (P[t.1.toNat]?.getD (0, 0)) (P[t.2.1.toNat]?.getD (0, 0)) (P[t.2.2.toNat]?.getD (0, 0))
theorem MeshPre.ok {P : List PtQ} {T : List Tri} {k : Nat} (h : MeshPre P T k) (hw : wBB P T = true) : MeshOK P T k :=
 { toMeshIn := h.toMeshIn, klim2 := h.klim2, some := h.some, apart := h.apart, turns := h.turns, whole := hw }
theorem cey (w : World) (X V : Value) (P : List PtQ) (Z : RdP w X (strP P)) (Y : RdT w V []) :
 Calls Tryz.prog 61 #[.agg #[X, V]] w (Ret (fun r _ => r = .int .i64 13) w) := by
 obtain ⟨R, U, rfl, -, -, -⟩ := Z.open;obtain ⟨Q, S, rfl, -, -, -⟩ := Y.open;clear Z Y;go_enter Tryz.func61, Tryz.ntmps61;go_wp2_with fail;go_ret;exact ⟨_, rfl, rfl, (Below.refl _ _).alloc (Nat.le_refl _) _⟩
theorem fnl (a : Addr) (n c : Nat) (w : World) : (binOp BinOp.eql 33 (.slice (some a) n c) (.slice none 0 0)).run Tryz.prog w = .ok (.bool false) w := by kernel_rfl
theorem cf0 (w : World) (I : Value) (L : List Rat) (h : RdQ w I L) (V : L ≠ []) (x : L.length <= 1000000) :
 Calls Tryz.prog 47 #[I] w (Ret (fun r w' => w'.ownsRow w.heap.size 55 1 r L.length (L.map fun q => Value.string (RS q))) w) := by
 obtain ⟨p, c, rfl, B, v, J⟩ := h.open;obtain ⟨b, off, rfl, y, X⟩ := J V;have C := List.length_pos_iff.2 V;obtain ⟨A, D, O, N, M⟩ := info_parts isr;have G : Hid (∀ o, ∀ (j : Nat) (u : Value), (L.map fun q => Value.string (RS q))[j]? = some u -> (w.alloc o).cell? ((⟨b, off, none⟩ : Addr).add j) = some u) := fun o j u hu => by
  rw [List.getElem?_map] at hu;rcases Nat.lt_or_ge j L.length with U | U
  ·rw [List.getElem?_eq_getElem U] at hu
   injection hu with hu
   subst hu;have S : (⟨b, off, none⟩ : Addr).add j = ⟨b, off + j, none⟩ := by unfold Addr.add; split <;> simp_all
   rw [S];exact cal o (X j U)
  ·rw [List.getElem?_eq_none U] at hu; cases hu
 have E : Hid (∀ u ∈ (L.map fun q => Value.string (RS q)), u.oneCell' = true) := fun u hu => by
  obtain ⟨q, _, rfl⟩ := List.mem_map.1 hu;rfl
 clear h J X V;have K := fnl;go_enter Tryz.func47, Tryz.ntmps47
 go_wp2_with (at_builtin; refine wpList_append_own _ rfl _ _ 33 rfl w.heap.size 55 A (.string ⟨#[]⟩) 1 16 Tryz.underlying33 D O N M rfl (by decide) (.slice (some ⟨w.heap.size, 0, none⟩) 0 0) 0 [] rfl (World.ownsRow_made w #[] 0 (Nat.le_refl _) (by decide) rfl) ⟨b, off, none⟩ L.length c (L.map fun q => Value.string (RS q)) rfl (by simp) (G.out _) E.out (by unfold maxLen; omega) (by omega) (by simp) ?_
              intro z H Z Y _;have Q : Below w.heap.size w H := ((Below.refl _ _).alloc (Nat.le_refl _) _).grown Y (by simp) (fun j U => by simp [Value.ownBlock] at U; omega);clear Y)
 have R : Hid (H.ownsRow w.heap.size 55 1 z L.length (L.map fun q => Value.string (RS q))) := by
  rw [Nat.zero_add, List.nil_append] at Z;exact Z
 clear Z;go_wp2_with fail;go_ret;exact ⟨_, rfl, R.out, Q⟩
theorem cTl (T : List Tri) : (cTT T).length = T.length * 3 := by
 unfold cTT
 induction T with
 | nil => rfl
 | cons a T ih => rw [List.flatMap_cons, List.length_append, ih, List.length_cons]; simp; omega
theorem RdT.tail {w : World} {b o c : Nat} {T : List Tri} (h : RdT w (.slice (some ⟨b, o, none⟩) T.length c) T) (Z : T ≠ []) {p : Option Addr} (X : p = if c = 1 then some ⟨b, o, none⟩ else some ⟨b, o + 3, none⟩) : RdT w (.slice p (T.length - 1) (c - 1)) T.tail := by
 obtain ⟨q, c', R, h1, h2, Q, V⟩ := h;injection R with e1 _ e3
 subst e3;have O := List.length_pos_iff.2 Z;refine ⟨p, c - 1, by rw [List.length_tail], by rw [List.length_tail]; omega, by omega, cTl _, fun hn => ?_⟩;have U : T.length ≠ 1 := fun e => by
  apply hn;have : T.tail = [] := List.length_eq_zero_iff.1 (by rw [List.length_tail, e]);rw [this]; rfl
 obtain ⟨b', off, hq, S⟩ := V (fun e => by have := cTl T; rw [e] at this; simp at this; omega);rw [hq] at e1;injection e1 with e1
 injection e1 with e1 e4 _
 subst e1 e4;rw [if_neg (by omega)] at X;refine ⟨b, o + 3, X, fun i x hx => ?_⟩;have Y : (cTT T)[3 + i]? = some x := by
  cases T with
  | nil => exact absurd rfl Z
  | cons a T =>
    show ([Value.int .i64 a.1, .int .i64 a.2.1, .int .i64 a.2.2] ++ cTT T)[3 + i]? = some x;rw [List.getElem?_append_right (by simp), show 3 + i - [Value.int .i64 a.1, .int .i64 a.2.1, .int .i64 a.2.2].length = i by simp];exact hx
 have := S (3 + i) x Y;rw [<- Nat.add_assoc] at this;exact this
structure PairAny (w : World) (vp vt vl vu : Value) (P : List PtQ) (T : List Tri) (l u : List ByteArray) : Prop where
 p : RdP w vp (strP P)
 t : RdT w vt T
 l : RdS w vl l
 u : RdS w vu u
theorem PairAny.below {w w' : World} {vp vt vl vu : Value} {P : List PtQ} {T : List Tri} {l u : List ByteArray} (h : PairAny w vp vt vl vu P T l u) (Z : Below w.heap.size w w') : PairAny w' vp vt vl vu P T l u :=
 ⟨RdC.below h.p Z, RdC.below h.t Z, RdC.below h.l Z, RdC.below h.u Z⟩
theorem PairAny.open {w : World} {vp vt vl vu : Value} {P : List PtQ} {T : List Tri} {l u : List ByteArray} (h : PairAny w vp vt vl vu P T l u) : ∃ S Y R X U Z Q V, vp = .slice S P.length Y /\ vt = .slice R T.length X /\ vl = .slice U l.length Z /\ vu = .slice Q u.length V := by
 obtain ⟨S, Y, O, -, -, -⟩ := h.p.open;obtain ⟨R, X, N, -, -, -⟩ := h.t.open;obtain ⟨U, Z, M, -, -, -⟩ := h.l.open;obtain ⟨Q, V, L, -, -, -⟩ := h.u.open;rw [sPl] at O;exact ⟨S, Y, R, X, U, Z, Q, V, O, N, M, L⟩
def TxtOK (l : List ByteArray) : Prop := (∀ x ∈ l, x.size < 1000000000) /\ l.length <= 1000000
def RdTx (w : World) (v : Value) (S : List (List ByteArray)) : Prop := ∃ us : List Value, RdC 1 w v S.length us /\ ∀ (i : Nat) (u : Value) (F : List ByteArray), us[i]? = some u -> S[i]? = some F -> RdS w u F
theorem RdTx.below {w w' : World} {v : Value} {S : List (List ByteArray)} (h : RdTx w v S) (Z : Below w.heap.size w w') : RdTx w' v S := by
 obtain ⟨us, h1, h2⟩ := h;exact ⟨us, RdC.below h1 Z, fun i u F a b => RdC.below (h2 i u F a b) Z⟩
theorem RdF.toTx {w : World} {v : Value} {S : List (List Rat)} (h : RdF w v S) : RdTx w v (S.map fun F => F.map RS) := by
 obtain ⟨us, h1, h2⟩ := h;refine ⟨us, by rw [List.length_map]; exact h1, fun i u F a b => ?_⟩;rw [List.getElem?_map] at b;cases hS : S[i]? with
 | none => rw [hS] at b; simp at b
 | some G =>
   rw [hS] at b;simp at b;subst b;exact (h2 i u G a hS).toS
theorem RdTx.shape {w : World} {v : Value} {S : List (List ByteArray)} (h : RdTx w v S) : ∃ p c, v = .slice p S.length c /\ S.length <= c /\ c <= maxLen := by
 obtain ⟨us, ⟨p, c, h1, h2, Z, -⟩, -⟩ := h;exact ⟨p, c, h1, h2, Z⟩
theorem RdTx.cells {w : World} {v : Value} {S : List (List ByteArray)} (h : RdTx w v S) (L : 0 < S.length) : ∃ b o c, v = .slice (some ⟨b, o, none⟩) S.length c /\ b < w.heap.size /\
 ∀ (i : Nat) (U : i < S.length), ∃ p c', w.cell? ⟨b, o + i, none⟩ = some (.slice p S[i].length c') /\ RdS w (.slice p S[i].length c') S[i] := by
 obtain ⟨us, ⟨p, c, h1, h2, M, R, Q⟩, O⟩ := h;rw [Nat.mul_one] at R;obtain ⟨b, o, rfl, V⟩ := Q (List.ne_nil_of_length_pos (by omega));have h0 := V 0 us[0] (List.getElem?_eq_getElem (by omega));refine ⟨b, o, c, h1, World.block_lt_of_cell? w _ h0, fun i U => ?_⟩;have Y : i < us.length := by omega
 have X := O i us[i] S[i] (List.getElem?_eq_getElem Y) (List.getElem?_eq_getElem U);obtain ⟨N, c', e, -, -, -⟩ := X.open;have Z := V i us[i] (List.getElem?_eq_getElem Y);rw [e] at Z X;exact ⟨N, c', Z, X⟩
def fEE (f : Nat -> Int) (n : Nat) : Int := match (List.range n).find? (fun i => decide (f i ≠ 0)) with | some i => f i | none => 0
theorem fEa {f : Nat -> Int} {n i : Nat} (Y : i < n) (h : f i ≠ 0) (Z : ∀ j, j < i -> f j = 0) : fEE f n = f i := by
 unfold fEE;have : (List.range n).find? (fun i => decide (f i ≠ 0)) = some i := by
  rw [List.find?_range_eq_some];exact ⟨by simpa using h, List.mem_range.2 Y, fun j hj => by simpa using Z j hj⟩
 rw [this]
theorem fEn {f : Nat -> Int} {n : Nat} (Z : ∀ j, j < n -> f j = 0) : fEE f n = 0 := by
 unfold fEE;have : (List.range n).find? (fun i => decide (f i ≠ 0)) = none := by
  rw [List.find?_eq_none];intro j Y;have := Z j (List.mem_range.1 Y);simpa using this
 rw [this]
def uBd (U : List ByteArray) (i : Nat) : Int := match U[i]? with | some u => if nameQ u then (if hasS (U.take i) u then 9 else 0) else 8 | none => 0
noncomputable def numT (s : ByteArray) : Rat := open Classical in if h : ∃ q, RS q = s then h.choose else 0
theorem nTR (q : Rat) : numT (RS q) = q := by
 unfold numT;have h : ∃ p, RS p = RS q := ⟨q, rfl⟩;rw [dif_pos h];exact Rij h.choose_spec
theorem nTm (F : List Rat) : (F.map RS).map numT = F := by
 rw [List.map_map]
 conv => rhs; rw [<- List.map_id F]
 exact List.map_congr_left fun q _ => nTR q
def fldT (b : List ByteArray) (S : List (List ByteArray)) (n : Nat) : List ByteArray := (b :: S)[n]?.getD []
noncomputable def sBd (n : Nat) (b : List ByteArray) (S : List (List ByteArray)) (i : Nat) : Int :=
 if errF n (fldT b S (i + 1)) ≠ 0 then errF n (fldT b S (i + 1)) else if belowB ((fldT b S i).map numT) ((fldT b S (i + 1)).map numT) then 0 else 6
noncomputable def depE (P : List PtQ) (T : List Tri) (b : List ByteArray) (U : List ByteArray) (S : List (List ByteArray)) : Int :=
 if T = [] then 13 else if errF P.length b ≠ 0 then errF P.length b else if U.length = 0 then 13 else if 60 < U.length then 4 else if fEE (uBd U) U.length ≠ 0 then fEE (uBd U) U.length else if S.length + 1 ≠ U.length then 5 else fEE (sBd P.length b S) S.length
structure DepT (w : World) (vp vt vb vu vs : Value) (P : List PtQ) (T : List Tri) (k : Nat) (b : List ByteArray) (U : List ByteArray) (S : List (List ByteArray)) : Prop where
 p : RdP w vp (strP P)
 t : RdT w vt T
 m : T ≠ [] -> MeshOK P T k
 base : RdS w vb b
 unit : RdS w vu U
 surf : RdTx w vs S
 ok : ∀ F ∈ b :: S, TxtOK F
 num : ∀ F ∈ b :: S, errF P.length F = 0 -> ∃ R : List Rat, F = R.map RS /\ R.length = P.length /\ ∀ q ∈ R, Sz k q
theorem DepT.below {w w' : World} {vp vt vb vu vs : Value} {P : List PtQ} {T : List Tri} {k : Nat} {b U : List ByteArray} {S : List (List ByteArray)} (h : DepT w vp vt vb vu vs P T k b U S) (Z : Below w.heap.size w w') : DepT w' vp vt vb vu vs P T k b U S :=
 ⟨RdC.below h.p Z, RdC.below h.t Z, h.m, RdC.below h.base Z, RdC.below h.unit Z, h.surf.below Z, h.ok, h.num⟩
theorem sh0 (w : World) (H E G : Value) (b U : List ByteArray) (S : List (List ByteArray)) (R : RdS w H b) (O : RdS w E U) (V : RdTx w G S) (n : Nat) (v : n <= S.length) :
 ∃ p c, RdS w (.slice p (fldT b S n).length c) (fldT b S n) /\ ∀ w', Below w.heap.size w w' -> Calls Tryz.prog 48 #[.agg #[H, E, G], .int .i64 (n : Int)] w' (Ret (fun r _ => r = .slice p (fldT b S n).length c) w') := by
 obtain ⟨I, M, rfl, -, -, -⟩ := R.open;obtain ⟨x, C, rfl, -, -, -⟩ := O.open;rcases Nat.eq_zero_or_pos n with h0 | h0
 ·subst h0
  refine ⟨I, M, R, fun w' hw => ?_⟩;have e : fldT b S 0 = b := rfl;rw [e];obtain ⟨t, cs, rfl, -, -⟩ := V.shape;clear R O V;rw [show ((0 : Nat) : Int) = 0 from rfl];go_enter Tryz.func48, Tryz.ntmps48;go_wp2_with fail;go_ret;exact ⟨_, rfl, rfl, (Below.refl _ _).alloc (Nat.le_refl _) _⟩
 ·obtain ⟨i, rfl⟩ : ∃ i, n = i + 1 := ⟨n - 1, by omega⟩
  have X : i < S.length := by omega
  obtain ⟨_, D, -, z, Q⟩ := V.shape;unfold maxLen at Q;obtain ⟨N, os, cs, rfl, Y, L⟩ := V.cells (by omega);obtain ⟨p, c, Z, J⟩ := L i X;have e : fldT b S (i + 1) = S[i] := by unfold fldT; rw [List.getElem?_cons_succ, List.getElem?_eq_getElem X]; rfl
  rw [e];refine ⟨p, c, J, fun w' hw => ?_⟩;have B := (((Below.refl w'.heap.size w').alloc (Nat.le_refl _) (.cells #[.slice I b.length M, .slice x U.length C, .slice (some ⟨N, os, none⟩) S.length cs] 45)).cell (p := ⟨N, os + i, none⟩) (Nat.lt_of_lt_of_le Y hw.size)).trans ((zcq hw Y Z :));have y : ((i : Int) + 1 == 0) = false := by rw [beq_eq_false_iff_ne]; omega
  have K : ¬ ((i : Int) + 1 = 0) := by omega
  have A : (i : Int) < (S.length : Int) := by omega
  rw [show (((i + 1 : Nat) : Int)) = (i : Int) + 1 by omega];generalize S[i].length = fl at *;clear L R O V J Z;go_enter Tryz.func48, Tryz.ntmps48;go_wp2_with fail;go_ret;exact ⟨_, rfl, rfl, (Below.refl _ _).alloc (Nat.le_refl _) _⟩
end Go.Proofs.YtmcbeajdloaliaaGreatDoor
