import Derived.Test.YtcjkenapchcnhaaGreatDoorYS48
/- klippelaw28.StackRemoves. -/
set_option maxHeartbeats 8000000
set_option maxRecDepth 100000
namespace Go.Proofs.YtcjkenapchcnhaaGreatDoor
open Go.RowKit Go.Lib Go.Shelf
def sa0 {α : Type} (l : List α) (k : Nat) : Nat -> List α
 | 0 => []
 | i + 1 => if i = k then sa0 l k i else sa0 l k i ++ (l[i]?).toList
theorem sTe {α : Type} (l : List α) (k : Nat) : ∀ i, i <= l.length -> sa0 l k i = if i <= k then l.take i else l.take k ++ (l.drop (k + 1)).take (i - (k + 1))
 | 0, _ => by rw [if_pos (Nat.zero_le _)]; rfl
 | i + 1, h => by
   have Z := sTe l k i (by omega);unfold sa0;by_cases e : i = k
   ·subst e
    rw [if_pos rfl, Z, if_pos (Nat.le_refl _), if_neg (by omega), Nat.sub_self, List.take_zero, List.append_nil]
   ·rw [if_neg e, Z, List.getElem?_eq_getElem (by omega), Option.toList_some]
    by_cases c : i < k
    ·rw [if_pos (by omega), if_pos (by omega), List.take_succ_eq_append_getElem (by omega)]
    ·rw [if_neg (by omega), if_neg (by omega), List.append_assoc]
     congr 1;have Y : i - (k + 1) < (l.drop (k + 1)).length := by rw [List.length_drop]; omega
     rw [show i + 1 - (k + 1) = (i - (k + 1)) + 1 by omega, List.take_succ_eq_append_getElem Y, List.getElem_drop];congr 3;omega
theorem sTa {α : Type} (l : List α) {k : Nat} (Z : k < l.length) : sa0 l k l.length = lessL l k := by
 rw [sTe l k _ (Nat.le_refl _), if_neg (by omega)];unfold lessL;congr 1;exact List.take_of_length_le (by rw [List.length_drop]; omega)
theorem sj0 {α : Type} (l : List α) (k : Nat) : ∀ i, (sa0 l k i).length <= i
 | 0 => Nat.le_refl _
 | i + 1 => by
   have Z := sj0 l k i;unfold sa0;split
   ·omega
   ·rw [List.length_append]
    cases l[i]? <;> simp <;> omega
theorem sTn {α : Type} (l : List α) {k i : Nat} (Z : i < l.length) (h : i ≠ k) : sa0 l k (i + 1) = sa0 l k i ++ [l[i]] := by
 rw [sa0, if_neg h, List.getElem?_eq_getElem Z]; rfl
theorem sTs {α : Type} (l : List α) (k : Nat) : sa0 l k (k + 1) = sa0 l k k := by rw [sa0, if_pos rfl]
theorem lLg {α : Type} (l : List α) {k : Nat} (Z : k < l.length) (j : Nat) : (lessL l k)[j]? = if j < k then l[j]? else l[j + 1]? := by
 unfold lessL;by_cases hj : j < k
 ·rw [if_pos hj, List.getElem?_append_left (by rw [List.length_take]; omega), List.getElem?_take, if_pos hj]
 ·rw [if_neg hj, List.getElem?_append_right (by rw [List.length_take]; omega), List.length_take, List.getElem?_drop]
  congr 1;omega
def oUU : ByteArray := ⟨#[111, 116, 104, 101, 114]⟩
theorem ius (n k : Nat) (Y : n <= 3) (Z : k <= n) : idxS (uTo (n + 1)) (nameU k) = (k : Int) /\ idxS (uTo (n + 1)) oUU = -1 := by
 rcases (by omega : n = 0 \/ n = 1 \/ n = 2 \/ n = 3) with rfl | rfl | rfl | rfl <;> rcases (by omega : k = 0 \/ k = 1 \/ k = 2 \/ k = 3) with rfl | rfl | rfl | rfl <;> first | omega | (refine ⟨?_, ?_⟩ <;> decide +kernel)
theorem uTa {n k : Nat} (Z : k <= n) : (uTo (n + 1))[k]? = some (nameU k) := by
 unfold uTo;rw [List.getElem?_map, List.getElem?_range (by omega)]; rfl
theorem ub0 (m : Nat) : uTo (m + 1) ≠ [] := by rw [uTn]; simp
theorem rdSZ (w : World) : RdS w (.slice none 0 0) [] := ⟨none, 0, rfl, Nat.le_refl _, by decide, rfl, fun h => absurd rfl h⟩
theorem depRZ (w : World) : DepR w (.slice none 0 0) (.slice none 0 0) (.slice none 0 0) [] [] [] :=
 ⟨rdSZ w, rdSZ w, ⟨[], ⟨none, 0, rfl, Nat.le_refl _, by decide, rfl, fun h => absurd rfl h⟩, fun i u F h => by cases h⟩⟩
theorem sk0 (w : World) (kz s0 s1 : Int) (I : Bool) (a0 a1 a2 a3 a4 a5 : Int) (ah : Bool) (vh : Value) (H : List StepQ) (d : Int)
 (zm : 0 <= kz) (zX : kz <= 255) (yf : -128 <= s0 /\ s0 <= 127) (yg : -128 <= s1 /\ s1 <= 127) (ha : ∀ x ∈ [a0, a1, a2, a3, a4, a5], -128 <= x /\ x <= 127) (hH : RdSt w vh H) (zP : 0 <= d) (x8 : d <= 255) (hg : Good w) :
 Calls Tryz.prog 3 #[.agg #[.int .u8 kz, .int .i8 s0, .int .i8 s1, .bool I, .int .i8 a0, .int .i8 a1, .int .i8 a2, .int .i8 a3, .int .i8 a4, .int .i8 a5, .bool ah, vh], .int .u8 d] w (Ret (fun r _ => r = .bool true) w) := by
 obtain ⟨kk, y4⟩ : ∃ k : Nat, kz.tmod 8 = (k : Int) := ⟨(kz.tmod 8).toNat, by have := Int.tmod_nonneg 8 zm; omega⟩;have z5 : Hid (H.length <= 3 -> ∀ w', Below w.heap.size w w' -> Good w' -> _) := fun h3 w' hs hg => m2n w' kz s0 s1 I kk y4 zm zX yf yg a0 a1 a2 a3 a4 a5 ah ha vh H (hH.below hs) h3 hg;obtain ⟨p1, c1, rfl, yJ, yK, -⟩ := hH.1;unfold maxLen at yK;clear hH ha zm zX yf yg y4;obtain ⟨m1, y9⟩ : ∃ n, n = H.length := ⟨_, rfl⟩;rw [<- y9] at yJ z5 ⊢;clear y9;have za : Hid (∀ w', _) := fun w' => fe0 w' kz s0 s1 I a0 a1 a2 a3 a4 a5 ah p1 m1 c1 (by omega)
 obtain ⟨f1, ht⟩ : ∃ f, f = decide (m1 <= 3) := ⟨_, rfl⟩;rw [<- ht] at za;have yv : Hid (f1 = true -> m1 <= 3) := fun h => of_decide_eq_true (ht.symm.trans h);clear ht;go_enter Tryz.func3, Tryz.ntmps3;go_wp2_with fail;obtain ⟨W, hW⟩ := zex (w.alloc (.cells #[.int .u8 kz, .int .i8 s0, .int .i8 s1, .bool I, .int .i8 a0, .int .i8 a1, .int .i8 a2, .int .i8 a3, .int .i8 a4, .int .i8 a5, .bool ah, .slice p1 m1 c1] 31));have hB : Below w.heap.size w W := by rw [hW]; exact zal _ _
 have bx : BoxN W w.heap.size 31 [.int .u8 kz, .int .i8 s0, .int .i8 s1, .bool I, .int .i8 a0, .int .i8 a1, .int .i8 a2, .int .i8 a3, .int .i8 a4, .int .i8 a5, .bool ah, .slice p1 m1 c1] := by
  rw [hW];exact BoxN.new w #[.int .u8 kz, .int .i8 s0, .int .i8 s1, .bool I, .int .i8 a0, .int .i8 a1, .int .i8 a2, .int .i8 a3, .int .i8 a4, .int .i8 a5, .bool ah, .slice p1 m1 c1] 31 _ rfl
 rw [<- hW];clear hW;refine zR (k2a W (hg.below hB)) fun o1 hb1 => ?_;have zI := zbt hB hb1;have zb := bx.bl hb1;clear hb1 hB bx;obtain ⟨k0, k1, k2, k3, k4, k5, k6, k7, k8, k9, zt, zu⟩ := zk12 zb;go_wp2_with fail;refine zR (za.out o1) fun o3 hb2 => ?_;have hf := zbt zI hb2;have zF := zb.bl hb2;clear hb2 zI zb k0 k1 k2 k3 k4 k5 k6 k7 k8 k9 zt zu za;cases ht : f1
 ·go_wp2_with fail
  refine zR (k2a o3 (hg.below hf)) fun o4 hM => ?_;go_wp2_with fail;go_ret;exact ⟨_, rfl, rfl, (zbt hf hM)⟩
 obtain ⟨k0, k1, k2, k3, k4, k5, k6, k7, k8, k9, zt, zu⟩ := zk12 zF;go_wp2_with fail;refine (z5.out (yv.out ht) o3 hf (hg.below hf)).mono ?_;rintro e o4 ⟨_, rfl, ⟨pp, cp, pt, ct, pb, cb, pu, cu, ps, cs, P, T, B, H0, U, n, rfl, hP, hT, yS, zL, yF, hD, zM⟩, hM⟩;have yE := zbt hf hM;clear hM hf zF k0 k1 k2 k3 k4 k5 k6 k7 k8 k9 zt zu z5;subst yF;have ya : MeshOK P T 2 := by rw [hP, hT]; exact sok kk s0 s1 I
 have xe : P.length <= 6 := by rw [hP, se0]; exact sd0 kk
 have yU := hD.m.plen;have hQ : (uTo (n + 1)).length = n + 1 := uTl _;rw [hQ] at hD ⊢;have HD := hid hD;have xb := hid zM;have xc := hid ya;have xa := hid zL;clear hD zM ya hP hT zL hQ yU;go_upto_region 4 with fail;obtain ⟨o5, hA⟩ : ∃ W, W = (o4.alloc (.cells #[.slice pp P.length cp, .slice pt T.length ct] 37)).alloc (.cells #[.slice pb P.length cb, .slice pu (n + 1) cu, .slice ps n cs] 43) := ⟨_, rfl⟩;have hp : Below o4.heap.size o4 o5 := by rw [hA]; exact zal2 _ _ _
 obtain ⟨g6, zk⟩ : ∃ g, g = o4.heap.size := ⟨_, rfl⟩;obtain ⟨g7, zl⟩ : ∃ g, g = o4.heap.size + 1 := ⟨_, rfl⟩;have cM : BoxN o5 g6 37 [.slice pp P.length cp, .slice pt T.length ct] := by rw [hA]; exact (BoxN.new _ _ _ _ zk.symm).alloc _
 have cD : BoxN o5 g7 43 [.slice pb P.length cb, .slice pu (n + 1) cu, .slice ps n cs] := by rw [hA]; exact BoxN.new _ _ _ _ (by simp [zl])
 have zg := zbt yE hp;rw [<- hA, <- zl, <- zk];clear hA zk zl;obtain ⟨Q, yQ⟩ : ∃ m : Nat, d.tmod ((n : Int) + 1) = (m : Int) := ⟨(d.tmod ((n : Int) + 1)).toNat, by have := Int.tmod_nonneg ((n : Int) + 1) zP; omega⟩;have y5 : Q <= n := by have := Int.tmod_lt_of_pos d (show (0 : Int) < (n : Int) + 1 by omega); omega
 obtain ⟨hy, hV⟩ := ius n Q yS y5;have x7 := hid hy;have z3 : (uTo (n + 1)).length = n + 1 := uTl _;have hZ := sTl P.length B H0 n;have zC : Hid (∀ w' : World, Below o4.heap.size o4 w' -> Good w' -> Calls Tryz.prog 8 #[.agg #[.slice pp P.length cp, .slice pt T.length ct], .agg #[.slice pb P.length cb, .slice pu (n + 1) cu, .slice ps n cs], .string (nameU Q)] w' (Ret (fun r w2 => ∃ (pa y pc : Option Addr) (na ca nb C nc cc : Nat) (ez : Int) (b' U' : List ByteArray) (S' : List (List ByteArray)), r = .tuple #[.agg #[.slice pa na ca, .slice y nb C, .slice pc nc cc], .int .i64 ez] /\ DepR w2 (.slice pa na ca) (.slice y nb C) (.slice pc nc cc) b' U' S' /\ (∀ (g : Nat) (x : World), g < w'.heap.size -> w2.grownBy x (some g) -> DepR x (.slice pa na ca) (.slice y nb C) (.slice pc nc cc) b' U' S') /\
  ((n = 0 /\ ez = 13 /\ b'.length + U'.length + S'.length = 0) \/ (n ≠ 0 /\ ez = 0 /\ b' = B.map RS /\ U' = lessL (uTo (n + 1)) Q /\ S' = (lessL (sTo P.length B H0 n) (min Q (n - 1))).map fun F => F.map RS))) w')) := fun w' hb hg' => by
  refine (sh0 w' _ _ _ _ _ P T 3 B _ _ (HD.out.below hb) (nameU Q) hg').mono ?_;rintro e w2 ⟨r, rfl, hr, X⟩;unfold RemQ at hr;rw [hy, z3, hZ] at hr;rcases hr with ⟨h1, -⟩ | ⟨-, h1, rfl⟩ | ⟨i, h1, h2, y1, y2, y3, rfl, r1, r2, r3, r4⟩
  ·omega
  ·exact ⟨_, rfl, ⟨none, none, none, 0, 0, 0, 0, 0, 0, 13, [], [], [], rfl, depRZ w2, fun _ x _ _ => depRZ x, .inl ⟨by omega, rfl, rfl⟩⟩, X⟩
  ·obtain rfl : Q = i := by omega
   have hd : DepR w2 y1 y2 y3 (B.map RS) (lessL (uTo (n + 1)) Q) ((lessL (sTo P.length B H0 n) (min Q (n - 1))).map fun F => F.map RS) := ⟨r1.toS, r2, r3.toTx⟩;obtain ⟨qa, ra, qb, rb, qc, rc, rfl, rfl, rfl⟩ := hd.open;exact ⟨_, rfl, ⟨_, _, _, _, _, _, _, _, _, _, _, _, _, rfl, hd, fun g x hgx hx => ⟨(FldV.rd (r4.kept hx hgx).1).toS, (r4.kept hx hgx).unit, (r4.kept hx hgx).2.2.rd.toTx⟩, .inr ⟨by omega, rfl, rfl, rfl, rfl⟩⟩, X⟩
 have zD : Hid (∀ w' : World, Below o4.heap.size o4 w' -> Good w' -> Calls Tryz.prog 8 #[.agg #[.slice pp P.length cp, .slice pt T.length ct], .agg #[.slice pb P.length cb, .slice pu (n + 1) cu, .slice ps n cs], .string oUU] w' (Ret (fun r _ => r = .tuple #[.agg #[.slice none 0 0, .slice none 0 0, .slice none 0 0], .int .i64 10]) w')) := fun w' hb hg' => by
  refine (sh0 w' _ _ _ _ _ P T 3 B _ _ (HD.out.below hb) oUU hg').mono ?_;rintro e w2 ⟨r, rfl, hr, X⟩;unfold RemQ at hr;rw [hV] at hr;rcases hr with ⟨-, rfl⟩ | ⟨h1, -⟩ | ⟨i, h1, -⟩
  ·exact ⟨_, rfl, rfl, X⟩
  ·exact absurd (by decide) h1
  ·omega
 obtain ⟨xi, xd, eu, -, -, ye⟩ := HD.out.unit.open;have yA : Hid (∃ b o, pu = some ⟨b, o, none⟩ /\ b < o4.heap.size /\ ∀ i, i <= n -> o4.cell? ⟨b, o + i, none⟩ = some (.string (nameU i))) := by
  injection eu with e1 _ _
  obtain ⟨b, o, e2, h3, h4⟩ := ye (ub0 n);refine ⟨b, o, e1.trans e2, h3, fun i hi => ?_⟩;have h5 : i < (uTo (n + 1)).length := by rw [uTl]; omega
  rw [h4 i h5];have h6 := uTa hi;rw [List.getElem?_eq_getElem h5] at h6;rw [Option.some.inj h6]
 have xh : IntKind.i64.wrap ((n : Int) + 1) = (n : Int) + 1 := by rw [IntKind.wrap_i64]; omega
 have yV : IntKind.i64.wrap d = d := by rw [IntKind.wrap_i64]; omega
 have yT : ¬ ((n : Int) + 1 = 0) := by omega
 clear eu ye hy hV z3 hZ;have d1 := cD.cell 1 rfl;go_upto_region 5 with fail;obtain ⟨bu, ou, rfl, zS, yk⟩ := yA.out;have hR := hid yk;have HS : Hid (∀ w', Below o5.heap.size o5 w' -> w'.cell? ⟨g6, 0, none⟩ = some (.slice pp P.length cp) /\ w'.cell? ⟨g6, 1, none⟩ = some (.slice pt T.length ct) /\ w'.cell? ⟨g7, 0, none⟩ = some (.slice pb P.length cb) /\ w'.cell? ⟨g7, 1, none⟩ = some (.slice (some ⟨bu, ou, none⟩) (n + 1) cu) /\ w'.cell? ⟨g7, 2, none⟩ = some (.slice ps n cs) /\ w'.cell? ⟨bu, ou + Q, none⟩ = some (.string (nameU Q))) := fun w' hb => by
  have y6 := cM.bl hb;have y7 := cD.bl hb;exact ⟨y6.cell 0 rfl, y6.cell 1 rfl, y7.cell 0 rfl, y7.cell 1 rfl, y7.cell 2 rfl, (((zbt hp hb)).cell (p := ⟨bu, ou + Q, none⟩) zS).trans (hR.out Q y5)⟩
 have zE : Hid (∀ w', Below o5.heap.size o5 w' -> _) := fun w' hb => zC.out w' ((zbt hp hb)) (hg.below ((zbt zg hb)));have q0 : Below o5.heap.size o5 o5.drew := bdN o5 1;have xf : (Q : Int) < (n : Int) + 1 := by omega
 clear d1 yk yV yT yQ;go_cut [8, 9] from 35 to 45 (fun s8 s9 wx => ∃ (g8 : Nat) (pa y pc : Option Addr) (na ca nb C nc cc : Nat) (ez : Int) (b' U' : List ByteArray) (S' : List (List ByteArray)), s8 = .pointer (some ⟨g8, 0, none⟩) /\ s9 = .int .i64 ez /\ BoxN wx g8 43 [.slice pa na ca, .slice y nb C, .slice pc nc cc] /\ DepR wx (.slice pa na ca) (.slice y nb C) (.slice pc nc cc) b' U' S' /\ Below o5.heap.size o5 wx /\
  ((n = 0 /\ ez = 13 /\ b'.length + U'.length + S'.length = 0) \/ (n ≠ 0 /\ ez = 0 /\ b' = B.map RS /\ U' = lessL (uTo (n + 1)) Q /\ S' = (lessL (sTo P.length B H0 n) (min Q (n - 1))).map fun F => F.map RS)))
 case first =>
  go_region_held3 (fun w' => w'.cell? ⟨g6, 0, none⟩ = some (.slice pp P.length cp) /\ w'.cell? ⟨g6, 1, none⟩ = some (.slice pt T.length ct) /\ w'.cell? ⟨g7, 0, none⟩ = some (.slice pb P.length cb) /\ w'.cell? ⟨g7, 1, none⟩ = some (.slice (some ⟨bu, ou, none⟩) (n + 1) cu) /\ w'.cell? ⟨g7, 2, none⟩ = some (.slice ps n cs) /\ w'.cell? ⟨bu, ou + Q, none⟩ = some (.string (nameU Q)))
   ((refine HS.out _ ?_; repeat (first | with_reducible exact q1 | with_reducible exact q0 | with_reducible exact Below.refl _ _ | with_reducible refine Below.drew ?_ | ((with_reducible refine Below.setCell ?_ ?_ _); rotate_left; (first | omega | (simp <;> omega))) | ((with_reducible refine Below.alloc ?_ ?_ _); rotate_left; (first | exact Nat.le_refl _ | omega | (simp <;> omega))))))
   (first
     | ((with_reducible refine Calls.mono (zE.out _ ?_) ?_); (focus repeat (first | with_reducible exact q0 | with_reducible exact Below.refl _ _ | with_reducible refine Below.drew ?_ | ((with_reducible refine Below.alloc ?_ ?_ _); rotate_left; (first | exact Nat.le_refl _ | omega | (simp <;> omega)))))
        rintro e z1 ⟨_, rfl, ⟨pa, y, pc, na, ca, nb, C, nc, cc, ez, b', U', S', rfl, zV, zY, zT⟩, hG⟩;have q1 : Below o5.heap.size o5 z1 := (by refine Below.trans ?_ (hG.mono ?_); rotate_left; (first | exact Nat.le_refl _ | omega | (simp <;> omega)); repeat (first | with_reducible exact q0 | with_reducible exact Below.refl _ _ | with_reducible refine Below.drew ?_ | ((with_reducible refine Below.alloc ?_ ?_ _); rotate_left; (first | exact Nat.le_refl _ | omega | (simp <;> omega)))));have sz1 := q1.size;have ys := hid zV;have yr := hid zT;have yw := hid zY;clear zV zT zY
        (first | (have H8 := hid (zc3d hG)) | (have H8 := hid (zc3 hG)) | skip)
        (first | (have yq := BoxC.of H8.out; obtain ⟨u1, u2, u3, u4, u5, u6, u7⟩ := yq) | skip)))
  all_goals
   go_wp2_with fail;go_meet;refine ⟨_, pa, y, pc, na, ca, nb, C, nc, cc, ez, b', U', S', rfl, rfl, ?_, ?_, ?_, yr.out⟩
   ·repeat (first | with_reducible exact H8.out | with_reducible refine BoxN.drew ?_ | with_reducible refine b3s ?_ | ((with_reducible refine b3n _ _ _ _ _ _ ?_); (first | rfl | (simp <;> omega))) | with_reducible refine BoxN.alloc ?_ _)
   ·first
     | exact yw.out o5.heap.size _ (by simp) (gst (gst (gst (grl z1 _) 0 _) 1 _) 2 _)
     | (refine ys.out.below ?_; repeat (first | with_reducible exact Below.refl _ _ | with_reducible refine Below.drew ?_ | ((with_reducible refine Below.setCell ?_ ?_ _); rotate_left; (first | omega | (simp <;> omega))) | ((with_reducible refine Below.alloc ?_ ?_ _); rotate_left; (first | exact Nat.le_refl _ | omega | (simp <;> omega)))))
   ·repeat (first | with_reducible exact q1 | with_reducible exact q0 | with_reducible exact Below.refl _ _ | with_reducible refine Below.drew ?_ | ((with_reducible refine Below.setCell ?_ ?_ _); rotate_left; (first | omega | (simp <;> omega))) | ((with_reducible refine Below.alloc ?_ ?_ _); rotate_left; (first | exact Nat.le_refl _ | omega | (simp <;> omega))))
 case rest =>
 obtain ⟨g8, pa, y, pc, na, ca, nb, C, nc, cc, ez, b', U', S', rfl, rfl, fX, fd, hq, zU⟩ := hcut;have l8 := fX.lt;have gM := cM.bl hq;have gD := cD.bl hq;have zf := zbt hp hq;have zi := zbt zg hq;have zA := hid fd;have zy := hid zU;clear hq cM cD hp zg zC zE HS q0 fd zU;obtain ⟨m0, m1⟩ := zk2 gM;obtain ⟨d0, d1, d2⟩ := zk3 gD;go_wp2_with fail;refine zR (zD.out wc zf (hg.below zi)) fun o8 hb8 => ?_;have zG := zbt zf hb8;have zJ := zbt zi hb8;have iX := fX.bl hb8;have iM := gM.bl hb8;have iD := gD.bl hb8;have zB := hid (zA.out.below hb8);clear hb8 zf zi fX gM gD m0 m1 d0 d1 d2 zD zA l8;go_upto_region 7 with fail;obtain ⟨o9, hN⟩ : ∃ W, W = o8.alloc (.cells #[.slice none 0 0, .slice none 0 0, .slice none 0 0] 43) := ⟨_, rfl⟩;have h9 : Below o8.heap.size o8 o9 := by rw [hN]; exact zal _ _
 obtain ⟨yD, hv⟩ : ∃ g, g = o8.heap.size := ⟨_, rfl⟩;have aZ : BoxN o9 yD 43 [.slice none 0 0, .slice none 0 0, .slice none 0 0] := by rw [hN]; exact BoxN.new _ _ _ _ hv.symm
 have zH := zbt zG h9;have zK := zbt zJ h9;have aX := iX.bl h9;have aM := iM.bl h9;have aD := iD.bl h9;have zx := hid (zB.out.below h9);rw [<- hN, <- hv];clear hN hv h9 zG zJ iX iM iD zB;have zn := n2a o9 _ _ _ [] [] [] (depRZ o9) (by decide);rw [show decide (([] : List ByteArray).length + ([] : List ByteArray).length + ([] : List (List ByteArray)).length = 0) = true from rfl] at zn;obtain ⟨z0, z1, z2⟩ := zk3 aZ;go_wp2_with fail;refine zn.mono ?_;rintro e l ⟨_, rfl, rfl, hh⟩;have ze := zbt zH hh;have zh := zbt zK hh;have bX := aX.bl hh;have bD := aD.bl hh;have z4 := hid (zx.out.below hh);clear hh zH zK aX aM aD aZ z0 z1 z2 zx zn;have d1 := bD.cell 1 rfl;rcases zy.out with ⟨e1, e2, e3⟩ | ⟨e1, e2, e3, e4, e5⟩
 ·have yR : (((n : Int) + 1) == 1) = true := by rw [beq_iff_eq]; omega
  have yc : (n : Int) + 1 = 1 := by omega
  have hl := z4.out.open;have yd := n2a l _ _ _ b' U' S' z4.out (by omega);rw [decide_eq_true e3] at yd;subst e2;clear e1 e3 hl;obtain ⟨x0, x1, x2⟩ := zk3 bX;go_wp2_with fail;refine yd.mono ?_;rintro e ob ⟨_, rfl, rfl, yG⟩;go_wp2_with fail;go_ret;exact ⟨_, rfl, rfl, (zbt zh yG)⟩
 have yR : (((n : Int) + 1) == 1) = false := by rw [beq_eq_false_iff_ne]; omega
 have yc : ¬ (n : Int) + 1 = 1 := by omega
 subst e2;have yt := hid e3;have zz := hid e4;have yu := hid e5;have xg : 1 <= n := by omega
 obtain ⟨D, yj⟩ : ∃ t, t = min Q (n - 1) := ⟨_, rfl⟩;have z6 := hid yj;have zr : D < n := by omega
 clear e1 e3 e4 e5 zy yj;have d0 := bD.cell 0 rfl;have d2 := bD.cell 2 rfl;go_upto_region 13 with fail;have hX : min (Q : Int) ((n : Int) - 1) = (D : Int) := by have := z6.out; omega
 first | rw [hX] | skip
 have hz : ((min Q (n - 1) : Nat) : Int) = (D : Int) := by rw [z6.out]
 first | rw [hz] | skip
 obtain ⟨ob, hO⟩ : ∃ W, W = l.alloc (.cells #[.slice pb P.length cb, .slice none 0 0, .slice none 0 0] 43) := ⟨_, rfl⟩;have zj : Below l.heap.size l ob := by rw [hO]; exact zal _ _
 obtain ⟨R, hw⟩ : ∃ g, g = l.heap.size := ⟨_, rfl⟩;have cY : BoxN ob R 43 [.slice pb P.length cb, .slice none 0 0, .slice none 0 0] := by rw [hO]; exact BoxN.new _ _ _ _ hw.symm
 have M : l.heap.size <= R := by omega
 have yp : R < ob.heap.size := cY.lt;have lX := bX.lt;have lD := bD.lt;rw [<- hO, <- hw];clear hO hw d0 d1 d2 hX hz;obtain ⟨i0, yL, yZ, x3, x4⟩ := info_parts iSg;obtain ⟨j0, yO, yX, hG, yY⟩ := info_parts iFd;obtain ⟨U, hU⟩ := zex (uTo (n + 1));have hn : Hid (U.length = n + 1) := by unfold Hid; rw [hU, uTl]
 have yz : Hid (∀ i, i <= n -> U[i]? = some (nameU i)) := fun i hi => by rw [hU]; exact uTa hi
 rw [<- hU] at zz HD;clear hU;go_wp2_with fail;go_loopw [14] (fun t14 wr => ∃ (i E : Nat) (pw : Option Addr) (cw : Nat), t14 = .int .i64 i /\ i <= n + 1 /\ BoxN wr R 43 [.slice pb P.length cb, .slice pw E cw, .slice none 0 0] /\ Hid ((sa0 U Q i).length = E) /\ wr.ownsRow ob.heap.size 9 1 (.slice pw E cw) E ((sa0 U Q i).map fun x => Value.string x) /\ Below l.heap.size l wr /\ ob.heap.size <= wr.heap.size) (fun t14 _ => n + 1 - (RowKit.intOf t14).toNat)
 case atStart => exact ⟨0, 0, none, 0, rfl, Nat.zero_le _, cY, rfl, World.ownsRow_nil _ _ _ _, zj, Nat.le_refl _⟩
 case round =>
  obtain ⟨i, E, pw, cw, rfl, yN, C0, N, V, X, yo⟩ := hrel;have hL := zbt zh X;have kD := bD.below X lD;have e1 := kD.cell 1 rfl;by_cases h : i <= n
  ·have zW : (i : Int) < (n : Int) + 1 := by omega
   have yb : E <= i := by have := sj0 U Q i; have := N.out; omega
   by_cases hk : i = Q
   ·subst hk
    have J : Hid (sa0 U i (i + 1) = sa0 U i i) := sTs U i;rw [<- J.out] at V N;clear J;go_wp2_with fail;go_roundw
    case rel => exact ⟨i + 1, E, pw, cw, by go_num, by omega, C0, N, V, X, yo⟩
    case measure =>
     show n + 1 - ((i : Int) + 1).toNat < n + 1 - ((i : Int)).toNat;omega
   ·have yP : ((i : Int) != (Q : Int)) = true := by rw [bne_iff_ne]; omega
    have zZ : ¬ (i : Int) = (Q : Int) := by omega
    have J : Hid (sa0 U Q (i + 1) = sa0 U Q i ++ [nameU i]) := by
     have h5 : i < U.length := by rw [hn.out]; omega
     have h6 := yz.out i h;rw [List.getElem?_eq_getElem h5] at h6;rw [<- Option.some.inj h6];exact sTn U h5 hk
    have L : Hid (∀ w', Below l.heap.size l w' -> w'.cell? ⟨g7, 1, none⟩ = some (.slice (some ⟨bu, ou, none⟩) (n + 1) cu) /\ w'.cell? ⟨bu, ou + i, none⟩ = some (.string (nameU i))) := fun w' hb =>
     ⟨(bD.below hb lD).cell 1 rfl, (((zbt ze hb)).cell (p := ⟨bu, ou + i, none⟩) zS).trans (hR.out i h)⟩
    have g0 : Below l.heap.size l wr.drew := X.trans ((bdN wr 1).mono X.size);have hC := X.size;have O := odw V;have C1 := C0.drew;have h8 := C1.cell 1 rfl;have y8 := C0.lt;clear V;go_upto_region 17 with fail;clear e1 kD;refine AnyL.region (S := Till 10 (fun w' => w'.cell? ⟨g7, 1, none⟩ = some (.slice (some ⟨bu, ou, none⟩) (n + 1) cu) /\ w'.cell? ⟨bu, ou + i, none⟩ = some (.string (nameU i))) (fun w' => w'.cell? ⟨R, 1, none⟩ = some (.slice pw E cw))) (by kernel_rfl) ?_;have Z : Till 10 (fun w' => w'.cell? ⟨g7, 1, none⟩ = some (.slice (some ⟨bu, ou, none⟩) (n + 1) cu) /\ w'.cell? ⟨bu, ou + i, none⟩ = some (.string (nameU i))) (fun w' => w'.cell? ⟨R, 1, none⟩ = some (.slice pw E cw)) (Array.replicate 11 false) _ := ⟨L.out _ g0, fun _ => h8⟩;refine AnyL.take (i := 0) (oi := _) (v := ?_) rfl (by kernel_rfl) (by kernel_rfl) (by kernel_rfl) (by decide) (fun _ _ _ h => h) (Or.inl ⟨by rfl, ?_⟩) ⟨Z.1, fun _ => Z.2 (by rfl)⟩ ?_;rotate_left
    ·intro w Y; (try dsimp only at Y); first | (go_simp; done) | (go_simp; with_reducible rfl)
    try simp only [Act.put]
    refine AnyL.take2 (i := 1) (oi := _) (v := ?_) rfl (by kernel_rfl) (by kernel_rfl) (by kernel_rfl) (by decide) (ok := _) rfl (by kernel_rfl) (by kernel_rfl) (fun _ _ _ h => h) (Or.inl ⟨by rfl, ?_⟩) ⟨Z.1, fun _ => Z.2 (by rfl)⟩ ?_;rotate_left
    ·intro w Y; (try dsimp only at Y); first | (go_simp; done) | (go_simp; with_reducible rfl)
    try simp only [Act.put]
    refine AnyL.take (i := 2) (oi := _) (v := ?_) rfl (by kernel_rfl) (by kernel_rfl) (by kernel_rfl) (by decide) (fun _ _ _ h => h) (Or.inl ⟨by rfl, ?_⟩) ⟨Z.1, fun _ => Z.2 (by rfl)⟩ ?_;rotate_left
    ·intro w Y; (try dsimp only at Y); first | (go_simp; done) | (go_simp; with_reducible rfl)
    try simp only [Act.put]
    refine AnyL.take (i := 3) (oi := _) (v := ?_) rfl (by kernel_rfl) (by kernel_rfl) (by kernel_rfl) (by decide) (fun _ _ _ h => h) (Or.inl ⟨by rfl, ?_⟩) ⟨Z.1, fun _ => Z.2 (by rfl)⟩ ?_;rotate_left
    ·intro w Y; (try dsimp only at Y); first | (go_simp; done) | (go_simp; with_reducible rfl)
    try simp only [Act.put]
    refine AnyL.take (i := 4) (oi := _) (v := ?_) rfl (by kernel_rfl) (by kernel_rfl) (by kernel_rfl) (by decide) (fun _ _ _ h => h) (Or.inl ⟨by rfl, ?_⟩) ⟨Z.1, fun _ => Z.2 (by rfl)⟩ ?_;rotate_left
    ·intro w Y; (try dsimp only at Y); first | (go_simp; done) | (go_simp; with_reducible rfl)
    try simp only [Act.put]
    refine AnyL.take (i := 5) (oi := _) (v := ?_) rfl (by kernel_rfl) (by kernel_rfl) (by kernel_rfl) (by decide) (fun _ _ _ h => h) (Or.inl ⟨by rfl, ?_⟩) ⟨Z.1, fun _ => Z.2 (by rfl)⟩ ?_;rotate_left
    ·intro w Y; (try dsimp only at Y); first | (go_simp; done) | (go_simp; with_reducible rfl)
    try simp only [Act.put]
    refine AnyL.take (i := 6) (oi := _) (v := ?_) rfl (by kernel_rfl) (by kernel_rfl) (by kernel_rfl) (by decide) (fun _ _ _ h => h) (Or.inl ⟨by rfl, ?_⟩) ⟨Z.1, fun _ => Z.2 (by rfl)⟩ ?_;rotate_left
    ·intro w Y; (try dsimp only at Y); first | (go_simp; done) | (go_simp; with_reducible rfl)
    try simp only [Act.put]
    refine AnyL.one (i := 7) (o := _) (by kernel_rfl) rfl (fun K hK => ?_);go_simp;refine hK.out _ _ ⟨L.out _ (g0.alloc hC _), fun hk => (cal _ h8)⟩ (fun Z => ?_);clear hK K;try simp only [Act.put]
    refine AnyL.one (i := 8) (o := _) (by kernel_rfl) rfl (fun K hK => ?_)
    (rw [if_pos (by simp [Region.wanted])]; refine wp_append_own _ (.tmp 89) (.tmp 95) 40 (by rfl) ob.heap.size 9 i0 (.string ⟨#[]⟩) 1 16 Tryz.underlying40 yL yZ x3 x4 rfl (by decide) _ _ _ (by simp [Act.eval]) (O.alloc _) ⟨wr.drew.heap.size, 0, none⟩ 1 1 [.string (nameU i)] (by simp [Act.eval]) rfl (cell_one_new _ _ _) (by intro u hu; simp at hu; subst hu; rfl) (by unfold maxLen; omega) (by omega) (by simp; omega) ?_; intro v8 w8 s G _; have C8 := (C1.alloc (.cells #[.string (nameU i)] 9)).gb G (fun e => obN (O.alloc _) (C1.alloc (.cells #[.string (nameU i)] 9)) (by decide) e.symm); have z8 : wr.heap.size <= w8.heap.size := Nat.le_trans (by simp) G.size; obtain ⟨p8, c8, rfl⟩ := oRs s; have ho := C8.cell 1 rfl; have zc := C8.frozen 1; have A := (g0.alloc hC (.cells #[.string (nameU i)] 9)).grown G (by simp; omega) (fun j hj => Nat.le_trans zj.size (O.lt j hj).1))
    refine hK.out _ _ ⟨L.out _ A, fun hk => ho⟩ (fun Z => ?_);clear hK K;try simp only [Act.put]
    refine AnyL.take (i := 9) (oi := _) (v := ?_) rfl (by kernel_rfl) (by kernel_rfl) (by kernel_rfl) (by decide) (fun _ _ _ h => h) (Or.inl ⟨by rfl, ?_⟩) ⟨Z.1, fun _ => Z.2 (by rfl)⟩ ?_;rotate_left
    ·intro w Y; (try dsimp only at Y); first | (go_simp; done) | (go_simp; with_reducible rfl)
    try simp only [Act.put]
    refine AnyL.one (i := 10) (o := _) (by kernel_rfl) rfl (fun K hK => ?_);go_simp;refine hK.out _ _ ⟨(L.out _ (A.setCell (p := ⟨R, 1, none⟩) M _)), fun hk => (by simp at hk)⟩ (fun Z => ?_);clear hK K;try simp only [Act.put]
    refine AnyL.done (by kernel_rfl) ?_ _;have h7 : w8.grownBy (w8.setCell ⟨R, 1, none⟩ (.slice p8 (E + 1) c8)) (some R) := gst (grl w8 _) 1 _;have hJ := World.ownsRow.kept s h7 (.inr (fun e' => obN s C8 (by decide) e'.symm));have C9 := C8.set 1 (.slice p8 (E + 1) c8);have zd := A.setCell (p := ⟨R, 1, none⟩) M (.slice p8 (E + 1) c8);have z9 : ob.heap.size <= (w8.setCell ⟨R, 1, none⟩ (.slice p8 (E + 1) c8)).heap.size := by have := h7.size; omega
    have e9 : ((sa0 U Q i).map fun x => Value.string x) ++ [.string (nameU i)] = (sa0 U Q (i + 1)).map fun x => Value.string x := by rw [J.out, List.map_append]; rfl
    rw [e9] at hJ;have hm : Hid ((sa0 U Q (i + 1)).length = E + 1) := by unfold Hid; rw [J.out, List.length_append, N.out]; rfl
    clear h7 e9 s C8 ho zc A O C1 h8 G g0 L z8;go_wp2_with fail;go_roundw
    case rel => exact ⟨i + 1, E + 1, p8, c8, by go_num, by omega, C9, hm, hJ, zd, z9⟩
    case measure =>
     show n + 1 - ((i : Int) + 1).toNat < n + 1 - ((i : Int)).toNat;omega
  ·have yM : i = n + 1 := by omega
   have ei : ((i : Nat) : Int) = (n : Int) + 1 := by omega
   rw [ei];clear ei;subst yM;have zO : Hid ((sa0 U Q (n + 1)).map (fun x => Value.string x) = (lessL U Q).map fun x => Value.string x) := by
    unfold Hid;rw [<- hn.out, sTa U (by rw [hn.out]; omega)]
   have yb : Hid ((lessL U Q).length = E) := by
    unfold Hid;rw [<- N.out, <- hn.out, sTa U (by rw [hn.out]; omega)]
   rw [zO.out] at V;clear N zO;obtain ⟨wo, yW⟩ := zex (wr : World);subst yW;obtain ⟨us, yn, yl⟩ := HD.out.surf;rw [sTl] at yn;obtain ⟨q, c, eq, -, -, hQ, hr⟩ := yn;have ym : us.length = n := by omega
   have he := hid ym;have yC : Hid (∃ bs os, ps = some ⟨bs, os, none⟩ /\ bs < o4.heap.size /\ ∀ (i : Nat) (u : Value), us[i]? = some u -> o4.cell? ⟨bs, os + i, none⟩ = some u) := by
    injection eq with e1 _ _
    obtain ⟨b, o, e2, hc⟩ := hr (List.ne_nil_of_length_pos (by omega));have h0 : us[0]? = some (us[0]'(by omega)) := List.getElem?_eq_getElem _;exact ⟨b, o, e1.trans e2, World.block_lt_of_cell? o4 _ (hc 0 _ h0), fun i u hu => hc i u hu⟩
   have z7 := hid yl;have yB : Hid (∀ i, i < n -> ∃ (pf : Option Addr) (nf cf : Nat), us[i]? = some (.slice pf nf cf)) := fun i hi => by
    have h1 : us[i]? = some (us[i]'(by omega)) := List.getElem?_eq_getElem _;have h2 : (sTo P.length B H0 n)[i]? = some ((sTo P.length B H0 n)[i]'(by rw [sTl]; exact hi)) := List.getElem?_eq_getElem _;obtain ⟨pf, cf, e3, -, -, -⟩ := RdQ.open (z7.out i _ _ h1 h2);exact ⟨pf, _, cf, by rw [h1, e3]⟩
   clear eq hr hQ ym yl;obtain ⟨bs, os, rfl, yH, yh⟩ := yC.out;have yx := hid yh;clear yh;have zo := hid V;have zQ := X;clear V X hL kD;go_wp2_with fail;clear e1;go_loopw [15] (fun t15 wq => ∃ (i z : Nat) (p2 : Option Addr) (c2 : Nat), t15 = .int .i64 i /\ i <= n /\ BoxN wq R 43 [.slice pb P.length cb, .slice pw E cw, .slice p2 z c2] /\ Hid ((sa0 us D i).length = z) /\ wq.ownsRow ob.heap.size 39 1 (.slice p2 z c2) z (sa0 us D i) /\ wq.ownsRow ob.heap.size 9 1 (.slice pw E cw) E ((lessL U Q).map fun x => Value.string x) /\ Below l.heap.size l wq /\ ob.heap.size <= wq.heap.size) (fun t15 _ => n - (RowKit.intOf t15).toNat)
   case atStart => exact ⟨0, 0, none, 0, rfl, Nat.zero_le _, C0, rfl, World.ownsRow_nil _ _ _ _, zo.out, zQ, yo⟩
   case round =>
    obtain ⟨i, z, p2, c2, rfl, yN, C2, N, V, hE, X, x5⟩ := hrel;have hL := zbt zh X;have kD := bD.below X lD;have e2 := kD.cell 2 rfl;by_cases h : i < n
    ·have zW : (i : Int) < (n : Int) := by omega
     have x9 : z <= i := by have := sj0 us D i; have := N.out; omega
     by_cases hk : i = D
     ·subst hk
      have J : Hid (sa0 us i (i + 1) = sa0 us i i) := sTs us i;rw [<- J.out] at V N;clear J;go_wp2_with fail;go_roundw
      case rel => exact ⟨i + 1, z, p2, c2, by go_num, by omega, C2, N, V, hE, X, x5⟩
      case measure =>
       show n - ((i : Int) + 1).toNat < n - ((i : Int)).toNat;omega
     ·have yP : ((i : Int) != (D : Int)) = true := by rw [bne_iff_ne]; omega
      have zZ : ¬ (i : Int) = (D : Int) := by omega
      obtain ⟨pf, nf, cf, zs⟩ := yB.out i h;have J : Hid (sa0 us D (i + 1) = sa0 us D i ++ [.slice pf nf cf]) := by
       have h5 : i < us.length := by rw [he.out]; exact h
       have h6 := zs;rw [List.getElem?_eq_getElem h5] at h6;rw [<- Option.some.inj h6];exact sTn us h5 hk
      have L : Hid (∀ w', Below l.heap.size l w' -> w'.cell? ⟨g7, 2, none⟩ = some (.slice (some ⟨bs, os, none⟩) n cs) /\ w'.cell? ⟨bs, os + i, none⟩ = some (.slice pf nf cf)) := fun w' hb =>
       ⟨(bD.below hb lD).cell 2 rfl, (((zbt ze hb)).cell (p := ⟨bs, os + i, none⟩) yH).trans (yx.out i _ zs)⟩
      have g0 : Below l.heap.size l wr.drew := X.trans ((bdN wr 1).mono X.size);have hC := X.size;have O := odw V;have zv := odw hE;have C1 := C2.drew;have h8 := C1.cell 2 rfl;have y8 := C2.lt;clear V hE zs;go_upto_region 22 with fail;clear e2 kD;refine AnyL.region (S := Till 10 (fun w' => w'.cell? ⟨g7, 2, none⟩ = some (.slice (some ⟨bs, os, none⟩) n cs) /\ w'.cell? ⟨bs, os + i, none⟩ = some (.slice pf nf cf)) (fun w' => w'.cell? ⟨R, 2, none⟩ = some (.slice p2 z c2))) (by kernel_rfl) ?_;have Z : Till 10 (fun w' => w'.cell? ⟨g7, 2, none⟩ = some (.slice (some ⟨bs, os, none⟩) n cs) /\ w'.cell? ⟨bs, os + i, none⟩ = some (.slice pf nf cf)) (fun w' => w'.cell? ⟨R, 2, none⟩ = some (.slice p2 z c2)) (Array.replicate 11 false) _ := ⟨L.out _ g0, fun _ => h8⟩;refine AnyL.take (i := 0) (oi := _) (v := ?_) rfl (by kernel_rfl) (by kernel_rfl) (by kernel_rfl) (by decide) (fun _ _ _ h => h) (Or.inl ⟨by rfl, ?_⟩) ⟨Z.1, fun _ => Z.2 (by rfl)⟩ ?_;rotate_left
      ·intro w Y; (try dsimp only at Y); first | (go_simp; done) | (go_simp; with_reducible rfl)
      try simp only [Act.put]
      refine AnyL.take2 (i := 1) (oi := _) (v := ?_) rfl (by kernel_rfl) (by kernel_rfl) (by kernel_rfl) (by decide) (ok := _) rfl (by kernel_rfl) (by kernel_rfl) (fun _ _ _ h => h) (Or.inl ⟨by rfl, ?_⟩) ⟨Z.1, fun _ => Z.2 (by rfl)⟩ ?_;rotate_left
      ·intro w Y; (try dsimp only at Y); first | (go_simp; done) | (go_simp; with_reducible rfl)
      try simp only [Act.put]
      refine AnyL.take (i := 2) (oi := _) (v := ?_) rfl (by kernel_rfl) (by kernel_rfl) (by kernel_rfl) (by decide) (fun _ _ _ h => h) (Or.inl ⟨by rfl, ?_⟩) ⟨Z.1, fun _ => Z.2 (by rfl)⟩ ?_;rotate_left
      ·intro w Y; (try dsimp only at Y); first | (go_simp; done) | (go_simp; with_reducible rfl)
      try simp only [Act.put]
      refine AnyL.take (i := 3) (oi := _) (v := ?_) rfl (by kernel_rfl) (by kernel_rfl) (by kernel_rfl) (by decide) (fun _ _ _ h => h) (Or.inl ⟨by rfl, ?_⟩) ⟨Z.1, fun _ => Z.2 (by rfl)⟩ ?_;rotate_left
      ·intro w Y; (try dsimp only at Y); first | (go_simp; done) | (go_simp; with_reducible rfl)
      try simp only [Act.put]
      refine AnyL.take (i := 4) (oi := _) (v := ?_) rfl (by kernel_rfl) (by kernel_rfl) (by kernel_rfl) (by decide) (fun _ _ _ h => h) (Or.inl ⟨by rfl, ?_⟩) ⟨Z.1, fun _ => Z.2 (by rfl)⟩ ?_;rotate_left
      ·intro w Y; (try dsimp only at Y); first | (go_simp; done) | (go_simp; with_reducible rfl)
      try simp only [Act.put]
      refine AnyL.take (i := 5) (oi := _) (v := ?_) rfl (by kernel_rfl) (by kernel_rfl) (by kernel_rfl) (by decide) (fun _ _ _ h => h) (Or.inl ⟨by rfl, ?_⟩) ⟨Z.1, fun _ => Z.2 (by rfl)⟩ ?_;rotate_left
      ·intro w Y; (try dsimp only at Y); first | (go_simp; done) | (go_simp; with_reducible rfl)
      try simp only [Act.put]
      refine AnyL.take (i := 6) (oi := _) (v := ?_) rfl (by kernel_rfl) (by kernel_rfl) (by kernel_rfl) (by decide) (fun _ _ _ h => h) (Or.inl ⟨by rfl, ?_⟩) ⟨Z.1, fun _ => Z.2 (by rfl)⟩ ?_;rotate_left
      ·intro w Y; (try dsimp only at Y); first | (go_simp; done) | (go_simp; with_reducible rfl)
      try simp only [Act.put]
      refine AnyL.one (i := 7) (o := _) (by kernel_rfl) rfl (fun K hK => ?_);go_simp;refine hK.out _ _ ⟨L.out _ (g0.alloc hC _), fun hk => (cal _ h8)⟩ (fun Z => ?_);clear hK K;try simp only [Act.put]
      refine AnyL.one (i := 8) (o := _) (by kernel_rfl) rfl (fun K hK => ?_)
      (rw [if_pos (by simp [Region.wanted])]; refine wp_append_own _ (.tmp 109) (.tmp 115) 41 (by rfl) ob.heap.size 39 j0 (.slice none 0 0) 1 24 Tryz.underlying41 yO yX hG yY rfl (by decide) _ _ _ (by simp [Act.eval]) (O.alloc _) ⟨wr.drew.heap.size, 0, none⟩ 1 1 [.slice pf nf cf] (by simp [Act.eval]) rfl (cell_one_new _ _ _) (by intro u hu; simp at hu; subst hu; rfl) (by unfold maxLen; omega) (by omega) (by simp; omega) ?_; intro v8 w8 s G _; have C8 := (C1.alloc (.cells #[.slice pf nf cf] 39)).gb G (fun e => obN (O.alloc _) (C1.alloc (.cells #[.slice pf nf cf] 39)) (by decide) e.symm); have zw := World.ownsRow.kept (zv.alloc (.cells #[.slice pf nf cf] 39)) G (oat (zv.alloc (.cells #[.slice pf nf cf] 39)) (O.alloc (.cells #[.slice pf nf cf] 39)) (by decide)); have z8 : wr.heap.size <= w8.heap.size := Nat.le_trans (by simp) G.size; obtain ⟨p8, c8, rfl⟩ := oRs s; have ho := C8.cell 2 rfl; have zc := C8.frozen 2; have A := (g0.alloc hC (.cells #[.slice pf nf cf] 39)).grown G (by simp; omega) (fun j hj => Nat.le_trans zj.size (O.lt j hj).1))
      refine hK.out _ _ ⟨L.out _ A, fun hk => ho⟩ (fun Z => ?_);clear hK K;try simp only [Act.put]
      refine AnyL.take (i := 9) (oi := _) (v := ?_) rfl (by kernel_rfl) (by kernel_rfl) (by kernel_rfl) (by decide) (fun _ _ _ h => h) (Or.inl ⟨by rfl, ?_⟩) ⟨Z.1, fun _ => Z.2 (by rfl)⟩ ?_;rotate_left
      ·intro w Y; (try dsimp only at Y); first | (go_simp; done) | (go_simp; with_reducible rfl)
      try simp only [Act.put]
      refine AnyL.one (i := 10) (o := _) (by kernel_rfl) rfl (fun K hK => ?_);go_simp;refine hK.out _ _ ⟨(L.out _ (A.setCell (p := ⟨R, 2, none⟩) M _)), fun hk => (by simp at hk)⟩ (fun Z => ?_);clear hK K;try simp only [Act.put]
      refine AnyL.done (by kernel_rfl) ?_ _;have h7 : w8.grownBy (w8.setCell ⟨R, 2, none⟩ (.slice p8 (z + 1) c8)) (some R) := gst (grl w8 _) 2 _;have hJ := World.ownsRow.kept s h7 (.inr (fun e' => obN s C8 (by decide) e'.symm));have x6 := World.ownsRow.kept zw h7 (.inr (fun e' => obN zw C8 (by decide) e'.symm));have C9 := C8.set 2 (.slice p8 (z + 1) c8);have zd := A.setCell (p := ⟨R, 2, none⟩) M (.slice p8 (z + 1) c8);have z9 : ob.heap.size <= (w8.setCell ⟨R, 2, none⟩ (.slice p8 (z + 1) c8)).heap.size := by have := h7.size; omega
      rw [<- J.out] at hJ;have hm : Hid ((sa0 us D (i + 1)).length = z + 1) := by unfold Hid; rw [J.out, List.length_append, N.out]; rfl
      clear h7 s zw C8 ho zc A O zv C1 h8 G g0 L z8;go_wp2_with fail;go_roundw
      case rel => exact ⟨i + 1, z + 1, p8, c8, by go_num, by omega, C9, hm, hJ, x6, zd, z9⟩
      case measure =>
       show n - ((i : Int) + 1).toNat < n - ((i : Int)).toNat;omega
    ·obtain rfl : i = n := by omega
     have zN : (sTo P.length B H0 i).length = i := sTl _ _ _ _;have zp : sa0 us D i = lessL us D := by
      have := sTa us (k := D) (by rw [he.out]; exact zr);rwa [he.out] at this
     have yi : (lessL us D).length = z := by rw [<- zp]; exact N.out
     have hY : (lessL (sTo P.length B H0 i) D).length = z := by rw [<- yi, lLl _ (by omega), lLl _ (by rw [he.out]; exact zr), zN, he.out]
     rw [zp] at V;have hs := zbt ze X;have hF : RdF wr (.slice p2 z c2) (lessL (sTo P.length B H0 i) D) := ⟨lessL us D, by rw [hY]; exact RdC.of_owns V, fun j u F a b => by
      rw [lLg us (by rw [he.out]; exact zr)] at a;rw [lLg _ (by omega)] at b;split at a <;> rename_i hj
      ·rw [if_pos hj] at b; exact RdC.below (z7.out j u F a b) hs
      ·rw [if_neg hj] at b; exact RdC.below (z7.out (j + 1) u F a b) hs⟩
     have hS : DepR wr (.slice pb P.length cb) (.slice pw E cw) (.slice p2 z c2) (B.map RS) (lessL U Q) ((lessL (sTo P.length B H0 i) D).map fun F => F.map RS) :=
      ⟨(HD.out.below hs).base.toS, by have h5 := RdC.of_owns hE; unfold RdS; rw [yb.out]; exact h5, hF.toTx⟩
     have zq := sw0 wr _ _ _ _ _ _ _ _ _ _ _ _ (z4.out.below X) hS (hg.below hL);rw [decide_eq_true ⟨yt.out, zz.out, by rw [yu.out, z6.out]⟩] at zq;have yy := hid zq;have kX := bX.below X lX;obtain ⟨x0, x1, x2⟩ := zk3 kX;obtain ⟨y0, y1, y2⟩ := zk3 C2;clear zq hS hF zp yi hY zN V hE kD;go_wp2_with fail;refine yy.out.mono ?_;rintro e wz ⟨_, rfl, rfl, yI⟩;go_wp2_with fail;go_ret;exact ⟨_, rfl, rfl, (zbt hL yI)⟩
end Go.Proofs.YtcjkenapchcnhaaGreatDoor
