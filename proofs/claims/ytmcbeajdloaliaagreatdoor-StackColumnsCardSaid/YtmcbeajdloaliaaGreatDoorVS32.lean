import Derived.Test.YtmcbeajdloaliaaGreatDoorVS28
/- klippelaw28.Make. klippelaw28.fits, flat. slices.Clone at texts mesh.Contains The walks over field.Profile$1, field.Profile. stack.clone. -/
set_option maxHeartbeats 8000000
set_option maxRecDepth 100000
namespace Go.Proofs.YtmcbeajdloaliaaGreatDoor
open Go.RowKit Go.Lib
abbrev StepQ := List Int × Bool
def cSt (H : List StepQ) : List Value := H.flatMap fun h => h.1.map (fun x => Value.int .i8 x) ++ [Value.bool h.2]
def stepF (n : Nat) (h : StepQ) : List Rat := (hFF h.1 h.2 n).map Rat.abs
def topTo (n : Nat) (B : List Rat) (H : List StepQ) : Nat -> List Rat
 | 0 => B
 | i + 1 => List.zipWith (·+ ·) (topTo n B H i) (stepF n (H[i]?.getD ([], false)))
def sTo (n : Nat) (B : List Rat) (H : List StepQ) (m : Nat) : List (List Rat) := (List.range m).map fun i => topTo n B H (i + 1)
theorem sTn (n : Nat) (B : List Rat) (H : List StepQ) (m : Nat) : sTo n B H (m + 1) = sTo n B H m ++ [topTo n B H (m + 1)] := by
 unfold sTo; rw [List.range_succ, List.map_append]; rfl
theorem sTl (n : Nat) (B : List Rat) (H : List StepQ) (m : Nat) : (sTo n B H m).length = m := by unfold sTo; simp
def nameU (i : Nat) : ByteArray := ⟨#[117, (49 + i).toUInt8]⟩
def uTo (m : Nat) : List ByteArray := (List.range m).map nameU
theorem ua0 (m : Nat) : uTo (m + 1) = uTo m ++ [nameU m] := by unfold uTo; rw [List.range_succ, List.map_append]; rfl
theorem sFl (n : Nat) (h : StepQ) : (stepF n h).length = n := by unfold stepF; rw [List.length_map, he0]
theorem tTl (n : Nat) (B : List Rat) (H : List StepQ) (Z : B.length = n) : ∀ i, (topTo n B H i).length = n
 | 0 => Z
 | i + 1 => by unfold topTo; rw [List.length_zipWith, tTl n B H Z i, sFl]; simp
def RdSt (w : World) (v : Value) (H : List StepQ) : Prop := RdC 7 w v H.length (cSt H) /\ ∀ h ∈ H, h.1.length = 6 /\ ∀ x ∈ h.1, -128 <= x /\ x <= 127
theorem RdSt.below {w w' : World} {v : Value} {H : List StepQ} (h : RdSt w v H) (Z : Below w.heap.size w w') : RdSt w' v H := ⟨RdC.below h.1 Z, h.2⟩
theorem cSg : ∀ (H : List StepQ) (_ : ∀ h ∈ H, h.1.length = 6) (i j : Nat) (Z : i < H.length) (_ : j < 7), (cSt H)[i * 7 + j]? = (H[i].1.map (fun x => Value.int .i8 x) ++ [Value.bool H[i].2])[j]?
 | [], _, i, j, Z, _ => by simp at Z
 | h :: H, hl, 0, j, Z, hj => by
   have X := hl h (by simp);unfold cSt;rw [List.flatMap_cons, List.getElem?_append_left (by simp; omega)];simp
 | h :: H, hl, i + 1, j, Z, hj => by
   have X := hl h (by simp);have Y := cSg H (fun x hx => hl x (by simp [hx])) i j (by simp at Z; omega) hj;unfold cSt at Y ⊢;rw [List.flatMap_cons, List.getElem?_append_right (by simp; omega), List.getElem_cons_succ];rw [<- Y];congr 1;simp;omega
theorem lsx {l : List Int} (h : l.length = 6) : ∃ a b c d e f, l = [a, b, c, d, e, f] := by
 match l, h with
 | [a, b, c, d, e, f], _ => exact ⟨a, b, c, d, e, f, rfl⟩
theorem RdSt.cells {w : World} {v : Value} {H : List StepQ} (h : RdSt w v H) {i : Nat} (Q : i < H.length) : ∃ (b o c : Nat) (x0 x1 x2 Y X V : Int) (U : Bool), v = .slice (some ⟨b, o, none⟩) H.length c /\ b < w.heap.size /\ H[i] = ([x0, x1, x2, Y, X, V], U) /\ (∀ x ∈ [x0, x1, x2, Y, X, V], -128 <= x /\ x <= 127) /\
 w.cell? ⟨b, o + i * 7, none⟩ = some (.int .i8 x0) /\ w.cell? ⟨b, o + i * 7 + 1, none⟩ = some (.int .i8 x1) /\ w.cell? ⟨b, o + i * 7 + 2, none⟩ = some (.int .i8 x2) /\ w.cell? ⟨b, o + i * 7 + 3, none⟩ = some (.int .i8 Y) /\ w.cell? ⟨b, o + i * 7 + 4, none⟩ = some (.int .i8 X) /\ w.cell? ⟨b, o + i * 7 + 5, none⟩ = some (.int .i8 V) /\ w.cell? ⟨b, o + i * 7 + 6, none⟩ = some (.bool U) := by
 obtain ⟨⟨p, c, rfl, K, J, I, O⟩, S⟩ := h;obtain ⟨b, o, rfl, L⟩ := O (List.ne_nil_of_length_pos (by omega));obtain ⟨N, M⟩ := S H[i] (List.getElem_mem Q);obtain ⟨x0, x1, x2, Y, X, V, hx⟩ := lsx N;have Z : ∀ j u, j < 7 -> (([x0, x1, x2, Y, X, V].map (fun x => Value.int .i8 x) ++ [Value.bool H[i].2])[j]? = some u) -> w.cell? ⟨b, o + i * 7 + j, none⟩ = some u := fun j u hj hu => by
  have R := cSg H (fun h hh => (S h hh).1) i j Q hj;rw [hx] at R;have := L (i * 7 + j) u (by rw [R]; exact hu);rw [<- Nat.add_assoc] at this;exact this
 refine ⟨b, o, c, x0, x1, x2, Y, X, V, H[i].2, rfl, World.block_lt_of_cell? w _ (Z 0 _ (by omega) rfl), Prod.ext hx rfl, ?_, Z 0 _ (by omega) rfl, Z 1 _ (by omega) rfl, Z 2 _ (by omega) rfl, Z 3 _ (by omega) rfl, Z 4 _ (by omega) rfl, Z 5 _ (by omega) rfl, Z 6 _ (by omega) rfl⟩;rw [<- hx];exact M
theorem Fr.abs {d B : Nat} {q : Rat} (h : Fr d B q) : Fr d B q.abs := by
 unfold Rat.abs;split
 ·exact h
 ·obtain ⟨n, Z, Y⟩ := h
  exact ⟨-n, by rw [Rat.neg_mul, Z]; simp, by omega⟩
theorem fsp (n : Nat) (h : StepQ) : ∀ q ∈ stepF n h, Fr 2 38 q := fun q hq => by
 unfold stepF at hq;obtain ⟨x, hx, rfl⟩ := List.mem_map.1 hq;exact (fht _ _ _ x hx).abs
theorem ftp (n : Nat) (B : List Rat) (H : List StepQ) (Z : ∀ q ∈ B, Fr 2 38 q) : ∀ i, ∀ q ∈ topTo n B H i, Fr 2 (38 * (i + 1)) q
 | 0, q, hq => Z q hq
 | i + 1, q, hq => by
   unfold topTo at hq;obtain ⟨j, Y, rfl⟩ := List.getElem_of_mem hq;rw [List.getElem_zipWith];rw [List.length_zipWith] at Y;exact ((ftp n B H Z i _ (List.getElem_mem (by omega))).add (fsp n _ _ (List.getElem_mem (by omega)))).mono (by omega)
theorem s3o {q : Rat} (h : Fr 2 200 q) : Sz 3 q := by
 obtain ⟨n, Z, Y⟩ := h;exact sod (n := 2) (m := n) (by decide) (by omega) (by decide) (by rw [<- Z]; rfl)
theorem oo2 (w : World) (base t : Nat) (v : Value) (Z : base <= w.heap.size) : (w.alloc (.cells #[v] t)).ownsRow base t 1 (.slice (some ⟨w.heap.size, 0, none⟩) 1 1) 1 [v] := by
 refine ⟨by simp, .inr ⟨w.heap.size, 1, #[v], rfl, Z, ?_, Nat.le_refl _, by unfold maxLen; omega, by simp, by simp⟩⟩;exact BoxN.new w #[v] t w.heap.size rfl
theorem bKf {w : World} {b c t i : Nat} {l : List Value} {v : Value} (h : BoxN w b t l) (Z : b ≠ c) : BoxN (w.setCell ⟨c, i, none⟩ v) b t l :=
 (Below.heap_setCell _ _ _ b (fun e => Z e)).trans h
theorem RdC.set5m {sz : Nat} {w : World} {b1 b2 t1 t2 n : Nat} {v : Value} {cs : List Value} (U : BoxN w b1 t1 [.slice none 0 0, .slice none 0 0]) (J : BoxN w b2 t2 [.slice none 0 0, .slice none 0 0, .slice none 0 0]) (Y : b2 ≠ b1) (h : RdC sz w v n cs) (Z : ∀ y ∈ cs, y ≠ .slice none 0 0) (x0 x1 X V Q : Value) :
 RdC sz (((((w.setCell ⟨b1, 0, none⟩ x0).setCell ⟨b1, 1, none⟩ x1).setCell ⟨b2, 0, none⟩ X).setCell ⟨b2, 1, none⟩ V).setCell ⟨b2, 2, none⟩ Q).drew v n cs := by
 have O := RdC.set_other h (U.cell 0 rfl) Z (x := x0);have H := U.set 0 x0;have N := RdC.set_other O (H.cell 1 rfl) Z (x := x1);have S := bKf (i := 1) (v := x1) (bKf (i := 0) (v := x0) J Y) Y;have M := RdC.set_other N (S.cell 0 rfl) Z (x := X);have R := S.set 0 X;have L := RdC.set_other M (R.cell 1 rfl) Z (x := V);have I := R.set 1 V;have K := RdC.set_other L (I.cell 2 rfl) Z (x := Q);exact K.drewN 1
theorem iSg : (Tryz.prog.info? 9).map (fun i => (i.zero, i.size, i.bytes)) = some (some (.string ⟨#[]⟩), 1, 16) := by kernel_rfl
theorem iFd : (Tryz.prog.info? 33).map (fun i => (i.zero, i.size, i.bytes)) = some (some (.slice none 0 0), 1, 24) := by kernel_rfl
theorem m2a (w : World) (kz s0 s1 : Int) (I : Bool) (k : Nat) (hk : kz.tmod 8 = (k : Int)) (xa : 0 <= kz) (yg : kz <= 255) (xc : -128 <= s0 /\ s0 <= 127) (zy : -128 <= s1 /\ s1 <= 127) (a0 a1 a2 a3 a4 a5 : Int) (ah : Bool) (ha : ∀ x ∈ [a0, a1, a2, a3, a4, a5], -128 <= x /\ x <= 127) (vh : Value) (H : List StepQ) (hH : RdSt w vh H) (yT : H.length <= 3) (P : List PtQ) (hP : P = sb0 k s0 s1 I) (B : List Rat) (hB : B = hFF [a0, a1, a2, a3, a4, a5] ah P.length) (hg : Good w) :
 Calls Tryz.prog 9 #[.agg #[.int .u8 kz, .int .i8 s0, .int .i8 s1, .bool I, .int .i8 a0, .int .i8 a1, .int .i8 a2, .int .i8 a3, .int .i8 a4, .int .i8 a5, .bool ah, vh]] w (Ret (fun r w' => ∃ vp vt vb vu vs, r = .tuple #[.agg #[vp, vt], .agg #[vb, vu, vs]] /\ RdP w' vp (strP P) /\ RdT w' vt (sTT k) /\ RdQ w' vb B /\ RdS w' vu (uTo (H.length + 1)) /\ FlsV 33 w' w.heap.size vs (sTo P.length B H H.length)) w) := by
 have y8 : P.length <= 6 := by rw [hP, sc0]; exact se0 k
 have zI : Hid (∀ w, Good w -> Calls Tryz.prog 35 #[.agg #[.int .u8 kz, .int .i8 s0, .int .i8 s1, .bool I]] w (Ret (fun r w' => ∃ vp vt, r = .agg #[vp, vt] /\ RdP w' vp (strP P) /\ RdT w' vt (sTT k)) w)) := fun w hg => by rw [hP]; exact md0 w kz s0 s1 I k hk xa yg xc zy hg
 have yD : Hid (∀ (w : World) (pp : Option Addr) (g : Nat) (vt : Value), Good w -> Calls Tryz.prog 10 #[.agg #[.slice pp P.length g, vt], .agg #[.int .i8 a0, .int .i8 a1, .int .i8 a2, .int .i8 a3, .int .i8 a4, .int .i8 a5, .bool ah]] w (Ret (fun r w' => RdQ w' r B /\ FreshV w.heap.size r) w)) := fun w pp g vt hg => by rw [hB]; exact m1a w pp P.length g vt a0 a1 a2 a3 a4 a5 ah ha y8 hg
 have yA : Hid (∀ q ∈ B, Fr 2 38 q) := by unfold Hid; rw [hB]; exact fht _ _ _
 have zn : Hid (B.length = P.length) := by unfold Hid; rw [hB, he0]
 have HH := hid hH;obtain ⟨ph, ch, rfl, x6, x7, -⟩ := hH.1;unfold maxLen at x7;have HP := hid hP;clear hH hP hB ha hk;obtain ⟨n, hn⟩ := zex (H.length);have HN := hid hn;rw [<- hn] at x6 yT ⊢;clear hn;obtain ⟨i0, hi, xm, xn, xo⟩ := info_parts isr;go_enter Tryz.func9, Tryz.ntmps9;go_upto_region 1 with fail;obtain ⟨W, hW⟩ := zex (((w.alloc (.cells #[.int .u8 kz, .int .i8 s0, .int .i8 s1, .bool I, .int .i8 a0, .int .i8 a1, .int .i8 a2, .int .i8 a3, .int .i8 a4, .int .i8 a5, .bool ah, .slice ph n ch] 31)).alloc (.cells #[.slice none 0 0, .slice none 0 0] 41)).alloc (.cells #[.slice none 0 0, .slice none 0 0, .slice none 0 0] 45));have hB : Below w.heap.size w W := by rw [hW]; exact (((Below.refl _ _).alloc (Nat.le_refl _) _).alloc (by simp) _).alloc (by simp; omega) _
 have bx : BoxN W w.heap.size 31 [.int .u8 kz, .int .i8 s0, .int .i8 s1, .bool I, .int .i8 a0, .int .i8 a1, .int .i8 a2, .int .i8 a3, .int .i8 a4, .int .i8 a5, .bool ah, .slice ph n ch] := by
  rw [hW];have h1 := BoxN.new w #[.int .u8 kz, .int .i8 s0, .int .i8 s1, .bool I, .int .i8 a0, .int .i8 a1, .int .i8 a2, .int .i8 a3, .int .i8 a4, .int .i8 a5, .bool ah, .slice ph n ch] 31 _ rfl;exact (h1.below ((Below.refl _ _).alloc (Nat.le_refl _) _) h1.lt).below ((Below.refl _ _).alloc (Nat.le_refl _) _) (by simp; omega)
 have bm : BoxN W (w.heap.size + 1) 41 [.slice none 0 0, .slice none 0 0] := by
  rw [hW];have h1 := BoxN.new (w.alloc (.cells #[.int .u8 kz, .int .i8 s0, .int .i8 s1, .bool I, .int .i8 a0, .int .i8 a1, .int .i8 a2, .int .i8 a3, .int .i8 a4, .int .i8 a5, .bool ah, .slice ph n ch] 31)) #[.slice none 0 0, .slice none 0 0] 41 (w.heap.size + 1) (by simp);exact h1.below (zal _ _) h1.lt
 have bd : BoxN W (w.heap.size + 2) 45 [.slice none 0 0, .slice none 0 0, .slice none 0 0] := by rw [hW]; exact BoxN.new _ _ _ _ (by simp)
 have xH : W.heap.size = w.heap.size + 3 := by rw [hW]; simp
 rw [<- hW];clear hW;obtain ⟨k0, k1, k2, k3⟩ := zk4 bx;go_wp2_with fail;refine (zI.out W (hg.below hB)).mono ?_;rintro e o2 ⟨_, rfl, ⟨vp, vt, rfl, hp, ht⟩, hE⟩;have yR := zbt hB hE;replace bx := bx.bl hE;replace bm := bm.bl hE;replace bd := bd.bl hE;have xA := bd.lt;obtain ⟨pp, g, rfl, -, -, -⟩ := hp.open;obtain ⟨pt, ct, rfl, -, -, -⟩ := ht.open;rw [sPl] at *;clear k0 k1 k2 k3 zI;go_upto_region 2 with fail;obtain ⟨o3, z1⟩ : ∃ W, W = o2.alloc (.cells #[.slice pp P.length g, .slice pt (sTT k).length ct] 41) := ⟨_, rfl⟩;have h7 : Below o2.heap.size o2 o3 := by rw [z1]; exact zal _ _
 have b5 : BoxN o3 o2.heap.size 41 [.slice pp P.length g, .slice pt (sTT k).length ct] := by rw [z1]; exact BoxN.new _ _ _ _ rfl
 have zV := zbt yR h7;replace bx := bx.bl h7;replace bm := bm.bl h7;replace bd := bd.bl h7;have zx := RdC.below hp h7;have zz := RdC.below ht h7;rw [<- z1];clear z1 hp ht h7 hE;obtain ⟨m0, m1⟩ := zk2 b5;have k4 := bx.cell 4 rfl;have k5 := bx.cell 5 rfl;have k6 := bx.cell 6 rfl;have k7 := bx.cell 7 rfl;have k8 := bx.cell 8 rfl;have k9 := bx.cell 9 rfl;have xr := bx.cell 10 rfl;go_wp2_with fail;refine (yD.out o3 _ _ _ (hg.below zV)).mono ?_;rintro e U ⟨_, rfl, ⟨yn, -⟩, f⟩;have hT := zbt zV f;replace bx := bx.bl f;replace bm := bm.bl f;replace bd := bd.bl f;replace b5 := b5.bl f;replace zx := RdC.below zx f;replace zz := RdC.below zz f;obtain ⟨pb, cb, rfl, -, -, -⟩ := yn.open;rw [zn.out];clear m0 m1 k4 k5 k6 k7 k8 k9 xr f;go_upto_region 3 with fail;obtain ⟨V, hV⟩ := zex ((U.alloc (.cells #[.string ⟨#[117, 49]⟩] 9)).alloc (.cells #[.slice pb P.length cb, .slice (some ⟨U.heap.size, 0, none⟩) 1 1, .slice none 0 0] 45));have zq : Below U.heap.size U V := by rw [hV]; exact zal2 _ _ _
 have yx : V.ownsRow U.heap.size 9 1 (.slice (some ⟨U.heap.size, 0, none⟩) 1 1) 1 ((uTo 1).map fun x => Value.string x) := by
  rw [hV];exact WRA (oo2 U U.heap.size 9 (.string ⟨#[117, 49]⟩) (Nat.le_refl _)) ((Below.refl _ _).alloc (Nat.le_refl _) _)
 have bD : BoxN V (U.heap.size + 1) 45 [.slice pb P.length cb, .slice (some ⟨U.heap.size, 0, none⟩) 1 1, .slice none 0 0] := by rw [hV]; exact BoxN.new _ _ _ _ (by simp)
 have xG : V.heap.size = U.heap.size + 2 := by rw [hV]; simp
 rw [<- hV];clear hV;have xF := zbt hT zq;have e0 := bD.cell 0 rfl;have zG := hid bx;have zF := hid b5;have zM : Hid (RdQ U (.slice pb P.length cb) B) := by unfold Hid; rw [<- zn.out]; exact yn
 have zS := hid (tTl P.length B H zn.out);go_wp2_with fail;go_loopw [6, 7] (fun t6 t7 wr => ∃ (i : Nat) (zD : Option Addr) (c6 : Nat) (vu vs : Value), t7 = .int .i64 i /\ i <= n /\ t6 = .slice zD P.length c6 /\ RdQ wr t6 (topTo P.length B H i) /\ wr.ownsRow U.heap.size 9 1 vu (i + 1) ((uTo (i + 1)).map fun x => Value.string x) /\ FlsV 33 wr U.heap.size vs (sTo P.length B H i) /\ BoxN wr (U.heap.size + 1) 45 [.slice pb P.length cb, vu, vs] /\ Below U.heap.size U wr /\ V.heap.size <= wr.heap.size) (fun _ t7 _ => n - (RowKit.intOf t7).toNat)
 case atStart => exact ⟨0, _, _, _, _, rfl, Nat.zero_le _, rfl, by exact RdC.below zM.out zq, yx, FlsV.nil _ _ _, bD, zq, Nat.le_refl _⟩
 case round =>
  obtain ⟨i, zD, c6, vu, vs, rfl, xK, rfl, yl, hO, z2, zt, z, xU⟩ := hrel;obtain ⟨pu, cu, rfl⟩ := oRs hO;obtain ⟨ps, cs, rfl⟩ := z2.shape;have A := zbt hT z;have zo := zG.out.below z zG.out.lt;have c5 := zF.out.below z zF.out.lt;have zC := zo.cell 11 rfl;obtain ⟨m0, m1⟩ := zk2 c5;rcases Nat.lt_or_ge i n with h | h
  ·have xL : (i : Int) < (n : Int) := by omega
   have xJ : (i : Int) < 3 := by omega
   have yh : i < H.length := by have := HN.out; omega
   obtain ⟨bh, oh, xD, x0, x1, x2, x3, x4, x5, hf, ev, d, y7, yb, y0, y1, y2, y3, y4, y5, y6⟩ := HH.out.cells yh;rw [<- HN.out] at ev;injection ev with ev1 zp ev3
   clear zp;subst ev1 ev3;replace y0 := (zcq A d y0 :);replace y1 := (zcq A d y1 :);replace y2 := (zcq A d y2 :);replace y3 := (zcq A d y3 :);replace y4 := (zcq A d y4 :);replace y5 := (zcq A d y5 :);replace y6 := (zcq A d y6 :);have zJ := hid fun w hg => m1a w pp P.length g (.slice pt (sTT k).length ct) x0 x1 x2 x3 x4 x5 hf yb y8 hg;have zL : Hid (∀ (w : World) (v : Value), RdQ w v (hFF [x0, x1, x2, x3, x4, x5] hf P.length) -> _) := fun w v hr => pb0 w v _ hr (by rw [he0]; omega) (fun q hq => Nat.le_trans (((hSz [x0, x1, x2, x3, x4, x5] hf P.length) q hq).size (by omega)) (by omega))
   have zQ : Hid ((hFF [x0, x1, x2, x3, x4, x5] hf P.length).map Rat.abs = stepF P.length (H[i]?.getD ([], false))) := by unfold Hid stepF; rw [List.getElem?_eq_getElem yh, y7]; rfl
   have zv : Good wr.drew := (hg.below A).drewN 1;have yg := zo.lt;have xO := c5.lt;have xP : bh < wr.heap.size := Nat.lt_of_lt_of_le d A.size;clear y7 yb;go_upto_region 7 with fail;go_region_held3 (fun w' => w'.cell? ⟨o2.heap.size, 0, none⟩ = some (.slice pp P.length g) /\ w'.cell? ⟨o2.heap.size, 1, none⟩ = some (.slice pt (sTT k).length ct) /\ w'.cell? ⟨w.heap.size, 11, none⟩ = some (.slice (some ⟨bh, oh, none⟩) n ch) /\ w'.cell? ⟨bh, oh + i * 7, none⟩ = some (.int .i8 x0) /\ w'.cell? ⟨bh, oh + i * 7 + 1, none⟩ = some (.int .i8 x1) /\ w'.cell? ⟨bh, oh + i * 7 + 2, none⟩ = some (.int .i8 x2) /\ w'.cell? ⟨bh, oh + i * 7 + 3, none⟩ = some (.int .i8 x3) /\ w'.cell? ⟨bh, oh + i * 7 + 4, none⟩ = some (.int .i8 x4) /\ w'.cell? ⟨bh, oh + i * 7 + 5, none⟩ = some (.int .i8 x5) /\ w'.cell? ⟨bh, oh + i * 7 + 6, none⟩ = some (.bool hf))
    (first | exact ⟨m0, m1, zC, y0, y1, y2, y3, y4, y5, y6⟩ | exact ⟨p_1_0, p_1_1, p_1_2, p_1_3, p_1_4, p_1_5, p_1_6, p_1_7, p_1_8, p_1_9⟩ | exact ⟨p_2_0, p_2_1, p_2_2, p_2_3, p_2_4, p_2_5, p_2_6, p_2_7, p_2_8, p_2_9⟩)
    (first
    | (go_at_call 38; refine (zL.out _ _ zO.out).mono ?_; rintro e R ⟨vP, rfl, yo, L⟩
       have p_2_0 := zct L p_1_0;have p_2_1 := zct L p_1_1;have p_2_2 := zct L p_1_2;have p_2_3 := zct L p_1_3;have p_2_4 := zct L p_1_4;have p_2_5 := zct L p_1_5;have p_2_6 := zct L p_1_6;have p_2_7 := zct L p_1_7;have p_2_8 := zct L p_1_8;have p_2_9 := zct L p_1_9;have xv := L.size;have xt := yy.below L;have zN := hid yo)
    | (go_at_call 10; refine (zJ.out _ zv).mono ?_; rintro e xw ⟨_, rfl, ⟨yp, _⟩, M⟩
       have p_1_0 := zct M m0;have p_1_1 := zct M m1;have p_1_2 := zct M zC;have p_1_3 := zct M y0;have p_1_4 := zct M y1;have p_1_5 := zct M y2;have p_1_6 := zct M y3;have p_1_7 := zct M y4;have p_1_8 := zct M y5;have p_1_9 := zct M y6;have xu : wr.heap.size <= xw.heap.size := M.size;have yy := zv.below M;have zO := hid yp))
   have pB : Below wr.heap.size wr R := zbt (zbt (bdN wr 1) M) L;have hF : Below U.heap.size U R := zbt z pB;have z6 := zbt hT hF;have zg := WRA hO pB;have yi := z2.below pB;have z7 := zt.bl pB;have zk : RdQ R (.slice zD P.length c6) (topTo P.length B H i) := RdC.below yl pB;have xT : wr.heap.size <= R.heap.size := pB.size;have ho : RdQ R vP (stepF P.length (H[i]?.getD ([], false))) := by rw [<- zQ.out]; exact zN.out.rd
   have yq := sFl P.length (H[i]?.getD ([], false));have zl := sFl P.length (H[i]?.getD ([], false));obtain ⟨pf, cf, rfl, -, -, -⟩ := ho.open;rw [yq] at ho ⊢;clear pB M L xu xv yy xt zv yp yo zO zN zJ zL zQ hO z2 zt yl m0 m1 zC y0 y1 y2 y3 y4 y5 y6 p_1_0 p_1_1 p_1_2 p_1_3 p_1_4 p_1_5 p_1_6 p_1_7 p_1_8 p_1_9 p_2_0 p_2_1 p_2_2 p_2_3 p_2_4 p_2_5 p_2_6 p_2_7 p_2_8 p_2_9;have zb : ∀ j (t : j < (topTo P.length B H i).length), Sz 3 (topTo P.length B H i)[j] := fun j t => s3o ((ftp P.length B H yA.out i _ (List.getElem_mem t)).mono (by omega))
   have za : ∀ j (t : j < (stepF P.length (H[i]?.getD ([], false))).length), Sz 3 (stepF P.length (H[i]?.getD ([], false)))[j] := fun j t => s3o ((fsp P.length _ _ (List.getElem_mem t)).mono (by omega))
   have yC := hid zb;have yB := hid za;have yr := zS.out i;have zK : Hid (topTo P.length B H (i + 1) = List.zipWith (·+ ·) (topTo P.length B H i) (stepF P.length (H[i]?.getD ([], false)))) := rfl;have hA := hid (zS.out (i + 1));have yH := hid (sTn P.length B H i);have hw := hid (sTl P.length B H i);generalize hZ : topTo P.length B H (i + 1) = Z at *;have yK := hid hZ;clear hZ;generalize topTo P.length B H i = top at *;generalize stepF P.length (H[i]?.getD ([], false)) = st at *;generalize y9 : sTo P.length B H (i + 1) = SZ at *;have yG := hid y9;clear y9;generalize sTo P.length B H i = SF at *;have yF := hid zk;have zP := hid ho;clear zb za yq;have z5 := hid yr;have z4 := hid zl;clear yr zl zk ho;obtain ⟨wa, xl⟩ : ∃ x, x = wr := ⟨_, rfl⟩;subst xl;go_wp2_with fail;obtain ⟨X, hX⟩ := zex (R.alloc (.cells #[] 55));have yS : Below R.heap.size R X := by rw [hX]; exact zal _ _
   have yP : X.ownsRow R.heap.size 55 1 (.slice (some ⟨R.heap.size, 0, none⟩) 0 0) 0 ([] : List Value) := by
    rw [hX];have := World.ownsRow_lit (base := R.heap.size) (e := 55) (size := 1) R #[] 0 (by simp) (by decide) rfl;simpa using this
   rw [<- hX];clear hX;go_loopw [9, 10] (fun t9 t10 wr => ∃ (j : Nat), t10 = .int .i64 j /\ j <= P.length /\ wr.ownsRow R.heap.size 55 1 t9 j (cFd (Z.take j)) /\ Below R.heap.size R wr) (fun _ t10 _ => P.length - (RowKit.intOf t10).toNat)
   case atStart => exact ⟨0, rfl, Nat.zero_le _, yP, yS⟩
   case round =>
    obtain ⟨j, rfl, xM, h3, c⟩ := hrel;obtain ⟨p9, c9, rfl⟩ := oRs h3;rcases Nat.lt_or_ge j P.length with t | t
    ·obtain ⟨b6, o6, xC, ev, yW, ye⟩ := yF.out.cells (by have := z5.out; omega)
     obtain ⟨bs, os, xE, zp, yZ, yf⟩ := zP.out.cells (by have := z4.out; omega);injection ev with ev1 ev2' ev3
     injection zp with ev4 ev5 ev6
     clear ev2' ev5;subst ev1 ev3 ev4 ev6;have z0 : j < top.length := by have := z5.out; omega
     have hY : j < st.length := by have := z4.out; omega
     have l1 := ye j z0;have u1 := yf j hY;rw [hh0 top j z0] at l1;rw [hh0 st j hY] at u1;have yI : Hid (Z.take (j + 1) = Z.take j ++ [top[j] + st[j]]) := by
      unfold Hid;have hz : j < Z.length := by have := hA.out; omega
      rw [List.take_succ_eq_append_getElem hz];congr 2;have e : Z[j]? = (List.zipWith (·+ ·) top st)[j]? := by rw [zK.out]
      rw [List.getElem?_eq_getElem hz, List.getElem?_eq_getElem (by rw [List.length_zipWith]; omega), List.getElem_zipWith] at e;exact Option.some.inj e
     have zE := hid fun w hg => rAa top[j] st[j] 3 (by decide) (by decide) (yC.out j z0) (yB.out j hY) w hg
     generalize top[j] = l at *;generalize st[j] = u at *;have xN : (j : Int) < (P.length : Int) := by omega
     have zH : Hid (∀ w', Below R.heap.size R w' -> Good w') := fun w' hb => hg.below (z6.trans (hb.mono z6.size));have hv : Hid (∀ w', Below R.heap.size R w' -> w'.cell? ⟨b6, o6 + j, none⟩ = some (.string (RS l)) /\ w'.cell? ⟨bs, os + j, none⟩ = some (.string (RS u))) := fun w' hb => ⟨(zcq hb yW l1 :), (zcq hb yZ u1 :)⟩;have z3 : Below R.heap.size R wr.drew := c.trans ((bdN wr 1).mono c.size);have zU : Below wr.heap.size wr wr.drew := bdN wr 1;have zm := WRA h3 zU;have xq := c.size;clear h3 l1 u1 ye yf z0 hY;go_upto_region 12 with fail;refine AnyL.region (S := Till 11 (fun w' => w'.cell? ⟨b6, o6 + j, none⟩ = some (.string (RS l)) /\ w'.cell? ⟨bs, os + j, none⟩ = some (.string (RS u))) (fun _ => True)) (by kernel_rfl) ?_;have Y : Till 11 (fun w' => w'.cell? ⟨b6, o6 + j, none⟩ = some (.string (RS l)) /\ w'.cell? ⟨bs, os + j, none⟩ = some (.string (RS u))) (fun _ => True) (Array.replicate 13 false) _ := ⟨hv.out _ z3, fun _ => trivial⟩;refine zlk 0 Y ?_;try simp only [Act.put]
     refine zlk 1 Y ?_;try simp only [Act.put]
     refine zlk 2 Y ?_;try simp only [Act.put]
     refine zlk 3 Y ?_;try simp only [Act.put]
     refine zlk 4 Y ?_;try simp only [Act.put]
     refine zlk 5 Y ?_;try simp only [Act.put]
     refine zlk 6 Y ?_;try simp only [Act.put]
     refine zlk 7 Y ?_;try simp only [Act.put]
     refine zlk 8 Y ?_;try simp only [Act.put]
     refine AnyL.one (i := 9) (o := _) (by kernel_rfl) rfl (fun K hK => ?_);go_simp
     (refine (zE.out _ (zH.out _ z3)).mono ?_; rintro e y1 ⟨_, rfl, rfl, hs⟩; have h4 := zbt z3 hs; have hS := WRA zm hs)
     refine hK.out _ _ ⟨hv.out _ h4, fun hk => trivial⟩ (fun Y => ?_);clear hK K;try simp only [Act.put]
     refine AnyL.one (i := 10) (o := _) (by kernel_rfl) rfl (fun K hK => ?_);go_simp;refine hK.out _ _ ⟨hv.out _ (h4.alloc h4.size _), fun hk => trivial⟩ (fun Y => ?_);clear hK K;try simp only [Act.put]
     refine AnyL.one (i := 11) (o := _) (by kernel_rfl) rfl (fun K hK => ?_)
     (rw [if_pos (by simp [Region.wanted])]; refine wp_append_own _ (.tmp 48) (.tmp 58) 33 (by rfl) R.heap.size 55 i0 (.string ⟨#[]⟩) 1 16 Tryz.underlying33 hi xm xn xo rfl (by decide) _ _ _ (by simp [Act.eval]) (hS.alloc _) ⟨y1.heap.size, 0, none⟩ 1 1 [.string (RS (l + u))] (by simp [Act.eval]) rfl (cos _ _ _) (ocs _) (by unfold maxLen; omega) (by omega) (by have := h4.size; simp; omega) ?_; intro v8 w8 hd zc _; have ym := (h4.alloc h4.size (.cells #[.string (RS (l + u))] 55)).grown zc (by have := h4.size; simp; omega) (fun j t => by have := (hS.lt j t).1; omega))
     refine hK.out _ _ ⟨hv.out _ ym, fun hk => trivial⟩ (fun Y => ?_);clear hK K;try simp only [Act.put]
     refine AnyL.take (i := 12) (oi := _) (v := ?_) rfl (by kernel_rfl) (by kernel_rfl) (by kernel_rfl) (by decide) (fun _ _ _ h => h) (Or.inl ⟨by rfl, ?_⟩) ⟨Y.1, fun hk => (by simp at hk)⟩ ?_;rotate_left
     ·intro w yV; (try dsimp only at yV); first | (go_simp; done) | (go_simp; with_reducible rfl)
     try simp only [Act.put]
     refine AnyL.done (by kernel_rfl) ?_ _;have zw : w8.ownsRow R.heap.size 55 1 v8 (j + 1) (cFd (Z.take (j + 1))) := by
      rw [yI.out];unfold cFd at hd ⊢;rw [List.map_append];exact hd
     clear zm hS zc hs h4 z3 hv zE zH zU hd;go_wp2_with fail;go_roundw
     case rel => exact ⟨j + 1, by go_num, by omega, zw, ym⟩
     case measure => simp [RowKit.intOf]; omega
    ·obtain rfl : j = P.length := by omega
     have xq := c.size;have zu : U.heap.size <= R.heap.size := hF.size;have zX : FldV wr U.heap.size (.slice p9 P.length c9) Z := by
      have h1 := h3;rw [List.take_of_length_le (by have := hA.out; omega)] at h1;have h2 : FldV wr R.heap.size (.slice p9 P.length c9) Z := by unfold FldV; rw [hA.out]; exact h1
      exact h2.base zu
     obtain ⟨us, zA, zB, yt⟩ := yi.below c;have zh := WRA zg c;have E := z7.bl c;have hG := zbt hF c;have d1 := E.cell 1 rfl;have d2 := E.cell 2 rfl;have f1 := E.frozen 1;have f2 := E.frozen 2;obtain ⟨j0, t, yu, hs, h5⟩ := info_parts iFd;rw [hw.out] at zA zB E d2;try rw [hw.out]
     clear h3 zg z7;have C := zB.alloc (.cells #[.slice p9 P.length c9] 33);have hc := zh.alloc (.cells #[.slice p9 P.length c9] 33);have hh : (wr.alloc (.cells #[.slice p9 P.length c9] 33)).ownsRow U.heap.size 55 1 (.slice p9 P.length c9) Z.length (cFd Z) := World.ownsRow.alloc zX _;have h8 := E.alloc (.cells #[.slice p9 P.length c9] 33);have hJ := hG.alloc hG.size (.cells #[.slice p9 P.length c9] 33);have yv := obN C h8 (by decide);have zT := oat hc C (by decide);have hC := oat hh C (by decide);have xz := hG.size;clear zo c5 E zX zh
     go_upto_region 14 with (at_builtin; refine wpList_append_own _ rfl _ _ 43 rfl U.heap.size 33 j0 (.slice none 0 0) 1 24 Tryz.underlying43 t yu hs h5 rfl (by decide) _ _ _ rfl C ⟨wr.heap.size, 0, none⟩ 1 1 [.slice p9 P.length c9] rfl rfl (cell_one_new _ _ _) (by intro u hu; simp at hu; subst hu; rfl) (by unfold maxLen; omega) (by omega) (by simp; omega) ?_
                             intro v3 w3 hR Q _;have z8 : Below U.heap.size U w3 := hJ.grown Q (by simp; omega) (fun j t => (C.lt j t).1);have hQ := World.ownsRow.kept hc Q zT;have N := h8.gb Q (fun e => yv e.symm);have zr := World.ownsRow.kept hh Q hC;have yL := N.cell 1 rfl;have yM := N.cell 2 rfl;have yN := N.frozen 1;have yO := N.frozen 2;obtain ⟨p3, c3, rfl⟩ := oRs hR)
     obtain ⟨y, hy⟩ := zex (w3.setCell ⟨U.heap.size + 1, 2, none⟩ (.slice p3 (i + 1) c3));have hU : w3.grownBy y (some (U.heap.size + 1)) := by rw [hy]; exact gst (grl w3 _) 2 _
     have hl : BoxN y (U.heap.size + 1) 45 [.slice pb P.length cb, .slice pu (i + 1) cu, .slice p3 (i + 1) c3] := by rw [hy]; exact N.set 2 _
     have hL : Below U.heap.size U y := by rw [hy]; exact z8.setCell (p := ⟨U.heap.size + 1, 2, none⟩) (by show U.heap.size <= U.heap.size + 1; omega) _
     have zi := World.ownsRow.kept hQ hU (.inr (fun e => obN hQ N (by decide) e.symm));have zY := World.ownsRow.kept zr hU (.inr (fun e => obN zr N (by decide) e.symm));have zd : FlsV 33 w3 U.heap.size (.slice p3 (i + 1) c3) SZ := by
      rw [yH.out];refine FlsV.snoc (us := us) (v := .slice ps i cs) (by decide) (by rw [zA, hw.out]) (by rw [hw.out]; exact C) (fun i u F a b => World.ownsRow.alloc (yt i u F a b) _) Q (by rw [hw.out]; exact hR) hh
     have ze := zd.kept hU (fun x e s n xs _ h => .inr (fun e' => obN h N (by rename_i he; rcases he with rfl | rfl <;> decide) e'.symm));rw [<- hy];have xS : U.heap.size <= y.heap.size := hL.size;have q1 := hl.cell 1 rfl;have xy := hl.frozen 1;clear hy hU zd hQ N zr z8 hR Q yL yM yN yO d1 d2 f1 f2 C hc hh h8 hJ yv zT hC zB yt zA t yu hs h5;obtain ⟨bv, yd⟩ := zex ((49 + (i + 1)).toUInt8 : UInt8);have yY : (bv.toNat : Int) = 50 + (i : Int) := by
      rw [yd];have : (49 + (i + 1)).toUInt8.toNat = 50 + i := by
       simp [Nat.toUInt8];omega
      rw [this]; omega
     have yE : Hid ((⟨#[117, bv]⟩ : ByteArray) = nameU (i + 1)) := by unfold Hid nameU; rw [yd]
     have yJ := hid (ua0 (i + 1));have xQ : IntKind.u8.wrap (i : Int) = (i : Int) := IntWalk.u8_in _ (by omega);have xR : IntKind.u8.wrap (50 + (i : Int)) = 50 + (i : Int) := IntWalk.u8_in _ (by omega);have x8 : (convert 90 9 (.slice (some ⟨y.heap.size, 0, none⟩) 2 2)).run Tryz.prog (y.alloc (.cells #[.int .u8 117, .int .u8 (50 + (i : Int))] 5)) = .ok (.string (nameU (i + 1))) (y.alloc (.cells #[.int .u8 117, .int .u8 (50 + (i : Int))] 5)) := by
      have h1 := run_convert_bytes_back (P := Tryz.prog) (y.alloc (.cells #[.int .u8 117, .int .u8 (50 + (i : Int))] 5)) 90 9 5 ⟨y.heap.size, 0, none⟩ 2 [117, bv] Tryz.underlying90 Tryz.underlying5 Tryz.underlying9 (fun j t => by
       have hb := BoxN.new y #[.int .u8 117, .int .u8 (50 + (i : Int))] 5 _ rfl
       match j, t with
       | 0, _ => exact hb.cell 0 rfl
       | 1, _ =>
         show _ = some (Value.int .u8 (bv.toNat : Int));rw [yY];exact hb.cell 1 rfl)
      rw [<- yE.out];exact h1
     generalize nameU (i + 1) = nm at *;have J := (zi.alloc (.cells #[.int .u8 117, .int .u8 (50 + (i : Int))] 5)).alloc (.cells #[.string nm] 9);obtain ⟨j1, x9, xi, xj, xk⟩ := info_parts iSg;have h9 := (hl.alloc (.cells #[.int .u8 117, .int .u8 (50 + (i : Int))] 5)).alloc (.cells #[.string nm] 9);have hM := (hL.alloc hL.size (.cells #[.int .u8 117, .int .u8 (50 + (i : Int))] 5)).alloc (by simp; omega) (.cells #[.string nm] 9);have hD := World.ownsRow.alloc (World.ownsRow.alloc zY (.cells #[.int .u8 117, .int .u8 (50 + (i : Int))] 5)) (.cells #[.string nm] 9);have hN := ze.below (((Below.refl _ _).alloc (Nat.le_refl _) (.cells #[.int .u8 117, .int .u8 (50 + (i : Int))] 5)).alloc (by simp) (.cells #[.string nm] 9));have yw := obN J h9 (by decide);have hC := oat hD J (by decide)
     go_upto_region 15 with (at_builtin; refine wpList_append_own _ rfl _ _ 42 rfl U.heap.size 9 j1 (.string ⟨#[]⟩) 1 16 Tryz.underlying42 x9 xi xj xk rfl (by decide) _ _ _ rfl J ⟨y.heap.size + 1, 0, none⟩ 1 1 [.string nm] rfl rfl (by intro j u hu; have := cell_one_new (y.alloc (.cells #[.int .u8 117, .int .u8 (50 + (i : Int))] 5)) (.string nm) 9 j u hu; simpa using this) (ocs _) (by unfold maxLen; omega) (by omega) (by simp; omega) ?_
                             intro v4 w4 hm O _;have z9 : Below U.heap.size U w4 := hM.grown O (by simp; omega) (fun j t => (J.lt j t).1);have D := h9.gb O (fun e => yw e.symm);have zs := World.ownsRow.kept hD O hC;have xx := D.cell 1 rfl;have yz := D.frozen 1;obtain ⟨p4, c4, rfl⟩ := oRs hm)
     obtain ⟨y2, h5⟩ := zex (w4.setCell ⟨U.heap.size + 1, 1, none⟩ (.slice p4 (i + 1 + 1) c4));have h0 : w4.grownBy y2 (some (U.heap.size + 1)) := by rw [h5]; exact gst (grl w4 _) 1 _
     have ya : BoxN y2 (U.heap.size + 1) 45 [.slice pb P.length cb, .slice p4 (i + 1 + 1) c4, .slice p3 (i + 1) c3] := by rw [h5]; exact D.set 1 _
     have yc : Below U.heap.size U y2 := by rw [h5]; exact z9.setCell (p := ⟨U.heap.size + 1, 1, none⟩) (by show U.heap.size <= U.heap.size + 1; omega) _
     have zj := World.ownsRow.kept hm h0 (.inr (fun e => obN hm D (by decide) e.symm));have zZ := World.ownsRow.kept zs h0 (.inr (fun e => obN zs D (by decide) e.symm));have zf := hN.kept O (fun x e s n xs he h => oat h J (by rcases he with rfl | rfl <;> decide));have yj := zf.kept h0 (fun x e s n xs he h => .inr (fun e' => obN h D (by rcases he with rfl | rfl <;> decide) e'.symm));have yU : RdQ y2 (.slice p9 P.length c9) Z := FldV.rd (B := U.heap.size) (by have h1 := zZ; exact h1);have yk : y2.ownsRow U.heap.size 9 1 (.slice p4 (i + 1 + 1) c4) (i + 1 + 1) ((uTo (i + 1 + 1)).map fun x => Value.string x) := by
      rw [yJ.out, List.map_append];exact zj
     have xp : V.heap.size <= y2.heap.size := by
      have h1 := h0.size;have h2 := O.size;simp at h2;omega
     rw [<- h5];clear h5 h0 zj zZ zf zs hm D O z9 xx yz J h9 hM hD hN yw hC zi zY ze hl q1 xy x8;go_wp2_with fail;go_roundw
     case rel => exact ⟨i + 1, p9, c9, _, _, by go_num, by omega, rfl, by rw [yK.out]; exact yU, yk, by rw [yG.out]; exact yj, ya, yc, xp⟩
     case measure => simp [RowKit.intOf]; omega
  ·obtain rfl : i = n := by omega
   have xI : ¬ (i : Int) < (i : Int) := by omega
   have h6 := bm.bl z;have m := bd.bl z;obtain ⟨g0, g1, g2⟩ := zk3 zt;obtain ⟨r0, r1⟩ := zk2 h6;obtain ⟨r2, r3, r4⟩ := zk3 m;have v5 := h6.frozen 0;have v6 := h6.frozen 1;have v7 := m.frozen 0;have v9 := m.frozen 1;have va := m.frozen 2;have xB := bd.lt;have xV : ¬ w.heap.size = U.heap.size := by omega
   have xW : ¬ w.heap.size + 1 = U.heap.size := by omega
   have xX : ¬ w.heap.size + 1 = o2.heap.size := by omega
   have xY : ¬ w.heap.size + 2 = o2.heap.size := by omega
   have xZ : ¬ w.heap.size + 1 + 1 = o2.heap.size := by omega
   have v0 : ¬ w.heap.size + 1 = U.heap.size + 1 := by omega
   have v1 : ¬ w.heap.size + 2 = U.heap.size + 1 := by omega
   have v2 : ¬ w.heap.size + 1 + 1 = U.heap.size + 1 := by omega
   go_upto_region 16 with fail;go_region;all_goals (go_wp2_with fail)
   have G : w.heap.size + 1 + 1 ≠ w.heap.size + 1 := by omega
   have xb := RdC.set5m h6 m G (RdC.below zx z) (by intro y hy e; rw [e] at hy; obtain ⟨x, -, hx⟩ := List.mem_flatMap.1 hy; simp at hx) (.slice pp P.length g) (.slice pt (sTT k).length ct) (.slice pb P.length cb) (.slice pu (i + 1) cu) (.slice ps (sTo P.length B H i).length cs);have xf := RdC.set5m h6 m G (RdC.below zz z) (by intro y hy e; rw [e] at hy; obtain ⟨x, -, hx⟩ := List.mem_flatMap.1 hy; simp at hx) (.slice pp P.length g) (.slice pt (sTT k).length ct) (.slice pb P.length cb) (.slice pu (i + 1) cu) (.slice ps (sTo P.length B H i).length cs);have yX := RdC.set5m h6 m G (RdC.below zM.out z) (by intro y hy e; rw [e] at hy; simp at hy) (.slice pp P.length g) (.slice pt (sTT k).length ct) (.slice pb P.length cb) (.slice pu (i + 1) cu) (.slice ps (sTo P.length B H i).length cs);have gA := gst (gst (grl wr (some (w.heap.size + 1))) 0 (.slice pp P.length g)) 1 (.slice pt (sTT k).length ct);have ys := World.ownsRow.kept hO gA (.inr (fun e => by have := (hO.lt _ e).1; omega));have zy := z2.kept gA (fun x e s n xs _ h => .inr (fun e => by have := (h.lt _ e).1; omega));have gB := gst (gst (gst (grl ((wr.setCell ⟨w.heap.size + 1, 0, none⟩ (.slice pp P.length g)).setCell ⟨w.heap.size + 1, 1, none⟩ (.slice pt (sTT k).length ct)) (some (w.heap.size + 1 + 1))) 0 (.slice pb P.length cb)) 1 (.slice pu (i + 1) cu)) 2 (.slice ps (sTo P.length B H i).length cs);have xg := World.ownsRow.kept ys gB (.inr (fun e => by have := (ys.lt _ e).1; omega));have xd := zy.kept gB (fun x e s n xs _ h => .inr (fun e => by have := (h.lt _ e).1; omega));have kA := bKf (i := 2) (v := .slice ps (sTo P.length B H i).length cs) (bKf (i := 1) (v := .slice pu (i + 1) cu) (bKf (i := 0) (v := .slice pb P.length cb) ((h6.set 0 (.slice pp P.length g)).set 1 (.slice pt (sTT k).length ct)) (Ne.symm G)) (Ne.symm G)) (Ne.symm G);have kB := (((bKf (i := 1) (v := .slice pt (sTT k).length ct) (bKf (i := 0) (v := .slice pp P.length g) m G) G).set 0 (.slice pb P.length cb)).set 1 (.slice pu (i + 1) cu)).set 2 (.slice ps (sTo P.length B H i).length cs);have zW := (((((A.setCell (p := ⟨w.heap.size + 1, 0, none⟩) (by show w.heap.size <= w.heap.size + 1; omega) (.slice pp P.length g)).setCell (p := ⟨w.heap.size + 1, 1, none⟩) (by show w.heap.size <= w.heap.size + 1; omega) (.slice pt (sTT k).length ct)).setCell (p := ⟨w.heap.size + 1 + 1, 0, none⟩) (by show w.heap.size <= w.heap.size + 1 + 1; omega) (.slice pb P.length cb)).setCell (p := ⟨w.heap.size + 1 + 1, 1, none⟩) (by show w.heap.size <= w.heap.size + 1 + 1; omega) (.slice pu (i + 1) cu)).setCell (p := ⟨w.heap.size + 1 + 1, 2, none⟩) (by show w.heap.size <= w.heap.size + 1 + 1; omega) (.slice ps (sTo P.length B H i).length cs));obtain ⟨t0, t1⟩ := zk2 kA;obtain ⟨t2, t3, t4⟩ := zk3 kB;have xh := (RdC.of_owns xg).drewN 1;have yQ : (uTo (i + 1)).length = i + 1 := by unfold uTo; simp
   have xe := (xd.below (bdN _ 1)).base hT.size;refine bodyPost_ret (v := .tuple #[.agg #[.slice pp P.length g, .slice pt (sTT k).length ct], .agg #[.slice pb P.length cb, .slice pu (i + 1) cu, .slice ps (sTo P.length B H i).length cs]]) (by simp [results, Tryz.results9, go_sem, t0, t1, t2, t3, t4]) rfl ⟨_, rfl, ⟨_, _, _, _, _, rfl, xb, xf, yX, by unfold RdS; rw [yQ]; exact xh, xe⟩, zW.trans ((bdN _ 1).mono zW.size)⟩
theorem fm0 (w : World) (O N M : Int) (Z : Bool) (a0 X V U S R : Int) (Q : Bool) (p : Option Addr) (n c : Nat) (L : n <= 9223372036854775807) :
 Calls Tryz.prog 8 #[.agg #[.int .u8 O, .int .i8 N, .int .i8 M, .bool Z, .int .i8 a0, .int .i8 X, .int .i8 V, .int .i8 U, .int .i8 S, .int .i8 R, .bool Q, .slice p n c]] w (Ret (fun r _ => r = .bool (decide (n <= 3))) w) := by
 have Y : Hid (decide ((n : Int) <= 3) = decide (n <= 3)) := decide_eq_decide.2 (by omega);generalize decide (n <= 3) = res at *;go_enter Tryz.func8, Tryz.ntmps8;go_wp2_with fail;go_ret;exact ⟨_, rfl, congrArg Value.bool Y.out, (Below.refl _ _).alloc (Nat.le_refl _) _⟩
theorem fa0 (w : World) (q : Rat) :
 Calls Tryz.prog 36 #[.string (RS q)] w (Ret (fun r w' => RdQ w' r [q, q, q, q]) w) := by
 generalize Z : RS q = s;have Y := hid Z;clear Z;go_enter Tryz.func36, Tryz.ntmps36;go_wp2_with fail;go_ret;exact ⟨_, rfl, RdQ.fresh w [q, q, q, q] 55 #[.string s, .string s, .string s, .string s] (by rw [<- Y.out]; rfl) (by simp) 4 rfl _ rfl, (Below.refl _ _).alloc (Nat.le_refl _) _⟩
theorem snl (a : Addr) (n c : Nat) (w : World) : (binOp BinOp.eql 42 (.slice (some a) n c) (.slice none 0 0)).run Tryz.prog w = .ok (.bool false) w := by kernel_rfl
theorem co0 (w : World) (I : Value) (L : List ByteArray) (h : RdS w I L) (V : L ≠ []) (v : L.length <= 1000000) :
 Calls Tryz.prog 82 #[I] w (Ret (fun r w' => w'.ownsRow w.heap.size 9 1 r L.length (L.map fun x => Value.string x)) w) := by
 obtain ⟨p, c, rfl, B, t, J⟩ := h.open;obtain ⟨b, off, rfl, y, X⟩ := J V;have C := List.length_pos_iff.2 V;obtain ⟨A, D, O, N, M⟩ := info_parts iSg;have G : Hid (∀ o, ∀ (j : Nat) (u : Value), (L.map fun x => Value.string x)[j]? = some u -> (w.alloc o).cell? ((⟨b, off, none⟩ : Addr).add j) = some u) := fun o j u hu => by
  rw [List.getElem?_map] at hu;rcases Nat.lt_or_ge j L.length with U | U
  ·rw [List.getElem?_eq_getElem U] at hu
   injection hu with hu
   subst hu;have S : (⟨b, off, none⟩ : Addr).add j = ⟨b, off + j, none⟩ := by unfold Addr.add; split <;> simp_all
   rw [S];exact cal o (X j U)
  ·rw [List.getElem?_eq_none U] at hu; cases hu
 have E : Hid (∀ u ∈ (L.map fun x => Value.string x), u.oneCell' = true) := fun u hu => by
  obtain ⟨q, _, rfl⟩ := List.mem_map.1 hu;rfl
 clear h J X V;have K := snl;go_enter Tryz.func82, Tryz.ntmps82
 go_wp2_with (at_builtin; refine wpList_append_own _ rfl _ _ 42 rfl w.heap.size 9 A (.string ⟨#[]⟩) 1 16 Tryz.underlying42 D O N M rfl (by decide) (.slice (some ⟨w.heap.size, 0, none⟩) 0 0) 0 [] rfl (World.ownsRow_made w #[] 0 (Nat.le_refl _) (by decide) rfl) ⟨b, off, none⟩ L.length c (L.map fun x => Value.string x) rfl (by simp) (G.out _) E.out (by unfold maxLen; omega) (by omega) (by simp) ?_
              intro z H Z Y _;have Q : Below w.heap.size w H := ((Below.refl _ _).alloc (Nat.le_refl _) _).grown Y (by simp) (fun j U => by simp [Value.ownBlock] at U; omega);clear Y)
 have R : Hid (H.ownsRow w.heap.size 9 1 z L.length (L.map fun x => Value.string x)) := by
  rw [Nat.zero_add, List.nil_append] at Z;exact Z
 clear Z;go_wp2_with fail;go_ret;exact ⟨_, rfl, R.out, Q⟩
def FlsD (E : Nat) (w : World) (B : Nat) (v : Value) (S : List (List Rat)) : Prop :=
 ∃ us : List Value, us.length = S.length /\ w.ownsRow B E 1 v S.length us /\ (∀ (i : Nat) (u : Value) (F : List Rat), us[i]? = some u -> S[i]? = some F -> FldV w B u F) /\
  ∀ (i j : Nat) (u u' : Value), i ≠ j -> us[i]? = some u -> us[j]? = some u' -> u.ownBlock ≠ u'.ownBlock
theorem FlsD.v {E : Nat} {w : World} {B : Nat} {v : Value} {S : List (List Rat)} (h : FlsD E w B v S) : FlsV E w B v S := by
 obtain ⟨us, Z, Y, X, -⟩ := h;exact ⟨us, Z, Y, X⟩
theorem FlsD.nil (E : Nat) (w : World) (B : Nat) : FlsD E w B (.slice none 0 0) [] := ⟨[], rfl, World.ownsRow_nil _ _ _ _, fun i u F h => by simp at h, fun i j u u' _ h => by simp at h⟩
theorem FlsD.below {E : Nat} {w w' : World} {B : Nat} {v : Value} {S : List (List Rat)} (h : FlsD E w B v S) (Z : Below w.heap.size w w') : FlsD E w' B v S := by
 obtain ⟨us, Y, X, V, U⟩ := h;exact ⟨us, Y, WRA X Z, fun i u F a b => (V i u F a b).below Z, U⟩
theorem FlsD.base {E : Nat} {w : World} {B B' : Nat} {v : Value} {S : List (List Rat)} (h : FlsD E w B v S) (Z : B' <= B) : FlsD E w B' v S := by
 obtain ⟨us, Y, X, V, U⟩ := h;exact ⟨us, Y, oRb X Z, fun i u F a b => (V i u F a b).base Z, U⟩
theorem FlsD.snoc {E : Nat} (I : 55 ≠ E) {w w' : World} {B M : Nat} {v v' u : Value} {S : List (List Rat)} {us : List Value} {F : List Rat} (V : us.length = S.length) (K : w.ownsRow B E 1 v S.length us)
 (J : ∀ (i : Nat) (u : Value) (F : List Rat), us[i]? = some u -> S[i]? = some F -> FldV w B u F) (t : ∀ (i j : Nat) (u C : Value), i ≠ j -> us[i]? = some u -> us[j]? = some C -> u.ownBlock ≠ C.ownBlock)
 (H : ∀ (i : Nat) (u : Value) (b : Nat), us[i]? = some u -> u.ownBlock = some b -> b < M)
 (D : w.grownBy w' v.ownBlock) (Y : w'.ownsRow B E 1 v' (S.length + 1) (us ++ [u])) (N : FldV w M u F) (L : F ≠ []) (U : B <= M) : FlsD E w' B v' (S ++ [F]) := by
 obtain ⟨n, m, l, f⟩ := FlsV.snoc I V K J D Y (N.base U);have Z : ∃ b, u.ownBlock = some b /\ M <= b := by
  obtain ⟨d, s⟩ := N;rcases s with ⟨rfl, r⟩ | ⟨g, cap, A, rfl, p, _⟩
  ·exact absurd (List.length_eq_zero_iff.1 r) L
  ·exact ⟨g, rfl, p⟩
 obtain ⟨b, Z, q⟩ := Z;have key : ∀ {x F}, FldV w B x F -> FldV w' B x F := fun h => World.ownsRow.kept h D (oat h K I);refine ⟨us ++ [u], by simp [V], by rw [List.length_append]; exact Y, fun i x G a c => ?_, fun i j x y hij a c => ?_⟩
 ·rcases Nat.lt_or_ge i S.length with h | h
  ·rw [List.getElem?_append_left (by omega)] at a
   rw [List.getElem?_append_left h] at c;exact key (J i x G a c)
  ·have Q := (List.getElem?_eq_some_iff.1 c).1
   rw [List.length_append] at Q;obtain rfl : i = S.length := by simp at Q; omega
   rw [List.getElem?_append_right (Nat.le_refl _), Nat.sub_self] at c;rw [List.getElem?_append_right (by omega), V, Nat.sub_self] at a;simp at a c;subst a; subst c;exact key (N.base U)
 ·have R : (us ++ [u]).length = S.length + 1 := by simp [V]
  have o := (List.getElem?_eq_some_iff.1 a).1;have Q := (List.getElem?_eq_some_iff.1 c).1;rw [R] at o Q;have X : ∀ {k : Nat} {z : Value}, k = S.length -> (us ++ [u])[k]? = some z -> z = u := fun hk hz => by
   subst hk;rw [List.getElem?_append_right (by omega), V, Nat.sub_self] at hz;simpa using hz.symm
  have fst : ∀ {k : Nat} {z : Value}, k < S.length -> (us ++ [u])[k]? = some z -> us[k]? = some z := fun hk hz => by
   rwa [List.getElem?_append_left (by omega)] at hz
  rcases Nat.lt_or_ge i S.length with h | h <;> rcases Nat.lt_or_ge j S.length with O | O
  ·exact t i j x y hij (fst h a) (fst O c)
  ·rw [X (by omega) c, Z]
   intro e;have := H i x b (fst h a) e;omega
  ·rw [X (by omega) a, Z]
   intro e;have := H j y b (fst O c) e.symm;omega
  ·omega
theorem FlsD.kept {E : Nat} {w w' : World} {B : Nat} {v : Value} {S : List (List Rat)} {row : Option Nat} (h : FlsD E w B v S) (V : w.grownBy w' row) (Z : ∀ (x : Value) (e s n : Nat) (Q : List Value), (e = E \/ e = 55) -> w.ownsRow B e s x n Q -> x.ownBlock = none \/ x.ownBlock ≠ row) : FlsD E w' B v S := by
 obtain ⟨us, U, Y, X, R⟩ := h;exact ⟨us, U, World.ownsRow.kept Y V (Z _ _ _ _ _ (.inl rfl) Y), fun i u F a b => World.ownsRow.kept (X i u F a b) V (Z _ _ _ _ _ (.inr rfl) (X i u F a b)), R⟩
theorem cof (w : World) (N M : Value) (Q O : ByteArray) (P : List (ByteArray × ByteArray)) (T : List Tri) (K : RdP w N P) (I : RdT w M T) (Φ : Value -> World -> Prop) (b : Bool) (n : Int)
 (hΦ : ∀ r w', Φ r w' -> ∃ H m cs, r = .tuple #[.slice H m cs, .int .i64 n] /\ decide ((0 : Int) < (m : Int)) = b)
 (L : ∀ w', Below w.heap.size w w' -> Calls Tryz.prog 154 #[.agg #[N, M], .agg #[.string Q, .string O]] w' (Ret Φ w')) :
 Calls Tryz.prog 112 #[.agg #[N, M], .agg #[.string Q, .string O]] w (Ret (fun r _ => r = .tuple #[.bool b, .int .i64 n]) w) := by
 have V := hid L;have G := hid hΦ;obtain ⟨C, E, rfl, -, -, -⟩ := K.open;obtain ⟨B, D, rfl, -, -, -⟩ := I.open;clear L hΦ K I;go_enter Tryz.func112, Tryz.ntmps112;go_wp2_with fail;obtain ⟨W, S⟩ := zex ((w.alloc (.cells #[.slice C P.length E, .slice B T.length D] 41)).alloc (.cells #[.string Q, .string O] 73));have U : Below w.heap.size w W := by rw [S]; exact zal2 _ _ _
 rw [<- S];clear S;refine (V.out W U).mono ?_;rintro e z ⟨r, rfl, J, X⟩;obtain ⟨H, m, cs, rfl, Z⟩ := G.out _ _ J;have Y := zbt U X;clear J X U;rcases Nat.eq_zero_or_pos m with rfl | A
 ·obtain rfl : b = false := by rw [<- Z]; rfl
  clear Z;go_wp2_with fail;go_ret2;exact ⟨_, rfl, rfl, Y⟩
 ·have R : (0 : Int) < (m : Int) := by omega
  obtain rfl : b = true := by rw [<- Z]; exact decide_eq_true R
  clear Z;go_wp2_with fail;go_ret2;exact ⟨_, rfl, rfl, Y⟩
theorem RdI.shape {w : World} {v : Value} {l : List Int} (h : RdI .i64 w v l) : ∃ Z cs, v = .slice Z l.length cs := by
 obtain ⟨Z, cs, rfl, -, -, -⟩ := h.open;exact ⟨Z, cs, rfl⟩
theorem cok (w : World) (Z Y : Value) (P : List PtQ) (T : List Tri) (k : Nat) (V : RdP w Z (strP P)) (U : RdT w Y T) (R : MeshOK P T k) (p : PtQ) (X : SzP 200 p) (S : Good w) :
 Calls Tryz.prog 112 #[.agg #[Z, Y], .agg #[.string (RS p.1), .string (RS p.2)]] w (Ret (fun r _ => r = .tuple #[.bool (decide ((0 : Int) < ((locN P T p T.length).length : Int))), .int .i64 0]) w) := by
 refine cof w Z Y _ _ _ T V U _ _ 0 ?_ fun w' hb => lok w' Z Y P T k (RdC.below V hb) (RdC.below U hb) R p X (S.below hb);rintro r w' ⟨v, rfl, Q⟩;obtain ⟨O, cs, rfl⟩ := Q.shape;exact ⟨O, _, cs, rfl, rfl⟩
structure BoxK (z : World) (b : Nat) : Prop where
 c0 : z.cell? ⟨b, 0, none⟩ = some (.string ⟨#[]⟩)
 c1 : z.cell? ⟨b, 1, none⟩ = some (.string ⟨#[]⟩)
 f0 : z.frozen? ⟨b, 0, none⟩ = false
 f1 : z.frozen? ⟨b, 1, none⟩ = false
 lt : b < z.heap.size
theorem BoxK.of {z : World} {b : Nat} (h : BoxN z b 73 [.string ⟨#[]⟩, .string ⟨#[]⟩]) : BoxK z b := ⟨h.cell 0 rfl, h.cell 1 rfl, h.frozen 0, h.frozen 1, h.lt⟩
theorem zc3 {x z : World} (h : Below (x.alloc (.cells #[.slice none 0 0, .slice none 0 0, .slice none 0 0] 45)).heap.size (x.alloc (.cells #[.slice none 0 0, .slice none 0 0, .slice none 0 0] 45)) z) : BoxN z x.heap.size 45 [.slice none 0 0, .slice none 0 0, .slice none 0 0] := (BoxN.new _ _ _ _ rfl).below h (by simp)
theorem zc3d {x z : World} (h : Below (x.alloc (.cells #[.slice none 0 0, .slice none 0 0, .slice none 0 0] 45)).drew.heap.size (x.alloc (.cells #[.slice none 0 0, .slice none 0 0, .slice none 0 0] 45)).drew z) : BoxN z x.heap.size 45 [.slice none 0 0, .slice none 0 0, .slice none 0 0] := (BoxN.new x _ _ _ rfl).drew.below h (by simp)
theorem b3n (w : World) (v0 v1 v2 : Value) (t n : Nat) (Z : w.heap.size = n) : BoxN (w.alloc (.cells #[v0, v1, v2] t)) n t [v0, v1, v2] := BoxN.new _ _ _ _ Z
theorem b3s {w : World} {b t : Nat} {v0 v1 v2 : Value} (h : BoxN w b t [.slice none 0 0, .slice none 0 0, .slice none 0 0]) : BoxN (((w.setCell ⟨b, 0, none⟩ v0).setCell ⟨b, 1, none⟩ v1).setCell ⟨b, 2, none⟩ v2) b t [v0, v1, v2] := ((h.set 0 v0).set 1 v1).set 2 v2
theorem os3 {w : World} {B e n b t : Nat} {v x0 x1 x2 : Value} {xs : List Value} (h : w.ownsRow B e 1 v n xs) (Z : e ≠ t) {l : List Value} (Y : BoxN w b t l) : (((w.setCell ⟨b, 0, none⟩ x0).setCell ⟨b, 1, none⟩ x1).setCell ⟨b, 2, none⟩ x2).ownsRow B e 1 v n xs :=
 World.ownsRow.kept h (gst (gst (gst (grl w _) 0 x0) 1 x1) 2 x2) (.inr (fun e' => obN h Y Z e'.symm))
theorem odw {w : World} {B e n : Nat} {v : Value} {xs : List Value} (h : w.ownsRow B e 1 v n xs) : w.drew.ownsRow B e 1 v n xs := WRA h (bdN w 1)
structure BoxC (z : World) (b : Nat) : Prop where
 c0 : z.cell? ⟨b, 0, none⟩ = some (.slice none 0 0)
 c1 : z.cell? ⟨b, 1, none⟩ = some (.slice none 0 0)
 c2 : z.cell? ⟨b, 2, none⟩ = some (.slice none 0 0)
 f0 : z.frozen? ⟨b, 0, none⟩ = false
 f1 : z.frozen? ⟨b, 1, none⟩ = false
 f2 : z.frozen? ⟨b, 2, none⟩ = false
 lt : b < z.heap.size
theorem BoxC.of {z : World} {b : Nat} (h : BoxN z b 45 [.slice none 0 0, .slice none 0 0, .slice none 0 0]) : BoxC z b := ⟨h.cell 0 rfl, h.cell 1 rfl, h.cell 2 rfl, h.frozen 0, h.frozen 1, h.frozen 2, h.lt⟩
theorem FlsD.lt {w : World} {B : Nat} {us : List Value} {S : List (List Rat)} (Y : us.length = S.length) (Z : ∀ (i : Nat) (u : Value) (F : List Rat), us[i]? = some u -> S[i]? = some F -> FldV w B u F) :
 ∀ (i : Nat) (u : Value) (b : Nat), us[i]? = some u -> u.ownBlock = some b -> b < w.heap.size := fun i u b hu hb => by
 have X := (List.getElem?_eq_some_iff.1 hu).1;exact ((Z i u S[i] hu (List.getElem?_eq_getElem (by omega))).lt b hb).2
theorem sj0 (w : World) (vb vu vs : Value) (B : List Rat) (U : List ByteArray) (S : List (List Rat)) (J : RdQ w vb B) (hu : RdS w vu U) (hs : RdF w vs S)
 (hB : B ≠ []) (hU : U ≠ []) (hS : ∀ F ∈ S, F ≠ []) (hl : B.length <= 1000000) (zs : U.length <= 1000000) (zq : S.length <= 1000) (hT : ∀ F ∈ S, F.length <= 1000000) :
 Calls Tryz.prog 44 #[.agg #[vb, vu, vs]] w (Ret (fun r w' => ∃ v1 v2 v3, r = .agg #[v1, v2, v3] /\ FldV w' w.heap.size v1 B /\ w'.ownsRow w.heap.size 9 1 v2 U.length (U.map fun x => Value.string x) /\ ∃ M, w.heap.size <= M /\ M <= w'.heap.size /\ (∀ b, v1.ownBlock = some b -> b < M) /\ FlsD 33 w' M v3 S) w) := by
 have z9 : Hid (∀ w', Below w.heap.size w w' -> Calls Tryz.prog 47 #[vb] w' (Ret (fun r w2 => FldV w2 w'.heap.size r B) w')) := fun w' h => cf0 w' vb B (RdC.below J h) hB hl;have za : Hid (∀ w', Below w.heap.size w w' -> Calls Tryz.prog 82 #[vu] w' (Ret (fun r w2 => w2.ownsRow w'.heap.size 9 1 r U.length (U.map fun x => Value.string x)) w')) := fun w' h => co0 w' vu U (RdC.below hu h) hU zs;have zb : Hid (∀ i (hi : i < S.length) p c w', RdQ w' (.slice p S[i].length c) S[i] -> Calls Tryz.prog 47 #[.slice p S[i].length c] w' (Ret (fun r w2 => FldV w2 w'.heap.size r S[i]) w')) := fun i hi p c w' hr =>
  cf0 w' _ _ hr (hS _ (List.getElem_mem hi)) (hT _ (List.getElem_mem hi))
 have zg := hid hS;have zh := hid hs;obtain ⟨pb, cb, rfl, -, -, -⟩ := J.open;obtain ⟨pu, cu, rfl, -, -, -⟩ := hu.open;obtain ⟨ps, cs, rfl, zt, zu⟩ := hs.shape;unfold maxLen at zu;clear J hu hs hB hU hS hT;go_enter Tryz.func44, Tryz.ntmps44;go_upto_region 1 with fail;obtain ⟨Y, D⟩ := zex ((w.alloc (.cells #[.slice pb B.length cb, .slice pu U.length cu, .slice ps S.length cs] 45)).alloc (.cells #[.slice none 0 0, .slice none 0 0, .slice none 0 0] 45));have zK : w.heap.size + 2 <= Y.heap.size := by rw [D]; simp
 have h6 : Below w.heap.size w Y := by rw [D]; exact zal2 _ _ _
 have b2 : BoxN Y (w.heap.size + 1) 45 [.slice none 0 0, .slice none 0 0, .slice none 0 0] := by rw [D]; exact BoxN.new _ _ _ _ (by simp)
 have b1 : BoxN Y w.heap.size 45 [.slice pb B.length cb, .slice pu U.length cu, .slice ps S.length cs] := by
  rw [D];have h1 := (BoxN.new w #[.slice pb B.length cb, .slice pu U.length cu, .slice ps S.length cs] 45 _ rfl);exact h1.below (zal _ _) h1.lt
 rw [<- D];clear D;obtain ⟨x0, x1⟩ := zk2 b1;have hR := b1.lt;have HS : Hid (∀ w', Below Y.heap.size Y w' -> w'.cell? ⟨w.heap.size, 0, none⟩ = some (.slice pb B.length cb) /\ w'.cell? ⟨w.heap.size, 1, none⟩ = some (.slice pu U.length cu)) := fun w' J => ⟨(zcq J hR x0 :), (zcq J hR x1 :)⟩;have hH : Hid (∀ w', Below Y.heap.size Y w' -> _) := fun w' J => z9.out w' ((zbt h6 J));have hJ : Hid (∀ w', Below Y.heap.size Y w' -> _) := fun w' J => za.out w' ((zbt h6 J));have q0 : Below Y.heap.size Y Y.drew := bdN Y 1;clear x0 x1;go_cut [3] (fun s3 wx => ∃ N v1 v2, s3 = .pointer (some ⟨N, 0, none⟩) /\ Y.heap.size <= N /\ BoxN wx N 45 [v1, v2, .slice none 0 0] /\ wx.ownsRow Y.heap.size 55 1 v1 B.length (cFd B) /\ wx.ownsRow Y.heap.size 9 1 v2 U.length (U.map fun x => Value.string x) /\ Below Y.heap.size Y wx)
 case first =>
  go_region_held3 (fun w' => w'.cell? ⟨w.heap.size, 0, none⟩ = some (.slice pb B.length cb) /\ w'.cell? ⟨w.heap.size, 1, none⟩ = some (.slice pu U.length cu))
   ((refine HS.out _ ?_; repeat (first | with_reducible exact q2 | with_reducible exact q | with_reducible exact q0 | with_reducible exact Below.refl _ _ | with_reducible refine Below.drew ?_ | ((with_reducible refine Below.setCell ?_ ?_ _); rotate_left; (first | omega | (simp <;> omega))) | ((with_reducible refine Below.alloc ?_ ?_ _); rotate_left; (first | exact Nat.le_refl _ | omega | (simp <;> omega))))))
   (first
     | ((with_reducible refine Calls.mono (hJ.out _ ?_) ?_); (focus repeat (first | with_reducible exact q2 | with_reducible exact q | with_reducible exact q0 | with_reducible exact Below.refl _ _ | with_reducible refine Below.drew ?_ | ((with_reducible refine Below.setCell ?_ ?_ _); rotate_left; (first | omega | (simp <;> omega))) | ((with_reducible refine Below.alloc ?_ ?_ _); rotate_left; (first | exact Nat.le_refl _ | omega | (simp <;> omega)))))
        rintro e z2 ⟨v2, rfl, h2, hz⟩;have q2 : Below Y.heap.size Y z2 := (by refine Below.trans ?_ (hz.mono ?_); rotate_left; (first | exact Nat.le_refl _ | omega | (simp <;> omega)); repeat (first | with_reducible exact q | with_reducible exact q0 | with_reducible exact Below.refl _ _ | with_reducible refine Below.drew ?_ | ((with_reducible refine Below.alloc ?_ ?_ _); rotate_left; (first | exact Nat.le_refl _ | omega | (simp <;> omega)))));have zO := q2.size;have p2 : Below z1.heap.size z1 z2 := (by refine Below.trans ?_ (hz.mono ?_); rotate_left; (first | exact Nat.le_refl _ | omega | (simp <;> omega)); repeat (first | with_reducible exact Below.refl _ _ | with_reducible refine Below.drew ?_ | ((with_reducible refine Below.alloc ?_ ?_ _); rotate_left; (first | exact Nat.le_refl _ | omega | (simp <;> omega)))));have H := hid (oRb h2 (b' := Y.heap.size) (by first | omega | (simp <;> omega)));have hD := hid (WRA Q.out p2);clear h2;obtain ⟨p8, c8, rfl⟩ := oRs H.out
        (first | (have H8 := hid (E8.out.below p2 E8.out.lt)) | skip)
        (first | (have D8 := hid (zc3 hz)) | skip)
        (first | (have z7 := BoxC.of H8.out; obtain ⟨u1, u2, u3, u4, u5, u6, u7⟩ := z7) | skip)
        (first | (have z6 := BoxC.of D8.out; obtain ⟨zP, zQ, zS, zT, zU, zV, zW⟩ := z6) | skip))
     | ((with_reducible refine Calls.mono (hH.out _ ?_) ?_); (focus repeat (first | with_reducible exact q0 | with_reducible exact Below.refl _ _ | with_reducible refine Below.drew ?_ | ((with_reducible refine Below.alloc ?_ ?_ _); rotate_left; (first | exact Nat.le_refl _ | omega | (simp <;> omega)))))
        rintro e z1 ⟨v1, rfl, d, X⟩;have q : Below Y.heap.size Y z1 := (by refine Below.trans ?_ (X.mono ?_); rotate_left; (first | exact Nat.le_refl _ | omega | (simp <;> omega)); repeat (first | with_reducible exact q0 | with_reducible exact Below.refl _ _ | with_reducible refine Below.drew ?_ | ((with_reducible refine Below.alloc ?_ ?_ _); rotate_left; (first | exact Nat.le_refl _ | omega | (simp <;> omega)))));have sz1 := q.size;have Q := hid (oRb d (b' := Y.heap.size) (by first | omega | (simp <;> omega)));clear d;obtain ⟨p7, c7, rfl⟩ := oRs Q.out
        (first | (have E8 := hid (zc3d X)) | skip)))
  all_goals
   go_wp2_with fail;go_meet;refine ⟨_, .slice p7 B.length c7, .slice p8 U.length c8, rfl, ?_, ?_, ?_, ?_, ?_⟩
   ·first | exact Nat.le_refl _ | omega | (simp; omega) | (simp)
   ·repeat (first | with_reducible exact H8.out | with_reducible exact D8.out | with_reducible refine BoxN.drew ?_ | with_reducible refine b3s ?_ | ((with_reducible refine b3n _ _ _ _ _ _ ?_); (first | rfl | (simp <;> omega))) | with_reducible refine BoxN.alloc ?_ _)
   ·repeat (first | with_reducible exact hD.out | with_reducible exact H8.out | with_reducible exact D8.out | with_reducible refine odw ?_ | with_reducible refine World.ownsRow.alloc ?_ _ | ((with_reducible refine os3 (t := 45) (l := [.slice none 0 0, .slice none 0 0, .slice none 0 0]) ?_ (by decide) ?_)) | with_reducible refine BoxN.drew ?_ | ((with_reducible refine b3n _ _ _ _ _ _ ?_); (first | rfl | (simp <;> omega))) | with_reducible refine BoxN.alloc ?_ _)
   ·repeat (first | with_reducible exact H.out | with_reducible exact H8.out | with_reducible exact D8.out | with_reducible refine odw ?_ | with_reducible refine World.ownsRow.alloc ?_ _ | ((with_reducible refine os3 (t := 45) (l := [.slice none 0 0, .slice none 0 0, .slice none 0 0]) ?_ (by decide) ?_)) | with_reducible refine BoxN.drew ?_ | ((with_reducible refine b3n _ _ _ _ _ _ ?_); (first | rfl | (simp <;> omega))) | with_reducible refine BoxN.alloc ?_ _)
   ·repeat (first | with_reducible exact q2 | with_reducible exact q | with_reducible exact q0 | with_reducible exact Below.refl _ _ | with_reducible refine Below.drew ?_ | ((with_reducible refine Below.setCell ?_ ?_ _); rotate_left; (first | omega | (simp <;> omega))) | ((with_reducible refine Below.alloc ?_ ?_ _); rotate_left; (first | exact Nat.le_refl _ | omega | (simp <;> omega))))
 case rest =>
 obtain ⟨N, v1, v2, rfl, h3, B3, Q, H, R⟩ := hcut;obtain ⟨W1, zo⟩ : ∃ x, x = wc := ⟨_, rfl⟩;subst zo;have zF : Below w.heap.size w W1 := zbt h6 R;have hL := b1.bl R;have zD := b2.bl R;have d2 := hL.cell 2 rfl;have zM : N ≠ w.heap.size := by omega
 have zN : N ≠ w.heap.size + 1 := by omega
 obtain ⟨n, hn⟩ := zex (S.length);have HN := hid hn;rw [<- hn] at d2 hL zt zq;obtain ⟨i0, hi, hY, hZ, z3⟩ := info_parts iFd;have zC : w.heap.size + 2 <= W1.heap.size := by have := R.size; omega
 have hF := hid b2;clear b1 b2 hn HS hH hJ q0;have zB := R.size;go_wp2_with fail;go_loopw [16] (fun t16 wr => ∃ (i : Nat) (v3 : Value), t16 = .int .i64 i /\ i <= n /\ BoxN wr N 45 [v1, v2, v3] /\ FlsD 33 wr W1.heap.size v3 (S.take i) /\ W1.heap.size <= wr.heap.size /\ wr.ownsRow Y.heap.size 55 1 v1 B.length (cFd B) /\ wr.ownsRow Y.heap.size 9 1 v2 U.length (U.map fun x => Value.string x) /\ Below Y.heap.size Y wr) (fun t16 _ => n - (RowKit.intOf t16).toNat)
 case atStart => exact ⟨0, _, rfl, Nat.zero_le _, B3, by rw [List.take_zero]; exact FlsD.nil _ _ _, Nat.le_refl _, Q, H, R⟩
 case round =>
  obtain ⟨i, v3, rfl, zH, C3, g, m, o1, o2, h7⟩ := hrel;have hm : Below w.heap.size w wr := zbt h6 h7;rcases Nat.lt_or_ge i n with zr | zr
  ·have h9 : i < S.length := by have := HN.out; omega
   obtain ⟨bs, os, zE, zv, zp, I⟩ := zh.out.cells (by omega);injection zv with hw hx hy
   clear hx;subst hw hy;obtain ⟨pg, cg, hQ, hV⟩ := I i h9;have x0 := zcq hm zp hQ;have zc : Hid (∀ w', Below wr.heap.size wr w' -> _) := fun w' J => zb.out i h9 pg cg w' (RdC.below hV ((zbt hm J)));have zi : Hid (S.take (i + 1) = S.take i ++ [S[i]]) := List.take_succ_eq_append_getElem h9;have zd := hid (zg.out S[i] (List.getElem_mem h9));have hp : (S.take i).length = i := by rw [List.length_take]; omega
   generalize S[i] = F at *;have ze := hid g;obtain ⟨us, h0, hv, ht, hX⟩ := g;rw [hp] at hv;obtain ⟨z, C, rfl⟩ := oRs hv;have zI : (i : Int) < (n : Int) := by omega
   have zf := hid (FlsD.lt h0 ht);have zk := hid ht;have zj := hid hX;have H0 := hid h0;have hG := hid hp;have e2 := C3.cell 2 rfl;have f2 := C3.frozen 2;have zL := h7.size;have zJ := C3.lt;clear I hV hQ ht hX h0 hp ze;go_upto_region 5 with fail;have g0 : Below wr.heap.size wr wr.drew := bdN wr 1;have z4 : wr.drew.ownsRow W1.heap.size 33 1 (.slice z i C) i us := odw hv;have hg : BoxN wr.drew N 45 [v1, v2, .slice z i C] := C3.drew;have z0 : wr.heap.size <= wr.drew.heap.size := Nat.le_refl _;have hM := hg.cell 2 rfl;refine AnyL.region (S := Till 7 (fun w' => wr.heap.size <= w'.heap.size) (fun w' => w'.cell? ⟨N, 2, none⟩ = some (.slice z i C))) (by kernel_rfl) ?_;have Z : Till 7 (fun w' => wr.heap.size <= w'.heap.size) (fun w' => w'.cell? ⟨N, 2, none⟩ = some (.slice z i C)) (Array.replicate 8 false) _ := ⟨z0, fun _ => hM⟩;refine zlk 0 Z ?_;try simp only [Act.put]
   refine AnyL.take2 (i := 1) (oi := _) (v := ?_) rfl (by kernel_rfl) (by kernel_rfl) (by kernel_rfl) (by decide) (ok := _) rfl (by kernel_rfl) (by kernel_rfl) (fun _ _ _ h => h) (Or.inl ⟨by rfl, ?_⟩) ⟨Z.1, fun _ => Z.2 (by rfl)⟩ ?_;rotate_left
   ·intro w zn; (try dsimp only at zn); first | (go_simp; done) | (go_simp; with_reducible rfl)
   try simp only [Act.put]
   refine zlk 2 Z ?_;try simp only [Act.put]
   refine AnyL.one (i := 3) (o := _) (by kernel_rfl) rfl (fun K hK => ?_);go_simp
   (refine (zc.out _ g0).mono ?_; rintro e y1 ⟨vF, rfl, ho, X⟩; obtain ⟨y, A, rfl⟩ := FldV.shape ho; have g1 := zbt g0 X; have ha := WRA z4 X; have h4 := hg.bl X; have hh := h4.cell 2 rfl)
   refine hK.out _ _ ⟨g1.size, fun hk => hh⟩ (fun Z => ?_);clear hK K;try simp only [Act.put]
   refine AnyL.one (i := 4) (o := _) (by kernel_rfl) rfl (fun K hK => ?_);go_simp;refine hK.out _ _ ⟨(Nat.le_trans g1.size (by simp)), fun hk => (cal _ hh)⟩ (fun Z => ?_);clear hK K;try simp only [Act.put]
   refine AnyL.one (i := 5) (o := _) (by kernel_rfl) rfl (fun K hK => ?_)
   (rw [if_pos (by simp [Region.wanted])]; refine wp_append_own _ (.tmp 21) (.tmp 24) 43 (by rfl) W1.heap.size 33 i0 (.slice none 0 0) 1 24 Tryz.underlying43 hi hY hZ z3 rfl (by decide) _ _ _ (by simp [Act.eval]) (ha.alloc _) ⟨y1.heap.size, 0, none⟩ 1 1 [.slice y F.length A] (by simp [Act.eval]) rfl (cell_one_new _ _ _) (by intro u hu; simp at hu; subst hu; rfl) (by unfold maxLen; omega) (by omega) (by have := g1.size; simp; omega) ?_; intro v8 w8 hE L _; have O := (h4.alloc (.cells #[.slice y F.length A] 33)).gb L (fun e => obN (ha.alloc _) (h4.alloc (.cells #[.slice y F.length A] 33)) (by decide) e.symm); have z8 : wr.heap.size <= w8.heap.size := Nat.le_trans g1.size (Nat.le_trans (by simp) L.size); obtain ⟨p8, c8, rfl⟩ := oRs hE; have hN := O.cell 2 rfl; have zl := O.frozen 2)
   refine hK.out _ _ ⟨z8, fun hk => hN⟩ (fun Z => ?_);clear hK K;try simp only [Act.put]
   refine zlk 6 Z ?_;try simp only [Act.put]
   refine AnyL.one (i := 7) (o := _) (by kernel_rfl) rfl (fun K hK => ?_);go_simp;refine hK.out _ _ ⟨(Nat.le_trans z8 (by simp)), fun hk => (by simp at hk)⟩ (fun Z => ?_);clear hK K;try simp only [Act.put]
   refine AnyL.done (by kernel_rfl) ?_ _;have h5 : Below Y.heap.size Y y1 := zbt h7 g1;have f := ha.alloc (.cells #[.slice y F.length A] 33);have hc : FldV (y1.alloc (.cells #[.slice y F.length A] 33)) wr.heap.size (.slice y F.length A) F := (World.ownsRow.alloc ho _);have hW := FlsD.snoc (E := 33) (M := wr.heap.size) (us := us) (u := .slice y F.length A) (v := .slice z i C) (S := S.take i) (by decide) H0.out (by rw [hG.out]; exact f) (fun k u G a b => World.ownsRow.alloc (WRA (WRA (zk.out k u G a b) g0) X) _) zj.out zf.out L (by rw [hG.out]; exact hE) hc zd.out m;have h8 : w8.grownBy (w8.setCell ⟨N, 2, none⟩ (.slice p8 (i + 1) c8)) (some N) := gst (grl w8 _) 2 _;have hO : ∀ (x : Value) (e s n : Nat) (xs : List Value), (e = 33 \/ e = 55) -> w8.ownsRow W1.heap.size e s x n xs -> x.ownBlock = none \/ x.ownBlock ≠ some N := fun x e s n xs he h => .inr (fun e' => obN h O (by rcases he with rfl | rfl <;> decide) e'.symm)
   have hA := World.ownsRow.kept ((WRA (odw o1) X).alloc (.cells #[.slice y F.length A] 33)) L (oat ((WRA (odw o1) X).alloc (.cells #[.slice y F.length A] 33)) f (by decide));have hC := World.ownsRow.kept ((WRA (odw o2) X).alloc (.cells #[.slice y F.length A] 33)) L (oat ((WRA (odw o2) X).alloc (.cells #[.slice y F.length A] 33)) f (by decide));have zw := World.ownsRow.kept hA h8 (.inr (fun e' => obN hA O (by decide) e'.symm));have zx := World.ownsRow.kept hC h8 (.inr (fun e' => obN hC O (by decide) e'.symm));have hf := hW.kept h8 hO;have hd := (h5.alloc h5.size (.cells #[.slice y F.length A] 33)).grown L (by have := h5.size; simp; omega) (fun j hj => Nat.le_trans R.size (f.lt j hj).1);have hP : Below Y.heap.size Y (w8.setCell ⟨N, 2, none⟩ (.slice p8 (i + 1) c8)) := hd.setCell (p := ⟨N, 2, none⟩) h3 _;have z5 := O.set 2 (.slice p8 (i + 1) c8);rw [<- zi.out] at hf;clear hW h8 hO hA hC f hc h5 hE L O hN zl hd ha h4 hh ho X g1 z4 hg hM;go_wp2_with fail;go_roundw
   case rel => exact ⟨i + 1, _, by go_num, by omega, z5, hf, (by have h1 := Nat.le_trans m z8; simpa using h1), zw, zx, hP⟩
   case measure => simp [RowKit.intOf]; omega
  ·obtain rfl : i = n := by omega
   have zG : ¬ (i : Int) < (i : Int) := by omega
   rw [List.take_of_length_le (by have := HN.out; omega)] at g;obtain ⟨z, C, hy⟩ := g.v.shape;obtain ⟨q, k1, hw⟩ := oRs o1;obtain ⟨q2, k2, hx⟩ := oRs o2;subst hw hx hy;have V := hF.out.below h7 hF.out.lt;obtain ⟨e0, e1, e2⟩ := zk3 C3;obtain ⟨g0, g1, g2⟩ := zk3 V;have f0 := V.frozen 0;have f1 := V.frozen 1;have f2 := V.frozen 2;go_wp2_with fail;have k := b3s V (v0 := .slice q B.length k1) (v1 := .slice q2 U.length k2) (v2 := .slice z S.length C);have hq : w.heap.size <= w.heap.size + 1 := by omega
   have zm := ((hm.setCell (p := ⟨w.heap.size + 1, 0, none⟩) hq (.slice q B.length k1)).setCell (p := ⟨w.heap.size + 1, 1, none⟩) hq (.slice q2 U.length k2)).setCell (p := ⟨w.heap.size + 1, 2, none⟩) hq (.slice z S.length C);have zy := os3 o1 (by decide) V (x0 := .slice q B.length k1) (x1 := .slice q2 U.length k2) (x2 := .slice z S.length C);have zz := os3 o2 (by decide) V (x0 := .slice q B.length k1) (x1 := .slice q2 U.length k2) (x2 := .slice z S.length C);have zA := g.kept (gst (gst (gst (grl wr (some (w.heap.size + 1))) 0 (.slice q B.length k1)) 1 (.slice q2 U.length k2)) 2 (.slice z S.length C)) (fun x e s n xs he h => .inr (fun e' => obN h V (by rcases he with rfl | rfl <;> decide) e'.symm));obtain ⟨t0, t1, t2⟩ := zk3 k;refine bodyPost_ret (v := .agg #[.slice q B.length k1, .slice q2 U.length k2, .slice z S.length C]) (by simp [results, Tryz.results44, go_sem, t0, t1, t2]) rfl ⟨_, rfl, ⟨_, _, _, rfl, ?_, ?_, W1.heap.size, ?_, ?_, ?_, ?_⟩, zm⟩
   ·exact oRb (b' := w.heap.size) zy (by omega)
   ·exact oRb (b' := w.heap.size) zz (by omega)
   ·have := R.size; omega
   ·simpa using m
   ·intro b J; exact (Q.lt b J).2
   ·exact zA
end Go.Proofs.YtmcbeajdloaliaaGreatDoor
