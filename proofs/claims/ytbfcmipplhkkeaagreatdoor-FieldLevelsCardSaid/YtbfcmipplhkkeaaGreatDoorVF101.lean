import Derived.Test.YtbfcmipplhkkeaaGreatDoorVE7
/- klippelaw13.FieldLevels klippelaw13.FieldLevels returns true -/
set_option maxHeartbeats 16000000
set_option maxRecDepth 100000
namespace Go.Proofs.YtbfcmipplhkkeaaGreatDoor
open Go.RowKit Go.Lib
theorem aTs (P : List PtQ) (T : List Tri) (F : List Rat) (z : Rat) : ∀ t, ∀ x ∈ aTo P T F z t, x.2.length <= 1000
 | 0, x, h => by cases h
 | t + 1, x, h => by
   rcases List.mem_append.1 (show x ∈ aTo P T F z t ++ aAA P T F z t from h) with h | h
   ·exact aTs P T F z t x h
   ·unfold aAA at h
    split at h
    ·cases h
    ·obtain rfl := List.mem_singleton.1 h
     have := cLl (corP P F (triI T t).1) (corP P F (triI T t).2.1) (corP P F (triI T t).2.2) z;show (begM ((partT P F z (triI T t)).map (·.1))).length <= 1000;unfold begM begL;rw [List.length_append, List.length_drop, List.length_take, List.length_map];have e : partT P F z (triI T t) = cutL (corP P F (triI T t).1) (corP P F (triI T t).2.1) (corP P F (triI T t).2.2) z := rfl;rw [e];omega
theorem SegV.at {w : World} {B : Nat} {p : Option Addr} {n c : Nat} {l : List Seg} (h : SegV w B (.slice p n c) l) {i : Nat} (U : i < l.length) :
 ∃ g, p = some ⟨g, 0, none⟩ /\ g < w.heap.size /\ w.cell? ⟨g, i * 5, none⟩ = some (.int .i64 l[i].1) /\ w.cell? ⟨g, i * 5 + 1, none⟩ = some (.string (RS l[i].2.1.1)) /\ w.cell? ⟨g, i * 5 + 2, none⟩ = some (.string (RS l[i].2.1.2)) /\ w.cell? ⟨g, i * 5 + 3, none⟩ = some (.string (RS l[i].2.2.1)) /\ w.cell? ⟨g, i * 5 + 4, none⟩ = some (.string (RS l[i].2.2.2)) := by
 obtain ⟨S, c', e, Y⟩ := sRo h;injection e with e1 e2 e3
 obtain ⟨g, Z, V, X⟩ := Y (List.ne_nil_of_length_pos (by omega));exact ⟨g, e1.trans Z, V, X i U⟩
theorem fLl (w : World) (B A z : Int) (Z : Bool) (a0 R Q O N M : Int) (L : Bool) (K b1 J I H G : Int) (E : Bool) (S : ByteArray) (v : 40 < S.size) (C : Good w) :
 Calls Tryz.prog 4 #[.agg #[.int .u8 B, .int .i8 A, .int .i8 z, .bool Z, .int .i8 a0, .int .i8 R, .int .i8 Q, .int .i8 O, .int .i8 N, .int .i8 M, .bool L, .int .i8 K, .int .i8 b1, .int .i8 J, .int .i8 I, .int .i8 H, .int .i8 G, .bool E], .string S] w (Ret (fun r _ => r = .bool true) w) := by
 go_enter Tryz.func4, Tryz.ntmps4;go_wp2_with fail;obtain ⟨W, X⟩ := zex (w.alloc (.cells #[.int .u8 B, .int .i8 A, .int .i8 z, .bool Z, .int .i8 a0, .int .i8 R, .int .i8 Q, .int .i8 O, .int .i8 N, .int .i8 M, .bool L, .int .i8 K, .int .i8 b1, .int .i8 J, .int .i8 I, .int .i8 H, .int .i8 G, .bool E] 30));have D : Below w.heap.size w W := by rw [X]; exact zal _ _
 rw [<- X];clear X;refine (k1a W (C.below D)).mono ?_;rintro e x ⟨_, rfl, rfl, V⟩;have Y := zbt D V;have y : decide ((40 : Int) < (S.size : Int)) = true := decide_eq_true (by omega);go_wp2_with fail;refine (k1a x (C.below Y)).mono ?_;rintro e t ⟨_, rfl, rfl, U⟩;go_wp2_with fail;go_ret;exact ⟨_, rfl, rfl, (zbt Y U)⟩
theorem fLb (w : World) (c a s1 : Int) (X : Bool) (a0 l k j i h : Int) (g : Bool) (b0 b1 b2 b3 b4 b5 : Int) (bh : Bool) (A : ByteArray) (ha : A.size <= 40) (P : List PtQ) (T : List Tri) (F : List Rat)
 (x : Hid (∀ w, Good w -> Calls Tryz.prog 6 #[.agg #[.int .u8 c, .int .i8 a, .int .i8 s1, .bool X]] w (Ret (fun r w' => ∃ U S, r = .agg #[U, S] /\ RdP w' U (strP P) /\ RdT w' S T) w)))
 (y : Hid (∀ w U S, RdP w U (strP P) -> RdT w S T -> Good w -> Calls Tryz.prog 7 #[.agg #[U, S], .agg #[.int .i8 a0, .int .i8 l, .int .i8 k, .int .i8 j, .int .i8 i, .int .i8 h, .bool g]] w (Ret (fun r w' => FieldIn w' U S r P T 2 F) w)))
 (h1 : Hid (∀ w U S vf, FieldIn w U S vf P T 2 F -> Good w -> Calls Tryz.prog 13 #[.agg #[U, S], vf, .string A] w (Ret (fun r _ => r = .tuple #[.slice none 0 0, .int .i64 2]) w)))
 (h2 : Hid (∀ w U S vf, FieldIn w U S vf P T 2 F -> Good w -> Calls Tryz.prog 9 #[.agg #[U, S], vf, .string A] w (Ret (fun r _ => r = .tuple #[.slice none 0 0, .int .i64 2]) w)))
 (h3 : Hid (∀ w, Good w -> Calls Tryz.prog 14 #[.string A] w (Ret (fun r _ => r = .bool false) w))) (B : Good w) :
 Calls Tryz.prog 4 #[.agg #[.int .u8 c, .int .i8 a, .int .i8 s1, .bool X, .int .i8 a0, .int .i8 l, .int .i8 k, .int .i8 j, .int .i8 i, .int .i8 h, .bool g, .int .i8 b0, .int .i8 b1, .int .i8 b2, .int .i8 b3, .int .i8 b4, .int .i8 b5, .bool bh], .string A] w (Ret (fun r _ => r = .bool true) w) := by
 go_enter Tryz.func4, Tryz.ntmps4;go_wp2_with fail;obtain ⟨W, f⟩ := zex (w.alloc (.cells #[.int .u8 c, .int .i8 a, .int .i8 s1, .bool X, .int .i8 a0, .int .i8 l, .int .i8 k, .int .i8 j, .int .i8 i, .int .i8 h, .bool g, .int .i8 b0, .int .i8 b1, .int .i8 b2, .int .i8 b3, .int .i8 b4, .int .i8 b5, .bool bh] 30));have hB : Below w.heap.size w W := by rw [f]; exact zal _ _
 have bi : BoxN W w.heap.size 30 [.int .u8 c, .int .i8 a, .int .i8 s1, .bool X, .int .i8 a0, .int .i8 l, .int .i8 k, .int .i8 j, .int .i8 i, .int .i8 h, .bool g, .int .i8 b0, .int .i8 b1, .int .i8 b2, .int .i8 b3, .int .i8 b4, .int .i8 b5, .bool bh] := by rw [f]; exact BoxN.new _ _ _ _ rfl
 rw [<- f];clear f;refine (k1a W (B.below hB)).mono ?_;rintro e o1 ⟨_, rfl, rfl, D⟩;have J := zbt hB D;have Y := bi.below D bi.lt;clear D hB bi;have h4 : decide ((40 : Int) < (A.size : Int)) = false := decide_eq_false (by omega);have k0 := Y.cell 0 rfl;have k1 := Y.cell 1 rfl;have k2 := Y.cell 2 rfl;have k3 := Y.cell 3 rfl;go_wp2_with fail;refine (x.out o1 (B.below J)).mono ?_;rintro e b ⟨_, rfl, ⟨U, S, rfl, d, ht⟩, C⟩;have t := zbt J C;have L := Y.below C Y.lt;have h8 := hid (fun h0 : 0 < P.length => d.cells h0);obtain ⟨pp, cp, rfl, -, -, -⟩ := d.open;obtain ⟨pt, ct, rfl, -, -, -⟩ := ht.open;rw [sPl] at *;clear C J Y k0 k1 k2 k3 x h4;go_upto_region 4 with fail;obtain ⟨o3, N⟩ : ∃ W, W = b.alloc (.cells #[.slice pp P.length cp, .slice pt T.length ct] 35) := ⟨_, rfl⟩;have V : Below b.heap.size b o3 := by rw [N]; exact zal _ _
 have v : BoxN o3 b.heap.size 35 [.slice pp P.length cp, .slice pt T.length ct] := by rw [N]; exact BoxN.new _ _ _ _ rfl
 have I := zbt t V;have Z := L.below V L.lt;have p := RdC.below d V;have o := RdC.below ht V;rw [<- N];clear N d ht L t;have n := v.cell 0 rfl;have m := v.cell 1 rfl;have k4 := Z.cell 4 rfl;have k5 := Z.cell 5 rfl;have k6 := Z.cell 6 rfl;have k7 := Z.cell 7 rfl;have k8 := Z.cell 8 rfl;have k9 := Z.cell 9 rfl;have h7 := Z.cell 10 rfl;go_wp2_with fail;refine (y.out o3 _ _ p o (B.below I)).mono ?_;rintro e o4 ⟨_, rfl, E, Q⟩;have H := zbt I Q;have h9 := zbt V Q;have R := v.below Q v.lt;have M := hid E;obtain ⟨_, _, _, _, pf, cf, -, -, rfl⟩ := E.open;clear n m k4 k5 k6 k7 k8 k9 h7 Q I Z v p o E y V;have n := R.cell 0 rfl;have m := R.cell 1 rfl;go_wp2_with fail;refine (h1.out o4 _ _ _ M.out (B.below H)).mono ?_;rintro e o5 ⟨_, rfl, rfl, O⟩;have G := zbt H O;have K := R.below O R.lt;have z := hid (M.out.below O);clear n m O R M H;have n := K.cell 0 rfl;have m := K.cell 1 rfl;go_wp2_with fail;refine (h2.out o5 _ _ _ z.out (B.below G)).mono ?_;rintro e o6 ⟨_, rfl, rfl, q⟩;have s := zbt G q;clear n m q K z G;go_wp2_with fail;refine (h3.out o6 (B.below s)).mono ?_;rintro e o7 ⟨_, rfl, rfl, h6⟩;have h5 := zbt s h6;go_wp2_with fail;go_ret;exact ⟨_, rfl, rfl, h5⟩
theorem fLg (w : World) (kz s0 s1 : Int) (ha : Bool) (a0 a1 a2 a3 a4 a5 : Int) (ah : Bool) (b0 b1 b2 b3 b4 b5 : Int) (bh : Bool) (ks : ByteArray) (yF : ks.size <= 40) (P : List PtQ) (T : List Tri) (F : List Rat) (z : Rat) (yn : T.length <= 8)
 (zF : Hid (∀ w, Good w -> Calls Tryz.prog 6 #[.agg #[.int .u8 kz, .int .i8 s0, .int .i8 s1, .bool ha]] w (Ret (fun r w' => ∃ s p, r = .agg #[s, p] /\ RdP w' s (strP P) /\ RdT w' p T) w)))
 (zE : Hid (∀ w s p, RdP w s (strP P) -> RdT w p T -> Good w -> Calls Tryz.prog 7 #[.agg #[s, p], .agg #[.int .i8 a0, .int .i8 a1, .int .i8 a2, .int .i8 a3, .int .i8 a4, .int .i8 a5, .bool ah]] w (Ret (fun r w' => FieldIn w' s p r P T 2 F) w)))
 (zB : Hid (∀ w s p vf, FieldIn w s p vf P T 2 F -> Good w -> Calls Tryz.prog 13 #[.agg #[s, p], vf, .string ks] w (Ret (fun r w' => ∃ v, r = .tuple #[v, .int .i64 0] /\ PartsV 63 w' w.heap.size v (aTo P T F z T.length)) w)))
 (zD : Hid (∀ w s p vf, FieldIn w s p vf P T 2 F -> Good w -> Calls Tryz.prog 9 #[.agg #[s, p], vf, .string ks] w (Ret (fun r w' => ∃ v, r = .tuple #[v, .int .i64 0] /\ SegV w' w.heap.size v (levTo P T F z T.length)) w)))
 (zH : Hid (∀ w, Good w -> Calls Tryz.prog 14 #[.string ks] w (Ret (fun r _ => r = .bool true) w)))
 (zG : Hid (∀ t, t < T.length -> ∀ w s p vf, FieldIn w s p vf P T 2 F -> Good w -> Calls Tryz.prog 15 #[.agg #[s, p], vf, .int .i64 (t : Int), .string ks] w (Ret (fun r w' => (partT P F z (triI T t) = [] /\ r = .slice none 0 0) \/ (partT P F z (triI T t) ≠ [] /\ PtsV w' w.heap.size r (begM ((partT P F z (triI T t)).map (·.1))))) w)))
 (zl : Hid (∀ t, t < T.length -> ∀ w s p vf, FieldIn w s p vf P T 2 F -> Good w -> Calls Tryz.prog 16 #[.agg #[s, p], vf, .int .i64 (t : Int), .string ks] w (Ret (fun r _ => LvOut (segTo P T F z t (triI T t) (partT P F z (triI T t)) (partT P F z (triI T t)).length) r) w))) (hg : Good w) :
 Calls Tryz.prog 4 #[.agg #[.int .u8 kz, .int .i8 s0, .int .i8 s1, .bool ha, .int .i8 a0, .int .i8 a1, .int .i8 a2, .int .i8 a3, .int .i8 a4, .int .i8 a5, .bool ah, .int .i8 b0, .int .i8 b1, .int .i8 b2, .int .i8 b3, .int .i8 b4, .int .i8 b5, .bool bh], .string ks] w (Ret (fun r _ => r = .bool true) w) := by
 obtain ⟨i0, zV, zc, zd, ze⟩ := info_parts ist;obtain ⟨j0, ys, ya, yb, yc⟩ := info_parts ipt;go_enter Tryz.func4, Tryz.ntmps4;go_wp2_with fail;obtain ⟨W, hW⟩ := zex (w.alloc (.cells #[.int .u8 kz, .int .i8 s0, .int .i8 s1, .bool ha, .int .i8 a0, .int .i8 a1, .int .i8 a2, .int .i8 a3, .int .i8 a4, .int .i8 a5, .bool ah, .int .i8 b0, .int .i8 b1, .int .i8 b2, .int .i8 b3, .int .i8 b4, .int .i8 b5, .bool bh] 30));have hB : Below w.heap.size w W := by rw [hW]; exact zal _ _
 have bi : BoxN W w.heap.size 30 [.int .u8 kz, .int .i8 s0, .int .i8 s1, .bool ha, .int .i8 a0, .int .i8 a1, .int .i8 a2, .int .i8 a3, .int .i8 a4, .int .i8 a5, .bool ah, .int .i8 b0, .int .i8 b1, .int .i8 b2, .int .i8 b3, .int .i8 b4, .int .i8 b5, .bool bh] := by rw [hW]; exact BoxN.new _ _ _ _ rfl
 rw [<- hW];clear hW;refine (k1a W (hg.below hB)).mono ?_;rintro e o1 ⟨_, rfl, rfl, zu⟩;have zp := zbt hB zu;have h3 := bi.below zu bi.lt;clear zu hB bi;have yl : decide ((40 : Int) < (ks.size : Int)) = false := decide_eq_false (by omega);have k0 := h3.cell 0 rfl;have k1 := h3.cell 1 rfl;have k2 := h3.cell 2 rfl;have k3 := h3.cell 3 rfl;go_wp2_with fail;refine (zF.out o1 (hg.below zp)).mono ?_;rintro e o2 ⟨_, rfl, ⟨s, p, rfl, hp, ht⟩, zv⟩;have zO := zbt zp zv;have zn := h3.below zv h3.lt;have yB := hid (fun h0 : 0 < P.length => hp.cells h0);obtain ⟨pp, cp, rfl, -, -, -⟩ := hp.open;obtain ⟨pt, ct, rfl, -, -, -⟩ := ht.open;rw [sPl] at *;clear zv zp h3 k0 k1 k2 k3 zF yl;go_upto_region 4 with fail;obtain ⟨o3, z5⟩ : ∃ W, W = o2.alloc (.cells #[.slice pp P.length cp, .slice pt T.length ct] 35) := ⟨_, rfl⟩;have hh : Below o2.heap.size o2 o3 := by rw [z5]; exact zal _ _
 have bm : BoxN o3 o2.heap.size 35 [.slice pp P.length cp, .slice pt T.length ct] := by rw [z5]; exact BoxN.new _ _ _ _ rfl
 have zq := zbt zO hh;have f := zn.below hh zn.lt;have y6 := RdC.below hp hh;have y8 := RdC.below ht hh;rw [<- z5];clear z5 hp ht zn zO;have m0 := bm.cell 0 rfl;have m1 := bm.cell 1 rfl;have k4 := f.cell 4 rfl;have k5 := f.cell 5 rfl;have k6 := f.cell 6 rfl;have k7 := f.cell 7 rfl;have k8 := f.cell 8 rfl;have k9 := f.cell 9 rfl;have yx := f.cell 10 rfl;go_wp2_with fail;refine (zE.out o3 _ _ y6 y8 (hg.below zq)).mono ?_;rintro e o4 ⟨_, rfl, zt, z3⟩;have zP := zbt zq z3;have zL := zbt hh z3;have hw := bm.below z3 bm.lt;have zi := hid zt;obtain ⟨_, _, _, _, pf, cf, -, -, rfl⟩ := zt.open;clear m0 m1 k4 k5 k6 k7 k8 k9 yx z3 zq f bm y6 y8 zt zE hh;have m0 := hw.cell 0 rfl;have m1 := hw.cell 1 rfl;go_wp2_with fail;refine (zB.out o4 _ _ _ zi.out (hg.below zP)).mono ?_;rintro e o5 ⟨_, rfl, ⟨v7, rfl, S⟩, K⟩;have zQ := zbt zP K;have zM := zbt zL K;have hy := hw.below K hw.lt;have zj := hid (zi.out.below K);clear m0 m1 K hw zi zB zL;have m0 := hy.cell 0 rfl;have m1 := hy.cell 1 rfl;go_wp2_with fail;refine (zD.out o5 _ _ _ zj.out (hg.below zQ)).mono ?_;rintro e yy ⟨_, rfl, ⟨v9, rfl, R⟩, hj⟩;have h9 := zbt zQ hj;have hA := zbt zM hj;have hz := hy.below hj hy.lt;have z8 := hid (zj.out.below hj);have h7 := S.below hj;clear m0 m1 hj hy zj zD zM S;go_wp2_with fail;refine (zH.out yy (hg.below h9)).mono ?_;rintro e M ⟨_, rfl, rfl, h6⟩;have zr := h9.trans (h6.mono h9.size);have yD := hA.trans (h6.mono hA.size);have h4 := hz.below h6 hz.lt;have yg := hid (z8.out.below h6);have yf := hid (h7.below h6);have yh := hid (R.below h6);obtain ⟨p7, c7, rfl⟩ := h7.shape;obtain ⟨p9, c9, rfl⟩ := oRs R;have hU : Hid (∀ w', Below M.heap.size M w' -> FieldIn w' (.slice pp P.length cp) (.slice pt T.length ct) (.slice pf _ cf) P T 2 F) := fun w' hb => yg.out.below hb;clear h6 hz z8 zH hA h7 R h9;have x1 := h4.cell 1 rfl;go_wp2_with fail;clear x1;go_loopw [11, 12, 13] (fun t11 t12 t13 wr => ∃ t : Nat, t13 = .int .i64 t /\ t <= T.length /\ PartsV 63 wr M.heap.size t11 (aTo P T F z t) /\ SegV wr M.heap.size t12 (levTo P T F z t) /\ Below M.heap.size M wr) (fun _ _ t13 _ => T.length - (RowKit.intOf t13).toNat)
 case atStart => exact ⟨0, rfl, Nat.zero_le _, PartsV.nil _ _ _, World.ownsRow_nil _ _ _ _, Below.refl _ _⟩
 case round =>
  obtain ⟨t, rfl, yH, S, R, Y⟩ := hrel;have hZ := h4.below Y h4.lt;have m0 := hZ.cell 0 rfl;have m1 := hZ.cell 1 rfl;have z2 := zbt zr Y;rcases Nat.lt_or_ge t T.length with z4 | z4
  ·have yu : (t : Int) < (T.length : Int) := by omega
   have zN : aTo P T F z (t + 1) = aTo P T F z t ++ (if partT P F z (triI T t) = [] then [] else [(t, begM ((partT P F z (triI T t)).map (·.1)))]) := rfl;have hT := hid zN;clear zN;go_wp2_with fail;refine (zG.out t z4 wr _ _ _ (hU.out _ Y) (hg.below z2)).mono ?_;rintro e w5 ⟨yL, rfl, zw, K⟩;have E := S.below K;have hd := R.below K;have c := zbt Y K;clear m0 m1 hZ z2;rcases zw with ⟨hk, rfl⟩ | ⟨hk, zy⟩
   ·have hn : Hid (aTo P T F z (t + 1) = aTo P T F z t) := by unfold Hid; rw [hT.out, if_pos hk, List.append_nil]
    obtain ⟨WT, yo⟩ : ∃ W : World, W = w5 := ⟨_, rfl⟩;subst yo;rw [<- hn.out] at E;clear S R Y K hk;have S := E;have R := hd;have Y := c;clear E hd c hT hn;have ho : Hid (levTo P T F z (t + 1) = levTo P T F z t ++ segTo P T F z t (triI T t) (partT P F z (triI T t)) (partT P F z (triI T t)).length) := rfl;have hC := zbt zr Y;have h5 := h4.below Y h4.lt;have m0 := h5.cell 0 rfl;have m1 := h5.cell 1 rfl;go_wp2_with fail;refine (zl.out t z4 WT _ _ _ (hU.out _ Y) (hg.below hC)).mono ?_;rintro e w8 ⟨_, rfl, ⟨j, x0, x1, y0, y1, b, rfl, hD, d⟩, C⟩;have zf := hid hD;have zg := hid d;have H := S.below C;have G := R.below C;have a := zbt Y C;clear m0 m1 h5 S R C hD d hC;have o := hid H;have k := hid G;obtain ⟨hm, hf, rfl⟩ := H.shape;obtain ⟨z6, z0, rfl⟩ := oRs G;clear H G;go_upto_region 18 with fail;obtain ⟨V, hV⟩ := zex (w8.alloc (.cells #[.int .i64 j, .string x0, .string x1, .string y0, .string y1] 52));have B : Below w8.heap.size w8 V := by rw [hV]; exact zal _ _
    have bs : BoxN V w8.heap.size 52 [.int .i64 j, .string x0, .string x1, .string y0, .string y1] := by rw [hV]; exact BoxN.new _ _ _ _ rfl
    rw [<- hV];have m := hid (o.out.below B);have g := hid (k.out.below B);have I := zbt a B;clear hV B o k a;cases b
    ·have D : Hid (levTo P T F z (t + 1) = levTo P T F z t) := by unfold Hid; rw [ho.out, zf.out rfl, List.append_nil]
     go_wp2_with fail;go_roundw
     case rel => exact ⟨t + 1, by go_num, by omega, m.out, by rw [D.out]; exact g.out, I⟩
     case measure => simp [RowKit.intOf]; omega
    ·obtain ⟨sg, hH, hJ, hK, hL, hM, hN⟩ := zg.out rfl
     have D : Hid (levTo P T F z (t + 1) = levTo P T F z t ++ [sg]) := by unfold Hid; rw [ho.out, hH]
     have zh : Hid (cGG (levTo P T F z (t + 1)) = cGG (levTo P T F z t) ++ [.int .i64 j, .string x0, .string x1, .string y0, .string y1]) := by unfold Hid; rw [D.out, cGs, hJ, hK, hL, hM, hN]
     have zk := hid (lTl P T F z t);have s0 := bs.cell 0 rfl;have ye := bs.cell 1 rfl;have s2 := bs.cell 2 rfl;have s3 := bs.cell 3 rfl;have s4 := bs.cell 4 rfl;have hl := I.size;have X : V.ownsRow M.heap.size 52 5 (.slice z6 (levTo P T F z t).length z0) (levTo P T F z t).length (cGG (levTo P T F z t)) := g.out;obtain ⟨nL, N⟩ : ∃ n, n = (levTo P T F z t).length := ⟨_, rfl⟩;have hs := hid N;rw [<- N] at X ⊢;have zX : nL <= 6 * t := by rw [N]; exact zk.out
     clear hH hJ hK hL hM hN bs N
     go_wp2_with (at_builtin; refine wpList_append_own _ rfl _ _ 42 rfl M.heap.size 52 i0 (.agg #[.int .i64 0, .string ⟨#[]⟩, .string ⟨#[]⟩, .string ⟨#[]⟩, .string ⟨#[]⟩]) 5 72 Tryz.underlying42 zV zc zd ze rfl (by decide) _ _ _ rfl (X.alloc _) ⟨V.heap.size, 0, none⟩ 1 1 [.int .i64 j, .string x0, .string x1, .string y0, .string y1] rfl rfl (cfe _ _ _ _ _ _ _) (foe _ _ _ _ _) (by unfold maxLen; omega) (by omega) (by simp; omega) ?_
                  intro v9 w9 U Z hP;clear hP;have J : Below M.heap.size M w9 := (I.alloc hl _).grown Z (by simp; omega) (fun q hq => by have := (X.lt q hq).1; omega);have he : Hid (PartsV 63 w9 M.heap.size (.slice hm (aTo P T F z (t + 1)).length hf) (aTo P T F z (t + 1))) := PartsV.kept (m.out.below ((Below.refl _ _).alloc (Nat.le_refl _) (.cells #[.int .i64 j, .string x0, .string x1, .string y0, .string y1] 52))) (World.ownsRow.alloc X _) (by decide) (by decide) Z;clear Z)
     have l : Hid (SegV w9 M.heap.size v9 (levTo P T F z (t + 1))) := by
      unfold Hid SegV;rw [zh.out, D.out, List.length_append, <- hs.out];exact U
     clear X U;go_wp2_with fail;go_roundw
     case rel => exact ⟨t + 1, by go_num, by omega, he.out, l.out, J⟩
     case measure => simp [RowKit.intOf]; omega
   ·have hn : Hid (aTo P T F z (t + 1) = aTo P T F z t ++ [(t, begM ((partT P F z (triI T t)).map (·.1)))]) := by unfold Hid; rw [hT.out, if_neg hk]
    have zU : 0 < (begM ((partT P F z (triI T t)).map (·.1))).length := by
     unfold begM begL;rw [List.length_append, List.length_drop, List.length_take, List.length_map];have := List.length_pos_iff.2 hk;omega
    obtain ⟨z7, z1, rfl⟩ := zy.shape;have hu := hid (zy.base Y.size);obtain ⟨hm, hf, rfl⟩ := E.shape;obtain ⟨nu, zY⟩ : ∃ n, n = (begM ((partT P F z (triI T t)).map (·.1))).length := ⟨_, rfl⟩;rw [<- zY] at zU hu ⊢;obtain ⟨nA, h2⟩ : ∃ n, n = (aTo P T F z t).length := ⟨_, rfl⟩;rw [<- h2] at E ⊢;obtain ⟨us, z9, za, zb⟩ := E;have hc : nA <= t := by rw [h2]; exact aTl P T F z t
    have hr := hid h2;have zI := hid z9;have zm := hid za;have zJ := hid zb;have A : w5.ownsRow M.heap.size 63 2 (.slice hm nA hf) nA (cUU (aTo P T F z t) us) := by
     have h := zm.out;rw [<- hr.out] at h;exact h
    have hl := c.size;have zZ : (0 : Int) < (nu : Int) := by omega
    have hv := hid hd;clear z9 za zb zy zY h2 K S R Y hk hd
    go_wp2_with (at_builtin; refine wpList_append_own _ rfl _ _ 57 rfl M.heap.size 63 j0 (.agg #[.int .i64 0, .slice none 0 0]) 2 32 Tryz.underlying57 ys ya yb yc rfl (by decide) _ _ _ rfl (A.alloc _) ⟨w5.heap.size, 0, none⟩ 1 1 [.int .i64 (t : Int), .slice z7 nu z1] rfl rfl (cto _ _ _ _) (tpt _ _ _ _) (by unfold maxLen; omega) (by omega) (by simp; omega) ?_
                 intro v9 w9 U Z hP;clear hP;have J : Below M.heap.size M w9 := (c.alloc hl _).grown Z (by simp; omega) (fun q hq => by have := (A.lt q hq).1; omega);have he : Hid (PartsV 63 w9 M.heap.size v9 (aTo P T F z t ++ [(t, begM ((partT P F z (triI T t)).map (·.1)))])) := PartsV.snoc (w := w5.alloc (.cells #[.int .i64 (t : Int), .slice z7 nu z1] 63)) (by decide) zI.out (World.ownsRow.alloc zm.out _) (fun q x y e1 e2 => (zJ.out q x y e1 e2).below ((Below.refl _ _).alloc (Nat.le_refl _) _)) Z (by rw [<- hr.out]; exact U) (hu.out.below ((Below.refl _ _).alloc (Nat.le_refl _) _));have l : Hid (SegV w9 M.heap.size _ (levTo P T F z t)) := World.ownsRow.kept (World.ownsRow.alloc hv.out (.cells #[.int .i64 (t : Int), .slice z7 nu z1] 63)) Z (oat (World.ownsRow.alloc hv.out (.cells #[.int .i64 (t : Int), .slice z7 nu z1] 63)) (World.ownsRow.alloc A _) (by decide));have h5 := h4.below J h4.lt;have m0 := h5.cell 0 rfl;have m1 := h5.cell 1 rfl;clear Z U)
    have S := he.out;rw [<- hn.out] at S;have R := l.out;have Y := J;clear A he l J c hT hn zI zm zJ hr hu hl hv zZ zU hc;have ho : Hid (levTo P T F z (t + 1) = levTo P T F z t ++ segTo P T F z t (triI T t) (partT P F z (triI T t)) (partT P F z (triI T t)).length) := rfl;have hC := zbt zr Y;refine (zl.out t z4 w9 _ _ _ (hU.out _ Y) (hg.below hC)).mono ?_;rintro e w8 ⟨_, rfl, ⟨j, x0, x1, y0, y1, b, rfl, hD, d⟩, C⟩;have zf := hid hD;have zg := hid d;have H := S.below C;have G := R.below C;have a := zbt Y C;clear m0 m1 h5 S R C hD d hC;have o := hid H;have k := hid G;obtain ⟨hm, hf, rfl⟩ := H.shape;obtain ⟨z6, z0, rfl⟩ := oRs G;clear H G;go_upto_region 18 with fail;obtain ⟨V, hV⟩ := zex (w8.alloc (.cells #[.int .i64 j, .string x0, .string x1, .string y0, .string y1] 52));have B : Below w8.heap.size w8 V := by rw [hV]; exact zal _ _
    have bs : BoxN V w8.heap.size 52 [.int .i64 j, .string x0, .string x1, .string y0, .string y1] := by rw [hV]; exact BoxN.new _ _ _ _ rfl
    rw [<- hV];have m := hid (o.out.below B);have g := hid (k.out.below B);have I := zbt a B;clear hV B o k a;cases b
    ·have D : Hid (levTo P T F z (t + 1) = levTo P T F z t) := by unfold Hid; rw [ho.out, zf.out rfl, List.append_nil]
     go_wp2_with fail;go_roundw
     case rel => exact ⟨t + 1, by go_num, by omega, m.out, by rw [D.out]; exact g.out, I⟩
     case measure => simp [RowKit.intOf]; omega
    ·obtain ⟨sg, hH, hJ, hK, hL, hM, hN⟩ := zg.out rfl
     have D : Hid (levTo P T F z (t + 1) = levTo P T F z t ++ [sg]) := by unfold Hid; rw [ho.out, hH]
     have zh : Hid (cGG (levTo P T F z (t + 1)) = cGG (levTo P T F z t) ++ [.int .i64 j, .string x0, .string x1, .string y0, .string y1]) := by unfold Hid; rw [D.out, cGs, hJ, hK, hL, hM, hN]
     have zk := hid (lTl P T F z t);have s0 := bs.cell 0 rfl;have ye := bs.cell 1 rfl;have s2 := bs.cell 2 rfl;have s3 := bs.cell 3 rfl;have s4 := bs.cell 4 rfl;have hl := I.size;have X : V.ownsRow M.heap.size 52 5 (.slice z6 (levTo P T F z t).length z0) (levTo P T F z t).length (cGG (levTo P T F z t)) := g.out;obtain ⟨nL, N⟩ : ∃ n, n = (levTo P T F z t).length := ⟨_, rfl⟩;have hs := hid N;rw [<- N] at X ⊢;have zX : nL <= 6 * t := by rw [N]; exact zk.out
     clear hH hJ hK hL hM hN bs N
     go_wp2_with (at_builtin; refine wpList_append_own _ rfl _ _ 42 rfl M.heap.size 52 i0 (.agg #[.int .i64 0, .string ⟨#[]⟩, .string ⟨#[]⟩, .string ⟨#[]⟩, .string ⟨#[]⟩]) 5 72 Tryz.underlying42 zV zc zd ze rfl (by decide) _ _ _ rfl (X.alloc _) ⟨V.heap.size, 0, none⟩ 1 1 [.int .i64 j, .string x0, .string x1, .string y0, .string y1] rfl rfl (cfe _ _ _ _ _ _ _) (foe _ _ _ _ _) (by unfold maxLen; omega) (by omega) (by simp; omega) ?_
                  intro v9 w9 U Z hP;clear hP;have J : Below M.heap.size M w9 := (I.alloc hl _).grown Z (by simp; omega) (fun q hq => by have := (X.lt q hq).1; omega);have he : Hid (PartsV 63 w9 M.heap.size (.slice hm (aTo P T F z (t + 1)).length hf) (aTo P T F z (t + 1))) := PartsV.kept (m.out.below ((Below.refl _ _).alloc (Nat.le_refl _) (.cells #[.int .i64 j, .string x0, .string x1, .string y0, .string y1] 52))) (World.ownsRow.alloc X _) (by decide) (by decide) Z;clear Z)
     have l : Hid (SegV w9 M.heap.size v9 (levTo P T F z (t + 1))) := by
      unfold Hid SegV;rw [zh.out, D.out, List.length_append, <- hs.out];exact U
     clear X U;go_wp2_with fail;go_roundw
     case rel => exact ⟨t + 1, by go_num, by omega, he.out, l.out, J⟩
     case measure => simp [RowKit.intOf]; omega
  ·have yu : ¬ (t : Int) < (T.length : Int) := by omega
   obtain rfl : t = T.length := by omega
   have zK : Hid (∀ x ∈ aTo P T F z T.length, x.2.length <= 1000) := fun x hx => aTs P T F z T.length x hx;have hc : (aTo P T F z T.length).length <= 8 := Nat.le_trans (aTl P T F z T.length) yn;have hG : (levTo P T F z T.length).length <= 48 := Nat.le_trans (lTl P T F z T.length) (by omega);have hR := hid (yf.out.below Y);have hX := hid (yh.out.below Y);have hS := hid S;have hY := hid R;obtain ⟨hm, hf, rfl⟩ := S.shape;obtain ⟨z6, z0, rfl⟩ := oRs R;obtain ⟨LA, zR⟩ : ∃ L, L = aTo P T F z T.length := ⟨_, rfl⟩;obtain ⟨LL, zS⟩ : ∃ L, L = levTo P T F z T.length := ⟨_, rfl⟩;rw [<- zR] at hR hS hc zK ⊢;rw [<- zS] at hX hY hG ⊢;obtain ⟨nA, h2⟩ : ∃ n, n = LA.length := ⟨_, rfl⟩;obtain ⟨nL, N⟩ : ∃ n, n = LL.length := ⟨_, rfl⟩;have hr := hid h2;have hs := hid N;rw [<- h2] at hR hS hc ⊢;rw [<- N] at hX hY hG ⊢;obtain ⟨wk, yw⟩ := zex (wr : World);subst yw;clear S R zR zS h2 N hZ zG zl hU;go_wp2_with fail;clear m0 m1;go_loopw [17] (fun t17 wr => ∃ i : Nat, t17 = .int .i64 i /\ i <= nA /\ Below wk.heap.size wk wr) (fun t17 _ => nA - (RowKit.intOf t17).toNat)
   case atStart => exact ⟨0, rfl, Nat.zero_le _, Below.refl _ _⟩
   case round =>
    obtain ⟨i, rfl, yE, Q⟩ := hrel;rcases Nat.lt_or_ge i nA with hi | hi
    ·have yr : (i : Int) < (nA : Int) := by omega
     have zW : i < LA.length := by rw [<- hr.out]; exact hi
     obtain ⟨x, hx⟩ : ∃ x, LA[i]? = some x := ⟨_, List.getElem?_eq_getElem zW⟩;obtain ⟨g7, u7, rfl, zx, c0, c1, zz⟩ := hR.out.at hx;obtain ⟨zo, u11, rfl, hE, d0, d1, hO⟩ := hS.out.at hx;obtain ⟨yz, yj, rfl⟩ := zz.shape;obtain ⟨yA, yk, rfl⟩ := hO.shape;replace c0 := (zcq Q zx c0 :);replace c1 := (zcq Q zx c1 :);replace d0 := (zcq Q hE d0 :);replace d1 := (zcq Q hE d1 :);have y9 : x.2.length <= 1000 := zK.out x (List.mem_of_getElem? hx);have zC : Hid (∀ w', Below wr.heap.size wr w' -> _) := fun w' hb => e0s w' _ _ x.2 y9 ((zz.below Q).below hb).rd ((hO.below Q).below hb).rd;obtain ⟨nx, y5⟩ : ∃ n, n = x.2.length := ⟨_, rfl⟩;rw [<- y5] at zC c1 d1;have l7 : g7 < wr.heap.size := Nat.lt_of_lt_of_le zx Q.size;have yI : zo < wr.heap.size := Nat.lt_of_lt_of_le hE Q.size;have zs := zbt z2 Q;have yq : Good wr.drew := (hg.below zs).drewN 1;clear hx zz hO y9 y5 zW;go_upto_region 25 with fail;go_region_held3 (fun w' => w'.cell? ⟨g7, i * 2, none⟩ = some (.int .i64 (x.1 : Int)) /\ w'.cell? ⟨g7, i * 2 + 1, none⟩ = some (.slice yz nx yj) /\ w'.cell? ⟨zo, i * 2, none⟩ = some (.int .i64 (x.1 : Int)) /\ w'.cell? ⟨zo, i * 2 + 1, none⟩ = some (.slice yA nx yk))
      (first | exact ⟨c0, c1, d0, d1⟩ | exact ⟨p_1_0, p_1_1, p_1_2, p_1_3⟩)
      (first
      | (go_at_call 17; refine (zC.out _ (bdN wr 1)).mono ?_; rintro e yd ⟨_, rfl, rfl, h8⟩
         have p_1_0 := zct h8 c0;have p_1_1 := zct h8 c1;have p_1_2 := zct h8 d0;have p_1_3 := zct h8 d1;have yK : wr.heap.size <= yd.heap.size := h8.size;have yJ := yq.below h8))
     have pB : Below wr.heap.size wr yd := zbt (bdN wr 1) h8;have zT := zbt Q pB;go_wp2_with fail;go_roundw
     case rel => exact ⟨i + 1, by go_num, by omega, zT⟩
     case measure => simp [RowKit.intOf]; omega
    ·have yr : ¬ (i : Int) < (nA : Int) := by omega
     have zs := zbt z2 Q;have l := hid (hX.out.below Q);have yi := hid (hY.out.below Q);obtain ⟨wj, yv⟩ := zex (wr : World);subst yv;clear hR hS hX hY;go_wp2_with fail;go_loopw [18] (fun t18 wr => ∃ i : Nat, t18 = .int .i64 i /\ i <= nL /\ Below wj.heap.size wj wr) (fun t18 _ => nL - (RowKit.intOf t18).toNat)
     case atStart => exact ⟨0, rfl, Nat.zero_le _, Below.refl _ _⟩
     case round =>
      obtain ⟨q, rfl, yG, O⟩ := hrel;have ym := zbt zs O;rcases Nat.lt_or_ge q nL with hq | hq
      ·have yt : (q : Int) < (nL : Int) := by omega
       have y7 : q < LL.length := by rw [<- hs.out]; exact hq
       obtain ⟨g9, rfl, hF, x0, x1, x2, x3, x4⟩ := l.out.at y7;obtain ⟨yC, rfl, h1, y0, y1, y2, y3, y4⟩ := yi.out.at y7;replace x0 := (zcq O hF x0 :);replace x1 := (zcq O hF x1 :);replace x2 := (zcq O hF x2 :);replace x3 := (zcq O hF x3 :);replace x4 := (zcq O hF x4 :);replace y0 := (zcq O h1 y0 :);replace y1 := (zcq O h1 y1 :);replace y2 := (zcq O h1 y2 :);replace y3 := (zcq O h1 y3 :);replace y4 := (zcq O h1 y4 :);generalize RS LL[q].2.1.1 = ye at *;generalize RS LL[q].2.1.2 = s2' at *;generalize RS LL[q].2.2.1 = s3' at *;generalize RS LL[q].2.2.2 = s4' at *;generalize LL[q].1 = s0' at *;go_upto_region 30 with fail;go_quiet (fail);obtain ⟨w2, zA⟩ := zex (wr.drewN nq);have yp : Below wj.heap.size wj w2 := by rw [zA]; exact O.trans ((bdN wr nq).mono O.size)
       rw [<- zA];clear zA x0 x1 x2 x3 x4 y0 y1 y2 y3 y4;go_wp2_with fail;go_roundw
       case rel => exact ⟨q + 1, by go_num, by omega, yp⟩
       case measure => simp [RowKit.intOf]; omega
      ·have yt : ¬ (q : Int) < (nL : Int) := by omega
       go_wp2_with fail;go_ret;exact ⟨_, rfl, rfl, ym⟩
theorem fLa (w : World) (K X V : Int) (Z : Bool) (a0 Q O N M L : Int) (J : Bool) (D b1 C B A z : Int) (s : Bool) (S : ByteArray) (v : 0 <= K) (i : K <= 255) (g : -128 <= X /\ X <= 127) (f : -128 <= V /\ V <= 127) (ha : ∀ x ∈ [a0, Q, O, N, M, L], -128 <= x /\ x <= 127) (_hb : ∀ x ∈ [D, b1, C, B, A, z], -128 <= x /\ x <= 127) (Y : Good w) :
 Calls Tryz.prog 4 #[.agg #[.int .u8 K, .int .i8 X, .int .i8 V, .bool Z, .int .i8 a0, .int .i8 Q, .int .i8 O, .int .i8 N, .int .i8 M, .int .i8 L, .bool J, .int .i8 D, .int .i8 b1, .int .i8 C, .int .i8 B, .int .i8 A, .int .i8 z, .bool s], .string S] w (Ret (fun r _ => r = .bool true) w) := by
 by_cases hl : 40 < S.size
 ·exact fLl w K X V Z a0 Q O N M L J D b1 C B A z s S hl Y
 have H : S.size <= 40 := by omega
 obtain ⟨U, hk⟩ : ∃ k : Nat, K.tmod 8 = (k : Int) := ⟨(K.tmod 8).toNat, by have := Int.tmod_nonneg 8 v; omega⟩;have E := hid fun w Y => me0 w K X V Z U hk v i g f Y;have o : (sPP U X V Z).length <= 6 := by rw [sk0]; exact sd0 U
 have m : (sa0 U).length <= 8 := by unfold sa0; split <;> decide
 have G : Hid (∀ w vp vt, RdP w vp (strP (sPP U X V Z)) -> RdT w vt (sa0 U) -> Good w -> Calls Tryz.prog 7 #[.agg #[vp, vt], .agg #[.int .i8 a0, .int .i8 Q, .int .i8 O, .int .i8 N, .int .i8 M, .int .i8 L, .bool J]] w (Ret (fun r w' => FieldIn w' vp vt r (sPP U X V Z) (sa0 U) 2 (hFF [a0, Q, O, N, M, L] J (sPP U X V Z).length)) w)) := fun w vp vt hp ht Y => by
  obtain ⟨pp, b, rfl, -, -, -⟩ := hp.open;rw [sPl];rw [sPl] at hp;refine (m1a w pp _ b vt a0 Q O N M L J ha o Y).mono ?_;rintro e w' ⟨r, rfl, ⟨hf, -⟩, y⟩;exact ⟨r, rfl, mh0 (RdC.below hp y) (RdC.below ht y) hf, y⟩
 generalize hFF [a0, Q, O, N, M, L] J (sPP U X V Z).length = F at *;generalize sPP U X V Z = P at *;generalize sa0 U = T at *;have R : Hid (∀ w, Good w -> Calls Tryz.prog 14 #[.string S] w (Ret (fun r _ => r = .bool (rQQ S.data.toList)) w)) := fun w Y => rc0 S (by omega) w Y
 cases hr : rQQ S.data.toList
 ·rw [hr] at R
  exact fLb w K X V Z a0 Q O N M L J D b1 C B A z s S H P T F E G
   (fun w vp vt vf h Y => anr w vp vt vf P T 2 F S h (by omega) hr Y)
   (fun w vp vt vf h Y => lnr w vp vt vf P T 2 F S h (by omega) hr Y) R Y
 ·rw [hr] at R
  obtain ⟨c, rfl, p⟩ := rMM hr (by omega) H;refine fLg w K X V Z a0 Q O N M L J D b1 C B A z s _ H P T F c m E G
   (fun w vp vt vf h Y => af0 w vp vt vf P T 2 F h c 40 p (by omega) Y)
   (fun w vp vt vf h Y => li0 w vp vt vf P T 2 F h c 40 p (by omega) Y) R (fun t ht w vp vt vf h Y => ?_)
   (fun t ht w vp vt vf h Y => lay w vp vt vf P T 2 F h t ht c 40 p (by omega) Y) Y
  refine (l1l w vp vt vf P T 2 F h t ht (triI T t) (tIn T t ht) c 40 p (by omega) Y).mono ?_;rintro e w' ⟨r, rfl, I, y⟩;refine ⟨r, rfl, ?_, y⟩;rcases I with q | ⟨q, n, a, h3, d⟩
  ·exact .inl q
  ·refine .inr ⟨q, ?_⟩
   have l : CvxL ((partT P F c (triI T t)).map (·.1)) := pcx (aQp h.m (by rw [tIn T t ht]; exact List.getElem_mem ht)) q;rw [bMl l (by rw [List.length_map]; exact a) (fun j hj => h3 j (by rw [List.length_map] at hj; exact hj))] at d;exact d
end Go.Proofs.YtbfcmipplhkkeaaGreatDoor
