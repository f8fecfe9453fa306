import Derived.Test.YtmcbeajdloaliaaGreatDoorYS48
/- klippelaw28.StackInserts: the law returns true at every input. -/
set_option maxHeartbeats 40000000
set_option maxRecDepth 100000
namespace Go.Proofs.YtmcbeajdloaliaaGreatDoor
open Go.RowKit Go.Lib Go.Shelf
section
variable {P : Program} {ops : Array Oper} {Q : Exit → Act → World → Prop} {md : Region.Mode}
theorem zhk {S : World → Prop} (i : Nat) {oi : Oper} {v : Value} {n : Nat} {l : Array Bool} {a : Act} {w : World} (h : wpAnyH P md ops Q S n (l.setIfInBounds i true) (a.put oi.dst v) w)
    (hi : ops[i]? = some oi := by rfl) (hs : Region.noSelect ops = true := by kernel_rfl) (hf : Region.free md ops l i = true := by kernel_rfl) (hr : (Region.ready md ops l).contains i = true := by kernel_rfl)
    (hQ : ∀ c a w, Q (.panic c) (a.put oi.dst v) w → Q (.panic c) a w := by exact fun _ _ _ h => h)
    (hy : YieldsIf P ops S oi v a := by exact Or.inl ⟨by rfl, by intro w h; (try dsimp only at h); first | (go_simp; done) | (go_simp; with_reducible rfl)⟩) (hS : S w := by assumption) : wpAnyH P md ops Q S (n + 1) l a w :=
  wpAnyH_take hi hs hf hr hQ hy hS h
end
noncomputable def lwE (U : List ByteArray) (nm : ByteArray) (nz : Int) : Int := if nameQ nm = false then 8 else if hasS U nm = true then 9 else if nz < 0 \/ (U.length : Int) <= nz then 3 else 0
theorem uEl (m : Nat) (U : List ByteArray) (nm : ByteArray) (Z : Int) (X : List ByteArray) (Y : U.length ≠ 60) : unitE m U nm Z X = if lwE U nm Z ≠ 0 then lwE U nm Z else if errF m X ≠ 0 then errF m X else if negF (X.map numT) = true then 6 else 0 := by
 unfold unitE lwE;rw [if_neg Y];by_cases h1 : nameQ nm = false
 ·rw [if_pos h1, if_pos h1, if_pos (by decide)]
 ·rw [if_neg h1, if_neg h1]
  by_cases h2 : hasS U nm = true
  ·rw [if_pos h2, if_pos h2, if_pos (by decide)]
  ·rw [if_neg h2, if_neg h2]
   by_cases h3 : Z < 0 \/ (U.length : Int) <= Z
   ·rw [if_pos h3, if_pos h3, if_pos (by decide)]
   ·rw [if_neg h3, if_neg h3]
    simp only [ne_eq, not_true_eq_false, if_false]
theorem rdSZ' (w : World) : RdS w (.slice none 0 0) [] := ⟨none, 0, rfl, Nat.le_refl _, by decide, rfl, fun h => absurd rfl h⟩
theorem dR' (w : World) : DepR w (.slice none 0 0) (.slice none 0 0) (.slice none 0 0) [] [] [] :=
 ⟨rdSZ' w, rdSZ' w, ⟨[], ⟨none, 0, rfl, Nat.le_refl _, by decide, rfl, fun h => absurd rfl h⟩, fun i u F h => by cases h⟩⟩
theorem hF0 {U : List ByteArray} {nm : ByteArray} {i : Nat} (h : i < U.length) : hasS (U.take (i + 1)) nm = (hasS (U.take i) nm || decide (U[i]?.getD ⟨#[]⟩ = nm)) := by
 have Y : ∀ l : List ByteArray, hasS l nm = true ↔ nm ∈ l := fun l => by
  constructor
  ·intro Z
   refine Classical.byContradiction fun h2 => ?_
   rw [hSf h2] at Z;cases Z
  ·exact hSt
 rw [Bool.eq_iff_iff, Bool.or_eq_true, Y, Y, decide_eq_true_iff, List.take_succ_eq_append_getElem h, List.getElem?_eq_getElem h, List.mem_append, List.mem_singleton];exact or_congr Iff.rfl ⟨fun e => e.symm, fun e => e.symm⟩
theorem hSm {U : List ByteArray} {nm : ByteArray} {i : Nat} (h : hasS (U.take i) nm = true) : hasS U nm = true := by
 refine hSt (Classical.byContradiction fun h2 => ?_);rw [hSf (fun h3 => h2 (List.mem_of_mem_take h3))] at h;cases h
theorem li0 {nb a b : Bool} (h : (0 : Int) = if nb = false then 8 else if a = true then 9 else 0) : (if b = true then (9 : Int) else 0) = if nb = false then 8 else if (a || b) = true then 9 else 0 := by
 cases nb <;> cases a <;> cases b <;> simp_all
theorem rSc {w : World} {v : Value} {l : List ByteArray} (h : RdS w v l) (X : 0 < l.length) : ∃ b o c : Nat, v = .slice (some ⟨b, o, none⟩) l.length c /\ b < w.heap.size /\ ∀ (i : Nat) (U : i < l.length), w.cell? ⟨b, o + i, none⟩ = some (.string l[i]) := by
 obtain ⟨p, c, e, -, -, V⟩ := h.open;obtain ⟨b, o, rfl, Z, Y⟩ := V (List.ne_nil_of_length_pos X);exact ⟨b, o, c, e, Z, Y⟩
theorem lEn {U : List ByteArray} {nm : ByteArray} {nz : Int} {nb : Bool} {wz : Int} (Z : nb = nameQ nm) (h : wz = if nb = false then 8 else if hasS U nm = true then 9 else 0) (Y : wz ≠ 0) : lwE U nm nz = wz := by
 subst Z;unfold lwE;by_cases h1 : nameQ nm = false
 ·rw [if_pos h1] at h ⊢; exact h.symm
 ·rw [if_neg h1] at h ⊢
  by_cases h2 : hasS U nm = true
  ·rw [if_pos h2] at h ⊢; exact h.symm
  ·rw [if_neg h2] at h; exact absurd h Y
theorem lwE_z {U : List ByteArray} {nm : ByteArray} {nz : Int} {nb : Bool} (Z : nb = nameQ nm) (h : (0 : Int) = if nb = false then 8 else if hasS U nm = true then 9 else 0) : lwE U nm nz = if nz < 0 \/ (U.length : Int) <= nz then 3 else 0 := by
 subst Z;unfold lwE;by_cases h1 : nameQ nm = false
 ·rw [if_pos h1] at h; cases h
 ·rw [if_neg h1] at h ⊢
  by_cases h2 : hasS U nm = true
  ·rw [if_pos h2] at h; cases h
  ·rw [if_neg h2]
theorem sPt (k : Nat) : 2 <= (sPP k).length := by unfold sPP; split <;> decide
theorem si0 (w : World) (kz s0 s1 : Int) (hC : Bool) (a0 a1 a2 a3 a4 a5 : Int) (ah : Bool) (vh : Value) (H : List StepQ) (nm : ByteArray) (nz : Int) (xM : Option Addr) (xL xu : Nat) (b0 b1 b2 b3 b4 b5 : Int) (bh : Bool)
 (gs : 0 <= kz) (HW : kz <= 255) (Z6 : -128 <= s0 /\ s0 <= 127) (Z7 : -128 <= s1 /\ s1 <= 127) (ha : ∀ x ∈ [a0, a1, a2, a3, a4, a5], -128 <= x /\ x <= 127) (hH : RdSt w vh H) (hv : ∀ x ∈ [b0, b1, b2, b3, b4, b5], -128 <= x /\ x <= 127) (XK : -9223372036854775808 <= nz /\ nz <= 9223372036854775807) (hg : Good w) :
 Calls Tryz.prog 3 #[.agg #[.int .u8 kz, .int .i8 s0, .int .i8 s1, .bool hC, .int .i8 a0, .int .i8 a1, .int .i8 a2, .int .i8 a3, .int .i8 a4, .int .i8 a5, .bool ah, vh], .agg #[.string nm, .int .i64 nz, .slice xM xL xu], .agg #[.int .i8 b0, .int .i8 b1, .int .i8 b2, .int .i8 b3, .int .i8 b4, .int .i8 b5, .bool bh]] w (Ret (fun r _ => r = .bool true) w) := by
 obtain ⟨kk, HX⟩ : ∃ k : Nat, kz.tmod 8 = (k : Int) := ⟨(kz.tmod 8).toNat, by have := Int.tmod_nonneg 8 gs; omega⟩;have kN : Hid (H.length <= 3 -> ∀ w', Below w.heap.size w w' -> Good w' -> _) := fun h3 w' hbw hg => m2o w' kz s0 s1 hC kk HX gs HW Z6 Z7 a0 a1 a2 a3 a4 a5 ah ha vh H (hH.below hbw) h3 hg;obtain ⟨p1, c1, rfl, Xw, Xx, -⟩ := hH.1;unfold maxLen at Xx;clear hH ha gs HW Z6 Z7 HX;have YV := hid hv;clear hv;obtain ⟨m1, xD⟩ : ∃ n, n = H.length := ⟨_, rfl⟩;rw [<- xD] at Xw kN ⊢;clear xD;have kX : Hid (∀ w', _) := fun w' => fl0 w' kz s0 s1 hC a0 a1 a2 a3 a4 a5 ah p1 m1 c1 (by omega)
 obtain ⟨f1, yb⟩ : ∃ f, f = decide (m1 <= 3) := ⟨_, rfl⟩;rw [<- yb] at kX;have X1 : Hid (f1 = true -> m1 <= 3) := fun h => of_decide_eq_true (yb.symm.trans h);clear yb;go_enter Tryz.func3, Tryz.ntmps3;go_wp2_with fail;obtain ⟨W, hW⟩ := zex (((w.alloc (.cells #[.int .u8 kz, .int .i8 s0, .int .i8 s1, .bool hC, .int .i8 a0, .int .i8 a1, .int .i8 a2, .int .i8 a3, .int .i8 a4, .int .i8 a5, .bool ah, .slice p1 m1 c1] 31)).alloc (.cells #[.string nm, .int .i64 nz, .slice xM xL xu] 35)).alloc (.cells #[.int .i8 b0, .int .i8 b1, .int .i8 b2, .int .i8 b3, .int .i8 b4, .int .i8 b5, .bool bh] 28));have hB : Below w.heap.size w W := by rw [hW]; exact (((Below.refl _ _).alloc (Nat.le_refl _) _).alloc (by simp) _).alloc (by simp; omega) _
 have bx : BoxN W w.heap.size 31 [.int .u8 kz, .int .i8 s0, .int .i8 s1, .bool hC, .int .i8 a0, .int .i8 a1, .int .i8 a2, .int .i8 a3, .int .i8 a4, .int .i8 a5, .bool ah, .slice p1 m1 c1] := by
  rw [hW];exact ((BoxN.new w #[.int .u8 kz, .int .i8 s0, .int .i8 s1, .bool hC, .int .i8 a0, .int .i8 a1, .int .i8 a2, .int .i8 a3, .int .i8 a4, .int .i8 a5, .bool ah, .slice p1 m1 c1] 31 _ rfl).alloc _).alloc _
 have He : BoxN W (w.heap.size + 1) 35 [.string nm, .int .i64 nz, .slice xM xL xu] := by rw [hW]; exact (BoxN.new _ #[.string nm, .int .i64 nz, .slice xM xL xu] _ _ (by simp)).alloc _
 have Hj : BoxN W (w.heap.size + 2) 28 [.int .i8 b0, .int .i8 b1, .int .i8 b2, .int .i8 b3, .int .i8 b4, .int .i8 b5, .bool bh] := by rw [hW]; exact BoxN.new _ _ _ _ (by simp)
 rw [<- hW];clear hW;refine zR (k2a W (hg.below hB)) fun o1 z7 => ?_;have Hu := zbt hB z7;have g2 := bx.bl z7;have Hi := Hj.bl z7;have Hd := He.bl z7;clear z7 hB bx Hj He;obtain ⟨k0, k1, k2, k3, k4, k5, k6, k7, k8, k9, gB, gC⟩ := zk12 g2;go_wp2_with fail;refine zR (kX.out o1) fun o3 z8 => ?_;have z4 := zbt Hu z8;have Hh := g2.bl z8;have g3 := Hi.bl z8;have g1 := Hd.bl z8;clear z8 Hu g2 Hi Hd k0 k1 k2 k3 k4 k5 k6 k7 k8 k9 gB gC kX;cases yb : f1
 ·go_wp2_with fail
  refine zR (k2a o3 (hg.below z4)) fun o4 hJ => ?_;go_wp2_with fail;go_ret;exact ⟨_, rfl, rfl, (zbt z4 hJ)⟩
 have V8 := g1.cell 0 rfl;by_cases h40 : (nm.size : Int) <= 40
 case neg =>
  have Xj : (40 : Int) < (nm.size : Int) := by omega
  go_wp2_with fail;refine zR (k2a o3 (hg.below z4)) fun o4 hJ => ?_;go_wp2_with fail;go_ret;exact ⟨_, rfl, rfl, (zbt z4 hJ)⟩
 have Xj : ¬ (40 : Int) < (nm.size : Int) := by omega
 obtain ⟨k0, k1, k2, k3, k4, k5, k6, k7, k8, k9, gB, gC⟩ := zk12 Hh;go_wp2_with fail;refine (kN.out (X1.out yb) o3 z4 (hg.below z4)).mono ?_;rintro e o4 ⟨_, rfl, ⟨pp, cp, pt, ct, pb, t, pu, cu, ps, cs, P, T, B, H0, U, n, rfl, hP, hT, XH, HA, Xu, hD, HC, gi⟩, hJ⟩;have Xl := zbt z4 hJ;have H5 : Hid (w.heap.size + 2 < o3.heap.size) := g3.lt;have g4 := g3.bl hJ;have Hf := g1.bl hJ;clear hJ z4 Hh g3 g1 V8 k0 k1 k2 k3 k4 k5 k6 k7 k8 k9 gB gC kN;subst Xu;have X4 : Hid (2 <= P.length) := by rw [hP, sc0]; exact sPt kk
 have xE : MeshOK P T 2 := by rw [hP, hT]; exact sl0 kk s0 s1 hC
 have HG : P.length <= 6 := by rw [hP, sc0]; exact se0 kk
 have XN := hD.m.plen;have zn : (uTo (n + 1)).length = n + 1 := uTl _;rw [zn] at hD ⊢;have HD := hid hD;have JF := hid HC;have JG := hid xE;have JE := hid HA;clear hD HC xE hP hT HA zn XN;go_upto_region 4 with fail;obtain ⟨o5, yj⟩ : ∃ W, W = (o4.alloc (.cells #[.slice pp P.length cp, .slice pt T.length ct] 41)).alloc (.cells #[.slice pb P.length t, .slice pu (n + 1) cu, .slice ps n cs] 45) := ⟨_, rfl⟩;have zY : Below o4.heap.size o4 o5 := by rw [yj]; exact zal2 _ _ _
 obtain ⟨g6, xB⟩ : ∃ g, g = o4.heap.size := ⟨_, rfl⟩;obtain ⟨g7, yd⟩ : ∃ g, g = o4.heap.size + 1 := ⟨_, rfl⟩;have cM : BoxN o5 g6 41 [.slice pp P.length cp, .slice pt T.length ct] := by rw [yj]; exact (BoxN.new _ _ _ _ xB.symm).alloc _
 have cD : BoxN o5 g7 45 [.slice pb P.length t, .slice pu (n + 1) cu, .slice ps n cs] := by rw [yj]; exact BoxN.new _ _ _ _ (by simp [yd])
 have Hv := zbt Xl zY;have Hk := g4.bl zY;have Hg := Hf.bl zY;have HE : Hid (w.heap.size + 2 < g6) := by unfold Hid; rw [xB]; exact g4.lt
 have Xs : Hid (g6 < g7) := by unfold Hid; omega
 rw [<- yj, <- yd, <- xB];clear yj xB yd g4 Hf;obtain ⟨X, hX⟩ := zex (hFF [b0, b1, b2, b3, b4, b5] bh P.length);have hh : Hid (X.length = P.length) := by rw [hX]; exact he0 _ _ _
 have zE : Hid (∀ q ∈ X, Sz 3 q) := fun q hq => by rw [hX] at hq; exact s3o ((fht _ _ _ q hq).mono (by omega))
 have kO : Hid (∀ w', Good w' -> _) := fun w' hg' => m1a w' pp P.length cp (.slice pt T.length ct) b0 b1 b2 b3 b4 b5 bh YV.out HG hg';rw [<- hX] at kO;clear hX;have JL : 2 <= P.length := X4.out;obtain ⟨y0, y1, y2, y3, y4, y5, y6⟩ := zk7 Hk;obtain ⟨m0, m1⟩ := zk2 cM;go_wp2_with fail;refine (kO.out o5 (hg.below Hv)).mono ?_;rintro e o6 ⟨vr, rfl, ⟨xK, HO⟩, z9⟩;have xx := zbt zY z9;have Hw := zbt Hv z9;have kU := Hg.bl z9;have kM := cM.bl z9;have kD := cD.bl z9;obtain ⟨px, cx, rfl, Xy, HM, -⟩ := RdQ.open xK;rw [hh.out] at Xy HO xK ⊢;unfold maxLen at HM;have Vf : w.heap.size + 1 < o5.heap.size := Hg.lt;clear y0 y1 y2 y3 y4 y5 y6 m0 m1 Hk cM cD z9 kO;have u2 := kU.cell 2 rfl;have V7 := kU.frozen 2;go_upto_region 5 with fail;obtain ⟨o7, hL⟩ : ∃ W, W = o6.setCell ⟨w.heap.size + 1, 2, none⟩ (.slice px P.length cx) := ⟨_, rfl⟩;have yd : o6.grownBy o7 (some (w.heap.size + 1)) := by rw [hL]; exact gst (grl o6 _) 2 _
 have lU : BoxN o7 (w.heap.size + 1) 35 [.string nm, .int .i64 nz, .slice px P.length cx] := by rw [hL]; exact kU.set 2 _
 have HZ : g6 ≠ w.heap.size + 1 := by have := HE.out; omega
 have Z0 : g7 ≠ w.heap.size + 1 := by have := Xs.out; have := HE.out; omega
 have lM : BoxN o7 g6 41 [.slice pp P.length cp, .slice pt T.length ct] := by rw [hL]; exact bKf kM HZ
 have lD : BoxN o7 g7 45 [.slice pb P.length t, .slice pu (n + 1) cu, .slice ps n cs] := by rw [hL]; exact bKf kD Z0
 have gc : Below w.heap.size w o7 := by rw [hL]; exact Hw.setCell (p := ⟨w.heap.size + 1, 2, none⟩) (by show w.heap.size <= w.heap.size + 1; omega) _
 have Ha : Hid (RdQ o7 (.slice px P.length cx) X) := by
  rw [hL];have J := RdC.set_other (x := .slice px P.length cx) xK u2 (by intro y hy e; rw [e] at hy; simp at hy);unfold Hid RdQ;rw [hh.out];rw [hh.out] at J;exact J
 have hA := HD.out.below xx;have hn : Hid (DepN o7 (.slice pp P.length cp) (.slice pt T.length ct) (.slice pb P.length t) (.slice pu (n + 1) cu) (.slice ps n cs) P T 3 B (uTo (n + 1)) (sTo P.length B H0 n)) := by
  rw [hL];refine ⟨RdC.set_other hA.p u2 (by intro y hy e; rw [e] at hy; obtain ⟨x, -, hx⟩ := List.mem_flatMap.1 hy; simp at hx), RdC.set_other hA.t u2 (by intro y hy e; rw [e] at hy; obtain ⟨x, -, hx⟩ := List.mem_flatMap.1 hy; simp at hx), hA.m, RdC.set_other hA.base u2 (by intro y hy e; rw [e] at hy; simp at hy), RdC.set_other hA.unit u2 (by intro y hy e; rw [e] at hy; simp at hy), ?_, hA.fl, hA.fs, hA.ul, hA.u60, hA.ok⟩;exact ((gi.below xx).kept (gst (grl o6 (some (w.heap.size + 1))) 2 _) (fun x e s n xs _ h => .inr (fun e' => by have := (h.lt _ e').1; have := H5.out; omega))).rd
 rw [<- hL];have H7 : Hid (FlsV 33 o7 o3.heap.size (.slice ps n cs) (sTo P.length B H0 n)) := by
  rw [hL];exact (gi.below xx).kept (gst (grl o6 (some (w.heap.size + 1))) 2 _) (fun x e s n xs _ h => .inr (fun e' => by have := (h.lt _ e').1; have := H5.out; omega))
 clear hL yd kU kM kD u2 V7 xK HO hA gi Hw xx zY HD;have Vh : ¬ cx = 1 := by omega
 obtain ⟨bx, ox, JI, ex, ya, gy⟩ := RdQ.cells Ha.out (by rw [hh.out]; omega);injection ex with ex1 ex2 ex3
 clear ex2;subst ex1 ex3;have z5 : (X.tail.map RS).length = P.length - 1 := by rw [List.length_map, List.length_tail, hh.out]
 have kR : Hid (RdS o7 (.slice (some ⟨bx, ox + 1, none⟩) (P.length - 1) (cx - 1)) (X.tail.map RS)) := by
  unfold Hid RdS;rw [z5];refine RdC.mk' (by rw [List.length_map, z5]) (by omega) (by unfold maxLen; omega) (fun _ => ⟨bx, ox + 1, rfl, fun i x hx => ?_⟩);rw [List.getElem?_map, List.getElem?_map] at hx;cases J : X.tail[i]? with
  | none => rw [J] at hx; cases hx
  | some q =>
    rw [J] at hx;simp at hx;subst hx;rw [List.getElem?_tail] at J;have h6 := (List.getElem?_eq_some_iff.1 J);obtain ⟨h6, h7⟩ := h6;have h8 := gy (i + 1) h6;rw [show ox + 1 + i = ox + (i + 1) by omega, h8];unfold hI;simp [h6, h7]
 have YT : P.length <= 6 := HG;have zS : (uTo (n + 1)).length ≠ 60 := by rw [uTl]; omega
 obtain ⟨E0, d⟩ : ∃ E, E = lwE (uTo (n + 1)) nm nz := ⟨_, rfl⟩;obtain ⟨E1, hO⟩ : ∃ E, E = unitE P.length (uTo (n + 1)) nm nz (X.map RS) := ⟨_, rfl⟩;obtain ⟨E2, hQ⟩ : ∃ E, E = unitE P.length (uTo (n + 1)) nm nz (X.tail.map RS) := ⟨_, rfl⟩;have zC : Hid (E1 = if E0 ≠ 0 then E0 else if negF X = true then 6 else 0) := by
  unfold Hid;rw [hO, uEl _ _ _ _ _ zS, <- d, eFo hh.out (fun q hq => (zE.out q hq).mono (by omega)), nTm];simp only [ne_eq, not_true_eq_false, if_false]
 have zi : Hid (E2 = if E0 ≠ 0 then E0 else 5) := by
  unfold Hid;rw [hQ, uEl _ _ _ _ _ zS, <- d, eFs (by rw [z5]; omega)];simp
 have H4 : E2 ≠ 0 := by
  rw [zi.out];by_cases h : E0 = 0
  ·rw [if_neg (by simpa using h)]; decide
  ·rw [if_pos h]; exact h
 have H1 : Hid (∀ w' : World, Below o7.heap.size o7 w' -> Good w' -> Calls Tryz.prog 11 #[.agg #[.slice pp P.length cp, .slice pt T.length ct], .agg #[.slice pb P.length t, .slice pu (n + 1) cu, .slice ps n cs], .agg #[.string nm, .int .i64 nz, .slice (some ⟨bx, ox, none⟩) P.length cx]] w' (Ret (fun r w2 => ∃ (pa yo pc : Option Addr) (na ca nb zW nc cc : Nat) (b' U' : List ByteArray) (S' : List (List ByteArray)), r = .tuple #[.agg #[.slice pa na ca, .slice yo nb zW, .slice pc nc cc], .int .i64 E1] /\ DepR w2 (.slice pa na ca) (.slice yo nb zW) (.slice pc nc cc) b' U' S' /\
  ((E1 ≠ 0 /\ b'.length + U'.length + S'.length = 0) \/ (E1 = 0 /\ b' = B.map RS /\ U' = (uTo (n + 1)).take nz.toNat ++ nm :: (uTo (n + 1)).drop nz.toNat /\ S' = (insS B (sTo P.length B H0 n) X nz.toNat).map fun F => F.map RS))) w')) := fun w' hb hg' => by
  refine (sf0 w' _ _ _ _ _ P T 3 B _ _ (hn.out.below hb) (by omega) nm nz (.slice (some ⟨bx, ox, none⟩) P.length cx) (X.map RS) (RdQ.toS (RdC.below Ha.out hb)) ⟨sok (by omega) (by omega) zE.out, by rw [List.length_map, hh.out]; omega⟩ (fun _ => ⟨X, rfl, hh.out, zE.out⟩) hg').mono ?_;rintro e w2 ⟨r, rfl, hr, G⟩;rw [<- hO] at hr;rcases hr with ⟨h1, rfl⟩ | ⟨h1, v1, v2, v3, rfl, r1, r2, r3, -⟩
  ·exact ⟨_, rfl, ⟨none, none, none, 0, 0, 0, 0, 0, 0, [], [], [], rfl, dR' w2, .inl ⟨h1, rfl⟩⟩, G⟩
  ·rw [nTm] at r3
   have hd : DepR w2 v1 v2 v3 (B.map RS) ((uTo (n + 1)).take nz.toNat ++ nm :: (uTo (n + 1)).drop nz.toNat) ((insS B (sTo P.length B H0 n) X nz.toNat).map fun F => F.map RS) := ⟨r1.toS, r2, r3.toTx⟩;obtain ⟨qa, ra, qb, rb, qc, rc, rfl, rfl, rfl⟩ := hd.open;exact ⟨_, rfl, ⟨_, _, _, _, _, _, _, _, _, _, _, _, by rw [h1], hd, .inr ⟨h1, rfl, rfl, rfl⟩⟩, G⟩
 have H2 : Hid (∀ w' : World, Below o7.heap.size o7 w' -> Good w' -> Calls Tryz.prog 11 #[.agg #[.slice pp P.length cp, .slice pt T.length ct], .agg #[.slice pb P.length t, .slice pu (n + 1) cu, .slice ps n cs], .agg #[.string nm, .int .i64 nz, .slice (some ⟨bx, ox + 1, none⟩) (P.length - 1) (cx - 1)]] w' (Ret (fun r _ => r = .tuple #[.agg #[.slice none 0 0, .slice none 0 0, .slice none 0 0], .int .i64 E2]) w')) := fun w' hb hg' => by
  refine (sf0 w' _ _ _ _ _ P T 3 B _ _ (hn.out.below hb) (by omega) nm nz (.slice (some ⟨bx, ox + 1, none⟩) (P.length - 1) (cx - 1)) (X.tail.map RS) (RdC.below kR.out hb) ⟨sok (by omega) (by omega) (fun q hq => zE.out q (List.mem_of_mem_tail hq)), by rw [z5]; omega⟩ (fun J => by rw [eFs (by rw [z5]; omega)] at J; cases J) hg').mono ?_;rintro e w2 ⟨r, rfl, hr, G⟩;rw [<- hQ] at hr;rcases hr with ⟨h1, rfl⟩ | ⟨h1, -⟩
  ·exact ⟨_, rfl, rfl, G⟩
  ·exact absurd h1 H4
 have gX : Hid (∀ w' : World, Below o7.heap.size o7 w' -> Good w' -> Calls Tryz.prog 13 #[.agg #[.slice pp P.length cp, .slice pt T.length ct], .slice (some ⟨bx, ox + 1, none⟩) (P.length - 1) (cx - 1)] w' (Ret (fun r _ => r = .int .i64 5) w')) := fun w' hb hg' => by
  have J := fay w' _ _ (.slice (some ⟨bx, ox + 1, none⟩) (P.length - 1) (cx - 1)) P T 3 (X.tail.map RS) (hn.out.below hb).p (hn.out.below hb).t hn.out.m (RdC.below kR.out hb) (sok (by omega) (by omega) (fun q hq => zE.out q (List.mem_of_mem_tail hq))) (by rw [z5]; omega) hg';rw [eFs (by rw [z5]; omega)] at J;exact J
 have Hb : Hid (∀ i, i < P.length -> o7.cell? ⟨bx, ox + i, none⟩ = some (.string (RS (hI X i)))) := fun i hi => gy i (by rw [hh.out]; exact hi)
 have zL := hid d;clear d hO hQ gy z5 H4 zS kR;obtain ⟨m0, m1⟩ := zk2 lM;obtain ⟨d0, d1, d2⟩ := zk3 lD;obtain ⟨u0, u1, u2⟩ := zk3 lU;go_wp2_with fail;refine (H1.out o7 (Below.refl _ _) (hg.below gc)).mono ?_;rintro e o8 ⟨_, rfl, ⟨pa, yo, pc, na, ca, nb, zW, nc, cc, b', U', S', rfl, HN, HL⟩, za⟩;have Hn := za;have Hx := zbt gc za;have aM := lM.bl za;have aD := lD.bl za;have aU := lU.bl za;have gP := hid HN;have hF := hid HL;clear za lM lD lU m0 m1 d0 d1 d2 u0 u1 u2 H1 HN HL gc;go_upto_region 6 with fail;obtain ⟨o9, xF⟩ : ∃ W, W = o8.alloc (.cells #[.slice pa na ca, .slice yo nb zW, .slice pc nc cc] 45) := ⟨_, rfl⟩;have zj : Below o8.heap.size o8 o9 := by rw [xF]; exact zal _ _
 obtain ⟨g9, gp⟩ : ∃ g, g = o8.heap.size := ⟨_, rfl⟩;have bY : BoxN o9 g9 45 [.slice pa na ca, .slice yo nb zW, .slice pc nc cc] := by rw [xF]; exact BoxN.new _ _ _ _ gp.symm
 have Ho := zbt Hn zj;have xy := zbt Hx zj;have bM := aM.bl zj;have bD := aD.bl zj;have bU := aU.bl zj;have gQ := hid (gP.out.below zj);rw [<- xF, <- gp];clear xF gp zj Hn Hx aM aD aU gP;obtain ⟨u0, u1, u2⟩ := zk3 bU;go_upto_region 7 with fail;obtain ⟨op, xH⟩ : ∃ W, W = o9.alloc (.cells #[.string nm, .int .i64 nz, .slice (some ⟨bx, ox, none⟩) P.length cx] 35) := ⟨_, rfl⟩;obtain ⟨zX, zp⟩ : ∃ g, g = o9.heap.size := ⟨_, rfl⟩;have gb : Below o9.heap.size o9 op := by rw [xH]; exact zal _ _
 have pS : BoxN op zX 35 [.string nm, .int .i64 nz, .slice (some ⟨bx, ox, none⟩) P.length cx] := by rw [xH]; exact BoxN.new o9 #[.string nm, .int .i64 nz, .slice (some ⟨bx, ox, none⟩) P.length cx] _ _ zp.symm
 have pU := bU.bl gb;rw [<- xH, <- zp];have xQ := hid zp;clear xH u0 u1 u2 zp;have u2 := pU.cell 2 rfl;have q2 := pS.cell 2 rfl;have V4 := pS.frozen 2;go_upto_region 8 with fail;obtain ⟨oa, xG⟩ : ∃ W, W = op.setCell ⟨zX, 2, none⟩ (.slice (some ⟨bx, ox + 1, none⟩) (P.length - 1) (cx - 1)) := ⟨_, rfl⟩;have z3 : Below o9.heap.size o9 oa := by rw [xG]; exact gb.setCell (p := ⟨zX, 2, none⟩) (by show o9.heap.size <= zX; rw [xQ.out]; exact Nat.le_refl _) _
 have cS : BoxN oa zX 35 [.string nm, .int .i64 nz, .slice (some ⟨bx, ox + 1, none⟩) (P.length - 1) (cx - 1)] := by rw [xG]; exact pS.set 2 _
 have ga := zbt Ho z3;have ge := zbt xy z3;have cM := bM.bl z3;have cD := bD.bl z3;have cU := bU.bl z3;have cY := bY.bl z3;have gT := hid (gQ.out.below z3);rw [<- xG];clear xG xQ z3 Ho xy bM bD bU bY u2 q2 V4 pS pU gb gQ;obtain ⟨m0, m1⟩ := zk2 cM;obtain ⟨d0, d1, d2⟩ := zk3 cD;obtain ⟨V5, V6, gF⟩ := zk3 cS;go_wp2_with fail;refine zR (H2.out oa ga (hg.below ge)) fun ob hv => ?_;have Hp := zbt ga hv;have Hy := zbt ge hv;have dM := cM.bl hv;have dD := cD.bl hv;have dU := cU.bl hv;have dY := cY.bl hv;have dS := cS.bl hv;have gU := hid (gT.out.below hv);clear hv ga ge cM cD cU cY cS m0 m1 d0 d1 d2 V5 V6 gF H2 gT;go_upto_region 9 with fail;obtain ⟨oc, gt⟩ : ∃ W, W = ob.alloc (.cells #[.slice none 0 0, .slice none 0 0, .slice none 0 0] 45) := ⟨_, rfl⟩;have hV : Below ob.heap.size ob oc := by rw [gt]; exact zal _ _
 obtain ⟨JK, xY⟩ : ∃ g, g = ob.heap.size := ⟨_, rfl⟩;have Hq := zbt Hp hV;have Hz := zbt Hy hV;have eM := dM.bl hV;have eD := dD.bl hV;have eU := dU.bl hV;have eY := dY.bl hV;have eS := dS.bl hV;have gV := hid (gU.out.below hV);rw [<- gt, <- xY];clear gt xY hV Hp Hy dM dD dU dY dS gU;have kQ : Hid (∀ w', _) := fun w' => lIN nm (by omega) w'
 obtain ⟨zo, yi⟩ : ∃ b, b = nameQ nm := ⟨_, rfl⟩;rw [<- yi] at kQ;have H3 := hid yi;clear yi;have u0 := eU.cell 0 rfl;go_wp2_with fail;refine zR (kQ.out oc) fun od hbd => ?_;have Hr := zbt Hq hbd;have Xn := zbt Hz hbd;have fM := eM.bl hbd;have fD := eD.bl hbd;have fU := eU.bl hbd;have fY := eY.bl hbd;have fS := eS.bl hbd;have YZ := hid (gV.out.below hbd);clear hbd Hq Hz eM eD eU eY eS u0 kQ gV;obtain ⟨W1, HH⟩ : ∃ z : Int, z = if zo = false then 8 else 0 := ⟨_, rfl⟩
 have kV := hid HH;clear HH;go_upto_if 67 with fail;go_cut [14] (fun s wx => s = .int .i64 W1 /\ wx = od)
 case first =>
  cases zo
  ·have e : W1 = 8 := by rw [kV.out]; rfl
   go_wp2_with fail;go_meet;exact ⟨by rw [e], rfl⟩
  ·have e : W1 = 0 := by rw [kV.out]; rfl
   go_wp2_with fail;go_meet;exact ⟨by rw [e], rfl⟩
 case rest =>
 obtain ⟨rfl, rfl⟩ := hcut;obtain ⟨U, hU⟩ := zex (uTo (n + 1));have hw : Hid (U.length = n + 1) := by unfold Hid; rw [hU, uTl]
 have X2 := hid hU;rw [<- hU] at hn zL hF;clear hU;obtain ⟨bu, ou, Xa, eu, HJ, Z5⟩ := rSc hn.out.unit (by rw [hw.out]; omega);rw [hw.out] at eu;injection eu with eu1 eu2 eu3
 clear eu2;subst eu1 eu3;have H9 : Hid (∀ i, i <= n -> o7.cell? ⟨bu, ou + i, none⟩ = some (.string (U[i]?.getD ⟨#[]⟩))) := fun i hi => by
  have J : i < U.length := by rw [hw.out]; omega
  rw [Z5 i J, List.getElem?_eq_getElem J]; rfl
 clear Z5;have lM := fM.lt;have lD := fD.lt;have lU := fU.lt;have lY := fY.lt;have lS := fS.lt;go_wp2_with fail;go_loopw [14, 15] (fun t14 t15 wr => ∃ (i : Nat) (wz : Int), t14 = .int .i64 wz /\ t15 = .int .i64 i /\ i <= n + 1 /\ Hid (wz = if zo = false then 8 else if hasS (U.take i) nm = true then 9 else 0) /\ Below wc.heap.size wc wr) (fun t14 t15 _ => n + 1 - (RowKit.intOf t15).toNat)
 case atStart => exact ⟨0, W1, rfl, rfl, Nat.zero_le _, by unfold Hid; rw [kV.out]; cases zo <;> rfl, Below.refl _ _⟩
 case round =>
  obtain ⟨i, wz, rfl, rfl, XB, hf, G⟩ := hrel;have hl := zbt Xn G;have kD := fD.below G lD;have kU := fU.below G lU;have d1 := kD.cell 1 rfl;have d2 := kD.cell 2 rfl;obtain ⟨u0, u1⟩ := zk2 kU;by_cases h : i <= n /\ wz = 0
  ·obtain ⟨h, rfl⟩ := h
   have Vj : (i : Int) < (n : Int) + 1 := by omega
   have x1 := (((zbt Hr G)).cell (p := ⟨bu, ou + i, none⟩) HJ).trans (H9.out i h);have zQ := hid (hF0 (nm := nm) (U := U) (i := i) (by rw [hw.out]; omega));generalize U[i]?.getD ⟨#[]⟩ = ui at *;obtain ⟨bA, hm⟩ : ∃ b, b = decide (ui = nm) := ⟨_, rfl⟩;have gO := hid hm;rw [<- hm] at zQ;clear hm;have Xz : Below wc.heap.size wc wr.drew := G.trans ((bdN wr 1).mono G.size);go_upto_region 15 with fail;go_cut [86] (fun s wx => s = .bool bA /\ Below wc.heap.size wc wx)
   case first =>
    have XQ := bse ui nm;go_region;all_goals
     go_wp2_with fail;go_meet;refine ⟨?_, Xz⟩;rw [gO.out];rcases XQ with ⟨rfl, _⟩ | ⟨J, h6, h7⟩
     ·simp
     ·simp [J, h7]
   case rest =>
   obtain ⟨rfl, ya⟩ := hcut;have zD : Hid ((if bA = true then (9 : Int) else 0) = if zo = false then 8 else if hasS (U.take (i + 1)) nm = true then 9 else 0) := by
    unfold Hid;rw [zQ.out];exact li0 hf.out
   clear hf zQ gO;cases bA
   ·go_wp2_with fail
    go_roundw
    case rel => exact ⟨i + 1, 0, rfl, by simp, by omega, zD, ya⟩
    case measure =>
     show n + 1 - ((i : Int) + 1).toNat < n + 1 - (i : Int).toNat;omega
   ·go_wp2_with fail
    go_roundw
    case rel => exact ⟨i + 1, 9, rfl, by simp, by omega, zD, ya⟩
    case measure =>
     show n + 1 - ((i : Int) + 1).toNat < n + 1 - (i : Int).toNat;omega
  ·have xt : Hid (wz = if zo = false then 8 else if hasS U nm = true then 9 else 0) := by
    unfold Hid;rw [hf.out];by_cases h9 : hasS (U.take i) nm = true
    ·rw [hSm h9]
     simp [h9]
    ·by_cases xw : i <= n
     ·have g5 : wz ≠ 0 := fun e => h ⟨xw, e⟩
      have Hm := hf.out;cases zo
      ·rfl
      ·rw [if_neg (by decide), if_neg h9] at Hm
       exact absurd Hm g5
     ·rw [List.take_of_length_le (by rw [hw.out]; omega)]
   have yf := zbt Hr G;have kM := fM.below G lM;have kY := fY.below G lY;have kS := fS.below G lS;have xo := hid (YZ.out.below G);by_cases hwz : wz = 0
   case neg =>
    have d : E0 = wz := by rw [zL.out]; exact lEn H3.out xt.out hwz
    have hQ : E2 = wz := by rw [zi.out, d, if_pos hwz]
    have hO : E1 = wz := by rw [zC.out, d, if_pos hwz]
    have hp : b'.length + U'.length + S'.length = 0 := by
     rcases hF.out with ⟨-, J⟩ | ⟨J, -⟩
     ·exact J
     ·rw [hO] at J; exact absurd J hwz
    have hE : Hid (∀ w', Below wr.heap.size wr w' -> _) := fun w' hb => n2a w' _ _ _ b' U' S' (xo.out.below hb) (by omega)
    rw [decide_eq_true hp] at hE;have gz : (wz == 0) = false := by rw [beq_eq_false_iff_ne]; exact hwz
    have gA : (wz != 0) = true := by rw [bne_iff_ne]; exact hwz
    have JT : (wz != wz) = false := by rw [bne_eq_false_iff_eq]
    have gn : (i <= n) \/ (i = n + 1) := by omega
    subst hQ;subst hO;obtain ⟨y0, y1, y2⟩ := zk3 kY;have u2 := kU.cell 2 rfl;clear hf xt zL zC zi hF d hp h;obtain ⟨wo, gx⟩ := zex (wr : World);subst gx;have yn := kY.lt;rcases gn with J | J
    ·have h6 : (i : Int) < (n : Int) + 1 := by omega
     have h8 : (i : Int) < (n : Int) + 1 := by omega
     clear h6;go_wp2_with fail;go_loopw [14, 16] (fun t14 t16 wq => t14 = .int .i64 E1 /\ t16 = .int .i64 0 /\ Below wo.heap.size wo wq) (fun _ _ _ => 0)
     case atStart => exact ⟨rfl, rfl, Below.refl _ _⟩
     case round =>
      obtain ⟨rfl, rfl, L⟩ := hrel;have qU := kU.bl L;have v2 := qU.cell 2 rfl;have qY := kY.below L yn;obtain ⟨y0, y1, y2⟩ := zk3 qY;have gg : (0 : Int) < (P.length : Int) := by omega
      go_wp2_with fail;refine zR (hE.out wr L) fun wz2 hY => ?_;go_wp2_with fail;go_ret;exact ⟨_, rfl, rfl, ((zbt hl L)).trans (hY.mono (Nat.le_trans hl.size L.size))⟩
    ·have h6 : (i : Int) = (n : Int) + 1 := by omega
     have h8 : ¬ (i : Int) < (n : Int) + 1 := by omega
     clear h6;go_wp2_with fail;go_loopw [14, 16] (fun t14 t16 wq => t14 = .int .i64 E1 /\ t16 = .int .i64 0 /\ Below wo.heap.size wo wq) (fun _ _ _ => 0)
     case atStart => exact ⟨rfl, rfl, Below.refl _ _⟩
     case round =>
      obtain ⟨rfl, rfl, L⟩ := hrel;have qU := kU.bl L;have v2 := qU.cell 2 rfl;have qY := kY.below L yn;obtain ⟨y0, y1, y2⟩ := zk3 qY;have gg : (0 : Int) < (P.length : Int) := by omega
      go_wp2_with fail;refine zR (hE.out wr L) fun wz2 hY => ?_;go_wp2_with fail;go_ret;exact ⟨_, rfl, rfl, ((zbt hl L)).trans (hY.mono (Nat.le_trans hl.size L.size))⟩
   case pos =>
   subst hwz;have h8 : ¬ (i : Int) < (n : Int) + 1 := by
    intro e;exact h ⟨by omega, rfl⟩
   have d : E0 = if nz < 0 \/ (U.length : Int) <= nz then 3 else 0 := by rw [zL.out]; exact lwE_z H3.out xt.out
   rw [hw.out] at d;clear hf xt zL h;by_cases hr : nz < 0 \/ (((n + 1 : Nat)) : Int) <= nz
   ·rw [if_pos hr] at d
    have hQ : E2 = 3 := by rw [zi.out, d]; rfl
    have hO : E1 = 3 := by rw [zC.out, d]; rfl
    have hp : b'.length + U'.length + S'.length = 0 := by
     rcases hF.out with ⟨-, J⟩ | ⟨J, -⟩
     ·exact J
     ·rw [hO] at J; cases J
    have hE : Hid (∀ w', Below wr.heap.size wr w' -> _) := fun w' hb => n2a w' _ _ _ b' U' S' (xo.out.below hb) (by omega)
    rw [decide_eq_true hp] at hE;have HR := hid hr;clear d hr hp hF zC zi;subst hO hQ;obtain ⟨wo, gx⟩ := zex (wr : World);subst gx;have yn := kY.lt;rcases HR.out with h9 | h9
    ·have h6 : nz < 0 := h9
     clear h6;go_wp2_with fail;go_loopw [14, 16] (fun t14 t16 wq => t14 = .int .i64 3 /\ t16 = .int .i64 0 /\ Below wo.heap.size wo wq) (fun _ _ _ => 0)
     case atStart => exact ⟨rfl, rfl, Below.refl _ _⟩
     case round =>
      obtain ⟨rfl, rfl, L⟩ := hrel;have qU := kU.bl L;have v2 := qU.cell 2 rfl;have qY := kY.below L yn;obtain ⟨y0, y1, y2⟩ := zk3 qY;have gg : (0 : Int) < (P.length : Int) := by omega
      go_wp2_with fail;refine zR (hE.out wr L) fun wz2 hY => ?_;go_wp2_with fail;go_ret;exact ⟨_, rfl, rfl, ((zbt hl L)).trans (hY.mono (Nat.le_trans hl.size L.size))⟩
    ·have h6 : ¬ nz < 0 := by omega
     have xw : (n : Int) < nz := by omega
     clear h9;have h9 : ¬ nz < 0 := h6;clear h6;go_wp2_with fail;go_loopw [14, 16] (fun t14 t16 wq => t14 = .int .i64 3 /\ t16 = .int .i64 0 /\ Below wo.heap.size wo wq) (fun _ _ _ => 0)
     case atStart => exact ⟨rfl, rfl, Below.refl _ _⟩
     case round =>
      obtain ⟨rfl, rfl, L⟩ := hrel;have qU := kU.bl L;have v2 := qU.cell 2 rfl;have qY := kY.below L yn;obtain ⟨y0, y1, y2⟩ := zk3 qY;have gg : (0 : Int) < (P.length : Int) := by omega
      go_wp2_with fail;refine zR (hE.out wr L) fun wz2 hY => ?_;go_wp2_with fail;go_ret;exact ⟨_, rfl, rfl, ((zbt hl L)).trans (hY.mono (Nat.le_trans hl.size L.size))⟩
   rw [if_neg hr] at d;have hQ : E2 = 5 := by rw [zi.out, d]; rfl
   have zM : Hid (E1 = if negF X = true then 6 else 0) := by unfold Hid; rw [zC.out, d]; rfl
   have h9 : ¬ nz < 0 := fun e => hr (.inl e);have xw : ¬ (n : Int) < nz := fun e => hr (.inr (by omega))
   clear zC zi d hr;subst hQ;obtain ⟨m0, m1⟩ := zk2 kM;have gF := kS.cell 2 rfl;go_wp2_with fail;refine zR (gX.out wr yf (hg.below hl)) fun ws hbs => ?_;have xZ := zbt yf hbs;have Xo := zbt hl hbs;have qD := kD.bl hbs;have qU := kU.bl hbs;have qY := kY.bl hbs;have X0 := hid (xo.out.below hbs);clear hbs m0 m1 gF kD kU kY kM kS xo yf hl d1 d2 u0 u1 gX;have XY := qD.lt;have XZ := qU.lt;have V1 := qY.lt;go_wp2_with fail;go_loopw [14, 16] (fun t14 t16 wq => ∃ (i : Nat) (wz : Int), t14 = .int .i64 wz /\ t16 = .int .i64 i /\ i <= P.length /\ Hid (wz = if negF (X.take i) = true then 6 else 0) /\ Below ws.heap.size ws wq) (fun t14 t16 _ => P.length - (RowKit.intOf t16).toNat)
   case atStart => exact ⟨0, 0, rfl, rfl, Nat.zero_le _, rfl, Below.refl _ _⟩
   case round =>
    obtain ⟨j, wz, rfl, rfl, XC, hf, L⟩ := hrel;have gf := zbt Xo L;have yU := qU.below L XZ;have v2 := yU.cell 2 rfl;by_cases h : j < P.length /\ wz = 0
    ·obtain ⟨h, rfl⟩ := h
     have Vk : (j : Int) < (P.length : Int) := by omega
     have x1 := (((zbt xZ L)).cell (p := ⟨bx, ox + j, none⟩) ya).trans (Hb.out j h);have xC : j < X.length := by rw [hh.out]; exact h
     have xq : Hid (negF (X.take (j + 1)) = (negF (X.take j) || decide (hI X j < 0))) := by
      unfold Hid negF;rw [List.take_succ_eq_append_getElem xC, List.any_append, ho0 X j xC];simp
     generalize hI X j = xj at *;have H6 : Hid (∀ w', _) := fun w' => ra0 xj w';by_cases hx : xj < 0
     ·have hs : xj.num < 0 := num_lt_zero_iff.2 hx
      have XP : xj.num.sign < 0 := Int.sign_neg_iff.2 hs;have zD : Hid ((6 : Int) = if negF (X.take (j + 1)) = true then 6 else 0) := by unfold Hid; rw [xq.out, decide_eq_true hx, Bool.or_true]; rfl
      clear hf xq hx xC;go_wp2_with fail;refine (H6.out wr).mono ?_;rintro e wt ⟨_, rfl, rfl, nd, rfl⟩;go_wp2_with fail;go_roundw
      case rel => exact ⟨j + 1, 6, rfl, by simp, by omega, zD, L.trans ((bdN wr nd).mono L.size)⟩
      case measure =>
       show P.length - ((j : Int) + 1).toNat < P.length - (j : Int).toNat;omega
     ·have hs : ¬ xj.num < 0 := fun e => hx (num_lt_zero_iff.1 e)
      have XP : ¬ xj.num.sign < 0 := fun e => hs (Int.sign_neg_iff.1 e);have zD : Hid ((0 : Int) = if negF (X.take (j + 1)) = true then 6 else 0) := by unfold Hid; rw [xq.out, decide_eq_false hx, Bool.or_false]; exact hf.out
      clear hf xq hx xC;go_wp2_with fail;refine (H6.out wr).mono ?_;rintro e wt ⟨_, rfl, rfl, nd, rfl⟩;go_wp2_with fail;go_roundw
      case rel => exact ⟨j + 1, 0, rfl, by simp, by omega, zD, L.trans ((bdN wr nd).mono L.size)⟩
      case measure =>
       show P.length - ((j : Int) + 1).toNat < P.length - (j : Int).toNat;omega
    ·have kW : Hid (wz = E1) := by
      unfold Hid;rw [zM.out, hf.out];by_cases h3 : negF (X.take j) = true
      ·have h4 : negF X = true := by
        unfold negF at h3 ⊢;rw [List.any_eq_true] at h3 ⊢;obtain ⟨q, hq, J⟩ := h3;exact ⟨q, List.mem_of_mem_take hq, J⟩
       rw [if_pos h3, if_pos h4]
      ·by_cases h6 : j < P.length
       ·have h7 : wz ≠ 0 := fun e => h ⟨h6, e⟩
        rw [hf.out, if_neg h3] at h7;exact absurd rfl h7
       ·rw [List.take_of_length_le (by rw [hh.out]; omega)]
     have XS := kW.out;subst XS;have yY := qY.below L V1;have yD := qD.below L XY;obtain ⟨y0, y1, y2⟩ := zk3 yY;have kL := hid (X0.out.below L);have zr := zbt xZ L;by_cases hz : wz = 0
     case neg =>
      have hp : b'.length + U'.length + S'.length = 0 := by
       rcases hF.out with ⟨-, J⟩ | ⟨J, -⟩
       ·exact J
       ·exact absurd J hz
      have hE := n2a wr _ _ _ b' U' S' kL.out (by omega);rw [decide_eq_true hp] at hE;have X3 := hid hE;have HU : (j : Int) < (P.length : Int) \/ ¬ (j : Int) < (P.length : Int) := by omega
      clear hE hp hF hf kW zM h;rcases HU with g5 | g5
      all_goals
       go_wp2_with fail;refine X3.out.mono ?_;rintro e wt ⟨_, rfl, rfl, Xv⟩;go_wp2_with fail;go_ret;exact ⟨_, rfl, rfl, (zbt gf Xv)⟩
     case pos =>
     subst hz;have JN : ¬ (j : Int) < (P.length : Int) := by
      intro e;exact h ⟨by omega, rfl⟩
     have xr := hid (H7.out.below zr);have d0 := yD.cell 0 rfl;have d2 := yD.cell 2 rfl;have JS : Hid (n <= 3) := XH;obtain ⟨j0, HS, Z9, hM, Za⟩ := info_parts iFd;clear hf kW zM h;obtain ⟨wv, XT⟩ : ∃ x : World, x = wr := ⟨_, rfl⟩;subst XT;obtain ⟨O, Z1⟩ : ∃ k : Nat, nz = (k : Int) := ⟨nz.toNat, by omega⟩;subst Z1;have Z1 : O <= n := by omega
     obtain ⟨A, gh⟩ : ∃ S, S = sTo P.length B H0 n := ⟨_, rfl⟩;have z2 : Hid (A.length = n) := by unfold Hid; rw [gh, sTl]
     rw [<- gh] at hn hF xr;clear gh;have gW := hid (hn.out.below zr);obtain ⟨us, zn, xJ, gw⟩ := xr.out;rw [z2.out] at zn xJ;have v0 : ∀ u ∈ us, u.oneCell' = true := fun u Q => by
      obtain ⟨i, hi, rfl⟩ := List.getElem_of_mem Q;obtain ⟨p, c, e⟩ := (gw i _ _ (List.getElem?_eq_getElem hi) (List.getElem?_eq_getElem (by rw [z2.out, <- zn]; exact hi))).shape;rw [e]; rfl
     have zO := hid v0;have kT := hid gw;have JH := hid xJ;have xR := hid (osc (xJ.alloc (.cells #[.slice pb P.length t] 33)));have zP := hid (oo2 wv wv.heap.size 33 (.slice pb P.length t) (Nat.le_refl _));have zT := hid zn;have V3 := yD.lt;have Xc := (yD.alloc (.cells #[.slice pb P.length t] 33)).cell 2 rfl;clear v0 gw xJ zn
     go_upto_region 29 with (at_builtin; refine wLa _ rfl _ _ 43 rfl wv.heap.size 33 j0 (.slice none 0 0) 1 24 Tryz.underlying43 HS Z9 hM Za rfl (by decide) _ _ _ rfl zP.out _ n us rfl xR.out zO.out (by unfold maxLen; omega) (by omega) (by simp) ?_
                             intro v3 N z1 D;rw [Nat.add_comm 1 n] at z1;obtain ⟨hG, zF, rfl, Vi, hZ, Vg, gm⟩ := obk z1 (by omega))
     have hm : Below wv.heap.size wv N := ((Below.refl wv.heap.size wv).alloc (Nat.le_refl _) (.cells #[.slice pb P.length t] 33)).grown D (by simp) (fun j hj => (zP.out.lt j hj).1);have kK : Hid (∀ j u, (Value.slice pb P.length t :: us)[j]? = some u -> N.cell? ⟨hG, 0 + j, none⟩ = some u) := fun j u Q => by
      have J := z1.cells rfl j u (by simpa using Q);rw [aps] at J;exact J
     have gY : Hid (∀ i, i <= n -> (fldN B A i).length = P.length) := fun i hi => hn.out.fl _ (fNm B A (by rw [z2.out]; exact hi))
     have YU : Hid (∀ i, i <= n -> ∃ b o c, N.cell? ⟨hG, i, none⟩ = some (.slice (some ⟨b, o, none⟩) P.length c) /\ b < N.heap.size /\ ∀ j : Nat, j < P.length -> N.cell? ⟨b, o + j, none⟩ = some (.string (RS (hI (fldN B A i) j)))) := fun i hi => by
      have hR : ∃ u, (Value.slice pb P.length t :: us)[i]? = some u /\ RdQ N u (fldN B A i) := by
       cases i with
       | zero => exact ⟨_, rfl, RdC.below gW.out.base hm⟩
       | succ j =>
         have hj : j < us.length := by rw [zT.out]; omega
         have HT : j < A.length := by rw [z2.out]; omega
         have e : fldN B A (j + 1) = A[j] := by unfold fldN; rw [List.getElem?_cons_succ, List.getElem?_eq_getElem HT]; rfl
         rw [e];exact ⟨us[j], by rw [List.getElem?_cons_succ, List.getElem?_eq_getElem hj], RdC.below (kT.out j us[j] A[j] (List.getElem?_eq_getElem hj) (List.getElem?_eq_getElem HT)).rd hm⟩
      obtain ⟨u, Q, hr⟩ := hR;have HY := gY.out i hi;obtain ⟨b, o, c, rfl, hb, hc⟩ := hr.cells (by rw [HY]; omega);rw [HY] at Q hc;have J := kK.out i _ Q;rw [Nat.zero_add] at J;exact ⟨b, o, c, J, hb, hc⟩
     have gd := zbt gf hm;have g8 := zbt zr hm;have aD := yD.bl hm;have aU := yU.bl hm;have aY := yY.bl hm;have YX := hid (kL.out.below hm);have X5 : Hid (FlsV 33 N o3.heap.size (.slice ps n cs) A) := xr.out.below hm;have xS : Hid (∀ (i : Nat) (u : Value) (F : List Rat), us[i]? = some u -> A[i]? = some F -> FldV N o3.heap.size u F) := fun i u F a b => (kT.out i u F a b).below hm;clear Xc V3 z1 D zP xR kT xr yD yU yY kL d0 d2 y0 y1 y2 v2 L gf zr gW;have HF := X2.out;obtain ⟨JW, Xa, Xf, v4, v5, -⟩ := hn.out.unit.open;injection Xf with eu1 eu2 eu3
     clear eu1 eu2;subst eu3;rw [hw.out] at v4;obtain ⟨UV, zZ⟩ : ∃ l : List Value, l = U.map fun x => Value.string x := ⟨_, rfl⟩;have zV : Hid (UV.length = n + 1) := by unfold Hid; rw [zZ, List.length_map, hw.out]
     have zU : Hid (∀ w', Below N.heap.size N w' -> ∀ j u, UV[j]? = some u -> w'.cell? ⟨bu, ou + j, none⟩ = some u) := fun w' hb j u Q => by
      rw [zZ, List.getElem?_map] at Q;have h8 := zbt g8 hb;by_cases hj : j <= n
      ·have J := H9.out j hj
       rw [List.getElem?_eq_getElem (by rw [hw.out]; omega)] at J Q;simp at Q;rw [<- Q];exact (zcq h8 HJ J :)
      ·rw [List.getElem?_eq_none (by rw [hw.out]; omega)] at Q
       cases Q
     have M : Hid (∀ u ∈ UV, u.oneCell' = true) := fun u Q => by
      rw [zZ] at Q;obtain ⟨x, -, rfl⟩ := List.mem_map.1 Q;rfl
     have X8 := hid zZ;clear zZ HF;have ht : Hid (∀ w', Below N.heap.size N w' -> SrcR w' (.slice (some ⟨bu, ou, none⟩) O cu) O 1 (UV.take O)) := fun w' hb => shd (zU.out w' hb) (by rw [zV.out]; omega)
     have C : Hid (∀ w', Below N.heap.size N w' -> SrcR w' (.slice (some ⟨bu, ou + O, none⟩) (n + 1 - O) (cu - O)) (n + 1 - O) 1 (UV.drop O)) := fun w' hb => by
      have J := spt (k := O) (m := n + 1 - O) (c := cu) (o := ou) (b := bu) (zU.out w' hb) (by rw [zV.out]; omega) (.slice (some ⟨bu, ou + O, none⟩) (n + 1 - O) (cu - O)) (by rw [if_neg (by omega)]) (fun e => by omega);rwa [List.take_of_length_le (by rw [List.length_drop, zV.out]; omega)] at J
     have R : Hid (∀ w', Below N.heap.size N w' -> w'.cell? ⟨g7, 0, none⟩ = some (.slice pb P.length t) /\ w'.cell? ⟨g7, 1, none⟩ = some (.slice (some ⟨bu, ou, none⟩) (n + 1) cu) /\ w'.cell? ⟨w.heap.size + 1, 1, none⟩ = some (.int .i64 O) /\ w'.cell? ⟨w.heap.size + 1, 0, none⟩ = some (.string nm)) := fun w' hb => by
      have y7 := aD.bl hb;have y8 := aU.bl hb;exact ⟨y7.cell 0 rfl, y7.cell 1 rfl, y8.cell 1 rfl, y8.cell 0 rfl⟩
     obtain ⟨i0, HQ, Zb, gz, gA⟩ := info_parts iSg;have JP : (0 : Int) <= (O : Int) := by omega
     have xD : (O : Int) <= (n : Int) + 1 := by omega
     have xE : (n : Int) + 1 <= (cu : Int) := by omega
     have XD : (O : Int) <= (cu : Int) := by omega
     have XE : ¬ cu = O := by omega
     have g0 : Below N.heap.size N N.drew := bdN N 1;unfold maxLen at v5 gm;clear h8 h9 xw XK;go_cut [18] from 154 to 173 (fun s wx => ∃ (he : Nat) (pU : Option Addr) (cU : Nat), s = .pointer (some ⟨he, 0, none⟩) /\ N.heap.size <= he /\ BoxN wx he 45 [.slice pb P.length t, .slice pU (n + 2) cU, .slice none 0 0] /\ wx.ownsRow N.heap.size 9 1 (.slice pU (n + 2) cU) (n + 2) (UV.take O ++ .string nm :: UV.drop O) /\ Below N.heap.size N wx)
     case first => as_aux_lemma =>
      refine wp_region_held_drew (S := (fun w' => w'.cell? ⟨g7, 0, none⟩ = some (.slice pb P.length t) /\ w'.cell? ⟨g7, 1, none⟩ = some (.slice (some ⟨bu, ou, none⟩) (n + 1) cu) /\ w'.cell? ⟨w.heap.size + 1, 1, none⟩ = some (.int .i64 O) /\ w'.cell? ⟨w.heap.size + 1, 0, none⟩ = some (.string nm))) (by kernel_rfl) ?_ (fun Y => ?_)
      ·exact R.out _ g0
      refine zhk 0 ?_
      try simp only [Act.put, List.getElem_toArray, List.getElem_cons_zero, List.setIfInBounds_toArray, List.set_cons_zero, List.set_cons_succ]
      refine zhk 1 ?_
      try simp only [Act.put, List.getElem_toArray, List.getElem_cons_zero, List.getElem_cons_succ, List.setIfInBounds_toArray, List.set_cons_zero, List.set_cons_succ]
      refine zhk 3 ?_
      try simp only [Act.put, List.getElem_toArray, List.getElem_cons_zero, List.getElem_cons_succ, List.setIfInBounds_toArray, List.set_cons_zero, List.set_cons_succ]
      refine zhk 4 ?_
      try simp only [Act.put, List.getElem_toArray, List.getElem_cons_zero, List.getElem_cons_succ, List.setIfInBounds_toArray, List.set_cons_zero, List.set_cons_succ]
      refine zhk 5 ?_
      try simp only [Act.put, List.getElem_toArray, List.getElem_cons_zero, List.getElem_cons_succ, List.setIfInBounds_toArray, List.set_cons_zero, List.set_cons_succ]
      refine zhk 6 ?_
      try simp only [Act.put, List.getElem_toArray, List.getElem_cons_zero, List.getElem_cons_succ, List.setIfInBounds_toArray, List.set_cons_zero, List.set_cons_succ]
      refine zhk 7 ?_
      try simp only [Act.put, List.getElem_toArray, List.getElem_cons_zero, List.getElem_cons_succ, List.setIfInBounds_toArray, List.set_cons_zero, List.set_cons_succ]
      refine zhk 9 ?_
      try simp only [Act.put, List.getElem_toArray, List.getElem_cons_zero, List.getElem_cons_succ, List.setIfInBounds_toArray, List.set_cons_zero, List.set_cons_succ]
      refine zhk 10 ?_
      try simp only [Act.put, List.getElem_toArray, List.getElem_cons_zero, List.getElem_cons_succ, List.setIfInBounds_toArray, List.set_cons_zero, List.set_cons_succ]
      refine zhk 13 ?_
      try simp only [Act.put, List.getElem_toArray, List.getElem_cons_zero, List.getElem_cons_succ, List.setIfInBounds_toArray, List.set_cons_zero, List.set_cons_succ]
      refine zhk 14 ?_
      try simp only [Act.put, List.getElem_toArray, List.getElem_cons_zero, List.getElem_cons_succ, List.setIfInBounds_toArray, List.set_cons_zero, List.set_cons_succ]
      refine zhk 15 ?_
      try simp only [Act.put, List.getElem_toArray, List.getElem_cons_zero, List.getElem_cons_succ, List.setIfInBounds_toArray, List.set_cons_zero, List.set_cons_succ]
      refine zhk 16 ?_
      try simp only [Act.put, List.getElem_toArray, List.getElem_cons_zero, List.getElem_cons_succ, List.setIfInBounds_toArray, List.set_cons_zero, List.set_cons_succ]
      refine zhk 17 ?_
      try simp only [Act.put, List.getElem_toArray, List.getElem_cons_zero, List.getElem_cons_succ, List.setIfInBounds_toArray, List.set_cons_zero, List.set_cons_succ]
      refine rdy3 2 11 20 (fun K hK => ?_) (fun K hK => ?_) (fun K hK => ?_)
      ·go_simp
       have zJ := bAl g0 (.cells #[] 9);have gJ := on0 N.drew N.heap.size 9 g0.size;refine hK.out _ _ (R.out _ zJ) (fun Y => ?_);clear hK K;try simp only [Act.put, List.getElem_toArray, List.getElem_cons_zero, List.getElem_cons_succ, List.setIfInBounds_toArray, List.set_cons_zero, List.set_cons_succ]
       refine rdy3 8 11 20 (fun K hK => ?_) (fun K hK => ?_) (fun K hK => ?_)
       ·refine appS 156 161 zJ gJ (ht.out _ zJ) (fun u Q => M.out u (List.mem_of_mem_take Q)) (by omega) ?_
        intro K1 ho YJ xN JY;refine hK.out _ _ (R.out _ xN) (fun Y => ?_);clear hK K;try simp only [Act.put, List.getElem_toArray, List.getElem_cons_zero, List.getElem_cons_succ, List.setIfInBounds_toArray, List.set_cons_zero, List.set_cons_succ]
        refine rdy2 11 20 (fun K hK => ?_) (fun K hK => ?_)
        ·go_simp
         have xO := bAl xN (.cells #[.string nm] 9);have YL := YJ.alloc (.cells #[.string nm] 9);have zc3 : BoxN (ho.alloc (.cells #[.string nm] 9)) (ho.heap.size) 9 [.string nm] := BoxN.new _ _ _ _ (by simp);refine hK.out _ _ (R.out _ xO) (fun Y => ?_);clear hK K;try simp only [Act.put, List.getElem_toArray, List.getElem_cons_zero, List.getElem_cons_succ, List.setIfInBounds_toArray, List.set_cons_zero, List.set_cons_succ]
         refine rdy2 12 20 (fun K hK => ?_) (fun K hK => ?_)
         ·refine appS 162 165 xO YL (.inr ⟨⟨ho.heap.size, 0, none⟩, 1, rfl, rfl, fun j u Q => by rw [aps, Nat.zero_add]; exact zc3.cell j Q⟩ : SrcR _ _ 1 1 [.string nm]) (by intro u Q; simp at Q; subst Q; rfl) (by omega) ?_
          intro K2 gM YN yy JZ;refine hK.out _ _ (R.out _ yy) (fun Y => ?_);clear hK K;try simp only [Act.put, List.getElem_toArray, List.getElem_cons_zero, List.getElem_cons_succ, List.setIfInBounds_toArray, List.set_cons_zero, List.set_cons_succ]
          refine rdy2 18 20 (fun K hK => ?_) (fun K hK => ?_)
          ·refine appS 166 171 yy YN (C.out _ yy) (fun u Q => M.out u (List.mem_of_mem_drop Q)) (by omega) ?_
           intro K3 xP gK gH K0;rw [show 0 + O + 1 + (n + 1 - O) = n + 2 by omega, List.nil_append, List.append_assoc] at gK;obtain ⟨Vc, Va, rfl⟩ := oRs gK;refine hK.out _ _ (R.out _ gH) (fun Y => ?_);clear hK K;try simp only [Act.put, List.getElem_toArray, List.getElem_cons_zero, List.getElem_cons_succ, List.setIfInBounds_toArray, List.set_cons_zero, List.set_cons_succ]
           refine zhk 19 ?_
           try simp only [Act.put, List.getElem_toArray, List.getElem_cons_zero, List.getElem_cons_succ, List.setIfInBounds_toArray, List.set_cons_zero, List.set_cons_succ]
           refine rdy1 20 (fun K hK => ?_)
           ·go_simp
            have ZG := bAl gH (.cells #[.slice none 0 0, .slice none 0 0, .slice none 0 0] 45);have Ve := gK.alloc (.cells #[.slice none 0 0, .slice none 0 0, .slice none 0 0] 45);have ZA : BoxN (xP.alloc (.cells #[.slice none 0 0, .slice none 0 0, .slice none 0 0] 45)) (xP.heap.size) 45 [.slice none 0 0, .slice none 0 0, .slice none 0 0] := BoxN.new _ _ _ _ (by simp);have YR : N.heap.size <= xP.heap.size := Nat.le_trans gH.size (Nat.le_of_eq (by simp));refine hK.out _ _ (R.out _ ZG) (fun Y => ?_);clear hK K;try simp only [Act.put, List.getElem_toArray, List.getElem_cons_zero, List.getElem_cons_succ, List.setIfInBounds_toArray, List.set_cons_zero, List.set_cons_succ]
            generalize (xP.alloc (.cells #[.slice none 0 0, .slice none 0 0, .slice none 0 0] 45)) = zy6 at *;refine rdy1 21 (fun K hK => ?_)
            ·obtain ⟨x0, x1, x2, x3, x4, x5⟩ := box3c ZA
             go_simp;have I := endD ZG YR ZA Ve (.slice pb P.length t) (.slice Vc (n + 2) Va) (.slice none 0 0);refine hK.out _ _ (R.out _ I.2.2) (fun Y => ?_);clear hK K;try simp only [Act.put, List.getElem_toArray, List.getElem_cons_zero, List.getElem_cons_succ, List.setIfInBounds_toArray, List.set_cons_zero, List.set_cons_succ]
             refine wpAnyH_done (by kernel_rfl) ?_ _;go_wp2_with fail;go_meet;exact ⟨_, _, _, rfl, YR, I⟩
          ·go_simp
           have gI := bAl yy (.cells #[.slice none 0 0, .slice none 0 0, .slice none 0 0] 45);have YQ := YN.alloc (.cells #[.slice none 0 0, .slice none 0 0, .slice none 0 0] 45);have ZD : BoxN (gM.alloc (.cells #[.slice none 0 0, .slice none 0 0, .slice none 0 0] 45)) (gM.heap.size) 45 [.slice none 0 0, .slice none 0 0, .slice none 0 0] := BoxN.new _ _ _ _ (by simp);have YS : N.heap.size <= gM.heap.size := Nat.le_trans yy.size (Nat.le_of_eq (by simp));refine hK.out _ _ (R.out _ gI) (fun Y => ?_);clear hK K;try simp only [Act.put, List.getElem_toArray, List.getElem_cons_zero, List.getElem_cons_succ, List.setIfInBounds_toArray, List.set_cons_zero, List.set_cons_succ]
           refine rdy1 18 (fun K hK => ?_)
           ·refine appS 166 171 gI YQ (C.out _ gI) (fun u Q => M.out u (List.mem_of_mem_drop Q)) (by omega) ?_
            intro K4 K5 gL ZH V9;have ZF := ZD.gb V9 (fun e => obN YQ ZD (by decide) e.symm);rw [show 0 + O + 1 + (n + 1 - O) = n + 2 by omega, List.nil_append, List.append_assoc] at gL;obtain ⟨Vd, Vb, rfl⟩ := oRs gL;refine hK.out _ _ (R.out _ ZH) (fun Y => ?_);clear hK K;try simp only [Act.put, List.getElem_toArray, List.getElem_cons_zero, List.getElem_cons_succ, List.setIfInBounds_toArray, List.set_cons_zero, List.set_cons_succ]
            refine zhk 19 ?_
            try simp only [Act.put, List.getElem_toArray, List.getElem_cons_zero, List.getElem_cons_succ, List.setIfInBounds_toArray, List.set_cons_zero, List.set_cons_succ]
            refine rdy1 21 (fun K hK => ?_)
            ·obtain ⟨x0, x1, x2, x3, x4, x5⟩ := box3c ZF
             go_simp;have I := endD ZH YS ZF gL (.slice pb P.length t) (.slice Vd (n + 2) Vb) (.slice none 0 0);refine hK.out _ _ (R.out _ I.2.2) (fun Y => ?_);clear hK K;try simp only [Act.put, List.getElem_toArray, List.getElem_cons_zero, List.getElem_cons_succ, List.setIfInBounds_toArray, List.set_cons_zero, List.set_cons_succ]
             refine wpAnyH_done (by kernel_rfl) ?_ _;go_wp2_with fail;go_meet;exact ⟨_, _, _, rfl, YS, I⟩
         ·go_simp
          have j5 := bAl xO (.cells #[.slice none 0 0, .slice none 0 0, .slice none 0 0] 45);have jH := YL.alloc (.cells #[.slice none 0 0, .slice none 0 0, .slice none 0 0] 45);have Ze := zc3.alloc (.cells #[.slice none 0 0, .slice none 0 0, .slice none 0 0] 45);have ve : BoxN ((ho.alloc (.cells #[.string nm] 9)).alloc (.cells #[.slice none 0 0, .slice none 0 0, .slice none 0 0] 45)) (ho.heap.size + 1) 45 [.slice none 0 0, .slice none 0 0, .slice none 0 0] := BoxN.new _ _ _ _ (by simp);have ku : N.heap.size <= ho.heap.size + 1 := Nat.le_trans xO.size (Nat.le_of_eq (by simp));refine hK.out _ _ (R.out _ j5) (fun Y => ?_);clear hK K;try simp only [Act.put, List.getElem_toArray, List.getElem_cons_zero, List.getElem_cons_succ, List.setIfInBounds_toArray, List.set_cons_zero, List.set_cons_succ]
          refine rdy1 12 (fun K hK => ?_)
          ·refine appS 162 165 j5 jH (.inr ⟨⟨ho.heap.size, 0, none⟩, 1, rfl, rfl, fun j u Q => by rw [aps, Nat.zero_add]; exact Ze.cell j Q⟩ : SrcR _ _ 1 1 [.string nm]) (by intro u Q; simp at Q; subst Q; rfl) (by omega) ?_
           intro Vq J8 jI yr ZI;have vf := ve.gb ZI (fun e => obN jH ve (by decide) e.symm);refine hK.out _ _ (R.out _ yr) (fun Y => ?_);clear hK K;try simp only [Act.put, List.getElem_toArray, List.getElem_cons_zero, List.getElem_cons_succ, List.setIfInBounds_toArray, List.set_cons_zero, List.set_cons_succ]
           refine rdy1 18 (fun K hK => ?_)
           ·refine appS 166 171 yr jI (C.out _ yr) (fun u Q => M.out u (List.mem_of_mem_drop Q)) (by omega) ?_
            intro Vr J9 yR j6 ZJ;have vg := vf.gb ZJ (fun e => obN jI vf (by decide) e.symm);rw [show 0 + O + 1 + (n + 1 - O) = n + 2 by omega, List.nil_append, List.append_assoc] at yR;obtain ⟨Ys, Yc, rfl⟩ := oRs yR;refine hK.out _ _ (R.out _ j6) (fun Y => ?_);clear hK K;try simp only [Act.put, List.getElem_toArray, List.getElem_cons_zero, List.getElem_cons_succ, List.setIfInBounds_toArray, List.set_cons_zero, List.set_cons_succ]
            refine zhk 19 ?_
            try simp only [Act.put, List.getElem_toArray, List.getElem_cons_zero, List.getElem_cons_succ, List.setIfInBounds_toArray, List.set_cons_zero, List.set_cons_succ]
            refine rdy1 21 (fun K hK => ?_)
            ·obtain ⟨x0, x1, x2, x3, x4, x5⟩ := box3c vg
             go_simp;have I := endD j6 ku vg yR (.slice pb P.length t) (.slice Ys (n + 2) Yc) (.slice none 0 0);refine hK.out _ _ (R.out _ I.2.2) (fun Y => ?_);clear hK K;try simp only [Act.put, List.getElem_toArray, List.getElem_cons_zero, List.getElem_cons_succ, List.setIfInBounds_toArray, List.set_cons_zero, List.set_cons_succ]
             refine wpAnyH_done (by kernel_rfl) ?_ _;go_wp2_with fail;go_meet;exact ⟨_, _, _, rfl, ku, I⟩
        ·go_simp
         have j7 := bAl xN (.cells #[.slice none 0 0, .slice none 0 0, .slice none 0 0] 45);have YI := YJ.alloc (.cells #[.slice none 0 0, .slice none 0 0, .slice none 0 0] 45);have Zy : BoxN (ho.alloc (.cells #[.slice none 0 0, .slice none 0 0, .slice none 0 0] 45)) (ho.heap.size) 45 [.slice none 0 0, .slice none 0 0, .slice none 0 0] := BoxN.new _ _ _ _ (by simp);have kv : N.heap.size <= ho.heap.size := Nat.le_trans xN.size (Nat.le_of_eq (by simp));refine hK.out _ _ (R.out _ j7) (fun Y => ?_);clear hK K;try simp only [Act.put, List.getElem_toArray, List.getElem_cons_zero, List.getElem_cons_succ, List.setIfInBounds_toArray, List.set_cons_zero, List.set_cons_succ]
         refine rdy1 11 (fun K hK => ?_)
         ·go_simp
          have j8 := bAl j7 (.cells #[.string nm] 9);have jJ := YI.alloc (.cells #[.string nm] 9);have vi := Zy.alloc (.cells #[.string nm] 9);have Zf : BoxN ((ho.alloc (.cells #[.slice none 0 0, .slice none 0 0, .slice none 0 0] 45)).alloc (.cells #[.string nm] 9)) (ho.heap.size + 1) 9 [.string nm] := BoxN.new _ _ _ _ (by simp);refine hK.out _ _ (R.out _ j8) (fun Y => ?_);clear hK K;try simp only [Act.put, List.getElem_toArray, List.getElem_cons_zero, List.getElem_cons_succ, List.setIfInBounds_toArray, List.set_cons_zero, List.set_cons_succ]
          refine rdy1 12 (fun K hK => ?_)
          ·refine appS 162 165 j8 jJ (.inr ⟨⟨ho.heap.size + 1, 0, none⟩, 1, rfl, rfl, fun j u Q => by rw [aps, Nat.zero_add]; exact Zf.cell j Q⟩ : SrcR _ _ 1 1 [.string nm]) (by intro u Q; simp at Q; subst Q; rfl) (by omega) ?_
           intro Vs Ja jK ys ZK;have vj := vi.gb ZK (fun e => obN jJ vi (by decide) e.symm);refine hK.out _ _ (R.out _ ys) (fun Y => ?_);clear hK K;try simp only [Act.put, List.getElem_toArray, List.getElem_cons_zero, List.getElem_cons_succ, List.setIfInBounds_toArray, List.set_cons_zero, List.set_cons_succ]
           refine rdy1 18 (fun K hK => ?_)
           ·refine appS 166 171 ys jK (C.out _ ys) (fun u Q => M.out u (List.mem_of_mem_drop Q)) (by omega) ?_
            intro Vt Jb yS j9 ZL;have vk := vj.gb ZL (fun e => obN jK vj (by decide) e.symm);rw [show 0 + O + 1 + (n + 1 - O) = n + 2 by omega, List.nil_append, List.append_assoc] at yS;obtain ⟨Yt, Yd, rfl⟩ := oRs yS;refine hK.out _ _ (R.out _ j9) (fun Y => ?_);clear hK K;try simp only [Act.put, List.getElem_toArray, List.getElem_cons_zero, List.getElem_cons_succ, List.setIfInBounds_toArray, List.set_cons_zero, List.set_cons_succ]
            refine zhk 19 ?_
            try simp only [Act.put, List.getElem_toArray, List.getElem_cons_zero, List.getElem_cons_succ, List.setIfInBounds_toArray, List.set_cons_zero, List.set_cons_succ]
            refine rdy1 21 (fun K hK => ?_)
            ·obtain ⟨x0, x1, x2, x3, x4, x5⟩ := box3c vk
             go_simp;have I := endD j9 kv vk yS (.slice pb P.length t) (.slice Yt (n + 2) Yd) (.slice none 0 0);refine hK.out _ _ (R.out _ I.2.2) (fun Y => ?_);clear hK K;try simp only [Act.put, List.getElem_toArray, List.getElem_cons_zero, List.getElem_cons_succ, List.setIfInBounds_toArray, List.set_cons_zero, List.set_cons_succ]
             refine wpAnyH_done (by kernel_rfl) ?_ _;go_wp2_with fail;go_meet;exact ⟨_, _, _, rfl, kv, I⟩
       ·go_simp
        have zd := bAl zJ (.cells #[.string nm] 9);have jL := gJ.alloc (.cells #[.string nm] 9);have v9 : BoxN ((N.drew.alloc (.cells #[] 9)).alloc (.cells #[.string nm] 9)) (N.heap.size + 1) 9 [.string nm] := BoxN.new _ _ _ _ (by simp);refine hK.out _ _ (R.out _ zd) (fun Y => ?_);clear hK K;try simp only [Act.put, List.getElem_toArray, List.getElem_cons_zero, List.getElem_cons_succ, List.setIfInBounds_toArray, List.set_cons_zero, List.set_cons_succ]
        refine rdy2 8 20 (fun K hK => ?_) (fun K hK => ?_)
        ·refine appS 156 161 zd jL (ht.out _ zd) (fun u Q => M.out u (List.mem_of_mem_take Q)) (by omega) ?_
         intro Vu xh jM zt ZM;have va := v9.gb ZM (by simp [Value.ownBlock] <;> omega);refine hK.out _ _ (R.out _ zt) (fun Y => ?_);clear hK K;try simp only [Act.put, List.getElem_toArray, List.getElem_cons_zero, List.getElem_cons_succ, List.setIfInBounds_toArray, List.set_cons_zero, List.set_cons_succ]
         refine rdy2 12 20 (fun K hK => ?_) (fun K hK => ?_)
         ·refine appS 162 165 zt jM (.inr ⟨⟨N.heap.size + 1, 0, none⟩, 1, rfl, rfl, fun j u Q => by rw [aps, Nat.zero_add]; exact va.cell j Q⟩ : SrcR _ _ 1 1 [.string nm]) (by intro u Q; simp at Q; subst Q; rfl) (by omega) ?_
          intro Vv xi jN ze Vm;refine hK.out _ _ (R.out _ ze) (fun Y => ?_);clear hK K;try simp only [Act.put, List.getElem_toArray, List.getElem_cons_zero, List.getElem_cons_succ, List.setIfInBounds_toArray, List.set_cons_zero, List.set_cons_succ]
          refine rdy2 18 20 (fun K hK => ?_) (fun K hK => ?_)
          ·refine appS 166 171 ze jN (C.out _ ze) (fun u Q => M.out u (List.mem_of_mem_drop Q)) (by omega) ?_
           intro Vw zz yT yt Vn;rw [show 0 + O + 1 + (n + 1 - O) = n + 2 by omega, List.nil_append, List.append_assoc] at yT;obtain ⟨Yu, Ye, rfl⟩ := oRs yT;refine hK.out _ _ (R.out _ yt) (fun Y => ?_);clear hK K;try simp only [Act.put, List.getElem_toArray, List.getElem_cons_zero, List.getElem_cons_succ, List.setIfInBounds_toArray, List.set_cons_zero, List.set_cons_succ]
           refine zhk 19 ?_
           try simp only [Act.put, List.getElem_toArray, List.getElem_cons_zero, List.getElem_cons_succ, List.setIfInBounds_toArray, List.set_cons_zero, List.set_cons_succ]
           refine rdy1 20 (fun K hK => ?_)
           ·go_simp
            have ja := bAl yt (.cells #[.slice none 0 0, .slice none 0 0, .slice none 0 0] 45);have YK := yT.alloc (.cells #[.slice none 0 0, .slice none 0 0, .slice none 0 0] 45);have vl : BoxN (zz.alloc (.cells #[.slice none 0 0, .slice none 0 0, .slice none 0 0] 45)) (zz.heap.size) 45 [.slice none 0 0, .slice none 0 0, .slice none 0 0] := BoxN.new _ _ _ _ (by simp);have kw : N.heap.size <= zz.heap.size := Nat.le_trans yt.size (Nat.le_of_eq (by simp));refine hK.out _ _ (R.out _ ja) (fun Y => ?_);clear hK K;try simp only [Act.put, List.getElem_toArray, List.getElem_cons_zero, List.getElem_cons_succ, List.setIfInBounds_toArray, List.set_cons_zero, List.set_cons_succ]
            generalize (zz.alloc (.cells #[.slice none 0 0, .slice none 0 0, .slice none 0 0] 45)) = zy24 at *;refine rdy1 21 (fun K hK => ?_)
            ·obtain ⟨x0, x1, x2, x3, x4, x5⟩ := box3c vl
             go_simp;have I := endD ja kw vl YK (.slice pb P.length t) (.slice Yu (n + 2) Ye) (.slice none 0 0);refine hK.out _ _ (R.out _ I.2.2) (fun Y => ?_);clear hK K;try simp only [Act.put, List.getElem_toArray, List.getElem_cons_zero, List.getElem_cons_succ, List.setIfInBounds_toArray, List.set_cons_zero, List.set_cons_succ]
             refine wpAnyH_done (by kernel_rfl) ?_ _;go_wp2_with fail;go_meet;exact ⟨_, _, _, rfl, kw, I⟩
          ·go_simp
           have yu := bAl ze (.cells #[.slice none 0 0, .slice none 0 0, .slice none 0 0] 45);have jO := jN.alloc (.cells #[.slice none 0 0, .slice none 0 0, .slice none 0 0] 45);have vm : BoxN (xi.alloc (.cells #[.slice none 0 0, .slice none 0 0, .slice none 0 0] 45)) (xi.heap.size) 45 [.slice none 0 0, .slice none 0 0, .slice none 0 0] := BoxN.new _ _ _ _ (by simp);have kx : N.heap.size <= xi.heap.size := Nat.le_trans ze.size (Nat.le_of_eq (by simp));refine hK.out _ _ (R.out _ yu) (fun Y => ?_);clear hK K;try simp only [Act.put, List.getElem_toArray, List.getElem_cons_zero, List.getElem_cons_succ, List.setIfInBounds_toArray, List.set_cons_zero, List.set_cons_succ]
           refine rdy1 18 (fun K hK => ?_)
           ·refine appS 166 171 yu jO (C.out _ yu) (fun u Q => M.out u (List.mem_of_mem_drop Q)) (by omega) ?_
            intro Vx Jc yV jb ZN;have vn := vm.gb ZN (fun e => obN jO vm (by decide) e.symm);rw [show 0 + O + 1 + (n + 1 - O) = n + 2 by omega, List.nil_append, List.append_assoc] at yV;obtain ⟨Yv, Yf, rfl⟩ := oRs yV;refine hK.out _ _ (R.out _ jb) (fun Y => ?_);clear hK K;try simp only [Act.put, List.getElem_toArray, List.getElem_cons_zero, List.getElem_cons_succ, List.setIfInBounds_toArray, List.set_cons_zero, List.set_cons_succ]
            refine zhk 19 ?_
            try simp only [Act.put, List.getElem_toArray, List.getElem_cons_zero, List.getElem_cons_succ, List.setIfInBounds_toArray, List.set_cons_zero, List.set_cons_succ]
            refine rdy1 21 (fun K hK => ?_)
            ·obtain ⟨x0, x1, x2, x3, x4, x5⟩ := box3c vn
             go_simp;have I := endD jb kx vn yV (.slice pb P.length t) (.slice Yv (n + 2) Yf) (.slice none 0 0);refine hK.out _ _ (R.out _ I.2.2) (fun Y => ?_);clear hK K;try simp only [Act.put, List.getElem_toArray, List.getElem_cons_zero, List.getElem_cons_succ, List.setIfInBounds_toArray, List.set_cons_zero, List.set_cons_succ]
             refine wpAnyH_done (by kernel_rfl) ?_ _;go_wp2_with fail;go_meet;exact ⟨_, _, _, rfl, kx, I⟩
         ·go_simp
          have jc := bAl zt (.cells #[.slice none 0 0, .slice none 0 0, .slice none 0 0] 45);have jP := jM.alloc (.cells #[.slice none 0 0, .slice none 0 0, .slice none 0 0] 45);have Zg := va.alloc (.cells #[.slice none 0 0, .slice none 0 0, .slice none 0 0] 45);have vo : BoxN (xh.alloc (.cells #[.slice none 0 0, .slice none 0 0, .slice none 0 0] 45)) (xh.heap.size) 45 [.slice none 0 0, .slice none 0 0, .slice none 0 0] := BoxN.new _ _ _ _ (by simp);have ky : N.heap.size <= xh.heap.size := Nat.le_trans zt.size (Nat.le_of_eq (by simp));refine hK.out _ _ (R.out _ jc) (fun Y => ?_);clear hK K;try simp only [Act.put, List.getElem_toArray, List.getElem_cons_zero, List.getElem_cons_succ, List.setIfInBounds_toArray, List.set_cons_zero, List.set_cons_succ]
          refine rdy1 12 (fun K hK => ?_)
          ·refine appS 162 165 jc jP (.inr ⟨⟨N.heap.size + 1, 0, none⟩, 1, rfl, rfl, fun j u Q => by rw [aps, Nat.zero_add]; exact Zg.cell j Q⟩ : SrcR _ _ 1 1 [.string nm]) (by intro u Q; simp at Q; subst Q; rfl) (by omega) ?_
           intro Vy Jd jQ yv ZO;have vp := vo.gb ZO (fun e => obN jP vo (by decide) e.symm);refine hK.out _ _ (R.out _ yv) (fun Y => ?_);clear hK K;try simp only [Act.put, List.getElem_toArray, List.getElem_cons_zero, List.getElem_cons_succ, List.setIfInBounds_toArray, List.set_cons_zero, List.set_cons_succ]
           refine rdy1 18 (fun K hK => ?_)
           ·refine appS 166 171 yv jQ (C.out _ yv) (fun u Q => M.out u (List.mem_of_mem_drop Q)) (by omega) ?_
            intro Vz Je yW jd ZP;have vq := vp.gb ZP (fun e => obN jQ vp (by decide) e.symm);rw [show 0 + O + 1 + (n + 1 - O) = n + 2 by omega, List.nil_append, List.append_assoc] at yW;obtain ⟨Yw, Yg, rfl⟩ := oRs yW;refine hK.out _ _ (R.out _ jd) (fun Y => ?_);clear hK K;try simp only [Act.put, List.getElem_toArray, List.getElem_cons_zero, List.getElem_cons_succ, List.setIfInBounds_toArray, List.set_cons_zero, List.set_cons_succ]
            refine zhk 19 ?_
            try simp only [Act.put, List.getElem_toArray, List.getElem_cons_zero, List.getElem_cons_succ, List.setIfInBounds_toArray, List.set_cons_zero, List.set_cons_succ]
            refine rdy1 21 (fun K hK => ?_)
            ·obtain ⟨x0, x1, x2, x3, x4, x5⟩ := box3c vq
             go_simp;have I := endD jd ky vq yW (.slice pb P.length t) (.slice Yw (n + 2) Yg) (.slice none 0 0);refine hK.out _ _ (R.out _ I.2.2) (fun Y => ?_);clear hK K;try simp only [Act.put, List.getElem_toArray, List.getElem_cons_zero, List.getElem_cons_succ, List.setIfInBounds_toArray, List.set_cons_zero, List.set_cons_succ]
             refine wpAnyH_done (by kernel_rfl) ?_ _;go_wp2_with fail;go_meet;exact ⟨_, _, _, rfl, ky, I⟩
        ·go_simp
         have yw := bAl zd (.cells #[.slice none 0 0, .slice none 0 0, .slice none 0 0] 45);have jR := jL.alloc (.cells #[.slice none 0 0, .slice none 0 0, .slice none 0 0] 45);have Zh := v9.alloc (.cells #[.slice none 0 0, .slice none 0 0, .slice none 0 0] 45);have vs : BoxN (((N.drew.alloc (.cells #[] 9)).alloc (.cells #[.string nm] 9)).alloc (.cells #[.slice none 0 0, .slice none 0 0, .slice none 0 0] 45)) (N.heap.size + 1 + 1) 45 [.slice none 0 0, .slice none 0 0, .slice none 0 0] := BoxN.new _ _ _ _ (by simp);have kA : N.heap.size <= N.heap.size + 1 + 1 := Nat.le_trans zd.size (Nat.le_of_eq (by simp));refine hK.out _ _ (R.out _ yw) (fun Y => ?_);clear hK K;try simp only [Act.put, List.getElem_toArray, List.getElem_cons_zero, List.getElem_cons_succ, List.setIfInBounds_toArray, List.set_cons_zero, List.set_cons_succ]
         refine rdy1 8 (fun K hK => ?_)
         ·refine appS 156 161 yw jR (ht.out _ yw) (fun u Q => M.out u (List.mem_of_mem_take Q)) (by omega) ?_
          intro VA Jf jS je jB;have Zi := Zh.gb jB (by simp [Value.ownBlock] <;> omega);have vt := vs.gb jB (fun e => obN jR vs (by decide) e.symm);refine hK.out _ _ (R.out _ je) (fun Y => ?_);clear hK K;try simp only [Act.put, List.getElem_toArray, List.getElem_cons_zero, List.getElem_cons_succ, List.setIfInBounds_toArray, List.set_cons_zero, List.set_cons_succ]
          refine rdy1 12 (fun K hK => ?_)
          ·refine appS 162 165 je jS (.inr ⟨⟨N.heap.size + 1, 0, none⟩, 1, rfl, rfl, fun j u Q => by rw [aps, Nat.zero_add]; exact Zi.cell j Q⟩ : SrcR _ _ 1 1 [.string nm]) (by intro u Q; simp at Q; subst Q; rfl) (by omega) ?_
           intro VB Jg jT yx ZQ;have vu := vt.gb ZQ (fun e => obN jS vt (by decide) e.symm);refine hK.out _ _ (R.out _ yx) (fun Y => ?_);clear hK K;try simp only [Act.put, List.getElem_toArray, List.getElem_cons_zero, List.getElem_cons_succ, List.setIfInBounds_toArray, List.set_cons_zero, List.set_cons_succ]
           refine rdy1 18 (fun K hK => ?_)
           ·refine appS 166 171 yx jT (C.out _ yx) (fun u Q => M.out u (List.mem_of_mem_drop Q)) (by omega) ?_
            intro VC Jh yX jf ZR;have vv := vu.gb ZR (fun e => obN jT vu (by decide) e.symm);rw [show 0 + O + 1 + (n + 1 - O) = n + 2 by omega, List.nil_append, List.append_assoc] at yX;obtain ⟨Yx, Yh, rfl⟩ := oRs yX;refine hK.out _ _ (R.out _ jf) (fun Y => ?_);clear hK K;try simp only [Act.put, List.getElem_toArray, List.getElem_cons_zero, List.getElem_cons_succ, List.setIfInBounds_toArray, List.set_cons_zero, List.set_cons_succ]
            refine zhk 19 ?_
            try simp only [Act.put, List.getElem_toArray, List.getElem_cons_zero, List.getElem_cons_succ, List.setIfInBounds_toArray, List.set_cons_zero, List.set_cons_succ]
            refine rdy1 21 (fun K hK => ?_)
            ·obtain ⟨x0, x1, x2, x3, x4, x5⟩ := box3c vv
             go_simp;have I := endD jf kA vv yX (.slice pb P.length t) (.slice Yx (n + 2) Yh) (.slice none 0 0);refine hK.out _ _ (R.out _ I.2.2) (fun Y => ?_);clear hK K;try simp only [Act.put, List.getElem_toArray, List.getElem_cons_zero, List.getElem_cons_succ, List.setIfInBounds_toArray, List.set_cons_zero, List.set_cons_succ]
             refine wpAnyH_done (by kernel_rfl) ?_ _;go_wp2_with fail;go_meet;exact ⟨_, _, _, rfl, kA, I⟩
       ·go_simp
        have zu := bAl zJ (.cells #[.slice none 0 0, .slice none 0 0, .slice none 0 0] 45);have yZ := gJ.alloc (.cells #[.slice none 0 0, .slice none 0 0, .slice none 0 0] 45);have yp : BoxN ((N.drew.alloc (.cells #[] 9)).alloc (.cells #[.slice none 0 0, .slice none 0 0, .slice none 0 0] 45)) (N.heap.size + 1) 45 [.slice none 0 0, .slice none 0 0, .slice none 0 0] := BoxN.new _ _ _ _ (by simp);have zB : N.heap.size <= N.heap.size + 1 := Nat.le_trans zJ.size (Nat.le_of_eq (by simp));refine hK.out _ _ (R.out _ zu) (fun Y => ?_);clear hK K;try simp only [Act.put, List.getElem_toArray, List.getElem_cons_zero, List.getElem_cons_succ, List.setIfInBounds_toArray, List.set_cons_zero, List.set_cons_succ]
        refine rdy2 8 11 (fun K hK => ?_) (fun K hK => ?_)
        ·refine appS 156 161 zu yZ (ht.out _ zu) (fun u Q => M.out u (List.mem_of_mem_take Q)) (by omega) ?_
         intro VD xk YM jg ZS;have Zz := yp.gb ZS (fun e => obN yZ yp (by decide) e.symm);refine hK.out _ _ (R.out _ jg) (fun Y => ?_);clear hK K;try simp only [Act.put, List.getElem_toArray, List.getElem_cons_zero, List.getElem_cons_succ, List.setIfInBounds_toArray, List.set_cons_zero, List.set_cons_succ]
         refine rdy1 11 (fun K hK => ?_)
         ·go_simp
          have jh := bAl jg (.cells #[.string nm] 9);have jU := YM.alloc (.cells #[.string nm] 9);have vw := Zz.alloc (.cells #[.string nm] 9);have Zj : BoxN (xk.alloc (.cells #[.string nm] 9)) (xk.heap.size) 9 [.string nm] := BoxN.new _ _ _ _ (by simp);refine hK.out _ _ (R.out _ jh) (fun Y => ?_);clear hK K;try simp only [Act.put, List.getElem_toArray, List.getElem_cons_zero, List.getElem_cons_succ, List.setIfInBounds_toArray, List.set_cons_zero, List.set_cons_succ]
          refine rdy1 12 (fun K hK => ?_)
          ·refine appS 162 165 jh jU (.inr ⟨⟨xk.heap.size, 0, none⟩, 1, rfl, rfl, fun j u Q => by rw [aps, Nat.zero_add]; exact Zj.cell j Q⟩ : SrcR _ _ 1 1 [.string nm]) (by intro u Q; simp at Q; subst Q; rfl) (by omega) ?_
           intro VF Ji jV yz ZT;have vx := vw.gb ZT (fun e => obN jU vw (by decide) e.symm);refine hK.out _ _ (R.out _ yz) (fun Y => ?_);clear hK K;try simp only [Act.put, List.getElem_toArray, List.getElem_cons_zero, List.getElem_cons_succ, List.setIfInBounds_toArray, List.set_cons_zero, List.set_cons_succ]
           refine rdy1 18 (fun K hK => ?_)
           ·refine appS 166 171 yz jV (C.out _ yz) (fun u Q => M.out u (List.mem_of_mem_drop Q)) (by omega) ?_
            intro VG Jj x6 ji ZU;have vy := vx.gb ZU (fun e => obN jV vx (by decide) e.symm);rw [show 0 + O + 1 + (n + 1 - O) = n + 2 by omega, List.nil_append, List.append_assoc] at x6;obtain ⟨Yy, Yi, rfl⟩ := oRs x6;refine hK.out _ _ (R.out _ ji) (fun Y => ?_);clear hK K;try simp only [Act.put, List.getElem_toArray, List.getElem_cons_zero, List.getElem_cons_succ, List.setIfInBounds_toArray, List.set_cons_zero, List.set_cons_succ]
            refine zhk 19 ?_
            try simp only [Act.put, List.getElem_toArray, List.getElem_cons_zero, List.getElem_cons_succ, List.setIfInBounds_toArray, List.set_cons_zero, List.set_cons_succ]
            refine rdy1 21 (fun K hK => ?_)
            ·obtain ⟨x0, x1, x2, x3, x4, x5⟩ := box3c vy
             go_simp;have I := endD ji zB vy x6 (.slice pb P.length t) (.slice Yy (n + 2) Yi) (.slice none 0 0);refine hK.out _ _ (R.out _ I.2.2) (fun Y => ?_);clear hK K;try simp only [Act.put, List.getElem_toArray, List.getElem_cons_zero, List.getElem_cons_succ, List.setIfInBounds_toArray, List.set_cons_zero, List.set_cons_succ]
             refine wpAnyH_done (by kernel_rfl) ?_ _;go_wp2_with fail;go_meet;exact ⟨_, _, _, rfl, zB, I⟩
        ·go_simp
         have yA := bAl zu (.cells #[.string nm] 9);have jW := yZ.alloc (.cells #[.string nm] 9);have vz := yp.alloc (.cells #[.string nm] 9);have Zk : BoxN (((N.drew.alloc (.cells #[] 9)).alloc (.cells #[.slice none 0 0, .slice none 0 0, .slice none 0 0] 45)).alloc (.cells #[.string nm] 9)) (N.heap.size + 1 + 1) 9 [.string nm] := BoxN.new _ _ _ _ (by simp);refine hK.out _ _ (R.out _ yA) (fun Y => ?_);clear hK K;try simp only [Act.put, List.getElem_toArray, List.getElem_cons_zero, List.getElem_cons_succ, List.setIfInBounds_toArray, List.set_cons_zero, List.set_cons_succ]
         refine rdy1 8 (fun K hK => ?_)
         ·refine appS 156 161 yA jW (ht.out _ yA) (fun u Q => M.out u (List.mem_of_mem_take Q)) (by omega) ?_
          intro VH Jk jX jj jC;have Zl := Zk.gb jC (by simp [Value.ownBlock] <;> omega);have vA := vz.gb jC (fun e => obN jW vz (by decide) e.symm);refine hK.out _ _ (R.out _ jj) (fun Y => ?_);clear hK K;try simp only [Act.put, List.getElem_toArray, List.getElem_cons_zero, List.getElem_cons_succ, List.setIfInBounds_toArray, List.set_cons_zero, List.set_cons_succ]
          refine rdy1 12 (fun K hK => ?_)
          ·refine appS 162 165 jj jX (.inr ⟨⟨N.heap.size + 1 + 1, 0, none⟩, 1, rfl, rfl, fun j u Q => by rw [aps, Nat.zero_add]; exact Zl.cell j Q⟩ : SrcR _ _ 1 1 [.string nm]) (by intro u Q; simp at Q; subst Q; rfl) (by omega) ?_
           intro VI Jl jY yB ZV;have vB := vA.gb ZV (fun e => obN jX vA (by decide) e.symm);refine hK.out _ _ (R.out _ yB) (fun Y => ?_);clear hK K;try simp only [Act.put, List.getElem_toArray, List.getElem_cons_zero, List.getElem_cons_succ, List.setIfInBounds_toArray, List.set_cons_zero, List.set_cons_succ]
           refine rdy1 18 (fun K hK => ?_)
           ·refine appS 166 171 yB jY (C.out _ yB) (fun u Q => M.out u (List.mem_of_mem_drop Q)) (by omega) ?_
            intro VJ Jm x7 jk ZW;have vC := vB.gb ZW (fun e => obN jY vB (by decide) e.symm);rw [show 0 + O + 1 + (n + 1 - O) = n + 2 by omega, List.nil_append, List.append_assoc] at x7;obtain ⟨Yz, Yj, rfl⟩ := oRs x7;refine hK.out _ _ (R.out _ jk) (fun Y => ?_);clear hK K;try simp only [Act.put, List.getElem_toArray, List.getElem_cons_zero, List.getElem_cons_succ, List.setIfInBounds_toArray, List.set_cons_zero, List.set_cons_succ]
            refine zhk 19 ?_
            try simp only [Act.put, List.getElem_toArray, List.getElem_cons_zero, List.getElem_cons_succ, List.setIfInBounds_toArray, List.set_cons_zero, List.set_cons_succ]
            refine rdy1 21 (fun K hK => ?_)
            ·obtain ⟨x0, x1, x2, x3, x4, x5⟩ := box3c vC
             go_simp;have I := endD jk zB vC x7 (.slice pb P.length t) (.slice Yz (n + 2) Yj) (.slice none 0 0);refine hK.out _ _ (R.out _ I.2.2) (fun Y => ?_);clear hK K;try simp only [Act.put, List.getElem_toArray, List.getElem_cons_zero, List.getElem_cons_succ, List.setIfInBounds_toArray, List.set_cons_zero, List.set_cons_succ]
             refine wpAnyH_done (by kernel_rfl) ?_ _;go_wp2_with fail;go_meet;exact ⟨_, _, _, rfl, zB, I⟩
      ·go_simp
       have zf := bAl g0 (.cells #[.string nm] 9);have vb : BoxN (N.drew.alloc (.cells #[.string nm] 9)) (N.heap.size) 9 [.string nm] := BoxN.new _ _ _ _ (by simp);refine hK.out _ _ (R.out _ zf) (fun Y => ?_);clear hK K;try simp only [Act.put, List.getElem_toArray, List.getElem_cons_zero, List.getElem_cons_succ, List.setIfInBounds_toArray, List.set_cons_zero, List.set_cons_succ]
       refine rdy2 2 20 (fun K hK => ?_) (fun K hK => ?_)
       ·go_simp
        have zg := bAl zf (.cells #[] 9);have vc := vb.alloc (.cells #[] 9);have jZ := on0 (N.drew.alloc (.cells #[.string nm] 9)) N.heap.size 9 zf.size;refine hK.out _ _ (R.out _ zg) (fun Y => ?_);clear hK K;try simp only [Act.put, List.getElem_toArray, List.getElem_cons_zero, List.getElem_cons_succ, List.setIfInBounds_toArray, List.set_cons_zero, List.set_cons_succ]
        refine rdy2 8 20 (fun K hK => ?_) (fun K hK => ?_)
        ·refine appS 156 161 zg jZ (ht.out _ zg) (fun u Q => M.out u (List.mem_of_mem_take Q)) (by omega) ?_
         intro VK xl ka zv ZX;have vd := vc.gb ZX (by simp [Value.ownBlock] <;> omega);refine hK.out _ _ (R.out _ zv) (fun Y => ?_);clear hK K;try simp only [Act.put, List.getElem_toArray, List.getElem_cons_zero, List.getElem_cons_succ, List.setIfInBounds_toArray, List.set_cons_zero, List.set_cons_succ]
         refine rdy2 12 20 (fun K hK => ?_) (fun K hK => ?_)
         ·refine appS 162 165 zv ka (.inr ⟨⟨N.heap.size, 0, none⟩, 1, rfl, rfl, fun j u Q => by rw [aps, Nat.zero_add]; exact vd.cell j Q⟩ : SrcR _ _ 1 1 [.string nm]) (by intro u Q; simp at Q; subst Q; rfl) (by omega) ?_
          intro VL xm kb zh Vo;refine hK.out _ _ (R.out _ zh) (fun Y => ?_);clear hK K;try simp only [Act.put, List.getElem_toArray, List.getElem_cons_zero, List.getElem_cons_succ, List.setIfInBounds_toArray, List.set_cons_zero, List.set_cons_succ]
          refine rdy2 18 20 (fun K hK => ?_) (fun K hK => ?_)
          ·refine appS 166 171 zh kb (C.out _ zh) (fun u Q => M.out u (List.mem_of_mem_drop Q)) (by omega) ?_
           intro VM zA x8 yC Vp;rw [show 0 + O + 1 + (n + 1 - O) = n + 2 by omega, List.nil_append, List.append_assoc] at x8;obtain ⟨YA, Yk, rfl⟩ := oRs x8;refine hK.out _ _ (R.out _ yC) (fun Y => ?_);clear hK K;try simp only [Act.put, List.getElem_toArray, List.getElem_cons_zero, List.getElem_cons_succ, List.setIfInBounds_toArray, List.set_cons_zero, List.set_cons_succ]
           refine zhk 19 ?_
           try simp only [Act.put, List.getElem_toArray, List.getElem_cons_zero, List.getElem_cons_succ, List.setIfInBounds_toArray, List.set_cons_zero, List.set_cons_succ]
           refine rdy1 20 (fun K hK => ?_)
           ·go_simp
            have jm := bAl yC (.cells #[.slice none 0 0, .slice none 0 0, .slice none 0 0] 45);have YO := x8.alloc (.cells #[.slice none 0 0, .slice none 0 0, .slice none 0 0] 45);have vD : BoxN (zA.alloc (.cells #[.slice none 0 0, .slice none 0 0, .slice none 0 0] 45)) (zA.heap.size) 45 [.slice none 0 0, .slice none 0 0, .slice none 0 0] := BoxN.new _ _ _ _ (by simp);have kB : N.heap.size <= zA.heap.size := Nat.le_trans yC.size (Nat.le_of_eq (by simp));refine hK.out _ _ (R.out _ jm) (fun Y => ?_);clear hK K;try simp only [Act.put, List.getElem_toArray, List.getElem_cons_zero, List.getElem_cons_succ, List.setIfInBounds_toArray, List.set_cons_zero, List.set_cons_succ]
            generalize (zA.alloc (.cells #[.slice none 0 0, .slice none 0 0, .slice none 0 0] 45)) = zy54 at *;refine rdy1 21 (fun K hK => ?_)
            ·obtain ⟨x0, x1, x2, x3, x4, x5⟩ := box3c vD
             go_simp;have I := endD jm kB vD YO (.slice pb P.length t) (.slice YA (n + 2) Yk) (.slice none 0 0);refine hK.out _ _ (R.out _ I.2.2) (fun Y => ?_);clear hK K;try simp only [Act.put, List.getElem_toArray, List.getElem_cons_zero, List.getElem_cons_succ, List.setIfInBounds_toArray, List.set_cons_zero, List.set_cons_succ]
             refine wpAnyH_done (by kernel_rfl) ?_ _;go_wp2_with fail;go_meet;exact ⟨_, _, _, rfl, kB, I⟩
          ·go_simp
           have yE := bAl zh (.cells #[.slice none 0 0, .slice none 0 0, .slice none 0 0] 45);have kc := kb.alloc (.cells #[.slice none 0 0, .slice none 0 0, .slice none 0 0] 45);have vE : BoxN (xm.alloc (.cells #[.slice none 0 0, .slice none 0 0, .slice none 0 0] 45)) (xm.heap.size) 45 [.slice none 0 0, .slice none 0 0, .slice none 0 0] := BoxN.new _ _ _ _ (by simp);have kC : N.heap.size <= xm.heap.size := Nat.le_trans zh.size (Nat.le_of_eq (by simp));refine hK.out _ _ (R.out _ yE) (fun Y => ?_);clear hK K;try simp only [Act.put, List.getElem_toArray, List.getElem_cons_zero, List.getElem_cons_succ, List.setIfInBounds_toArray, List.set_cons_zero, List.set_cons_succ]
           refine rdy1 18 (fun K hK => ?_)
           ·refine appS 166 171 yE kc (C.out _ yE) (fun u Q => M.out u (List.mem_of_mem_drop Q)) (by omega) ?_
            intro VN Jn x9 jn ZY;have vF := vE.gb ZY (fun e => obN kc vE (by decide) e.symm);rw [show 0 + O + 1 + (n + 1 - O) = n + 2 by omega, List.nil_append, List.append_assoc] at x9;obtain ⟨YB, Yl, rfl⟩ := oRs x9;refine hK.out _ _ (R.out _ jn) (fun Y => ?_);clear hK K;try simp only [Act.put, List.getElem_toArray, List.getElem_cons_zero, List.getElem_cons_succ, List.setIfInBounds_toArray, List.set_cons_zero, List.set_cons_succ]
            refine zhk 19 ?_
            try simp only [Act.put, List.getElem_toArray, List.getElem_cons_zero, List.getElem_cons_succ, List.setIfInBounds_toArray, List.set_cons_zero, List.set_cons_succ]
            refine rdy1 21 (fun K hK => ?_)
            ·obtain ⟨x0, x1, x2, x3, x4, x5⟩ := box3c vF
             go_simp;have I := endD jn kC vF x9 (.slice pb P.length t) (.slice YB (n + 2) Yl) (.slice none 0 0);refine hK.out _ _ (R.out _ I.2.2) (fun Y => ?_);clear hK K;try simp only [Act.put, List.getElem_toArray, List.getElem_cons_zero, List.getElem_cons_succ, List.setIfInBounds_toArray, List.set_cons_zero, List.set_cons_succ]
             refine wpAnyH_done (by kernel_rfl) ?_ _;go_wp2_with fail;go_meet;exact ⟨_, _, _, rfl, kC, I⟩
         ·go_simp
          have jo := bAl zv (.cells #[.slice none 0 0, .slice none 0 0, .slice none 0 0] 45);have kd := ka.alloc (.cells #[.slice none 0 0, .slice none 0 0, .slice none 0 0] 45);have Zm := vd.alloc (.cells #[.slice none 0 0, .slice none 0 0, .slice none 0 0] 45);have vG : BoxN (xl.alloc (.cells #[.slice none 0 0, .slice none 0 0, .slice none 0 0] 45)) (xl.heap.size) 45 [.slice none 0 0, .slice none 0 0, .slice none 0 0] := BoxN.new _ _ _ _ (by simp);have kF : N.heap.size <= xl.heap.size := Nat.le_trans zv.size (Nat.le_of_eq (by simp));refine hK.out _ _ (R.out _ jo) (fun Y => ?_);clear hK K;try simp only [Act.put, List.getElem_toArray, List.getElem_cons_zero, List.getElem_cons_succ, List.setIfInBounds_toArray, List.set_cons_zero, List.set_cons_succ]
          refine rdy1 12 (fun K hK => ?_)
          ·refine appS 162 165 jo kd (.inr ⟨⟨N.heap.size, 0, none⟩, 1, rfl, rfl, fun j u Q => by rw [aps, Nat.zero_add]; exact Zm.cell j Q⟩ : SrcR _ _ 1 1 [.string nm]) (by intro u Q; simp at Q; subst Q; rfl) (by omega) ?_
           intro VO Jo ke yF ZZ;have vH := vG.gb ZZ (fun e => obN kd vG (by decide) e.symm);refine hK.out _ _ (R.out _ yF) (fun Y => ?_);clear hK K;try simp only [Act.put, List.getElem_toArray, List.getElem_cons_zero, List.getElem_cons_succ, List.setIfInBounds_toArray, List.set_cons_zero, List.set_cons_succ]
           refine rdy1 18 (fun K hK => ?_)
           ·refine appS 166 171 yF ke (C.out _ yF) (fun u Q => M.out u (List.mem_of_mem_drop Q)) (by omega) ?_
            intro VQ Jp xa jp Y0;have vI := vH.gb Y0 (fun e => obN ke vH (by decide) e.symm);rw [show 0 + O + 1 + (n + 1 - O) = n + 2 by omega, List.nil_append, List.append_assoc] at xa;obtain ⟨YC, Ym, rfl⟩ := oRs xa;refine hK.out _ _ (R.out _ jp) (fun Y => ?_);clear hK K;try simp only [Act.put, List.getElem_toArray, List.getElem_cons_zero, List.getElem_cons_succ, List.setIfInBounds_toArray, List.set_cons_zero, List.set_cons_succ]
            refine zhk 19 ?_
            try simp only [Act.put, List.getElem_toArray, List.getElem_cons_zero, List.getElem_cons_succ, List.setIfInBounds_toArray, List.set_cons_zero, List.set_cons_succ]
            refine rdy1 21 (fun K hK => ?_)
            ·obtain ⟨x0, x1, x2, x3, x4, x5⟩ := box3c vI
             go_simp;have I := endD jp kF vI xa (.slice pb P.length t) (.slice YC (n + 2) Ym) (.slice none 0 0);refine hK.out _ _ (R.out _ I.2.2) (fun Y => ?_);clear hK K;try simp only [Act.put, List.getElem_toArray, List.getElem_cons_zero, List.getElem_cons_succ, List.setIfInBounds_toArray, List.set_cons_zero, List.set_cons_succ]
             refine wpAnyH_done (by kernel_rfl) ?_ _;go_wp2_with fail;go_meet;exact ⟨_, _, _, rfl, kF, I⟩
        ·go_simp
         have yG := bAl zg (.cells #[.slice none 0 0, .slice none 0 0, .slice none 0 0] 45);have kf := jZ.alloc (.cells #[.slice none 0 0, .slice none 0 0, .slice none 0 0] 45);have Zn := vc.alloc (.cells #[.slice none 0 0, .slice none 0 0, .slice none 0 0] 45);have vJ : BoxN (((N.drew.alloc (.cells #[.string nm] 9)).alloc (.cells #[] 9)).alloc (.cells #[.slice none 0 0, .slice none 0 0, .slice none 0 0] 45)) (N.heap.size + 1 + 1) 45 [.slice none 0 0, .slice none 0 0, .slice none 0 0] := BoxN.new _ _ _ _ (by simp);have kH : N.heap.size <= N.heap.size + 1 + 1 := Nat.le_trans zg.size (Nat.le_of_eq (by simp));refine hK.out _ _ (R.out _ yG) (fun Y => ?_);clear hK K;try simp only [Act.put, List.getElem_toArray, List.getElem_cons_zero, List.getElem_cons_succ, List.setIfInBounds_toArray, List.set_cons_zero, List.set_cons_succ]
         refine rdy1 8 (fun K hK => ?_)
         ·refine appS 156 161 yG kf (ht.out _ yG) (fun u Q => M.out u (List.mem_of_mem_take Q)) (by omega) ?_
          intro VR Jq kg jq jD;have Zo := Zn.gb jD (by simp [Value.ownBlock] <;> omega);have vK := vJ.gb jD (fun e => obN kf vJ (by decide) e.symm);refine hK.out _ _ (R.out _ jq) (fun Y => ?_);clear hK K;try simp only [Act.put, List.getElem_toArray, List.getElem_cons_zero, List.getElem_cons_succ, List.setIfInBounds_toArray, List.set_cons_zero, List.set_cons_succ]
          refine rdy1 12 (fun K hK => ?_)
          ·refine appS 162 165 jq kg (.inr ⟨⟨N.heap.size, 0, none⟩, 1, rfl, rfl, fun j u Q => by rw [aps, Nat.zero_add]; exact Zo.cell j Q⟩ : SrcR _ _ 1 1 [.string nm]) (by intro u Q; simp at Q; subst Q; rfl) (by omega) ?_
           intro VU Jr kh yH Y1;have vL := vK.gb Y1 (fun e => obN kg vK (by decide) e.symm);refine hK.out _ _ (R.out _ yH) (fun Y => ?_);clear hK K;try simp only [Act.put, List.getElem_toArray, List.getElem_cons_zero, List.getElem_cons_succ, List.setIfInBounds_toArray, List.set_cons_zero, List.set_cons_succ]
           refine rdy1 18 (fun K hK => ?_)
           ·refine appS 166 171 yH kh (C.out _ yH) (fun u Q => M.out u (List.mem_of_mem_drop Q)) (by omega) ?_
            intro VV Js xb jr Y2;have vM := vL.gb Y2 (fun e => obN kh vL (by decide) e.symm);rw [show 0 + O + 1 + (n + 1 - O) = n + 2 by omega, List.nil_append, List.append_assoc] at xb;obtain ⟨YD, Yn, rfl⟩ := oRs xb;refine hK.out _ _ (R.out _ jr) (fun Y => ?_);clear hK K;try simp only [Act.put, List.getElem_toArray, List.getElem_cons_zero, List.getElem_cons_succ, List.setIfInBounds_toArray, List.set_cons_zero, List.set_cons_succ]
            refine zhk 19 ?_
            try simp only [Act.put, List.getElem_toArray, List.getElem_cons_zero, List.getElem_cons_succ, List.setIfInBounds_toArray, List.set_cons_zero, List.set_cons_succ]
            refine rdy1 21 (fun K hK => ?_)
            ·obtain ⟨x0, x1, x2, x3, x4, x5⟩ := box3c vM
             go_simp;have I := endD jr kH vM xb (.slice pb P.length t) (.slice YD (n + 2) Yn) (.slice none 0 0);refine hK.out _ _ (R.out _ I.2.2) (fun Y => ?_);clear hK K;try simp only [Act.put, List.getElem_toArray, List.getElem_cons_zero, List.getElem_cons_succ, List.setIfInBounds_toArray, List.set_cons_zero, List.set_cons_succ]
             refine wpAnyH_done (by kernel_rfl) ?_ _;go_wp2_with fail;go_meet;exact ⟨_, _, _, rfl, kH, I⟩
       ·go_simp
        have yI := bAl zf (.cells #[.slice none 0 0, .slice none 0 0, .slice none 0 0] 45);have Zp := vb.alloc (.cells #[.slice none 0 0, .slice none 0 0, .slice none 0 0] 45);have ZB : BoxN ((N.drew.alloc (.cells #[.string nm] 9)).alloc (.cells #[.slice none 0 0, .slice none 0 0, .slice none 0 0] 45)) (N.heap.size + 1) 45 [.slice none 0 0, .slice none 0 0, .slice none 0 0] := BoxN.new _ _ _ _ (by simp);have kJ : N.heap.size <= N.heap.size + 1 := Nat.le_trans zf.size (Nat.le_of_eq (by simp));refine hK.out _ _ (R.out _ yI) (fun Y => ?_);clear hK K;try simp only [Act.put, List.getElem_toArray, List.getElem_cons_zero, List.getElem_cons_succ, List.setIfInBounds_toArray, List.set_cons_zero, List.set_cons_succ]
        refine rdy1 2 (fun K hK => ?_)
        ·go_simp
         have yJ := bAl yI (.cells #[] 9);have Zq := Zp.alloc (.cells #[] 9);have vN := ZB.alloc (.cells #[] 9);have ki := on0 ((N.drew.alloc (.cells #[.string nm] 9)).alloc (.cells #[.slice none 0 0, .slice none 0 0, .slice none 0 0] 45)) N.heap.size 9 yI.size;refine hK.out _ _ (R.out _ yJ) (fun Y => ?_);clear hK K;try simp only [Act.put, List.getElem_toArray, List.getElem_cons_zero, List.getElem_cons_succ, List.setIfInBounds_toArray, List.set_cons_zero, List.set_cons_succ]
         refine rdy1 8 (fun K hK => ?_)
         ·refine appS 156 161 yJ ki (ht.out _ yJ) (fun u Q => M.out u (List.mem_of_mem_take Q)) (by omega) ?_
          intro VW Jt kj js jE;have Zr := Zq.gb jE (by simp [Value.ownBlock] <;> omega);have vO := vN.gb jE (fun e => obN ki vN (by decide) e.symm);refine hK.out _ _ (R.out _ js) (fun Y => ?_);clear hK K;try simp only [Act.put, List.getElem_toArray, List.getElem_cons_zero, List.getElem_cons_succ, List.setIfInBounds_toArray, List.set_cons_zero, List.set_cons_succ]
          refine rdy1 12 (fun K hK => ?_)
          ·refine appS 162 165 js kj (.inr ⟨⟨N.heap.size, 0, none⟩, 1, rfl, rfl, fun j u Q => by rw [aps, Nat.zero_add]; exact Zr.cell j Q⟩ : SrcR _ _ 1 1 [.string nm]) (by intro u Q; simp at Q; subst Q; rfl) (by omega) ?_
           intro VX Ju kl yK Y3;have vP := vO.gb Y3 (fun e => obN kj vO (by decide) e.symm);refine hK.out _ _ (R.out _ yK) (fun Y => ?_);clear hK K;try simp only [Act.put, List.getElem_toArray, List.getElem_cons_zero, List.getElem_cons_succ, List.setIfInBounds_toArray, List.set_cons_zero, List.set_cons_succ]
           refine rdy1 18 (fun K hK => ?_)
           ·refine appS 166 171 yK kl (C.out _ yK) (fun u Q => M.out u (List.mem_of_mem_drop Q)) (by omega) ?_
            intro VY Jv xc jt Y4;have vQ := vP.gb Y4 (fun e => obN kl vP (by decide) e.symm);rw [show 0 + O + 1 + (n + 1 - O) = n + 2 by omega, List.nil_append, List.append_assoc] at xc;obtain ⟨YE, Yo, rfl⟩ := oRs xc;refine hK.out _ _ (R.out _ jt) (fun Y => ?_);clear hK K;try simp only [Act.put, List.getElem_toArray, List.getElem_cons_zero, List.getElem_cons_succ, List.setIfInBounds_toArray, List.set_cons_zero, List.set_cons_succ]
            refine zhk 19 ?_
            try simp only [Act.put, List.getElem_toArray, List.getElem_cons_zero, List.getElem_cons_succ, List.setIfInBounds_toArray, List.set_cons_zero, List.set_cons_succ]
            refine rdy1 21 (fun K hK => ?_)
            ·obtain ⟨x0, x1, x2, x3, x4, x5⟩ := box3c vQ
             go_simp;have I := endD jt kJ vQ xc (.slice pb P.length t) (.slice YE (n + 2) Yo) (.slice none 0 0);refine hK.out _ _ (R.out _ I.2.2) (fun Y => ?_);clear hK K;try simp only [Act.put, List.getElem_toArray, List.getElem_cons_zero, List.getElem_cons_succ, List.setIfInBounds_toArray, List.set_cons_zero, List.set_cons_succ]
             refine wpAnyH_done (by kernel_rfl) ?_ _;go_wp2_with fail;go_meet;exact ⟨_, _, _, rfl, kJ, I⟩
      ·go_simp
       have zw := bAl g0 (.cells #[.slice none 0 0, .slice none 0 0, .slice none 0 0] 45);have vR : BoxN (N.drew.alloc (.cells #[.slice none 0 0, .slice none 0 0, .slice none 0 0] 45)) (N.heap.size) 45 [.slice none 0 0, .slice none 0 0, .slice none 0 0] := BoxN.new _ _ _ _ (by simp);have hN : N.heap.size <= N.heap.size := Nat.le_trans g0.size (Nat.le_of_eq (by simp));refine hK.out _ _ (R.out _ zw) (fun Y => ?_);clear hK K;try simp only [Act.put, List.getElem_toArray, List.getElem_cons_zero, List.getElem_cons_succ, List.setIfInBounds_toArray, List.set_cons_zero, List.set_cons_succ]
       refine rdy2 2 11 (fun K hK => ?_) (fun K hK => ?_)
       ·go_simp
        have zy := bAl zw (.cells #[] 9);have yq := vR.alloc (.cells #[] 9);have xd := on0 (N.drew.alloc (.cells #[.slice none 0 0, .slice none 0 0, .slice none 0 0] 45)) N.heap.size 9 zw.size;refine hK.out _ _ (R.out _ zy) (fun Y => ?_);clear hK K;try simp only [Act.put, List.getElem_toArray, List.getElem_cons_zero, List.getElem_cons_succ, List.setIfInBounds_toArray, List.set_cons_zero, List.set_cons_succ]
        refine rdy2 8 11 (fun K hK => ?_) (fun K hK => ?_)
        ·refine appS 156 161 zy xd (ht.out _ zy) (fun u Q => M.out u (List.mem_of_mem_take Q)) (by omega) ?_
         intro VZ xn YP ju Y5;have ZC := yq.gb Y5 (fun e => obN xd yq (by decide) e.symm);refine hK.out _ _ (R.out _ ju) (fun Y => ?_);clear hK K;try simp only [Act.put, List.getElem_toArray, List.getElem_cons_zero, List.getElem_cons_succ, List.setIfInBounds_toArray, List.set_cons_zero, List.set_cons_succ]
         refine rdy1 11 (fun K hK => ?_)
         ·go_simp
          have jv := bAl ju (.cells #[.string nm] 9);have km := YP.alloc (.cells #[.string nm] 9);have vT := ZC.alloc (.cells #[.string nm] 9);have Zs : BoxN (xn.alloc (.cells #[.string nm] 9)) (xn.heap.size) 9 [.string nm] := BoxN.new _ _ _ _ (by simp);refine hK.out _ _ (R.out _ jv) (fun Y => ?_);clear hK K;try simp only [Act.put, List.getElem_toArray, List.getElem_cons_zero, List.getElem_cons_succ, List.setIfInBounds_toArray, List.set_cons_zero, List.set_cons_succ]
          refine rdy1 12 (fun K hK => ?_)
          ·refine appS 162 165 jv km (.inr ⟨⟨xn.heap.size, 0, none⟩, 1, rfl, rfl, fun j u Q => by rw [aps, Nat.zero_add]; exact Zs.cell j Q⟩ : SrcR _ _ 1 1 [.string nm]) (by intro u Q; simp at Q; subst Q; rfl) (by omega) ?_
           intro J0 Jw kn yL Y6;have vU := vT.gb Y6 (fun e => obN km vT (by decide) e.symm);refine hK.out _ _ (R.out _ yL) (fun Y => ?_);clear hK K;try simp only [Act.put, List.getElem_toArray, List.getElem_cons_zero, List.getElem_cons_succ, List.setIfInBounds_toArray, List.set_cons_zero, List.set_cons_succ]
           refine rdy1 18 (fun K hK => ?_)
           ·refine appS 166 171 yL kn (C.out _ yL) (fun u Q => M.out u (List.mem_of_mem_drop Q)) (by omega) ?_
            intro J1 Jx xe jw Y7;have vV := vU.gb Y7 (fun e => obN kn vU (by decide) e.symm);rw [show 0 + O + 1 + (n + 1 - O) = n + 2 by omega, List.nil_append, List.append_assoc] at xe;obtain ⟨YF, Yp, rfl⟩ := oRs xe;refine hK.out _ _ (R.out _ jw) (fun Y => ?_);clear hK K;try simp only [Act.put, List.getElem_toArray, List.getElem_cons_zero, List.getElem_cons_succ, List.setIfInBounds_toArray, List.set_cons_zero, List.set_cons_succ]
            refine zhk 19 ?_
            try simp only [Act.put, List.getElem_toArray, List.getElem_cons_zero, List.getElem_cons_succ, List.setIfInBounds_toArray, List.set_cons_zero, List.set_cons_succ]
            refine rdy1 21 (fun K hK => ?_)
            ·obtain ⟨x0, x1, x2, x3, x4, x5⟩ := box3c vV
             go_simp;have I := endD jw hN vV xe (.slice pb P.length t) (.slice YF (n + 2) Yp) (.slice none 0 0);refine hK.out _ _ (R.out _ I.2.2) (fun Y => ?_);clear hK K;try simp only [Act.put, List.getElem_toArray, List.getElem_cons_zero, List.getElem_cons_succ, List.setIfInBounds_toArray, List.set_cons_zero, List.set_cons_succ]
             refine wpAnyH_done (by kernel_rfl) ?_ _;go_wp2_with fail;go_meet;exact ⟨_, _, _, rfl, hN, I⟩
        ·go_simp
         have yM := bAl zy (.cells #[.string nm] 9);have ko := xd.alloc (.cells #[.string nm] 9);have vW := yq.alloc (.cells #[.string nm] 9);have Zt : BoxN (((N.drew.alloc (.cells #[.slice none 0 0, .slice none 0 0, .slice none 0 0] 45)).alloc (.cells #[] 9)).alloc (.cells #[.string nm] 9)) (N.heap.size + 1 + 1) 9 [.string nm] := BoxN.new _ _ _ _ (by simp);refine hK.out _ _ (R.out _ yM) (fun Y => ?_);clear hK K;try simp only [Act.put, List.getElem_toArray, List.getElem_cons_zero, List.getElem_cons_succ, List.setIfInBounds_toArray, List.set_cons_zero, List.set_cons_succ]
         refine rdy1 8 (fun K hK => ?_)
         ·refine appS 156 161 yM ko (ht.out _ yM) (fun u Q => M.out u (List.mem_of_mem_take Q)) (by omega) ?_
          intro J2 Jy kp jx jF;have Zu := Zt.gb jF (by simp [Value.ownBlock] <;> omega);have vX := vW.gb jF (fun e => obN ko vW (by decide) e.symm);refine hK.out _ _ (R.out _ jx) (fun Y => ?_);clear hK K;try simp only [Act.put, List.getElem_toArray, List.getElem_cons_zero, List.getElem_cons_succ, List.setIfInBounds_toArray, List.set_cons_zero, List.set_cons_succ]
          refine rdy1 12 (fun K hK => ?_)
          ·refine appS 162 165 jx kp (.inr ⟨⟨N.heap.size + 1 + 1, 0, none⟩, 1, rfl, rfl, fun j u Q => by rw [aps, Nat.zero_add]; exact Zu.cell j Q⟩ : SrcR _ _ 1 1 [.string nm]) (by intro u Q; simp at Q; subst Q; rfl) (by omega) ?_
           intro J3 Jz kq yN Y8;have vY := vX.gb Y8 (fun e => obN kp vX (by decide) e.symm);refine hK.out _ _ (R.out _ yN) (fun Y => ?_);clear hK K;try simp only [Act.put, List.getElem_toArray, List.getElem_cons_zero, List.getElem_cons_succ, List.setIfInBounds_toArray, List.set_cons_zero, List.set_cons_succ]
           refine rdy1 18 (fun K hK => ?_)
           ·refine appS 166 171 yN kq (C.out _ yN) (fun u Q => M.out u (List.mem_of_mem_drop Q)) (by omega) ?_
            intro J4 JA xf jy Y9;have vZ := vY.gb Y9 (fun e => obN kq vY (by decide) e.symm);rw [show 0 + O + 1 + (n + 1 - O) = n + 2 by omega, List.nil_append, List.append_assoc] at xf;obtain ⟨YG, Yq, rfl⟩ := oRs xf;refine hK.out _ _ (R.out _ jy) (fun Y => ?_);clear hK K;try simp only [Act.put, List.getElem_toArray, List.getElem_cons_zero, List.getElem_cons_succ, List.setIfInBounds_toArray, List.set_cons_zero, List.set_cons_succ]
            refine zhk 19 ?_
            try simp only [Act.put, List.getElem_toArray, List.getElem_cons_zero, List.getElem_cons_succ, List.setIfInBounds_toArray, List.set_cons_zero, List.set_cons_succ]
            refine rdy1 21 (fun K hK => ?_)
            ·obtain ⟨x0, x1, x2, x3, x4, x5⟩ := box3c vZ
             go_simp;have I := endD jy hN vZ xf (.slice pb P.length t) (.slice YG (n + 2) Yq) (.slice none 0 0);refine hK.out _ _ (R.out _ I.2.2) (fun Y => ?_);clear hK K;try simp only [Act.put, List.getElem_toArray, List.getElem_cons_zero, List.getElem_cons_succ, List.setIfInBounds_toArray, List.set_cons_zero, List.set_cons_succ]
             refine wpAnyH_done (by kernel_rfl) ?_ _;go_wp2_with fail;go_meet;exact ⟨_, _, _, rfl, hN, I⟩
       ·go_simp
        have yO := bAl zw (.cells #[.string nm] 9);have ZE := vR.alloc (.cells #[.string nm] 9);have Zv : BoxN ((N.drew.alloc (.cells #[.slice none 0 0, .slice none 0 0, .slice none 0 0] 45)).alloc (.cells #[.string nm] 9)) (N.heap.size + 1) 9 [.string nm] := BoxN.new _ _ _ _ (by simp);refine hK.out _ _ (R.out _ yO) (fun Y => ?_);clear hK K;try simp only [Act.put, List.getElem_toArray, List.getElem_cons_zero, List.getElem_cons_succ, List.setIfInBounds_toArray, List.set_cons_zero, List.set_cons_succ]
        refine rdy1 2 (fun K hK => ?_)
        ·go_simp
         have yP := bAl yO (.cells #[] 9);have Zw := Zv.alloc (.cells #[] 9);have j1 := ZE.alloc (.cells #[] 9);have kr := on0 ((N.drew.alloc (.cells #[.slice none 0 0, .slice none 0 0, .slice none 0 0] 45)).alloc (.cells #[.string nm] 9)) N.heap.size 9 yO.size;refine hK.out _ _ (R.out _ yP) (fun Y => ?_);clear hK K;try simp only [Act.put, List.getElem_toArray, List.getElem_cons_zero, List.getElem_cons_succ, List.setIfInBounds_toArray, List.set_cons_zero, List.set_cons_succ]
         refine rdy1 8 (fun K hK => ?_)
         ·refine appS 156 161 yP kr (ht.out _ yP) (fun u Q => M.out u (List.mem_of_mem_take Q)) (by omega) ?_
          intro J5 JB ks jz jG;have Zx := Zw.gb jG (by simp [Value.ownBlock] <;> omega);have j2 := j1.gb jG (fun e => obN kr j1 (by decide) e.symm);refine hK.out _ _ (R.out _ jz) (fun Y => ?_);clear hK K;try simp only [Act.put, List.getElem_toArray, List.getElem_cons_zero, List.getElem_cons_succ, List.setIfInBounds_toArray, List.set_cons_zero, List.set_cons_succ]
          refine rdy1 12 (fun K hK => ?_)
          ·refine appS 162 165 jz ks (.inr ⟨⟨N.heap.size + 1, 0, none⟩, 1, rfl, rfl, fun j u Q => by rw [aps, Nat.zero_add]; exact Zx.cell j Q⟩ : SrcR _ _ 1 1 [.string nm]) (by intro u Q; simp at Q; subst Q; rfl) (by omega) ?_
           intro J6 JC kt yQ Ya;have j3 := j2.gb Ya (fun e => obN ks j2 (by decide) e.symm);refine hK.out _ _ (R.out _ yQ) (fun Y => ?_);clear hK K;try simp only [Act.put, List.getElem_toArray, List.getElem_cons_zero, List.getElem_cons_succ, List.setIfInBounds_toArray, List.set_cons_zero, List.set_cons_succ]
           refine rdy1 18 (fun K hK => ?_)
           ·refine appS 166 171 yQ kt (C.out _ yQ) (fun u Q => M.out u (List.mem_of_mem_drop Q)) (by omega) ?_
            intro J7 JD xg jA Yb;have j4 := j3.gb Yb (fun e => obN kt j3 (by decide) e.symm);rw [show 0 + O + 1 + (n + 1 - O) = n + 2 by omega, List.nil_append, List.append_assoc] at xg;obtain ⟨YH, Yr, rfl⟩ := oRs xg;refine hK.out _ _ (R.out _ jA) (fun Y => ?_);clear hK K;try simp only [Act.put, List.getElem_toArray, List.getElem_cons_zero, List.getElem_cons_succ, List.setIfInBounds_toArray, List.set_cons_zero, List.set_cons_succ]
            refine zhk 19 ?_
            try simp only [Act.put, List.getElem_toArray, List.getElem_cons_zero, List.getElem_cons_succ, List.setIfInBounds_toArray, List.set_cons_zero, List.set_cons_succ]
            refine rdy1 21 (fun K hK => ?_)
            ·obtain ⟨x0, x1, x2, x3, x4, x5⟩ := box3c j4
             go_simp;have I := endD jA hN j4 xg (.slice pb P.length t) (.slice YH (n + 2) Yr) (.slice none 0 0);refine hK.out _ _ (R.out _ I.2.2) (fun Y => ?_);clear hK K;try simp only [Act.put, List.getElem_toArray, List.getElem_cons_zero, List.getElem_cons_succ, List.setIfInBounds_toArray, List.set_cons_zero, List.set_cons_succ]
             refine wpAnyH_done (by kernel_rfl) ?_ _;go_wp2_with fail;go_meet;exact ⟨_, _, _, rfl, hN, I⟩
     case rest =>
     obtain ⟨he, pU, cU, rfl, yc, kE, z6, zb⟩ := hcut;obtain ⟨oB, XL⟩ : ∃ x : World, x = wc := ⟨_, rfl⟩;subst XL;have Xm := zbt gd zb;have bU := aU.bl zb;have V0 := aU.lt;have JV := aY.lt;have Z2 := zb.size;have xT : Hid (∀ (i : Nat) (u : Value) (F : List Rat), (us.take O)[i]? = some u -> (A.take O)[i]? = some F -> FldV oB 0 u F) := fun i u F a b => by
      rw [List.getElem?_take] at a b;split at a
      ·rename_i hi
       rw [if_pos hi] at b;exact ((xS.out i u F a b).below zb).base (Nat.zero_le _)
      ·cases a
     have H8 : Hid (SrcR oB (.slice (if zF = 1 then some ⟨hG, 0, none⟩ else some ⟨hG, 1, none⟩) O (zF - 1)) O 1 (us.take O)) := by
      have J := spt (k := 1) (m := O) (c := zF) (o := 0) (b := hG) (fun j u Q => (zcq zb hZ (kK.out j u Q) :)) (by rw [List.length_cons, zT.out]; omega) _ rfl (fun e => by omega);rwa [List.drop_one, List.tail_cons, Nat.zero_add] at J
     have xU : Hid (∀ u ∈ us.take O, u.oneCell' = true) := fun u Q => zO.out u (List.mem_of_mem_take Q);have xp : Hid (∀ w', Below N.heap.size N w' -> w'.cell? ⟨w.heap.size + 1, 1, none⟩ = some (.int .i64 O)) := fun w' hb => (aU.below hb V0).cell 1 rfl;have y9 : Below N.heap.size N oB.drew := zb.trans ((bdN oB 1).mono zb.size);have xv : Below oB.heap.size oB oB.drew := bdN oB 1;have yl := kE.drew;have Hl := yl.cell 2 rfl;have Xd := yl.cell 2 rfl;have Xh := yl.frozen 2;have JQ : (0 : Int) <= (O : Int) + 1 := by omega
     have XF : (O : Int) + 1 <= (n : Int) + 1 := by omega
     have XG : (O : Int) + 1 <= (zF : Int) := by omega
     have XI : (1 : Int) <= (O : Int) + 1 := by omega
     have JR : (n : Int) + 1 <= (zF : Int) := by omega
     have XU : IntKind.i64.wrap ((O : Int) + 1) = (O : Int) + 1 := by rw [IntKind.wrap_i64]; omega
     obtain ⟨DU, xz⟩ : ∃ f : Nat -> List (List Rat), f = fun i => A.take O ++ (((B :: A).take i).drop O).map fun F => addL F X := ⟨_, rfl⟩;have zK : Hid (DU O = A.take O) := by
      unfold Hid; rw [xz];show A.take O ++ (((B :: A).take O).drop O).map _ = _;rw [List.drop_of_length_le (by rw [List.length_take]; omega), List.map_nil, List.append_nil]
     have gS : Hid (∀ i, O <= i -> i <= n -> DU (i + 1) = DU i ++ [addL (fldN B A i) X]) := fun i h1 h2 => by
      rw [xz];show A.take O ++ (((B :: A).take (i + 1)).drop O).map _ = A.take O ++ (((B :: A).take i).drop O).map _ ++ _;have h3 : i < (B :: A).length := by rw [List.length_cons, z2.out]; omega
      rw [List.take_succ_eq_append_getElem h3, List.drop_append_of_le_length (by rw [List.length_take]; omega), List.map_append, List.append_assoc];unfold fldN;rw [List.getElem?_eq_getElem h3];rfl
     have gR : Hid (DU (n + 1) = insS B A X O) := by
      unfold Hid; rw [xz];show A.take O ++ (((B :: A).take (n + 1)).drop O).map _ = _;rw [show (B :: A).take (n + 1) = B :: A from List.take_of_length_le (by rw [List.length_cons, z2.out]; exact Nat.le_refl _)];rfl
     clear xz;go_upto_region 30 with fail;go_cut [] from 174 to 182 (fun wx => ∃ vS : Value, FlsU wx N.heap.size vS O (DU O) /\ BoxN wx he 45 [.slice pb P.length t, .slice pU (n + 2) cU, vS] /\ wx.ownsRow N.heap.size 9 1 (.slice pU (n + 2) cU) (n + 2) (UV.take O ++ .string nm :: UV.drop O) /\ Below N.heap.size N wx)
     case first =>
      refine AnyL.region (S := Till 9 (fun w' => w'.cell? ⟨w.heap.size + 1, 1, none⟩ = some (.int .i64 O)) (fun w' => w'.cell? ⟨he, 2, none⟩ = some (.slice none 0 0))) (by kernel_rfl) ?_;have Y : Till 9 (fun w' => w'.cell? ⟨w.heap.size + 1, 1, none⟩ = some (.int .i64 O)) (fun w' => w'.cell? ⟨he, 2, none⟩ = some (.slice none 0 0)) (Array.replicate 10 false) _ := ⟨xp.out _ y9, fun _ => Hl⟩;refine zlk 0 Y ?_
      try simp only [Act.put, List.getElem_toArray, List.getElem_cons_zero, List.setIfInBounds_toArray, List.set_cons_zero, List.set_cons_succ]
      refine AnyL.take2 (i := 1) (oi := _) (v := ?_) rfl (by kernel_rfl) (by kernel_rfl) (by kernel_rfl) (by decide) (ok := _) rfl (by kernel_rfl) (by kernel_rfl) (fun _ _ _ h => h) (Or.inl ⟨by rfl, ?_⟩) ⟨Y.1, fun _ => Y.2 (by rfl)⟩ ?_;rotate_left
      ·intro w V; (try dsimp only at V); first | (go_simp; done) | (go_simp; with_reducible rfl)
      try simp only [Act.put, List.getElem_toArray, List.getElem_cons_zero, List.getElem_cons_succ, List.setIfInBounds_toArray, List.set_cons_zero, List.set_cons_succ]
      refine zlk 2 Y ?_
      try simp only [Act.put, List.getElem_toArray, List.getElem_cons_zero, List.getElem_cons_succ, List.setIfInBounds_toArray, List.set_cons_zero, List.set_cons_succ]
      refine zlk 3 Y ?_
      try simp only [Act.put, List.getElem_toArray, List.getElem_cons_zero, List.getElem_cons_succ, List.setIfInBounds_toArray, List.set_cons_zero, List.set_cons_succ]
      refine zlk 4 Y ?_
      try simp only [Act.put, List.getElem_toArray, List.getElem_cons_zero, List.getElem_cons_succ, List.setIfInBounds_toArray, List.set_cons_zero, List.set_cons_succ]
      refine zlk 5 Y ?_
      try simp only [Act.put, List.getElem_toArray, List.getElem_cons_zero, List.getElem_cons_succ, List.setIfInBounds_toArray, List.set_cons_zero, List.set_cons_succ]
      refine zlk 6 Y ?_
      try simp only [Act.put, List.getElem_toArray, List.getElem_cons_zero, List.getElem_cons_succ, List.setIfInBounds_toArray, List.set_cons_zero, List.set_cons_succ]
      refine AnyL.one (i := 7) (o := _) (by kernel_rfl) rfl (fun K hK => ?_)
      (refine appF (w0 := N) 175 180 y9 (World.ownsRow_nil _ _ _ _) (H8.out.below xv) xU.out (by omega) ?_; intro v7 w7 gG ye gr; generalize (if zF = 1 then some (⟨hG, 0, none⟩ : Addr) else some ⟨hG, 1, none⟩) = zx; have q7 : Below oB.heap.size oB w7 := xv.grown gr xv.size (fun j e => by cases e); have ym := yl.gb gr (by simp [Value.ownBlock]); have Z3 := World.ownsRow.kept (odw z6) gr (oat (odw z6) (World.ownsRow_nil oB.drew N.heap.size 33 1) (by decide)); rw [Nat.zero_add, List.nil_append] at gG; obtain ⟨p7, c7, rfl⟩ := oRs gG; have Xe := ym.cell 2 rfl; have JJ := ym.frozen 2)
      refine hK.out _ _ ⟨xp.out _ ye, fun hk => Xe⟩ (fun Y => ?_);clear hK K;try simp only [Act.put, List.getElem_toArray, List.getElem_cons_zero, List.getElem_cons_succ, List.setIfInBounds_toArray, List.set_cons_zero, List.set_cons_succ]
      refine zlk 8 Y ?_
      try simp only [Act.put, List.getElem_toArray, List.getElem_cons_zero, List.getElem_cons_succ, List.setIfInBounds_toArray, List.set_cons_zero, List.set_cons_succ]
      refine AnyL.one (i := 9) (o := _) (by kernel_rfl) rfl (fun K hK => ?_);go_simp;refine hK.out _ _ ⟨xp.out _ (ye.setCell (p := ⟨he, 2, none⟩) yc _), fun hk => (by simp at hk)⟩ (fun Y => ?_);clear hK K;try simp only [Act.put, List.getElem_toArray, List.getElem_cons_zero, List.getElem_cons_succ, List.setIfInBounds_toArray, List.set_cons_zero, List.set_cons_succ]
      refine AnyL.done (by kernel_rfl) ?_ _;have Xr : FlsU w7 N.heap.size (.slice p7 O c7) O (DU O) := ⟨by rw [zK.out, List.length_take, z2.out]; omega, us.take O, by rw [List.length_take, zT.out]; omega, gG, fun i u F a b => (xT.out i u F a (by rw [<- zK.out]; exact b)).below q7⟩;have HP : w7.grownBy (w7.setCell ⟨he, 2, none⟩ (.slice p7 O c7)) (some he) := gst (grl w7 _) 2 _;have XW := ym.set 2 (.slice p7 O c7);have XO := World.ownsRow.kept Z3 HP (.inr (fun e => obN Z3 ym (by decide) e.symm));have q9 := ye.setCell (p := ⟨he, 2, none⟩) yc (.slice p7 O c7);go_wp2_with fail;go_meet;exact ⟨_, Xr.kept HP ym (by decide) (by decide), XW, XO, q9⟩
     case rest =>
     obtain ⟨vS, hS, kG, xV, gl⟩ := hcut;obtain ⟨pS, cS, rfl⟩ := hS.shape;clear y9 xp H8 xU xT zK xv yl Hl Xd Xh XF XG XI XU kE z6 zb Z2 Xm bU ht C R g0 xD xE XD XE v4 v5 zU M xS X5 zO kK;obtain ⟨oC, XM⟩ : ∃ x : World, x = wc := ⟨_, rfl⟩;subst XM;have Zc := aU.lt;have V2 := aY.lt;have u1 := (aU.below gl Zc).cell 1 rfl;go_wp2_with fail;go_loopw [19] (fun t19 wq => ∃ (i : Nat) (pS : Option Addr) (cS : Nat), t19 = .int .i64 i /\ O <= i /\ i <= n + 1 /\ FlsU wq N.heap.size (.slice pS i cS) i (DU i) /\ BoxN wq he 45 [.slice pb P.length t, .slice pU (n + 2) cU, .slice pS i cS] /\ wq.ownsRow N.heap.size 9 1 (.slice pU (n + 2) cU) (n + 2) (UV.take O ++ .string nm :: UV.drop O) /\ Below N.heap.size N wq) (fun t19 _ => n + 1 - (RowKit.intOf t19).toNat)
     case atStart => exact ⟨O, _, _, rfl, Nat.le_refl _, by omega, hS, kG, xV, gl⟩
     case round =>
      clear hS kG xV u1 gl;obtain ⟨i, pS, cS, rfl, XJ, XB, hS, kG, z6, G⟩ := hrel;have hl := zbt gd G;by_cases h : i <= n
      ·have JM : (i : Int) < (n : Int) + 1 := by omega
       obtain ⟨b6, o6, c6, l0, z9, HK⟩ := YU.out i h;have YY := hid (gS.out i XJ h);have go := gY.out i h;have Z8 : ∀ j : Nat, j < P.length -> Sz 3 (hI (fldN B A i) j) := fun j hj => by rw [ho0 _ j (by omega)]; exact hn.out.fs _ (fNm B A (by rw [z2.out]; exact h)) _ (List.getElem_mem _)
       have X7 := hid Z8;have kZ : Hid ((addL (fldN B A i) X).length = P.length) := by unfold Hid; rw [aLl (by rw [go, hh.out]), go]
       have X9 : Hid (∀ j : Nat, j < P.length -> (addL (fldN B A i) X).take (j + 1) = (addL (fldN B A i) X).take j ++ [hI (fldN B A i) j + hI X j]) := fun j hj => by
        have h1 : j < (addL (fldN B A i) X).length := by rw [kZ.out]; exact hj
        rw [List.take_succ_eq_append_getElem h1, ho0 _ j (by omega), ho0 _ j (by rw [hh.out]; exact hj)];congr 2;simp [addL]
       clear go Z8;generalize addL (fldN B A i) X = Z at *;generalize fldN B A i = FI at *;have YW := hid HK;clear HK;obtain ⟨wa, XR⟩ : ∃ x : World, x = wr := ⟨_, rfl⟩;subst XR;have z0 := zcq G hZ l0;go_wp2_with fail;obtain ⟨W9, xA⟩ : ∃ W, W = wa.alloc (.cells #[] 55) := ⟨_, rfl⟩;have xy : Below wa.heap.size wa W9 := by rw [xA]; exact zal _ _
       have Xi : W9.ownsRow wa.heap.size 55 1 (.slice (some ⟨wa.heap.size, 0, none⟩) 0 0) 0 ([] : List Value) := by rw [xA]; exact on0 _ _ _ (Nat.le_refl _)
       rw [<- xA];clear xA z0;go_loopw [20, 21] (fun t20 t21 wq => ∃ (j : Nat), t21 = .int .i64 j /\ j <= P.length /\ wq.ownsRow wa.heap.size 55 1 t20 j (cFd (Z.take j)) /\ Below wa.heap.size wa wq) (fun _ t21 _ => P.length - (RowKit.intOf t21).toNat)
       case atStart => exact ⟨0, rfl, Nat.zero_le _, Xi, xy⟩
       case round =>
        obtain ⟨j, rfl, XC, zc, zk⟩ := hrel;obtain ⟨p9, c9, rfl⟩ := oRs zc;have zH := zbt G zk;have z0 := zcq zH hZ l0;rcases Nat.lt_or_ge j P.length with hj | hj
        ·have JO : (j : Int) < (P.length : Int) := by omega
         have l1 := YW.out j hj;have x1 := Hb.out j hj;have zQ := hid (X9.out j hj);have HV : Sz 3 (hI X j) := by rw [ho0 _ j (by rw [hh.out]; exact hj)]; exact zE.out _ (List.getElem_mem _)
         have gN := hid fun w hg => rAa (hI FI j) (hI X j) 3 (by decide) (by decide) (X7.out j hj) HV w hg
         generalize hI FI (j : Int) = l at *;generalize hI X (j : Int) = u at *;have gZ : Hid (∀ w', Below N.heap.size N w' -> Good w') := fun w' hb => hg.below ((zbt gd hb));have zN : Hid (∀ w', Below N.heap.size N w' -> w'.cell? ⟨hG, i, none⟩ = some (.slice (some ⟨b6, o6, none⟩) P.length c6) /\ w'.cell? ⟨b6, o6 + j, none⟩ = some (.string (RS l)) /\ w'.cell? ⟨w.heap.size + 1, 2, none⟩ = some (.slice (some ⟨bx, ox, none⟩) P.length cx) /\ w'.cell? ⟨bx, ox + j, none⟩ = some (.string (RS u))) := fun w' hb => ⟨(zcq hb hZ l0 :), (zcq hb z9 l1 :), (aU.below hb Zc).cell 2 rfl, (((zbt g8 hb)).cell (p := ⟨bx, ox + j, none⟩) ya).trans x1⟩;have xI : Below N.heap.size N wr.drew := zH.trans ((bdN wr 1).mono zH.size);have v6 : wr.drew.ownsRow wa.heap.size 55 1 (.slice p9 j c9) j (cFd (Z.take j)) := WRA zc (bdN wr 1);have XV := zk.size;have JU := G.size;obtain ⟨i0, HQ, Zb, gz, gA⟩ := info_parts isr;clear zc l1 x1 HV;go_upto_region 38 with fail;refine AnyL.region (S := Till 15 (fun w' => w'.cell? ⟨hG, i, none⟩ = some (.slice (some ⟨b6, o6, none⟩) P.length c6) /\ w'.cell? ⟨b6, o6 + j, none⟩ = some (.string (RS l)) /\ w'.cell? ⟨w.heap.size + 1, 2, none⟩ = some (.slice (some ⟨bx, ox, none⟩) P.length cx) /\ w'.cell? ⟨bx, ox + j, none⟩ = some (.string (RS u))) (fun _ => True)) (by kernel_rfl) ?_;have Y : Till 15 (fun w' => w'.cell? ⟨hG, i, none⟩ = some (.slice (some ⟨b6, o6, none⟩) P.length c6) /\ w'.cell? ⟨b6, o6 + j, none⟩ = some (.string (RS l)) /\ w'.cell? ⟨w.heap.size + 1, 2, none⟩ = some (.slice (some ⟨bx, ox, none⟩) P.length cx) /\ w'.cell? ⟨bx, ox + j, none⟩ = some (.string (RS u))) (fun _ => True) (Array.replicate 17 false) _ := ⟨zN.out _ xI, fun _ => trivial⟩;refine zlk 0 Y ?_
         try simp only [Act.put, List.getElem_toArray, List.getElem_cons_zero, List.setIfInBounds_toArray, List.set_cons_zero, List.set_cons_succ]
         refine zlk 1 Y ?_
         try simp only [Act.put, List.getElem_toArray, List.getElem_cons_zero, List.getElem_cons_succ, List.setIfInBounds_toArray, List.set_cons_zero, List.set_cons_succ]
         refine zlk 2 Y ?_
         try simp only [Act.put, List.getElem_toArray, List.getElem_cons_zero, List.getElem_cons_succ, List.setIfInBounds_toArray, List.set_cons_zero, List.set_cons_succ]
         refine zlk 3 Y ?_
         try simp only [Act.put, List.getElem_toArray, List.getElem_cons_zero, List.getElem_cons_succ, List.setIfInBounds_toArray, List.set_cons_zero, List.set_cons_succ]
         refine zlk 4 Y ?_
         try simp only [Act.put, List.getElem_toArray, List.getElem_cons_zero, List.getElem_cons_succ, List.setIfInBounds_toArray, List.set_cons_zero, List.set_cons_succ]
         refine zlk 5 Y ?_
         try simp only [Act.put, List.getElem_toArray, List.getElem_cons_zero, List.getElem_cons_succ, List.setIfInBounds_toArray, List.set_cons_zero, List.set_cons_succ]
         refine zlk 6 Y ?_
         try simp only [Act.put, List.getElem_toArray, List.getElem_cons_zero, List.getElem_cons_succ, List.setIfInBounds_toArray, List.set_cons_zero, List.set_cons_succ]
         refine zlk 7 Y ?_
         try simp only [Act.put, List.getElem_toArray, List.getElem_cons_zero, List.getElem_cons_succ, List.setIfInBounds_toArray, List.set_cons_zero, List.set_cons_succ]
         refine zlk 8 Y ?_
         try simp only [Act.put, List.getElem_toArray, List.getElem_cons_zero, List.getElem_cons_succ, List.setIfInBounds_toArray, List.set_cons_zero, List.set_cons_succ]
         refine zlk 9 Y ?_
         try simp only [Act.put, List.getElem_toArray, List.getElem_cons_zero, List.getElem_cons_succ, List.setIfInBounds_toArray, List.set_cons_zero, List.set_cons_succ]
         refine zlk 10 Y ?_
         try simp only [Act.put, List.getElem_toArray, List.getElem_cons_zero, List.getElem_cons_succ, List.setIfInBounds_toArray, List.set_cons_zero, List.set_cons_succ]
         refine zlk 11 Y ?_
         try simp only [Act.put, List.getElem_toArray, List.getElem_cons_zero, List.getElem_cons_succ, List.setIfInBounds_toArray, List.set_cons_zero, List.set_cons_succ]
         refine zlk 12 Y ?_
         try simp only [Act.put, List.getElem_toArray, List.getElem_cons_zero, List.getElem_cons_succ, List.setIfInBounds_toArray, List.set_cons_zero, List.set_cons_succ]
         refine AnyL.one (i := 13) (o := _) (by kernel_rfl) rfl (fun K hK => ?_);go_simp
         (refine (gN.out _ (gZ.out _ xI)).mono ?_; rintro e y1 ⟨_, rfl, rfl, hM⟩; have zm := zbt xI hM; have zs := WRA v6 hM)
         refine hK.out _ _ ⟨zN.out _ zm, fun hk => trivial⟩ (fun Y => ?_);clear hK K;try simp only [Act.put, List.getElem_toArray, List.getElem_cons_zero, List.getElem_cons_succ, List.setIfInBounds_toArray, List.set_cons_zero, List.set_cons_succ]
         refine AnyL.one (i := 14) (o := _) (by kernel_rfl) rfl (fun K hK => ?_);go_simp;refine hK.out _ _ ⟨zN.out _ (zm.alloc zm.size _), fun hk => trivial⟩ (fun Y => ?_);clear hK K;try simp only [Act.put, List.getElem_toArray, List.getElem_cons_zero, List.getElem_cons_succ, List.setIfInBounds_toArray, List.set_cons_zero, List.set_cons_succ]
         refine AnyL.one (i := 15) (o := _) (by kernel_rfl) rfl (fun K hK => ?_)
         (rw [if_pos (by simp [Region.wanted])]; refine wp_append_own _ (.tmp 201) (.tmp 215) 33 (by rfl) wa.heap.size 55 i0 (.string ⟨#[]⟩) 1 16 Tryz.underlying33 HQ Zb gz gA rfl (by decide) _ _ _ (by simp [Act.eval]) (zs.alloc _) ⟨y1.heap.size, 0, none⟩ 1 1 [.string (RS (l + u))] (by simp [Act.eval]) rfl (cos _ _ _) (ocs _) (by unfold maxLen; omega) (by omega) (by have := hM.size; simp at this ⊢; omega) ?_; intro v8 w8 zl yg _; have Z4 := (zm.alloc zm.size (.cells #[.string (RS (l + u))] 55)).grown yg (by have := zm.size; simp; omega) (fun k hk => by have := (zs.lt k hk).1; omega); have za := ((zk.trans (((bdN wr 1).trans hM).mono zk.size)).alloc (Nat.le_trans XV (hM.size)) (.cells #[.string (RS (l + u))] 55)).grown yg (by have := hM.size; simp at this ⊢; omega) (fun k hk => (zs.lt k hk).1))
         refine hK.out _ _ ⟨zN.out _ Z4, fun hk => trivial⟩ (fun Y => ?_);clear hK K;try simp only [Act.put, List.getElem_toArray, List.getElem_cons_zero, List.getElem_cons_succ, List.setIfInBounds_toArray, List.set_cons_zero, List.set_cons_succ]
         refine AnyL.take (i := 16) (oi := _) (v := ?_) rfl (by kernel_rfl) (by kernel_rfl) (by kernel_rfl) (by decide) (fun _ _ _ h => h) (Or.inl ⟨by rfl, ?_⟩) ⟨Y.1, fun hk => (by simp at hk)⟩ ?_;rotate_left
         ·intro w V; (try dsimp only at V); first | (go_simp; done) | (go_simp; with_reducible rfl)
         try simp only [Act.put, List.getElem_toArray, List.getElem_cons_zero, List.getElem_cons_succ, List.setIfInBounds_toArray, List.set_cons_zero, List.set_cons_succ]
         refine AnyL.done (by kernel_rfl) ?_ _;have gu : w8.ownsRow wa.heap.size 55 1 v8 (j + 1) (cFd (Z.take (j + 1))) := by
          rw [zQ.out];unfold cFd at zl ⊢;rw [List.map_append];exact zl
         clear v6 zs yg hM zm xI zN gN gZ zl Z4;go_wp2_with fail;go_roundw
         case rel => exact ⟨j + 1, by go_num, by omega, gu, za⟩
         case measure =>
          show P.length - ((j : Int) + 1).toNat < P.length - (j : Int).toNat;omega
        ·obtain rfl : j = P.length := by omega
         have Xp : FldV wr 0 (.slice p9 P.length c9) Z := by
          have h1 := zc;rw [List.take_of_length_le (by rw [kZ.out]; exact Nat.le_refl _)] at h1;have h2 : FldV wr wa.heap.size (.slice p9 P.length c9) Z := by unfold FldV; rw [kZ.out]; exact h1
          exact h2.base (Nat.zero_le _)
         obtain ⟨h0, JX, h1, h2, h3⟩ := hS.below zk;have gD := kG.bl zk;have xW := WRA z6 zk;have d2 := gD.cell 2 rfl;have zG := h2.alloc (.cells #[.slice p9 P.length c9] 33);have gk := xW.alloc (.cells #[.slice p9 P.length c9] 33);have gE := gD.alloc (.cells #[.slice p9 P.length c9] 33);have Ht := zH.alloc zH.size (.cells #[.slice p9 P.length c9] 33);have Zd := obN zG gE (by decide);have Hc := oat gk zG (by decide);have Vl := zH.size;have HU : ¬ (P.length : Int) < (P.length : Int) := by omega
         clear hS kG z6 zc
         go_upto_region 33 with (at_builtin; refine wpList_append_own _ rfl _ _ 43 rfl N.heap.size 33 j0 (.slice none 0 0) 1 24 Tryz.underlying43 HS Z9 hM Za rfl (by decide) _ _ _ rfl zG ⟨wr.heap.size, 0, none⟩ 1 1 [.slice p9 P.length c9] rfl rfl (cell_one_new _ _ _) (by intro u Q; simp at Q; subst Q; rfl) (by unfold maxLen; omega) (by omega) (by simp; omega) ?_
                                 intro v3 w3 yk D _;have Hs : Below N.heap.size N w3 := Ht.grown D (by simp; omega) (fun k hk => (zG.lt k hk).1);have gj := World.ownsRow.kept gk D Hc;have zI := gE.gb D (fun e => Zd e.symm);have Xb := zI.cell 2 rfl;have Xg := zI.frozen 2;obtain ⟨p3, c3, rfl⟩ := oRs yk)
         have HB : FlsU w3 N.heap.size (.slice p3 (i + 1) c3) (i + 1) (DU (i + 1)) := by
          rw [YY.out];exact FlsU.snoc h0 h1 zG (fun i u F a b => (h3 i u F a b).alloc _) D yk (Xp.alloc _)
         obtain ⟨y, hy⟩ := zex (w3.setCell ⟨he, 2, none⟩ (.slice p3 (i + 1) c3));have gq : w3.grownBy y (some he) := by rw [hy]; exact gst (grl w3 _) 2 _
         have XX : BoxN y he 45 [.slice pb P.length t, .slice pU (n + 2) cU, .slice p3 (i + 1) c3] := by rw [hy]; exact zI.set 2 _
         have Xk : Below N.heap.size N y := by rw [hy]; exact Hs.setCell (p := ⟨he, 2, none⟩) yc _
         have Xt := World.ownsRow.kept gj gq (.inr (fun e => obN gj zI (by decide) e.symm));have Xq := HB.kept gq zI (by decide) (by decide);rw [<- hy];clear hy gq HB gj zI Hs yk D Xb Xg d2 zG gk gE Ht Zd Hc h2 h3 xW gD;go_wp2_with fail;go_roundw
         case rel => exact ⟨i + 1, _, _, by go_num, by omega, by omega, Xq, XX, Xt, Xk⟩
         case measure =>
          show n + 1 - ((i : Int) + 1).toNat < n + 1 - (i : Int).toNat;omega
      ·have XA : i = n + 1 := by omega
       have ei : ((i : Nat) : Int) = (n : Int) + 1 := by omega
       rw [ei];clear ei;subst XA;rw [gR.out] at hS;obtain ⟨z7, z8, HI, hJ⟩ : b' = B.map RS /\ U' = U.take O ++ nm :: U.drop O /\ S' = (insS B A X O).map (fun F => F.map RS) /\ True := by
        rcases hF.out with ⟨J, -⟩ | ⟨-, J, h6, h7⟩
        ·exact absurd rfl J
        ·rw [Int.toNat_natCast] at h6 h7
         exact ⟨J, h6, h7, trivial⟩
       have yh : (U.take O ++ nm :: U.drop O).length = n + 2 := by rw [List.length_append, List.length_cons, List.length_take, List.length_drop, hw.out]; omega
       have xX : DepR wr (.slice pb P.length t) (.slice pU (n + 2) cU) (.slice pS (n + 1) cS) (B.map RS) (U.take O ++ nm :: U.drop O) ((insS B A X O).map fun F => F.map RS) :=
        ⟨((hn.out.below ((zbt g8 G))).base).toS, by have J := RdC.of_owns z6; unfold RdS; rw [yh, List.map_append, List.map_cons, List.map_take, List.map_drop, <- X8.out]; exact J, hS.rd.toTx⟩
       have gv := sr0 wr _ _ _ _ _ _ _ _ _ _ _ _ (YX.out.below G) xX (hg.below hl);rw [decide_eq_true ⟨z7, z8, HI⟩] at gv;have X6 := hid gv;have kY := aY.below G V2;obtain ⟨y0, y1, y2⟩ := zk3 kY;obtain ⟨e0, e1, e2⟩ := zk3 kG;clear gv xX yh z7 z8 HI hJ hS z6 hF;go_wp2_with fail;refine X6.out.mono ?_;rintro e wz ⟨_, rfl, rfl, hY⟩;go_wp2_with fail;go_ret;exact ⟨_, rfl, rfl, (zbt hl hY)⟩
end Go.Proofs.YtmcbeajdloaliaaGreatDoor
