import Derived.Test.YtegiemcnfbchoaaGreatDoorPF5
/- mesh.Contains The walks over field.Profile$1, field.Profile. The walk over field.Profile. mesh.Along at a first place that is not right -/
set_option maxHeartbeats 8000000
set_option maxRecDepth 100000
namespace Go.Proofs.YtegiemcnfbchoaaGreatDoor
open Go.RowKit Go.Lib
theorem contains_of (w : World) (vp vt : Value) (sx sy : ByteArray) (P : List (ByteArray × ByteArray)) (T : List Tri) (hp : RdP w vp P) (ht : RdT w vt T) (Φ : Value -> World -> Prop) (b : Bool) (n : Int)
 (hΦ : ∀ r w', Φ r w' -> ∃ ps m cs, r = .tuple #[.slice ps m cs, .int .i64 n] /\ decide ((0 : Int) < (m : Int)) = b)
 (HL : ∀ w', Below w.heap.size w w' -> Calls Tryz.prog 66 #[.agg #[vp, vt], .agg #[.string sx, .string sy]] w' (Ret Φ w')) :
 Calls Tryz.prog 33 #[.agg #[vp, vt], .agg #[.string sx, .string sy]] w (Ret (fun r _ => r = .tuple #[.bool b, .int .i64 n]) w) := by
 have HL' := hid HL;have HF := hid hΦ;obtain ⟨pp, cp, rfl, -, -, -⟩ := hp.open;obtain ⟨pt, ct, rfl, -, -, -⟩ := ht.open;clear HL hΦ hp ht;go_enter Tryz.func33, Tryz.ntmps33;go_wp2_with fail;obtain ⟨W, hW⟩ : ∃ W, W = (w.alloc (.cells #[.slice pp P.length cp, .slice pt T.length ct] 38)).alloc (.cells #[.string sx, .string sy] 33) := ⟨_, rfl⟩;have hB : Below w.heap.size w W := by rw [hW]; exact zal2 _ _ _
 rw [<- hW];clear hW;refine (HL'.out W hB).mono ?_;rintro e w1 ⟨r, rfl, hr, hb1⟩;obtain ⟨ps, m, cs, rfl, hmb⟩ := HF.out _ _ hr;have hB1 := hB.trans (hb1.mono hB.size);clear hr hb1 hB;rcases Nat.eq_zero_or_pos m with rfl | hm
 ·obtain rfl : b = false := by rw [<- hmb]; rfl
  clear hmb;go_wp2_with fail;go_ret2;exact ⟨_, rfl, rfl, hB1⟩
 ·have hm1 : (0 : Int) < (m : Int) := by omega
  obtain rfl : b = true := by rw [<- hmb]; exact decide_eq_true hm1
  clear hmb;go_wp2_with fail;go_ret2;exact ⟨_, rfl, rfl, hB1⟩
theorem RdI.shape {w : World} {v : Value} {l : List Int} (h : RdI .i64 w v l) : ∃ ps cs, v = .slice ps l.length cs := by
 obtain ⟨ps, cs, rfl, -, -, -⟩ := h.open;exact ⟨ps, cs, rfl⟩
theorem contains_ok (w : World) (vp vt : Value) (P : List PtQ) (T : List Tri) (k : Nat) (hp : RdP w vp (strP P)) (ht : RdT w vt T) (hm : MeshOK P T k) (p : PtQ) (hpz : SzP 200 p) (hg : Good w) :
 Calls Tryz.prog 33 #[.agg #[vp, vt], .agg #[.string (RS p.1), .string (RS p.2)]] w (Ret (fun r _ => r = .tuple #[.bool (decide ((0 : Int) < ((locN P T p T.length).length : Int))), .int .i64 0]) w) := by
 refine contains_of w vp vt _ _ _ T hp ht _ _ 0 ?_ fun w' hb => locate_ok w' vp vt P T k (RdC.below hp hb) (RdC.below ht hb) hm p hpz (hg.below hb);rintro r w' ⟨v, rfl, hr⟩;obtain ⟨ps, cs, rfl⟩ := hr.shape;exact ⟨ps, _, cs, rfl, rfl⟩
abbrev Knt := Rat × Rat
def cellKn (c : Knt) : List Value := [.string (RS c.1), .string (RS c.2)]
def cKn (l : List Knt) : List Value := l.flatMap cellKn
theorem cellsKn_snoc (l : List Knt) (c : Knt) : cKn (l ++ [c]) = cKn l ++ [.string (RS c.1), .string (RS c.2)] := by simp [cKn, cellKn]
theorem info_Knot : ((Tryz.prog).info? 57).map (fun i => (i.zero, i.size, i.bytes)) = some (some (.agg #[.string ⟨#[]⟩, .string ⟨#[]⟩]), 2, 32) := by kernel_rfl
def knotQ (P : List PtQ) (F : List Rat) (tr : Tri) (a b : PtQ) (k : Rat) : Knt := (k, onQ P F tr (towQ a.1 b.1 k, towQ a.2 b.2 k))
theorem towQ_Sz {a b x : Rat} {m n : Nat} (ha : Sz m a) (hb : Sz m b) (hx : Sz n x) : Sz (3 * m + n + 2) (towQ a b x) := by
 unfold towQ;exact (ha.add (hx.mul (hb.sub ha))).mono (by omega)
structure BoxK (z : World) (b : Nat) : Prop where
 c0 : z.cell? ⟨b, 0, none⟩ = some (.string ⟨#[]⟩)
 c1 : z.cell? ⟨b, 1, none⟩ = some (.string ⟨#[]⟩)
 f0 : z.frozen? ⟨b, 0, none⟩ = false
 f1 : z.frozen? ⟨b, 1, none⟩ = false
 lt : b < z.heap.size
theorem BoxK.of {z : World} {b : Nat} (h : BoxN z b 33 [.string ⟨#[]⟩, .string ⟨#[]⟩]) : BoxK z b := ⟨h.cell 0 rfl, h.cell 1 rfl, h.frozen 0, h.frozen 1, h.lt⟩
theorem zk1 {x z : World} (h : Below (x.alloc (.cells #[.string ⟨#[]⟩, .string ⟨#[]⟩] 33)).heap.size (x.alloc (.cells #[.string ⟨#[]⟩, .string ⟨#[]⟩] 33)) z) : BoxN z x.heap.size 33 [.string ⟨#[]⟩, .string ⟨#[]⟩] := (BoxN.new _ _ _ _ rfl).below h (by simp)
theorem zk1d {x z : World} (h : Below (x.alloc (.cells #[.string ⟨#[]⟩, .string ⟨#[]⟩] 33)).drew.heap.size (x.alloc (.cells #[.string ⟨#[]⟩, .string ⟨#[]⟩] 33)).drew z) : BoxN z x.heap.size 33 [.string ⟨#[]⟩, .string ⟨#[]⟩] := (BoxN.new x _ _ _ rfl).drew.below h (by simp)
theorem boxK_set {w : World} {b t : Nat} {v0 v1 : Value} (h : BoxN w b t [.string ⟨#[]⟩, .string ⟨#[]⟩]) : BoxN ((w.setCell ⟨b, 0, none⟩ v0).setCell ⟨b, 1, none⟩ v1) b t [v0, v1] := (h.set 0 v0).set 1 v1
theorem boxK_far {w : World} {b c t i : Nat} {l : List Value} {v : Value} (h : BoxN w b t l) (hne : b ≠ c) : BoxN (w.setCell ⟨c, i, none⟩ v) b t l :=
 (Below.heap_setCell _ _ _ b (fun e => hne e)).trans h
theorem boxK_new (w : World) (v0 v1 : Value) (t n : Nat) (hn : w.heap.size = n) : BoxN (w.alloc (.cells #[v0, v1] t)) n t [v0, v1] := BoxN.new _ _ _ _ hn
theorem padd_any (w W : World) (bo ba bb bm bf : Nat) (vp vt vf : Value) (P : List PtQ) (T : List Tri) (k : Nat) (F : List Rat) (h : FieldIn w vp vt vf P T k F) (hW : Below w.heap.size w W) (hgW : Good w)
 (a b : PtQ) (x : Rat) (m n : Nat) (hm : m <= 100) (hkm : k <= m) (hmn : m <= n) (hn : n <= 200) (ha : SzP m a) (hb : SzP m b) (hx : Sz n x)
 (Ba : BoxN W ba 33 [.string (RS a.1), .string (RS a.2)]) (Bb : BoxN W bb 33 [.string (RS b.1), .string (RS b.2)]) (Bm : BoxN W bm 38 [vp, vt]) (Bf : BoxN W bf 41 [vf])
 (hbo : w.heap.size <= bo) (hboW : bo < W.heap.size) (na : ba ≠ bo) (nb : bb ≠ bo) (nm : bm ≠ bo) (nf : bf ≠ bo)
 (t : Nat) (htl : t < T.length) (tr : Tri) (htr : tr = T[t]) (hs : SzP 600 (sa0 P F tr))
 (wr : World) (L : List Knt) (vo : Value) (hgb : W.grownBy wr (some bo)) (Bo : BoxN wr bo 43 [vo]) (hown : wr.ownsRow W.heap.size 57 2 vo L.length (cKn L)) (hL : L.length <= 100) :
 Calls Tryz.prog 34 #[.int .i64 (t : Int), .string (RS x), .pointer (some ⟨ba, 0, none⟩), .pointer (some ⟨bb, 0, none⟩), .pointer (some ⟨bo, 0, none⟩), .pointer (some ⟨bm, 0, none⟩), .pointer (some ⟨bf, 0, none⟩)] wr (fun e w' => ∃ v', e = .returned (.tuple #[]) /\ W.grownBy w' (some bo) /\ BoxN w' bo 43 [v'] /\ w'.ownsRow W.heap.size 57 2 v' (L.length + 1) (cKn (L ++ [knotQ P F tr a b x])) /\ ∀ (c ty : Nat) (l : List Value), BoxN wr c ty l -> c ≠ bo -> vo.ownBlock ≠ some c -> BoxN w' c ty l) := by
 obtain ⟨i0, hi, hz0, hz1, hz2⟩ := info_parts info_Knot;have hm0 : 0 < m := by have := h.m.kpos; omega
 have HGD : Hid (∀ w', W.grownBy w' (some bo) -> Good w') := fun w' hb => hgW.below (below_gb hW hb hbo);have HX1 := hid fun w hg => ftoward_any a.1 b.1 x n (by omega) (by omega) (ha.1.mono hmn) (hb.1.mono hmn) hx w hg
 have HX2 := hid fun w hg => ftoward_any a.2 b.2 x n (by omega) (by omega) (ha.2.mono hmn) (hb.2.mono hmn) hx w hg
 have HON : Hid (∀ w', W.grownBy w' (some bo) -> _) := fun w' hb' => on_any w' vp vt vf P T k F (h.below (below_gb hW hb' hbo)) t t rfl htl tr htr (towQ a.1 b.1 x, towQ a.2 b.2 x) 600 (by omega) (by omega) hs ⟨(towQ_Sz ha.1 hb.1 hx).mono (by omega), (towQ_Sz ha.2 hb.2 hx).mono (by omega)⟩ (by omega) (HGD.out w' hb')
 have HKN : Hid (knotQ P F tr a b x = (x, onQ P F tr (towQ a.1 b.1 x, towQ a.2 b.2 x))) := rfl;have HBA := hid Ba;have HBB := hid Bb;have HBM := hid Bm;have HBF := hid Bf;have la := Ba.lt;have lb := Bb.lt;have lm := Bm.lt;have lf := Bf.lt;obtain ⟨pp, cp, pt, ct, pf, cf, rfl, rfl, rfl⟩ := h.open;dsimp only at HON;generalize knotQ P F tr a b x = kn at *;generalize onQ P F tr (towQ a.1 b.1 x, towQ a.2 b.2 x) = ov at *;generalize towQ a.1 b.1 x = tx at *;generalize towQ a.2 b.2 x = ty at *;have Bar := Ba.gb hgb (fun e => na (Option.some.inj e).symm);have Bbr := Bb.gb hgb (fun e => nb (Option.some.inj e).symm);have x0 := Bar.cell 0 rfl;have x1 := Bar.cell 1 rfl;have x2 := Bbr.cell 0 rfl;have x3 := Bbr.cell 1 rfl;have zs := hgb.size;have HS : Hid (∀ w', Below wr.heap.size wr w' -> w'.cell? ⟨ba, 0, none⟩ = some (.string (RS a.1)) /\ w'.cell? ⟨ba, 1, none⟩ = some (.string (RS a.2)) /\ w'.cell? ⟨bb, 0, none⟩ = some (.string (RS b.1)) /\ w'.cell? ⟨bb, 1, none⟩ = some (.string (RS b.2))) := fun w' hb => ⟨(zcq hb (Nat.lt_of_lt_of_le la zs) x0 :), (zcq hb (Nat.lt_of_lt_of_le la zs) x1 :), (zcq hb (Nat.lt_of_lt_of_le lb zs) x2 :), (zcq hb (Nat.lt_of_lt_of_le lb zs) x3 :)⟩;have q0 : Below wr.heap.size wr wr.drew := bdN wr 1;have hgr := HGD.out _ hgb;clear h hs ha hb hx Ba Bb Bm Bf Bar Bbr x0 x1 x2 x3;go_enter Tryz.func34, Tryz.ntmps34;go_upto_region 0 with fail;go_cut [9] (fun s9 wx => ∃ b9 : Nat, s9 = .pointer (some ⟨b9, 0, none⟩) /\ wr.heap.size <= b9 /\ BoxN wx b9 33 [.string (RS tx), .string (RS ty)] /\ Below wr.heap.size wr wx)
 case first =>
  go_region_held3 (fun w' => w'.cell? ⟨ba, 0, none⟩ = some (.string (RS a.1)) /\ w'.cell? ⟨ba, 1, none⟩ = some (.string (RS a.2)) /\ w'.cell? ⟨bb, 0, none⟩ = some (.string (RS b.1)) /\ w'.cell? ⟨bb, 1, none⟩ = some (.string (RS b.2)))
   ((refine HS.out _ ?_; repeat (first | with_reducible exact q2 | with_reducible exact q1 | with_reducible exact q0 | with_reducible exact Below.refl _ _ | with_reducible refine Below.drew ?_ | ((with_reducible refine Below.setCell ?_ ?_ _); rotate_left; (first | omega | (simp <;> omega))) | ((with_reducible refine Below.alloc ?_ ?_ _); rotate_left; (first | exact Nat.le_refl _ | omega | (simp <;> omega))))))
   (first
     | ((with_reducible refine Calls.mono (HX2.out _ (hgr.below ?_)) ?_); (focus repeat (first | with_reducible exact q2 | with_reducible exact q1 | with_reducible exact q0 | with_reducible exact Below.refl _ _ | with_reducible refine Below.drew ?_ | ((with_reducible refine Below.setCell ?_ ?_ _); rotate_left; (first | omega | (simp <;> omega))) | ((with_reducible refine Below.alloc ?_ ?_ _); rotate_left; (first | exact Nat.le_refl _ | omega | (simp <;> omega)))))
        rintro e z2 ⟨_, rfl, rfl, hy2⟩;have q2 : Below wr.heap.size wr z2 := (by refine Below.trans ?_ (hy2.mono ?_); rotate_left; (first | exact Nat.le_refl _ | omega | (simp <;> omega)); repeat (first | with_reducible exact q2 | with_reducible exact q1 | with_reducible exact q0 | with_reducible exact Below.refl _ _ | with_reducible refine Below.drew ?_ | ((with_reducible refine Below.setCell ?_ ?_ _); rotate_left; (first | omega | (simp <;> omega))) | ((with_reducible refine Below.alloc ?_ ?_ _); rotate_left; (first | exact Nat.le_refl _ | omega | (simp <;> omega)))));have sz2 := q2.size;have p2 : Below z1.heap.size z1 z2 := (by refine Below.trans ?_ (hy2.mono ?_); rotate_left; (first | exact Nat.le_refl _ | omega | (simp <;> omega)); repeat (first | with_reducible exact q2 | with_reducible exact q1 | with_reducible exact q0 | with_reducible exact Below.refl _ _ | with_reducible refine Below.drew ?_ | ((with_reducible refine Below.setCell ?_ ?_ _); rotate_left; (first | omega | (simp <;> omega))) | ((with_reducible refine Below.alloc ?_ ?_ _); rotate_left; (first | exact Nat.le_refl _ | omega | (simp <;> omega)))));have sz12 := p2.size
        (first | (have H8 := hid (E8.out.below p2 E8.out.lt)) | skip)
        (first | (have D8 := hid (zk1 hy2)) | skip)
        (first | (have H8f := BoxK.of H8.out; obtain ⟨u1, u2, u3, u4, u5⟩ := H8f) | skip)
        (first | (have D8f := BoxK.of D8.out; obtain ⟨v1, v2, v3, v4, v5⟩ := D8f) | skip))
     | ((with_reducible refine Calls.mono (HX1.out _ (hgr.below ?_)) ?_); (focus repeat (first | with_reducible exact q2 | with_reducible exact q1 | with_reducible exact q0 | with_reducible exact Below.refl _ _ | with_reducible refine Below.drew ?_ | ((with_reducible refine Below.setCell ?_ ?_ _); rotate_left; (first | omega | (simp <;> omega))) | ((with_reducible refine Below.alloc ?_ ?_ _); rotate_left; (first | exact Nat.le_refl _ | omega | (simp <;> omega)))))
        rintro e z1 ⟨_, rfl, rfl, hy1⟩;have q1 : Below wr.heap.size wr z1 := (by refine Below.trans ?_ (hy1.mono ?_); rotate_left; (first | exact Nat.le_refl _ | omega | (simp <;> omega)); repeat (first | with_reducible exact q2 | with_reducible exact q1 | with_reducible exact q0 | with_reducible exact Below.refl _ _ | with_reducible refine Below.drew ?_ | ((with_reducible refine Below.setCell ?_ ?_ _); rotate_left; (first | omega | (simp <;> omega))) | ((with_reducible refine Below.alloc ?_ ?_ _); rotate_left; (first | exact Nat.le_refl _ | omega | (simp <;> omega)))));have sz1 := q1.size
        (first | (have E8 := hid (zk1d hy1)) | skip)))
  all_goals
   go_wp2_with fail;go_meet;refine ⟨_, rfl, ?_, ?_, ?_⟩
   ·first | exact Nat.le_refl _ | omega | (simp; omega) | (simp)
   ·repeat (first | with_reducible exact H8.out | with_reducible exact D8.out | with_reducible refine BoxN.drew ?_ | with_reducible refine boxK_set ?_ | ((with_reducible refine boxK_new _ _ _ _ _ ?_); (first | rfl | (simp <;> omega))) | with_reducible refine BoxN.alloc ?_ _)
   ·repeat (first | with_reducible exact q2 | with_reducible exact q1 | with_reducible exact q0 | with_reducible exact Below.refl _ _ | with_reducible refine Below.drew ?_ | ((with_reducible refine Below.setCell ?_ ?_ _); rotate_left; (first | omega | (simp <;> omega))) | ((with_reducible refine Below.alloc ?_ ?_ _); rotate_left; (first | exact Nat.le_refl _ | omega | (simp <;> omega))))
 case rest =>
 obtain ⟨b9, rfl, h9, B9, hbW⟩ := hcut;obtain ⟨po, co, rfl⟩ := oRs hown;have HKA : Hid (∀ w', W.grownBy w' (some bo) -> BoxN w' b9 33 [.string (RS tx), .string (RS ty)] -> (w'.cell? ⟨bm, 0, none⟩ = some (.slice pp P.length cp) /\ w'.cell? ⟨bm, 1, none⟩ = some (.slice pt T.length ct)) /\ w'.cell? ⟨bf, 0, none⟩ = some (.slice pf F.length cf) /\ w'.cell? ⟨b9, 0, none⟩ = some (.string (RS tx)) /\ w'.cell? ⟨b9, 1, none⟩ = some (.string (RS ty))) := fun w' hb h9 => by
  have y1 := HBM.out.gb hb (fun e => nm (Option.some.inj e).symm);have y2 := HBF.out.gb hb (fun e => nf (Option.some.inj e).symm);exact ⟨⟨y1.cell 0 rfl, y1.cell 1 rfl⟩, y2.cell 0 rfl, h9.cell 0 rfl, h9.cell 1 rfl⟩
 have l9 := B9.lt;have n9 : b9 ≠ bo := by have := hgb.size; omega
 have gb0 : W.grownBy wc.drew (some bo) := gb_below (gb_below hgb hbW) (bdN wc 1);have bm0 : BoxN wc.drew bo 43 [.slice po L.length co] := (Bo.below hbW Bo.lt).drew;have B90 : BoxN wc.drew b9 33 [.string (RS tx), .string (RS ty)] := B9.drew;have ow0 := WRA (WRA hown hbW) (bdN wc 1);have d0 := bm0.cell 0 rfl;have own9 : ∀ j, (Value.slice po L.length co).ownBlock = some j -> j ≠ b9 := fun j hj => by have := (hown.lt j hj).2; omega
 clear HS q0 hgr hown Bo B9;go_upto_region 1 with fail;refine AnyL.region (S := Till 9 (fun w' => (w'.cell? ⟨bm, 0, none⟩ = some (.slice pp P.length cp) /\ w'.cell? ⟨bm, 1, none⟩ = some (.slice pt T.length ct)) /\ w'.cell? ⟨bf, 0, none⟩ = some (.slice pf F.length cf) /\ w'.cell? ⟨b9, 0, none⟩ = some (.string (RS tx)) /\ w'.cell? ⟨b9, 1, none⟩ = some (.string (RS ty))) (fun w' => w'.cell? ⟨bo, 0, none⟩ = some (.slice po L.length co))) (by kernel_rfl) ?_;have hHeld : Till 9 (fun w' => (w'.cell? ⟨bm, 0, none⟩ = some (.slice pp P.length cp) /\ w'.cell? ⟨bm, 1, none⟩ = some (.slice pt T.length ct)) /\ w'.cell? ⟨bf, 0, none⟩ = some (.slice pf F.length cf) /\ w'.cell? ⟨b9, 0, none⟩ = some (.string (RS tx)) /\ w'.cell? ⟨b9, 1, none⟩ = some (.string (RS ty))) (fun w' => w'.cell? ⟨bo, 0, none⟩ = some (.slice po L.length co)) (Array.replicate 11 false) _ := ⟨HKA.out _ gb0 B90, fun _ => d0⟩;refine AnyL.take2 (i := 0) (oi := _) (v := ?_) rfl (by kernel_rfl) (by kernel_rfl) (by kernel_rfl) (by decide) (ok := _) rfl (by kernel_rfl) (by kernel_rfl) (fun _ _ _ h => h) (Or.inl ⟨by rfl, ?_⟩) ⟨hHeld.1, fun _ => hHeld.2 (by rfl)⟩ ?_;rotate_left
 ·intro w hSw; (try dsimp only at hSw); first | (go_simp; done) | (go_simp; with_reducible rfl)
 try simp only [Act.put]
 refine zlk 1 hHeld ?_;try simp only [Act.put]
 refine zlk 2 hHeld ?_;try simp only [Act.put]
 refine zlk 3 hHeld ?_;try simp only [Act.put]
 refine zlk 4 hHeld ?_;try simp only [Act.put]
 refine zlk 5 hHeld ?_;try simp only [Act.put]
 refine AnyL.one (i := 6) (o := _) (by kernel_rfl) rfl (fun K hK => ?_);go_simp
 (refine (HON.out _ gb0).mono ?_; rintro e y1 ⟨_, rfl, rfl, hy1⟩; have gb1 := gb_below gb0 hy1; have bm1 := bm0.below hy1 bm0.lt; have B91 := B90.below hy1 B90.lt; have ow1 := WRA ow0 hy1; have d1 := bm1.cell 0 rfl)
 refine hK.out _ _ ⟨HKA.out _ gb1 B91, fun hk => d1⟩ (fun hHeld => ?_);clear hK K;try simp only [Act.put]
 refine zlk 7 hHeld ?_;try simp only [Act.put]
 refine AnyL.one (i := 8) (o := _) (by kernel_rfl) rfl (fun K hK => ?_);go_simp;refine hK.out _ _ ⟨HKA.out _ (gb_alloc gb1 _) (B91.alloc _), fun hk => cal _ d1⟩ (fun hHeld => ?_);clear hK K;try simp only [Act.put]
 refine AnyL.one (i := 9) (o := _) (by kernel_rfl) rfl (fun K hK => ?_)
 (refine step_append_lies _ (by rfl) (.tmp 23) (.tmp 31) 43 (by rfl) W.heap.size 57 i0 (.agg #[.string ⟨#[]⟩, .string ⟨#[]⟩]) 2 32 Tryz.underlying43 hi hz0 hz1 hz2 rfl (by decide) _ L.length _ (by simp [Act.eval]) (ow1.alloc _) ⟨y1.heap.size, 0, none⟩ 1 1 [.string (RS x), .string (RS ov)] (by simp [Act.eval]) rfl (cell_two _ _ _ _) (two_str _ _) (by omega) (by unfold maxLen; omega) (by omega) (by have := gb1.size; simp; omega) _ rfl ?_; intro g7 cap7 w7 hown7 hgr7 hat7 hlt7; have bm7 := (bm1.alloc (.cells #[.string (RS x), .string (RS ov)] 57)).gb hgr7 (fun e => by have := (ow1.lt _ e).1; omega); have B97 := (B91.alloc (.cells #[.string (RS x), .string (RS ov)] 57)).gb hgr7 (fun e => own9 _ e rfl); have gb7 := gb_grown (gb_alloc gb1 (.cells #[.string (RS x), .string (RS ov)] 57)) hgr7 (fun j hj => by have := (ow1.lt j hj).1; omega); have kc7 := bm7.cell 0 rfl; have kf7 := bm7.frozen 0)
 refine hK.out _ _ ⟨HKA.out _ gb7 B97, fun hk => (by simp at hk)⟩ (fun hHeld => ?_);clear hK K;try simp only [Act.put]
 refine AnyL.one (i := 10) (o := _) (by kernel_rfl) rfl (fun K hK => ?_);go_simp;refine hK.out _ _ ⟨HKA.out _ (gb_set gb7 0 _) (boxK_far B97 n9), fun hk => (by simp at hk)⟩ (fun hHeld => ?_);clear hK K;try simp only [Act.put]
 refine AnyL.done (by kernel_rfl) ?_ _;all_goals
  go_wp2_with fail;go_end0;exact ⟨_, rfl, gb_set gb7 0 _, bm7.set 0 _, by rw [HKN.out, cellsKn_snoc]; exact ownsRow_setCell_below hown7 hboW _, fun c ty l hbx hne hno => boxK_far ((((hbx.below hbW hbx.lt).drew.below hy1 (Nat.lt_of_lt_of_le hbx.lt hbW.size)).alloc (.cells #[.string (RS x), .string (RS ov)] 57)).gb hgr7 (fun e => hno e)) hne⟩
theorem idx_PP0 (a b c d : Value) (w : World) : (Instr.index 91 (.agg #[a, b, c, d]) (.int .i64 0)).run Tryz.prog w = .ok (.agg #[a, b]) w := by kernel_rfl
theorem idx_PP1 (a b c d : Value) (w : World) : (Instr.index 91 (.agg #[a, b, c, d]) (.int .i64 1)).run Tryz.prog w = .ok (.agg #[c, d]) w := by kernel_rfl
def spanI (L : List SpanQ) (i : Nat) : SpanQ := L[i]?.getD (0, 0, 0)
def pTo (P : List PtQ) (T : List Tri) (F : List Rat) (a b : PtQ) (L : List SpanQ) : Nat -> List Knt
 | 0 => []
 | i + 1 => (pTo P T F a b L i ++ if i = 0 then [knotQ P F (triI T (spanI L i).1) a b (spanI L i).2.1] else []) ++ [knotQ P F (triI T (spanI L i).1) a b (spanI L i).2.2]
theorem profTo_len (P : List PtQ) (T : List Tri) (F : List Rat) (a b : PtQ) (L : List SpanQ) (i : Nat) : (pTo P T F a b L i).length = if i = 0 then 0 else i + 1 := by
 induction i with
 | zero => rfl
 | succ i ih =>
   unfold pTo;rw [List.length_append, List.length_append, ih, if_neg (Nat.succ_ne_zero i)];by_cases h : i = 0
   ·subst h; rfl
   ·rw [if_neg h, if_neg h]; rfl
theorem cellsKn_get (l : List Knt) (i : Nat) (h : i < l.length) : (cKn l)[i * 2]? = some (.string (RS l[i].1)) /\ (cKn l)[i * 2 + 1]? = some (.string (RS l[i].2)) := by
 have e := gEf cellKn 2 (fun _ => rfl) l i;constructor
 ·have := e 0 (by omega); rw [Nat.add_zero] at this; unfold cKn; rw [this, List.getElem?_eq_getElem h]; rfl
 ·have := e 1 (by omega); unfold cKn; rw [this, List.getElem?_eq_getElem h]; rfl
theorem fprofile_ok (w : World) (vp vt vf : Value) (P : List PtQ) (T : List Tri) (k : Nat) (F : List Rat) (h : FieldIn w vp vt vf P T k F) (a b : PtQ) (m n : Nat) (hm : m <= 100) (hkm : k <= m) (hmn : m <= n) (hn : n <= 200) (ha : SzP m a) (hb : SzP m b) (L : List SpanQ)
 (HAL : Hid (∀ w', FieldIn w' vp vt vf P T k F -> Good w' -> Calls Tryz.prog 12 #[.agg #[vp, vt], .agg #[.string (RS a.1), .string (RS a.2)], .agg #[.string (RS b.1), .string (RS b.2)]] w' (Ret (fun r w2 => ∃ v, r = .tuple #[v, .int .i64 0] /\ RdSp w2 v L) w')))
 (HCA : Hid (∀ w', FieldIn w' vp vt vf P T k F -> Good w' -> Calls Tryz.prog 33 #[.agg #[vp, vt], .agg #[.string (RS a.1), .string (RS a.2)]] w' (Ret (fun r _ => r = .tuple #[.bool true, .int .i64 0]) w')))
 (HCB : Hid (∀ w', FieldIn w' vp vt vf P T k F -> Good w' -> Calls Tryz.prog 33 #[.agg #[vp, vt], .agg #[.string (RS b.1), .string (RS b.2)]] w' (Ret (fun r _ => r = .tuple #[.bool true, .int .i64 0]) w')))
 (hL : L.length <= 40) (hLs : ∀ s ∈ L, s.1 < T.length /\ Sz n s.2.1 /\ Sz n s.2.2) (hsl : ∀ tr ∈ T, SzP 600 (sa0 P F tr)) (hK : ∀ kn ∈ pTo P T F a b L L.length, Sz 200 kn.1 /\ Sz 200 kn.2) (hg : Good w) :
 Calls Tryz.prog 9 #[.agg #[vp, vt], vf, .agg #[.string (RS a.1), .string (RS a.2)], .agg #[.string (RS b.1), .string (RS b.2)]] w (Ret (fun r w' => ∃ v, r = .tuple #[v, .int .i64 0] /\ RdC 2 w' v (pTo P T F a b L L.length).length (cKn (pTo P T F a b L L.length))) w) := by
 have HH := hid h;have HA := hid ha;have HB := hid hb;have HLS := hid hLs;have HSL := hid hsl;have HK := hid hK;have hT8 := h.m.tlen;have i0 := idx_PP0;have i1 := idx_PP1;obtain ⟨pp, cp, pt, ct, pf, cf, rfl, rfl, rfl⟩ := h.open;clear h ha hb hLs hsl hK;go_enter Tryz.func9, Tryz.ntmps9;go_wp2_with fail;obtain ⟨W, hW⟩ : ∃ W, W = ((((w.alloc (.cells #[.slice pp P.length cp, .slice pt T.length ct] 38)).alloc (.cells #[.slice pf F.length cf] 41)).alloc (.cells #[.string (RS a.1), .string (RS a.2)] 33)).alloc (.cells #[.string (RS b.1), .string (RS b.2)] 33)).alloc (.cells #[.slice pf F.length cf] 41) := ⟨_, rfl⟩;have hB : Below w.heap.size w W := by rw [hW]; exact (((((Below.refl _ _).alloc (Nat.le_refl _) _).alloc (by simp) _).alloc (by simp; omega) _).alloc (by simp; omega) _).alloc (by simp; omega) _
 have bv : BoxN W (w.heap.size + 1 + 1 + 1 + 1) 41 [.slice pf F.length cf] := by rw [hW]; exact BoxN.new _ _ _ _ (by simp)
 have b7 : BoxN W (w.heap.size + 1 + 1 + 1) 33 [.string (RS b.1), .string (RS b.2)] := by rw [hW]; exact (BoxN.new _ _ _ _ (by simp)).alloc _
 have b6 : BoxN W (w.heap.size + 1 + 1) 33 [.string (RS a.1), .string (RS a.2)] := by rw [hW]; exact ((BoxN.new _ _ _ _ (by simp)).alloc _).alloc _
 have b5 : BoxN W (w.heap.size + 1) 41 [.slice pf F.length cf] := by rw [hW]; exact (((BoxN.new _ _ _ _ (by simp)).alloc _).alloc _).alloc _
 have b4 : BoxN W w.heap.size 38 [.slice pp P.length cp, .slice pt T.length ct] := by rw [hW]; exact ((((BoxN.new _ _ _ _ rfl).alloc _).alloc _).alloc _).alloc _
 rw [<- hW];clear hW;refine (checks_ok (HH.out.below hB) _ (bv.cell 0 rfl) (hg.below hB)).mono ?_;rintro e w1 ⟨_, rfl, rfl, hb1⟩;have hB1 := hB.trans (hb1.mono hB.size);have b71 := b7.below hb1 b7.lt;have b61 := b6.below hb1 b6.lt;have b51 := b5.below hb1 b5.lt;have b41 := b4.below hb1 b4.lt;clear hb1 hB bv b7 b6 b5 b4;have m0 := b41.cell 0 rfl;have m1 := b41.cell 1 rfl;have x0 := b61.cell 0 rfl;have x1 := b61.cell 1 rfl;have y0 := b71.cell 0 rfl;have y1 := b71.cell 1 rfl;go_wp2_with fail;refine (HAL.out w1 (HH.out.below hB1) (hg.below hB1)).mono ?_;rintro e w2 ⟨_, rfl, ⟨vs, rfl, hvs⟩, hb2⟩;have hB2 := hB1.trans (hb2.mono hB1.size);have b72 := b71.below hb2 b71.lt;have b62 := b61.below hb2 b61.lt;have b52 := b51.below hb2 b51.lt;have b42 := b41.below hb2 b41.lt;obtain ⟨ps, cs, rfl, hsc⟩ := hvs.cells;have HSC := hid hsc;clear hb2 hB1 b71 b61 b51 b41 m0 m1 x0 x1 y0 y1 hvs hsc HAL;have x0 := b62.cell 0 rfl;have x1 := b62.cell 1 rfl;have y0 := b72.cell 0 rfl;have y1 := b72.cell 1 rfl;go_wp2_with fail;go_loopw [43] (fun t43 wr => ∃ i : Nat, t43 = .int .i64 i /\ i <= 2 /\ Below w2.heap.size w2 wr) (fun t43 _ => 2 - (RowKit.intOf t43).toNat)
 case atStart => exact ⟨0, rfl, Nat.zero_le _, Below.refl _ _⟩
 case round =>
  clear x0 x1 y0 y1;obtain ⟨i, rfl, hi, hbr⟩ := hrel;have hBr := hB2.trans (hbr.mono hB2.size);have b4r := b42.below hbr b42.lt;have m0 := b4r.cell 0 rfl;have m1 := b4r.cell 1 rfl;rcases (by omega : i = 0 \/ i = 1 \/ i = 2) with rfl | rfl | rfl
  ·go_upto_region 10 with fail
   obtain ⟨W3, hW3⟩ : ∃ W, W = wr.alloc (.cells #[.string (RS a.1), .string (RS a.2)] 33) := ⟨_, rfl⟩;have hb3 : Below wr.heap.size wr W3 := by rw [hW3]; exact zal _ _
   have bq : BoxN W3 wr.heap.size 33 [.string (RS a.1), .string (RS a.2)] := by rw [hW3]; exact BoxN.new _ _ _ _ rfl
   rw [<- hW3];clear hW3 m0 m1;have hB3 := hBr.trans (hb3.mono hBr.size);have b43 := b4r.below hb3 b4r.lt;have m0 := b43.cell 0 rfl;have m1 := b43.cell 1 rfl;have x0 := bq.cell 0 rfl;have x1 := bq.cell 1 rfl;go_wp2_with fail;refine (HCA.out _ (HH.out.below hB3) (hg.below hB3)).mono ?_;rintro e w4 ⟨_, rfl, rfl, hb4⟩;have hbq := (hbr.trans (hb3.mono hbr.size)).trans (hb4.mono (hbr.trans (hb3.mono hbr.size)).size);clear m0 m1 x0 x1;go_wp2_with fail;go_roundw
   case rel => exact ⟨1, rfl, by omega, hbq⟩
   case measure => simp [RowKit.intOf]
  ·go_upto_region 10 with fail
   obtain ⟨W3, hW3⟩ : ∃ W, W = wr.alloc (.cells #[.string (RS b.1), .string (RS b.2)] 33) := ⟨_, rfl⟩;have hb3 : Below wr.heap.size wr W3 := by rw [hW3]; exact zal _ _
   have bq : BoxN W3 wr.heap.size 33 [.string (RS b.1), .string (RS b.2)] := by rw [hW3]; exact BoxN.new _ _ _ _ rfl
   rw [<- hW3];clear hW3 m0 m1;have hB3 := hBr.trans (hb3.mono hBr.size);have b43 := b4r.below hb3 b4r.lt;have m0 := b43.cell 0 rfl;have m1 := b43.cell 1 rfl;have x0 := bq.cell 0 rfl;have x1 := bq.cell 1 rfl;go_wp2_with fail;refine (HCB.out _ (HH.out.below hB3) (hg.below hB3)).mono ?_;rintro e w4 ⟨_, rfl, rfl, hb4⟩;have hbq := (hbr.trans (hb3.mono hbr.size)).trans (hb4.mono (hbr.trans (hb3.mono hbr.size)).size);clear m0 m1 x0 x1;go_wp2_with fail;go_roundw
   case rel => exact ⟨2, rfl, by omega, hbq⟩
   case measure => simp [RowKit.intOf]
  ·clear m0 m1 b4r HCA HCB
   rw [show ((2 : Nat) : Int) = (2 : Int) from rfl];go_upto_region 17 with fail;obtain ⟨W2, hW2⟩ : ∃ W, W = wr.alloc (.cells #[.slice none 0 0] 43) := ⟨_, rfl⟩;have hbo : Below wr.heap.size wr W2 := by rw [hW2]; exact zal _ _
   have Bo : BoxN W2 wr.heap.size 43 [.slice none 0 0] := by rw [hW2]; exact BoxN.new _ _ _ _ rfl
   rw [<- hW2];clear hW2;have h2W := hbr.trans (hbo.mono hbr.size);have hBW := hB2.trans (h2W.mono hB2.size);have B4 := b42.below h2W b42.lt;have B5 := b52.below h2W b52.lt;have B6 := b62.below h2W b62.lt;have B7 := b72.below h2W b72.lt;have lo := Bo.lt;have l4 := b42.lt;have l5 := b52.lt;have l6 := b62.lt;have l7 := b72.lt;have hsz := hbr.size;obtain ⟨bo, hbo2⟩ : ∃ bo, bo = wr.heap.size := ⟨_, rfl⟩;rw [<- hbo2] at Bo lo hsz ⊢;have hwbo : w.heap.size <= bo := Nat.le_trans hB2.size hsz;have HPA : Hid (∀ (i : Nat) (x : Rat), i < L.length -> Sz n x -> ∀ (wr : World) (Kn : List Knt) (vo : Value), W2.grownBy wr (some bo) -> BoxN wr bo 43 [vo] -> wr.ownsRow W2.heap.size 57 2 vo Kn.length (cKn Kn) -> Kn.length <= 100 ->
    Calls Tryz.prog 34 #[.int .i64 ((spanI L i).1 : Int), .string (RS x), .pointer (some ⟨w.heap.size + 1 + 1, 0, none⟩), .pointer (some ⟨w.heap.size + 1 + 1 + 1, 0, none⟩), .pointer (some ⟨bo, 0, none⟩), .pointer (some ⟨w.heap.size, 0, none⟩), .pointer (some ⟨w.heap.size + 1, 0, none⟩)] wr (fun e w' => ∃ v', e = .returned (.tuple #[]) /\ W2.grownBy w' (some bo) /\ BoxN w' bo 43 [v'] /\ w'.ownsRow W2.heap.size 57 2 v' (Kn.length + 1) (cKn (Kn ++ [knotQ P F (triI T (spanI L i).1) a b x])) /\ ∀ (c ty : Nat) (l : List Value), BoxN wr c ty l -> c ≠ bo -> vo.ownBlock ≠ some c -> BoxN w' c ty l)) := fun i x hi hx wr Kn vo h1 h2 h3 h4 => by
    have hsp : spanI L i ∈ L := by unfold spanI; rw [List.getElem?_eq_getElem hi]; exact List.getElem_mem hi
    have htl := (HLS.out _ hsp).1;have htr := triI_nat T _ htl;exact padd_any w W2 bo _ _ _ _ _ _ _ P T k F HH.out hBW hg a b x m n hm hkm hmn hn HA.out HB.out hx B6 B7 B4 B5 hwbo lo (by omega) (by omega) (by omega) (by omega) _ htl _ htr (HSL.out _ (by rw [htr]; exact List.getElem_mem htl)) wr Kn vo h1 h2 h3 h4
   have HSI : Hid (∀ i, i < L.length -> L[i]? = some (spanI L i) /\ Sz n (spanI L i).2.1 /\ Sz n (spanI L i).2.2) := fun i hi => by
    have hsp : spanI L i ∈ L := by unfold spanI; rw [List.getElem?_eq_getElem hi]; exact List.getElem_mem hi
    exact ⟨by unfold spanI; rw [List.getElem?_eq_getElem hi]; rfl, (HLS.out _ hsp).2⟩
   have HPS : Hid (∀ i, pTo P T F a b L (i + 1) = (pTo P T F a b L i ++ if i = 0 then [knotQ P F (triI T (spanI L i).1) a b (spanI L i).2.1] else []) ++ [knotQ P F (triI T (spanI L i).1) a b (spanI L i).2.2]) := fun i => rfl;have HPL := hid (profTo_len P T F a b L);have hp0 : pTo P T F a b L 0 = [] := rfl;obtain ⟨PR, hPR⟩ : ∃ f, f = pTo P T F a b L := ⟨_, rfl⟩;rw [<- hPR] at HPL hp0 HK;simp only [<- hPR] at HPS;have HPR := hid hPR;clear hPR hbr hbo hbo2 hi HLS HSL HA HB b42 b52 b62 b72 B4 B5 B6 B7;go_wp2_with fail;go_loopw [61] (fun t61 wr => ∃ (i : Nat) (vo : Value), t61 = .int .i64 i /\ i <= L.length /\ W2.grownBy wr (some bo) /\ BoxN wr bo 43 [vo] /\ wr.ownsRow W2.heap.size 57 2 vo (PR i).length (cKn (PR i))) (fun t61 _ => L.length - (RowKit.intOf t61).toNat)
   case atStart => exact ⟨0, _, rfl, Nat.zero_le _, gb_refl _ _, Bo, by rw [hp0]; exact World.ownsRow_nil _ _ _ _⟩
   case round =>
    obtain ⟨i, vo, rfl, hi, hgb, Bor, hown⟩ := hrel;rcases Nat.lt_or_ge i L.length with h | h
    ·have hiz : (i : Int) < (L.length : Int) := by omega
     obtain ⟨hget, zx, zy⟩ := HSI.out i h;obtain ⟨bs, os, rfl, hbs, hcs⟩ := HSC.out (List.ne_nil_of_length_pos (by omega));obtain ⟨c0, c1, c2⟩ := hcs i _ hget;have h2r := below_gb h2W hgb hsz;have d0 := zcq h2r hbs c0;have d1 := zcq h2r hbs c1;have d2 := zcq h2r hbs c2;have HP1 : Hid (∀ wr Kn vo, _) := HPA.out i _ h zx;have HP2 : Hid (∀ wr Kn vo, _) := HPA.out i _ h zy;have HN := hid (HPS.out i);have HLN := hid (HPL.out i);generalize spanI L i = sp at *;clear hget zx zy c0 c1 c2 hcs h2r;go_upto_region 21 with fail;obtain ⟨W4, hW4⟩ : ∃ W, W = wr.alloc (.cells #[.int .i64 (sp.1 : Int), .string (RS sp.2.1), .string (RS sp.2.2)] 54) := ⟨_, rfl⟩;have hb4 : Below wr.heap.size wr W4 := by rw [hW4]; exact zal _ _
     have bs4 : BoxN W4 wr.heap.size 54 [.int .i64 (sp.1 : Int), .string (RS sp.2.1), .string (RS sp.2.2)] := by rw [hW4]; exact BoxN.new _ _ _ _ rfl
     rw [<- hW4];clear hW4 d0 d1 d2;have gb4 := gb_below hgb hb4;have Bo4 := Bor.below hb4 Bor.lt;have ow4 := WRA hown hb4;have nbo : bo ≠ wr.heap.size := by have := Bor.lt; omega
     have e0 := bs4.cell 0 rfl;have e1 := bs4.cell 1 rfl;have e2 := bs4.cell 2 rfl;have hno : vo.ownBlock ≠ some wr.heap.size := fun e => by have := (hown.lt _ e).2; omega
     have hl1 : (PR i).length <= 60 := by rw [HLN.out]; split <;> omega
     generalize knotQ P F (triI T sp.1) a b sp.2.1 = kn1 at *;generalize knotQ P F (triI T sp.1) a b sp.2.2 = kn2 at *;rcases Nat.eq_zero_or_pos i with h0 | h0
     ·have hzb : ((i : Int) == 0) = true := by simp [h0]
      have hzb2 : (i : Int) = 0 := by omega
      have HN2 : Hid (PR (i + 1) = (PR i ++ [kn1]) ++ [kn2]) := by unfold Hid; rw [HN.out, if_pos h0]
      have H0 := hid h0;clear HN HLN h0;go_wp2_with fail;refine (HP1.out W4 (PR i) vo gb4 Bo4 ow4 (by omega)).mono ?_;rintro e w5 ⟨v5, rfl, gb5, Bo5, ow5, HK5⟩;have bs5 := HK5 _ _ _ bs4 (fun e => nbo e.symm) hno;have ow5' : w5.ownsRow W2.heap.size 57 2 v5 (PR i ++ [kn1]).length (cKn (PR i ++ [kn1])) := by rw [List.length_append]; exact ow5
      clear e0 e1 e2 ow5 HK5;have e0 := bs5.cell 0 rfl;have e2 := bs5.cell 2 rfl;go_wp2_with fail;refine (HP2.out w5 (PR i ++ [kn1]) v5 gb5 Bo5 ow5' (by rw [List.length_append]; simp; omega)).mono ?_;rintro e w6 ⟨v6, rfl, gb6, Bo6, ow6, -⟩;clear e0 e2;go_wp2_with fail;go_roundw
      case rel => exact ⟨i + 1, v6, by go_num, by omega, gb6, Bo6, by rw [HN2.out, show (PR i ++ [kn1] ++ [kn2]).length = (PR i ++ [kn1]).length + 1 by simp]; exact ow6⟩
      case measure => simp [RowKit.intOf]; omega
     ·have hzb : ((i : Int) == 0) = false := beq_eq_false_iff_ne.2 (by omega)
      have hzb2 : ¬ (i : Int) = 0 := by omega
      have hzb3 : ¬ i = 0 := by omega
      have HN2 : Hid (PR (i + 1) = PR i ++ [kn2]) := by unfold Hid; rw [HN.out, if_neg hzb3, List.append_nil]
      clear HN HLN;go_wp2_with fail;refine (HP2.out W4 (PR i) vo gb4 Bo4 ow4 (by omega)).mono ?_;rintro e w6 ⟨v6, rfl, gb6, Bo6, ow6, -⟩;clear e0 e1 e2;go_wp2_with fail;go_roundw
      case rel => exact ⟨i + 1, v6, by go_num, by omega, gb6, Bo6, by rw [HN2.out, List.length_append]; exact ow6⟩
      case measure => simp [RowKit.intOf]; omega
    ·obtain rfl : i = L.length := by omega
     have hin : ¬ (L.length : Int) < (L.length : Int) := Int.lt_irrefl _;obtain ⟨n, hn⟩ : ∃ n, n = (PR L.length).length := ⟨_, rfl⟩;rw [<- hn] at hown;obtain ⟨po, co, rfl⟩ := oRs hown;have HRD : Hid (RdC 2 wr (.slice po n co) n (cKn (PR L.length))) := RdC.of_owns hown;have HCL : Hid (∀ j, j < n -> ∃ (kn : Knt) (g o : Nat), po = some ⟨g, o, none⟩ /\ g < wr.heap.size /\ Sz 200 kn.1 /\ Sz 200 kn.2 /\ wr.cell? ⟨g, o + j * 2, none⟩ = some (.string (RS kn.1)) /\ wr.cell? ⟨g, o + j * 2 + 1, none⟩ = some (.string (RS kn.2))) := fun j hj => by
      have hj2 : j < (PR L.length).length := by omega
      obtain ⟨k0, k1⟩ := cellsKn_get _ j hj2;obtain ⟨p, c, hv, _, _, _, h4⟩ := HRD.out;injection hv with hp _ _
      obtain ⟨g, o, hpe, hc⟩ := h4 (fun e => by rw [e] at k0; cases k0);have c0 := hc _ _ k0;have c1 := hc _ _ k1;rw [<- Nat.add_assoc] at c1;exact ⟨_, g, o, hp.trans hpe, World.block_lt_of_cell? wr _ c0, (HK.out _ (List.getElem_mem hj2)).1, (HK.out _ (List.getElem_mem hj2)).2, c0, c1⟩
     have hn41 : n <= 60 := by rw [hn, HPL.out]; split <;> omega
     have hBr := below_gb hBW hgb hwbo;have hbor := Bor.lt;have k0 := Bor.cell 0 rfl;obtain ⟨wq, hwq⟩ : ∃ wq : World, wq = wr := ⟨_, rfl⟩;subst hwq;have HN := hid hn;clear hn h hi hgb hown HPA HSI HPS HPL HSC;go_wp2_with fail;clear k0;go_loopw [83] (fun t83 wr => ∃ j : Nat, t83 = .int .i64 j /\ j <= n /\ Below wq.heap.size wq wr) (fun t83 _ => n - (RowKit.intOf t83).toNat)
     case atStart => exact ⟨0, rfl, Nat.zero_le _, Below.refl _ _⟩
     case round =>
      obtain ⟨j, rfl, hj, hbj⟩ := hrel;have hBj := hBr.trans (hbj.mono hBr.size);rcases Nat.lt_or_ge j n with h | h
      ·have hjz : (j : Int) < (n : Int) := by omega
       obtain ⟨kn, g, o, rfl, hgl, z0, z1, c0, c1⟩ := HCL.out j h;have d0 := zcq hbj hgl c0;have d1 := zcq hbj hgl c1;have HR0 := hid fun w hg => ratChk_ok kn.1 z0 w hg;have HR1 := hid fun w hg => ratChk_ok kn.2 z1 w hg;clear c0 c1 z0 z1;go_upto_region 28 with fail;obtain ⟨W8, hW8⟩ : ∃ W, W = wr.alloc (.cells #[.string (RS kn.1), .string (RS kn.2)] 57) := ⟨_, rfl⟩;have hb8 : Below wr.heap.size wr W8 := by rw [hW8]; exact zal _ _
       have bk : BoxN W8 wr.heap.size 57 [.string (RS kn.1), .string (RS kn.2)] := by rw [hW8]; exact BoxN.new _ _ _ _ rfl
       rw [<- hW8];clear hW8 d0 d1;have hbj8 := hbj.trans (hb8.mono hbj.size);have hBj8 := hBj.trans (hb8.mono hBj.size);have e0 := bk.cell 0 rfl;have e1 := bk.cell 1 rfl;go_wp2_with fail;refine (HR0.out _ (hg.below hBj8)).mono ?_;rintro e w9 ⟨_, rfl, rfl, hb9⟩;have bk9 := bk.below hb9 bk.lt;have hbj9 := hbj8.trans (hb9.mono hbj8.size);have hBj9 := hBj8.trans (hb9.mono hBj8.size);clear e0 e1;have e1 := bk9.cell 1 rfl;go_wp2_with fail;refine (HR1.out _ (hg.below hBj9)).mono ?_;rintro e w10 ⟨_, rfl, rfl, hb10⟩;have hbj10 := hbj9.trans (hb10.mono hbj9.size);clear e1;go_wp2_with fail;go_roundw
       case rel => exact ⟨j + 1, by go_num, by omega, hbj10⟩
       case measure => simp [RowKit.intOf]; omega
      ·have hjn : ¬ (j : Int) < (n : Int) := by omega
       have k0 := (Bor.below hbj hbor).cell 0 rfl;have HFI : Hid (RdC 2 wr (.slice po n co) (pTo P T F a b L L.length).length (cKn (pTo P T F a b L L.length))) := by
        unfold Hid; rw [<- HPR.out, <- HN.out]; exact RdC.below HRD.out hbj
       go_wp2_with fail;go_ret2;exact ⟨_, rfl, ⟨_, rfl, HFI.out⟩, hBj⟩
theorem along_wrong (w : World) (vp vt : Value) (P : List PtQ) (T : List Tri) (k : Nat) (hp : RdP w vp (strP P)) (ht : RdT w vt T) (hm : MeshOK P T k) (px py qx qy : ByteArray) (hx : px.size < 1000000000) (hy : py.size < 1000000000) (he : eNm (allQ [px, py]) = 2) (hg : Good w) :
 Calls Tryz.prog 12 #[.agg #[vp, vt], .agg #[.string px, .string py], .agg #[.string qx, .string qy]] w (Ret (fun r _ => r = .tuple #[.slice none 0 0, .int .i64 2]) w) := by
 have HCK : Hid (∀ w', Below w.heap.size w w' -> Good w' -> Calls Tryz.prog 40 #[.agg #[vp, vt]] w' (Ret (fun r _ => r = .int .i64 0) w')) := fun w' hb hg' => check_any w' vp vt P T k (RdC.below hp hb) (RdC.below ht hb) hm hg';have HCB := hid fun w hg => cPa px py hx hy w hg;rw [he] at HCB;clear he hx hy;obtain ⟨pp, cp, rfl, -, -, -⟩ := hp.open;obtain ⟨pt, ct, rfl, -, -, -⟩ := ht.open;rw [sPl] at *;clear hp ht hm;go_enter Tryz.func12, Tryz.ntmps12;go_wp2_with fail;obtain ⟨W0, hW0⟩ : ∃ W, W = ((w.alloc (.cells #[.slice pp P.length cp, .slice pt T.length ct] 38)).alloc (.cells #[.string px, .string py] 33)).alloc (.cells #[.string qx, .string qy] 33) := ⟨_, rfl⟩;have hB0 : Below w.heap.size w W0 := by rw [hW0]; exact (((Below.refl _ _).alloc (Nat.le_refl _) _).alloc (by simp) _).alloc (by simp; omega) _
 have b5 : BoxN W0 (w.heap.size + 1 + 1) 33 [.string qx, .string qy] := by rw [hW0]; exact BoxN.new _ _ _ _ (by simp)
 have b4 : BoxN W0 (w.heap.size + 1) 33 [.string px, .string py] := by
  rw [hW0];have h1 := (BoxN.new (w.alloc (.cells #[.slice pp P.length cp, .slice pt T.length ct] 38)) #[.string px, .string py] 33 (w.heap.size + 1) (by simp));exact h1.below (zal _ _) h1.lt
 rw [<- hW0];clear hW0;refine (HCK.out W0 hB0 (hg.below hB0)).mono ?_;rintro e w1 ⟨_, rfl, rfl, hb1⟩;have hB1 := hB0.trans (hb1.mono hB0.size);have b51 := b5.below hb1 b5.lt;have b41 := b4.below hb1 b4.lt;clear hb1 hB0 b5 b4;have x0 := b41.cell 0 rfl;have x1 := b41.cell 1 rfl;go_wp2_with fail;refine (HCB.out w1 (hg.below hB1)).mono ?_;rintro e w3 ⟨_, rfl, rfl, hb3⟩;have hB3 := hB1.trans (hb3.mono hB1.size);go_wp2_with fail;go_ret2;exact ⟨_, rfl, rfl, hB3⟩
theorem fprofile_err (w : World) (vp vt vf : Value) (P : List PtQ) (T : List Tri) (k : Nat) (F : List Rat) (h : FieldIn w vp vt vf P T k F) (ax ay bx bY : ByteArray) (e : Int) (he : e ≠ 0)
 (HAL : Hid (∀ w', FieldIn w' vp vt vf P T k F -> Good w' -> Calls Tryz.prog 12 #[.agg #[vp, vt], .agg #[.string ax, .string ay], .agg #[.string bx, .string bY]] w' (Ret (fun r _ => r = .tuple #[.slice none 0 0, .int .i64 e]) w'))) (hg : Good w) :
 Calls Tryz.prog 9 #[.agg #[vp, vt], vf, .agg #[.string ax, .string ay], .agg #[.string bx, .string bY]] w (Ret (fun r _ => r = .tuple #[.slice none 0 0, .int .i64 e]) w) := by
 have HH := hid h;have hez : (e == 0) = false := by simpa using he
 obtain ⟨pp, cp, pt, ct, pf, cf, rfl, rfl, rfl⟩ := h.open;clear h;go_enter Tryz.func9, Tryz.ntmps9;go_wp2_with fail;obtain ⟨W, hW⟩ : ∃ W, W = ((((w.alloc (.cells #[.slice pp P.length cp, .slice pt T.length ct] 38)).alloc (.cells #[.slice pf F.length cf] 41)).alloc (.cells #[.string ax, .string ay] 33)).alloc (.cells #[.string bx, .string bY] 33)).alloc (.cells #[.slice pf F.length cf] 41) := ⟨_, rfl⟩;have hB : Below w.heap.size w W := by rw [hW]; exact (((((Below.refl _ _).alloc (Nat.le_refl _) _).alloc (by simp) _).alloc (by simp; omega) _).alloc (by simp; omega) _).alloc (by simp; omega) _
 have bv : BoxN W (w.heap.size + 1 + 1 + 1 + 1) 41 [.slice pf F.length cf] := by rw [hW]; exact BoxN.new _ _ _ _ (by simp)
 have b7 : BoxN W (w.heap.size + 1 + 1 + 1) 33 [.string bx, .string bY] := by rw [hW]; exact (BoxN.new _ _ _ _ (by simp)).alloc _
 have b6 : BoxN W (w.heap.size + 1 + 1) 33 [.string ax, .string ay] := by rw [hW]; exact ((BoxN.new _ _ _ _ (by simp)).alloc _).alloc _
 have b4 : BoxN W w.heap.size 38 [.slice pp P.length cp, .slice pt T.length ct] := by rw [hW]; exact ((((BoxN.new _ _ _ _ rfl).alloc _).alloc _).alloc _).alloc _
 rw [<- hW];clear hW;refine (checks_ok (HH.out.below hB) _ (bv.cell 0 rfl) (hg.below hB)).mono ?_;rintro e w1 ⟨_, rfl, rfl, hb1⟩;have hB1 := hB.trans (hb1.mono hB.size);have b71 := b7.below hb1 b7.lt;have b61 := b6.below hb1 b6.lt;have b41 := b4.below hb1 b4.lt;clear hb1 hB bv b7 b6 b4;have m0 := b41.cell 0 rfl;have m1 := b41.cell 1 rfl;have x0 := b61.cell 0 rfl;have x1 := b61.cell 1 rfl;have y0 := b71.cell 0 rfl;have y1 := b71.cell 1 rfl;go_wp2_with fail;refine (HAL.out w1 (HH.out.below hB1) (hg.below hB1)).mono ?_;rintro e w2 ⟨_, rfl, rfl, hb2⟩;have hB2 := hB1.trans (hb2.mono hB1.size);clear m0 m1 x0 x1 y0 y1;go_wp2_with fail;go_ret2;exact ⟨_, rfl, rfl, hB2⟩
theorem fprofile_out (w : World) (vp vt vf : Value) (P : List PtQ) (T : List Tri) (k : Nat) (F : List Rat) (h : FieldIn w vp vt vf P T k F) (ax ay bx bY : ByteArray) (ca cb : Bool) (hc : ca = true -> cb = false)
 (HAL : Hid (∀ w', FieldIn w' vp vt vf P T k F -> Good w' -> Calls Tryz.prog 12 #[.agg #[vp, vt], .agg #[.string ax, .string ay], .agg #[.string bx, .string bY]] w' (Ret (fun r _ => ∃ p n c, r = .tuple #[.slice p n c, .int .i64 0]) w')))
 (HCA : Hid (∀ w', FieldIn w' vp vt vf P T k F -> Good w' -> Calls Tryz.prog 33 #[.agg #[vp, vt], .agg #[.string ax, .string ay]] w' (Ret (fun r _ => r = .tuple #[.bool ca, .int .i64 0]) w')))
 (HCB : Hid (∀ w', FieldIn w' vp vt vf P T k F -> Good w' -> Calls Tryz.prog 33 #[.agg #[vp, vt], .agg #[.string bx, .string bY]] w' (Ret (fun r _ => r = .tuple #[.bool cb, .int .i64 0]) w'))) (hg : Good w) :
 Calls Tryz.prog 9 #[.agg #[vp, vt], vf, .agg #[.string ax, .string ay], .agg #[.string bx, .string bY]] w (Ret (fun r _ => r = .tuple #[.slice none 0 0, .int .i64 28]) w) := by
 have HH := hid h;have HC := hid hc;have i0 := idx_PP0;have i1 := idx_PP1;clear hc;obtain ⟨pp, cp, pt, ct, pf, cf, rfl, rfl, rfl⟩ := h.open;clear h;go_enter Tryz.func9, Tryz.ntmps9;go_wp2_with fail;obtain ⟨W, hW⟩ : ∃ W, W = ((((w.alloc (.cells #[.slice pp P.length cp, .slice pt T.length ct] 38)).alloc (.cells #[.slice pf F.length cf] 41)).alloc (.cells #[.string ax, .string ay] 33)).alloc (.cells #[.string bx, .string bY] 33)).alloc (.cells #[.slice pf F.length cf] 41) := ⟨_, rfl⟩;have hB : Below w.heap.size w W := by rw [hW]; exact (((((Below.refl _ _).alloc (Nat.le_refl _) _).alloc (by simp) _).alloc (by simp; omega) _).alloc (by simp; omega) _).alloc (by simp; omega) _
 have bv : BoxN W (w.heap.size + 1 + 1 + 1 + 1) 41 [.slice pf F.length cf] := by rw [hW]; exact BoxN.new _ _ _ _ (by simp)
 have b7 : BoxN W (w.heap.size + 1 + 1 + 1) 33 [.string bx, .string bY] := by rw [hW]; exact (BoxN.new _ _ _ _ (by simp)).alloc _
 have b6 : BoxN W (w.heap.size + 1 + 1) 33 [.string ax, .string ay] := by rw [hW]; exact ((BoxN.new _ _ _ _ (by simp)).alloc _).alloc _
 have b4 : BoxN W w.heap.size 38 [.slice pp P.length cp, .slice pt T.length ct] := by rw [hW]; exact ((((BoxN.new _ _ _ _ rfl).alloc _).alloc _).alloc _).alloc _
 rw [<- hW];clear hW;refine (checks_ok (HH.out.below hB) _ (bv.cell 0 rfl) (hg.below hB)).mono ?_;rintro e w1 ⟨_, rfl, rfl, hb1⟩;have hB1 := hB.trans (hb1.mono hB.size);have b71 := b7.below hb1 b7.lt;have b61 := b6.below hb1 b6.lt;have b41 := b4.below hb1 b4.lt;clear hb1 hB bv b7 b6 b4;have m0 := b41.cell 0 rfl;have m1 := b41.cell 1 rfl;have x0 := b61.cell 0 rfl;have x1 := b61.cell 1 rfl;have y0 := b71.cell 0 rfl;have y1 := b71.cell 1 rfl;go_wp2_with fail;refine (HAL.out w1 (HH.out.below hB1) (hg.below hB1)).mono ?_;rintro e w2 ⟨_, rfl, ⟨ps, ns, cs, rfl⟩, hb2⟩;have hB2 := hB1.trans (hb2.mono hB1.size);have b72 := b71.below hb2 b71.lt;have b62 := b61.below hb2 b61.lt;have b42 := b41.below hb2 b41.lt;clear hb2 hB1 b71 b61 b41 m0 m1 x0 x1 y0 y1 HAL;have x0 := b62.cell 0 rfl;have x1 := b62.cell 1 rfl;have y0 := b72.cell 0 rfl;have y1 := b72.cell 1 rfl;go_wp2_with fail;go_loopw [43] (fun t43 wr => ∃ i : Nat, t43 = .int .i64 i /\ (i = 0 \/ (i = 1 /\ Hid (ca = true))) /\ Below w2.heap.size w2 wr) (fun t43 _ => 2 - (RowKit.intOf t43).toNat)
 case atStart => exact ⟨0, rfl, .inl rfl, Below.refl _ _⟩
 case round =>
  clear x0 x1 y0 y1;obtain ⟨i, rfl, hi, hbr⟩ := hrel;have hBr := hB2.trans (hbr.mono hB2.size);have b4r := b42.below hbr b42.lt;have m0 := b4r.cell 0 rfl;have m1 := b4r.cell 1 rfl;rcases hi with rfl | ⟨rfl, hca⟩
  ·go_upto_region 10 with fail
   obtain ⟨W3, hW3⟩ : ∃ W, W = wr.alloc (.cells #[.string ax, .string ay] 33) := ⟨_, rfl⟩;have hb3 : Below wr.heap.size wr W3 := by rw [hW3]; exact zal _ _
   have bq : BoxN W3 wr.heap.size 33 [.string ax, .string ay] := by rw [hW3]; exact BoxN.new _ _ _ _ rfl
   rw [<- hW3];clear hW3 m0 m1;have hB3 := hBr.trans (hb3.mono hBr.size);have b43 := b4r.below hb3 b4r.lt;have m0 := b43.cell 0 rfl;have m1 := b43.cell 1 rfl;have x0 := bq.cell 0 rfl;have x1 := bq.cell 1 rfl;go_wp2_with fail;refine (HCA.out _ (HH.out.below hB3) (hg.below hB3)).mono ?_;rintro e w4 ⟨_, rfl, rfl, hb4⟩;have hbq := (hbr.trans (hb3.mono hbr.size)).trans (hb4.mono (hbr.trans (hb3.mono hbr.size)).size);clear m0 m1 x0 x1;cases ca
   ·go_wp2_with fail
    go_ret2;exact ⟨_, rfl, rfl, hB2.trans (hbq.mono hB2.size)⟩
   ·go_wp2_with fail
    go_roundw
    case rel => exact ⟨1, rfl, .inr ⟨rfl, by unfold Hid; first | rfl | trivial⟩, hbq⟩
    case measure => simp [RowKit.intOf]
  ·go_upto_region 10 with fail
   obtain ⟨W3, hW3⟩ : ∃ W, W = wr.alloc (.cells #[.string bx, .string bY] 33) := ⟨_, rfl⟩;have hb3 : Below wr.heap.size wr W3 := by rw [hW3]; exact zal _ _
   have bq : BoxN W3 wr.heap.size 33 [.string bx, .string bY] := by rw [hW3]; exact BoxN.new _ _ _ _ rfl
   rw [<- hW3];clear hW3 m0 m1;have hB3 := hBr.trans (hb3.mono hBr.size);have b43 := b4r.below hb3 b4r.lt;have m0 := b43.cell 0 rfl;have m1 := b43.cell 1 rfl;have x0 := bq.cell 0 rfl;have x1 := bq.cell 1 rfl;obtain rfl := HC.out hca.out;go_wp2_with fail;refine (HCB.out _ (HH.out.below hB3) (hg.below hB3)).mono ?_;rintro e w4 ⟨_, rfl, rfl, hb4⟩;have hbq := (hbr.trans (hb3.mono hbr.size)).trans (hb4.mono (hbr.trans (hb3.mono hbr.size)).size);clear m0 m1 x0 x1;go_wp2_with fail;go_ret2;exact ⟨_, rfl, rfl, hB2.trans (hbq.mono hB2.size)⟩
end Go.Proofs.YtegiemcnfbchoaaGreatDoor
