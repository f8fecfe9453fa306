/- The walks over thickness.Contours, thickness.Dips. -/
import Derived.Test.YtjfjkiibmfgplaaGreatDoorE7
namespace Go.Proofs.YtjfjkiibmfgplaaGreatDoor
open Go.RowKit Go.Lib

/-- The i-th height. -/
def lvZ (f s : Rat) (i : Nat) : Rat := f + s * (i : Rat)
theorem lvZ_zero (f s : Rat) : lvZ f s 0 = f := by unfold lvZ; grind
theorem lvZ_succ (f s : Rat) (i : Nat) : lvZ f s (i + 1) = lvZ f s i + s := by
  unfold lvZ
  have : ((i + 1 : Nat) : Rat) = (i : Rat) + 1 := by push_cast; rfl
  rw [this]; grind
theorem nat_Sz1 {i : Nat} (h : i < 10) : Sz 1 (i : Rat) := by
  obtain rfl | rfl | rfl | rfl | rfl | rfl | rfl | rfl | rfl | rfl : i = 0 ∨ i = 1 ∨ i = 2 ∨ i = 3 ∨ i = 4 ∨ i = 5 ∨ i = 6 ∨ i = 7 ∨ i = 8 ∨ i = 9 := by omega
  all_goals exact ⟨by decide +kernel, by decide +kernel⟩
theorem lvZ_Sz {f s : Rat} (hf : Sz 20 f) (hs : Sz 20 s) {i : Nat} (hi : i < 10) : Sz 42 (lvZ f s i) := by
  unfold lvZ
  exact (hf.add (hs.mul (nat_Sz1 hi))).mono (by omega)

/-- Lists of level lines. -/
def LinesV (w : World) (B : Nat) (v : Value) (n : Nat) (f : Nat → List Seg) : Prop :=
  ∃ vs : List Value, w.ownsRow B 68 1 v n vs ∧ ∀ j, j < n → ∃ u, vs[j]? = some u ∧ u.oneCell' = true ∧ SegV w B u (f j)
theorem LinesV.nil (w : World) (B : Nat) (f : Nat → List Seg) : LinesV w B (.slice none 0 0) 0 f := ⟨[], World.ownsRow_nil _ _ _ _, fun j h => absurd h (by omega)⟩
theorem LinesV.below {w w' : World} {B : Nat} {v : Value} {n : Nat} {f : Nat → List Seg} (h : LinesV w B v n f) (hb : Below w.heap.size w w') : LinesV w' B v n f := by
  obtain ⟨vs, h1, h2⟩ := h
  exact ⟨vs, World.ownsRow.belowAll h1 hb, fun j hj => by obtain ⟨u, e, o, hs⟩ := h2 j hj; exact ⟨u, e, o, hs.below hb⟩⟩
theorem LinesV.base {w : World} {B B' : Nat} {v : Value} {n : Nat} {f : Nat → List Seg} (h : LinesV w B v n f) (hb : B' ≤ B) : LinesV w B' v n f := by
  obtain ⟨vs, h1, h2⟩ := h
  exact ⟨vs, ownsRow_base h1 hb, fun j hj => by obtain ⟨u, e, o, hs⟩ := h2 j hj; exact ⟨u, e, o, ownsRow_base hs hb⟩⟩
theorem LinesV.shape {w : World} {B : Nat} {v : Value} {n : Nat} {f : Nat → List Seg} (h : LinesV w B v n f) : ∃ p c, v = .slice p n c := by
  obtain ⟨vs, h1, _⟩ := h
  exact ownsRow_shape h1
/-- An element. -/
theorem LinesV.at {w : World} {B : Nat} {p : Option Addr} {c n : Nat} {f : Nat → List Seg} (h : LinesV w B (.slice p n c) n f) {j : Nat} (hj : j < n) : ∃ g u, p = some ⟨g, 0, none⟩ ∧ g < w.heap.size ∧ w.cell? ⟨g, j, none⟩ = some u ∧ SegV w B u (f j) := by
  obtain ⟨vs, h1, h2⟩ := h
  obtain ⟨u, e, _, hs⟩ := h2 j hj
  rcases h1.2 with ⟨_, h0⟩ | ⟨g, cap, cur, hv, _, hg, _⟩
  · omega
  · injection hv with hp _ _
    refine ⟨g, u, hp, (Array.getElem?_eq_some_iff.1 hg).1, ?_, hs⟩
    have hc := World.ownsRow.cells h1 (g := g) (by rw [hp]; rfl) j u e
    have hadd : (⟨g, 0, none⟩ : Addr).add j = ⟨g, j, none⟩ := by unfold Addr.add; split <;> simp_all
    rw [hadd] at hc
    exact hc
/-- One more. -/
theorem LinesV.snoc {w w' : World} {B : Nat} {v v' u : Value} {n : Nat} {f : Nat → List Seg} {vs : List Value} (h1 : w.ownsRow B 68 1 v n vs) (h2 : ∀ j, j < n → ∃ u, vs[j]? = some u ∧ u.oneCell' = true ∧ SegV w B u (f j))
    (hg : w.grownBy w' v.ownBlock) (hown : w'.ownsRow B 68 1 v' (n + 1) (vs ++ [u])) (hu : SegV w B u (f n)) (ho : u.oneCell' = true) : LinesV w' B v' (n + 1) f := by
  have key : ∀ {x l}, SegV w B x l → SegV w' B x l := fun h => World.ownsRow.kept h hg (owns_apart h h1 (by decide))
  have hlen : vs.length = n := by have := h1.1; simpa using this
  refine ⟨vs ++ [u], hown, fun j hj => ?_⟩
  rcases Nat.lt_or_ge j n with h | h
  · obtain ⟨x, e, o, hs⟩ := h2 j h
    exact ⟨x, by rw [List.getElem?_append_left (by omega)]; exact e, o, key hs⟩
  · obtain rfl : j = n := by omega
    exact ⟨u, by rw [List.getElem?_append_right (by omega), hlen, Nat.sub_self]; rfl, ho, key hu⟩
theorem seg_oneCell {w : World} {B : Nat} {v : Value} {l : List Seg} (h : SegV w B v l) : v.oneCell' = true := by
  obtain ⟨p, c, rfl⟩ := ownsRow_shape h
  rfl
theorem info_lines : ((Tryz.prog).info? 68).map (fun i => (i.zero, i.size, i.bytes)) = some (some (.slice none 0 0), 1, 24) := by kernel_rfl
theorem cell_one_any (w : World) (x : Value) (E : Nat) : ∀ (j : Nat) (r : Value), [x][j]? = some r → (w.alloc (.cells #[x] E)).cell? ((⟨w.heap.size, 0, none⟩ : Addr).add j) = some r := World.news_of_block (cs := #[x]) (t := E) (fr := (0, 0)) (World.alloc_heap_new w _)

set_option maxHeartbeats 4000000 in
set_option maxRecDepth 100000 in
theorem contours_ok (w : World) (vp vt vf : Value) (P : List PtQ) (T : List Tri) (F : List Rat) (h : FieldIn w vp vt vf P T 2 F) (a s : Rat) (ha : Sz 20 a) (hs : Sz 20 s) (hs0 : 0 < s) (n : Nat) (hn1 : 1 ≤ n) (hn6 : n ≤ 6) (hg : Good w) :
    Calls Tryz.prog 41 #[.agg #[vp, vt], vf, .agg #[.string (RS a), .string (RS s), .int .i64 (n : Int)]] w (Ret (fun r w' => ∃ v, r = .tuple #[v, .int .i64 0] ∧ LinesV w' w.heap.size v n (fun i => levelL P T F (lvZ a s i))) w) := by
  have HH := Lib.hid h
  have hza := ha.size (by omega)
  have hzs := hs.size (by omega)
  have HEA : Hid (errNum (rightQ (RS a).data.toList) = 0) := by unfold Hid; rw [RS_list, rightQ_RL (ha.mono (by omega))]; rfl
  have HES : Hid (errNum (rightQ (RS s).data.toList) = 0) := by unfold Hid; rw [RS_list, rightQ_RL (hs.mono (by omega))]; rfl
  have HSG : Hid (s.num.sign = 1) := by
    have h1 : ¬ (-s).num < 0 → 0 ≤ -s := fun h => Rat.num_nonneg.1 (by omega)
    have h2 : ¬ 0 ≤ -s := by intro h; grind
    have h3 : (-s).num = -s.num := rfl
    exact Int.sign_eq_one_of_pos (by have := mt h1 h2; omega)
  have HSI : Hid (∀ w, _) := fun w => ratSign_any s w
  have HCK : Hid (∀ w', FieldIn w' vp vt vf P T 2 F → Good w' → _) := fun w' h hg => fcheck_ok h hg
  have HSH : Hid (∀ i, i < 6 → ∀ w, Good w → _) := fun i hi w hg => short_ok (lvZ a s i) ((lvZ_Sz ha hs (by omega)).mono (by omega)) w hg
  have HLV : Hid (∀ i, i < 6 → ∀ w', FieldIn w' vp vt vf P T 2 F → Good w' → _) := fun i hi w' h hg => level_ok w' vp vt vf P T 2 F h (lvZ a s i) 42 (lvZ_Sz ha hs (by omega)) (by omega) hg
  have HAD : Hid (∀ i, i < 6 → ∀ w, Good w → Calls Tryz.prog 54 #[.string (RS (lvZ a s i)), .string (RS s)] w (Ret (fun r _ => r = .string (RS (lvZ a s (i + 1)))) w)) := fun i hi w hg => by
    have := ratAdd_any (lvZ a s i) s 42 (by omega) (by omega) (lvZ_Sz ha hs (by omega)) (hs.mono (by omega)) w hg
    rw [← lvZ_succ] at this
    exact this
  obtain ⟨pp, cp, pt, ct, pf, cf, rfl, rfl, rfl⟩ := h.open
  obtain ⟨i0, hi0, hzz0, hzz1, hzz2⟩ := info_parts info_lines
  obtain ⟨lv, hlv⟩ : ∃ lv : Nat → ByteArray, ∀ i, lv i = RS (lvZ a s i) := ⟨fun i => RS (lvZ a s i), fun _ => rfl⟩
  have HZ0 : Hid (RS a = lv 0) := by unfold Hid; rw [hlv, lvZ_zero]
  have HAD' : Hid (∀ i, i < 6 → ∀ w, Good w → Calls Tryz.prog 54 #[.string (lv i), .string (RS s)] w (Ret (fun r _ => r = .string (lv (i + 1))) w)) := by unfold Hid; intro i hi w hg; rw [hlv, hlv]; exact HAD.out i hi w hg
  have HSH' : Hid (∀ i, i < 6 → ∀ w, Good w → Calls Tryz.prog 56 #[.string (lv i)] w (Ret (fun r _ => r = .tuple #[.string (lv i), .int .i64 0]) w)) := by unfold Hid; intro i hi w hg; rw [hlv]; exact HSH.out i hi w hg
  obtain ⟨ll, hll⟩ : ∃ ll : Nat → List Seg, ll = fun i => levelL P T F (lvZ a s i) := ⟨_, rfl⟩
  have HLV' : Hid (∀ i, i < 6 → ∀ w', FieldIn w' (.slice pp P.length cp) (.slice pt T.length ct) (.slice pf F.length cf) P T 2 F → Good w' → Calls Tryz.prog 27 #[.agg #[.slice pp P.length cp, .slice pt T.length ct], .slice pf F.length cf, .string (lv i)] w' (Ret (fun r w'' => ∃ v, r = .tuple #[v, .int .i64 0] ∧ SegV w'' w'.heap.size v (ll i)) w')) := by
    unfold Hid; intro i hi w' h hg; rw [hlv, hll]; exact HLV.out i hi w' h hg
  rw [← hll]
  rw [HZ0.out] at hza HEA ⊢
  generalize RS s = sz at *
  generalize s.num.sign = sg at *
  obtain rfl := HSG.out
  clear h ha hs hs0 hlv hll HAD HSH HLV HSG HZ0
  have hn1z : (1 : Int) ≤ (n : Int) := by omega
  have hn6z : (n : Int) ≤ 6 := by omega
  go_enter Tryz.func41, Tryz.ntmps41
  go_wp2_with fail
  obtain ⟨W, hW⟩ : ∃ W, W = (w.alloc (.cells #[.slice pp P.length cp, .slice pt T.length ct] 40)).alloc (.cells #[.string (lv 0), .string sz, .int .i64 (n : Int)] 93) := ⟨_, rfl⟩
  have hB : Below w.heap.size w W := by rw [hW]; exact ((Below.refl _ _).alloc (Nat.le_refl _) _).alloc (by simp) _
  have e5 : BoxN W (w.heap.size + 1) 93 [.string (lv 0), .string sz, .int .i64 (n : Int)] := by rw [hW]; exact BoxN.new _ _ _ _ (by simp)
  have e3 : BoxN W w.heap.size 40 [.slice pp P.length cp, .slice pt T.length ct] := by
    rw [hW]
    have h1 := (BoxN.new w #[.slice pp P.length cp, .slice pt T.length ct] 40 _ rfl)
    exact h1.below ((Below.refl _ _).alloc (Nat.le_refl _) _) h1.lt
  rw [← hW]
  clear hW
  refine (HCK.out W (HH.out.below hB) (hg.below hB)).mono ?_
  rintro e w1 ⟨_, rfl, rfl, hb1⟩
  have hB1 := hB.trans (hb1.mono hB.size)
  have e51 := e5.below hb1 e5.lt
  have e31 := e3.below hb1 e3.lt
  have y0 := e51.cell 0 rfl
  have y1 := e51.cell 1 rfl
  clear hb1 hB e5 e3
  go_wp2_with fail
  refine (checkQ_any (lv 0) (by omega) _ (hg.below hB1)).mono ?_
  rintro e w2 ⟨_, rfl, rfl, hb2⟩
  rw [HEA.out]
  have hB2 := hB1.trans (hb2.mono hB1.size)
  have e52 := e51.below hb2 e51.lt
  have e32 := e31.below hb2 e31.lt
  clear hb2 hB1 e51 e31 y0 y1
  have y1 := e52.cell 1 rfl
  go_wp2_with fail
  refine (checkQ_any sz (by omega) _ (hg.below hB2)).mono ?_
  rintro e w3 ⟨_, rfl, rfl, hb3⟩
  rw [HES.out]
  have hB3 := hB2.trans (hb3.mono hB2.size)
  have e53 := e52.below hb3 e52.lt
  have e33 := e32.below hb3 e32.lt
  clear hb3 hB2 e52 e32 y1
  have y1 := e53.cell 1 rfl
  go_wp2_with fail
  refine (HSI.out w3).mono ?_
  rintro e w4 ⟨_, rfl, rfl, nd4, rfl⟩
  obtain ⟨w4, hw4⟩ : ∃ X, X = w3.drewN nd4 := ⟨_, rfl⟩
  have hb4 : Below w3.heap.size w3 w4 := by rw [hw4]; exact below_drewN w3 nd4
  rw [← hw4]
  clear hw4
  have hB4 := hB3.trans (hb4.mono hB3.size)
  have e54 := e53.below hb4 e53.lt
  have e34 := e33.below hb4 e33.lt
  clear hb4 hB3 e53 e33 y1
  have y0 := e54.cell 0 rfl
  have y1 := e54.cell 1 rfl
  have y2 := e54.cell 2 rfl
  go_wp2_with fail
  clear y0 y1 y2
  go_loopw [9, 10, 49] (fun t9 t10 t49 wr => ∃ i : Nat, t49 = .int .i64 i ∧ t10 = .string (lv i) ∧ i ≤ n ∧ LinesV wr w4.heap.size t9 i ll ∧ Below w4.heap.size w4 wr) (fun _ _ t49 _ => n - (RowKit.intOf t49).toNat)
  case atStart => exact ⟨0, rfl, rfl, Nat.zero_le _, LinesV.nil _ _ _, Below.refl _ _⟩
  case round =>
    obtain ⟨i, rfl, rfl, hin, hLV, hbr⟩ := hrel
    obtain ⟨p9, c9, rfl⟩ := hLV.shape
    have hbW : Below w.heap.size w wr := hB4.trans (hbr.mono hB4.size)
    have HLI := Lib.hid hLV
    clear hLV
    rcases Nat.lt_or_ge i n with h | h
    · have HSHi : Hid (∀ w, Good w → _) := fun w hg => HSH'.out i (by omega) w hg
      have HLVi : Hid (∀ w', _ → Good w' → _) := fun w' h' hg' => HLV'.out i (by omega) w' h' hg'
      have HADi : Hid (∀ w, Good w → _) := fun w hg => HAD'.out i (by omega) w hg
      have hinz : (i : Int) < (n : Int) := by omega
      go_wp2_with fail
      refine (HSHi.out wr (hg.below hbW)).mono ?_
      rintro e w5 ⟨_, rfl, rfl, hb5⟩
      have hbr5 := hbr.trans (hb5.mono hbr.size)
      have hLI5 := Lib.hid (HLI.out.below hb5)
      have hbW5 := hB4.trans (hbr5.mono hB4.size)
      have e35 := e34.below hbr5 e34.lt
      have x0 := e35.cell 0 rfl
      have x1 := e35.cell 1 rfl
      clear hb5 hbr HLI hbW
      go_wp2_with fail
      refine (HLVi.out w5 (HH.out.below hbW5) (hg.below hbW5)).mono ?_
      rintro e w6 ⟨_, rfl, ⟨v13, rfl, hsv⟩, hb6⟩
      have hsv' : SegV w6 w4.heap.size v13 (ll i) := ownsRow_base hsv hbr5.size
      have hbr6 := hbr5.trans (hb6.mono hbr5.size)
      have hLI6 := hLI5.out.below hb6
      obtain ⟨vs, hown, hvs⟩ := hLI6
      obtain ⟨p13, c13, rfl⟩ := ownsRow_shape hsv'
      have HVS := Lib.hid hvs
      have HSV := Lib.hid hsv'
      have hz6 := hbr6.size
      clear hb6 hbr5 hLI5 hbW5 x0 x1 e35 hsv hsv' hvs
      go_wp2_with (at_builtin; refine wpList_append_own _ rfl _ _ 89 rfl w4.heap.size 68 i0 (.slice none 0 0) 1 24 Tryz.underlying89 hi0 hzz0 hzz1 hzz2 rfl (by decide) _ _ _ rfl (hown.alloc _) ⟨w6.heap.size, 0, none⟩ 1 1 [.slice p13 (ll i).length c13] rfl rfl (cell_one_any _ _ _) (by intro u hu; simp at hu; subst hu; rfl) (by unfold maxLen; omega) (by omega) (by simp; omega) ?_
                   intro v9 w7 hown7 hgrow7 _
                   have hzw7 := hgrow7.size
                   have hbr7 : Below w4.heap.size w4 w7 := (hbr6.alloc hz6 _).grown hgrow7 (by simp; omega) (fun j hj => by have := (hown.lt j hj).1; omega)
                   have HL7 : Hid (LinesV w7 w4.heap.size v9 (i + 1) ll) := LinesV.snoc (hown.alloc _) (fun j hj => by obtain ⟨u, e, o, hs⟩ := HVS.out j hj; exact ⟨u, e, o, hs.below ((Below.refl _ _).alloc (Nat.le_refl _) _)⟩) hgrow7 hown7 (HSV.out.below ((Below.refl _ _).alloc (Nat.le_refl _) _)) rfl
                   have e57 := e54.below hbr7 e54.lt
                   have y1 := e57.cell 1 rfl
                   clear hgrow7 hown7)
      have hbW7 := hB4.trans (hbr7.mono hB4.size)
      go_wp2_with fail
      refine (HADi.out w7 (hg.below hbW7)).mono ?_
      rintro e w8 ⟨_, rfl, rfl, hb8⟩
      have hbr8 := hbr7.trans (hb8.mono hbr7.size)
      have HL8 := Lib.hid (HL7.out.below hb8)
      clear y1 e57 hb8
      go_wp2_with fail
      go_roundw
      case rel => exact ⟨i + 1, by go_num, rfl, h, HL8.out, hbr8⟩
      case measure => simp [RowKit.intOf]; omega
    · obtain rfl : i = n := by omega
      have HLF : Hid (LinesV wr w.heap.size (.slice p9 i c9) i ll) := HLI.out.base hB4.size
      go_wp2_with fail
      go_ret2
      exact ⟨_, rfl, ⟨_, rfl, HLF.out⟩, hbW⟩

set_option maxRecDepth 100000 in
/-- A number that is none. -/
theorem contours_number (w : World) (vp vt vf : Value) (P : List PtQ) (T : List Tri) (k : Nat) (F : List Rat) (h : FieldIn w vp vt vf P T k F) (x y : ByteArray) (n : Int) (hx : x.size < 1000000000) (hy : y.size < 1000000000) (hr : (rightQ x.data.toList && rightQ y.data.toList) = false) (hg : Good w) :
    Calls Tryz.prog 41 #[.agg #[vp, vt], vf, .agg #[.string x, .string y, .int .i64 n]] w (Ret (fun r _ => r = .tuple #[.slice none 0 0, .int .i64 2]) w) := by
  have HCK : Hid (∀ w', Below w.heap.size w w' → Good w' → _) := fun w' hb hg => fcheck_ok (h.below hb) hg
  obtain ⟨pp, cp, pt, ct, pf, cf, rfl, rfl, rfl⟩ := h.open
  have HX : Hid (∀ w, Good w → _) := fun w hg => checkQ_any x hx w hg
  have HY : Hid (∀ w, Good w → _) := fun w hg => checkQ_any y hy w hg
  generalize rightQ x.data.toList = rx at *
  generalize rightQ y.data.toList = ry at *
  clear h
  go_enter Tryz.func41, Tryz.ntmps41
  go_wp2_with fail
  obtain ⟨W, hW⟩ : ∃ W, W = (w.alloc (.cells #[.slice pp P.length cp, .slice pt T.length ct] 40)).alloc (.cells #[.string x, .string y, .int .i64 n] 93) := ⟨_, rfl⟩
  have hB : Below w.heap.size w W := by rw [hW]; exact ((Below.refl _ _).alloc (Nat.le_refl _) _).alloc (by simp) _
  have e5 : BoxN W (w.heap.size + 1) 93 [.string x, .string y, .int .i64 n] := by rw [hW]; exact BoxN.new _ _ _ _ (by simp)
  rw [← hW]
  clear hW
  refine (HCK.out W hB (hg.below hB)).mono ?_
  rintro e w1 ⟨_, rfl, rfl, hb1⟩
  have hB1 := hB.trans (hb1.mono hB.size)
  have e51 := e5.below hb1 e5.lt
  have y0 := e51.cell 0 rfl
  clear hb1 hB e5
  go_wp2_with fail
  refine (HX.out _ (hg.below hB1)).mono ?_
  rintro e w2 ⟨_, rfl, rfl, hb2⟩
  have hB2 := hB1.trans (hb2.mono hB1.size)
  have e52 := e51.below hb2 e51.lt
  have y1 := e52.cell 1 rfl
  clear hb2 hB1 e51 y0
  cases rx
  · rw [show errNum false = 2 from rfl]
    go_wp2_with fail
    go_ret2
    exact ⟨_, rfl, rfl, hB2⟩
  · obtain rfl : ry = false := by simpa using hr
    rw [show errNum true = 0 from rfl]
    go_wp2_with fail
    refine (HY.out _ (hg.below hB2)).mono ?_
    rw [show errNum false = 2 from rfl]
    rintro e w3 ⟨_, rfl, rfl, hb3⟩
    have hB3 := hB2.trans (hb3.mono hB2.size)
    go_wp2_with fail
    go_ret2
    exact ⟨_, rfl, rfl, hB3⟩

set_option maxHeartbeats 1000000 in
set_option maxRecDepth 100000 in
/-- A step that is not above 0, or a count out of range. -/
theorem contours_range (w : World) (vp vt vf : Value) (P : List PtQ) (T : List Tri) (k : Nat) (F : List Rat) (h : FieldIn w vp vt vf P T k F) (a s : Rat) (ha : Sz 20 a) (hs : Sz 20 s) (n : Int) (hr : s ≤ 0 ∨ n < 1 ∨ 100 < n) (hg : Good w) :
    Calls Tryz.prog 41 #[.agg #[vp, vt], vf, .agg #[.string (RS a), .string (RS s), .int .i64 n]] w (Ret (fun r _ => r = .tuple #[.slice none 0 0, .int .i64 3]) w) := by
  have hza := ha.size (by omega)
  have hzs := hs.size (by omega)
  have HEA : Hid (errNum (rightQ (RS a).data.toList) = 0) := by unfold Hid; rw [RS_list, rightQ_RL (ha.mono (by omega))]; rfl
  have HES : Hid (errNum (rightQ (RS s).data.toList) = 0) := by unfold Hid; rw [RS_list, rightQ_RL (hs.mono (by omega))]; rfl
  have HSI : Hid (∀ w, _) := fun w => ratSign_any s w
  have HCK : Hid (∀ w', Below w.heap.size w w' → Good w' → _) := fun w' hb hg => fcheck_ok (h.below hb) hg
  obtain ⟨pp, cp, pt, ct, pf, cf, rfl, rfl, rfl⟩ := h.open
  have hr' : s.num.sign ≤ 0 ∨ (0 < s.num.sign ∧ (n < 1 ∨ 100 < n)) := by
    rcases hr with h | h
    · left
      have : s.num ≤ 0 := by
        have h1 := Rat.num_nonneg.2 (show 0 ≤ -s by grind)
        have h3 : (-s).num = -s.num := rfl
        omega
      rcases Int.lt_trichotomy s.num 0 with h | h | h
      · rw [Int.sign_eq_neg_one_of_neg h]; decide
      · rw [h]; decide
      · omega
    · rcases Int.lt_or_le 0 s.num.sign with h1 | h1
      · exact .inr ⟨h1, h⟩
      · exact .inl h1
  generalize RS a = sa at *
  generalize RS s = sz at *
  generalize s.num.sign = sg at *
  clear h ha hs hr
  go_enter Tryz.func41, Tryz.ntmps41
  go_wp2_with fail
  obtain ⟨W, hW⟩ : ∃ W, W = (w.alloc (.cells #[.slice pp P.length cp, .slice pt T.length ct] 40)).alloc (.cells #[.string sa, .string sz, .int .i64 n] 93) := ⟨_, rfl⟩
  have hB : Below w.heap.size w W := by rw [hW]; exact ((Below.refl _ _).alloc (Nat.le_refl _) _).alloc (by simp) _
  have e5 : BoxN W (w.heap.size + 1) 93 [.string sa, .string sz, .int .i64 n] := by rw [hW]; exact BoxN.new _ _ _ _ (by simp)
  rw [← hW]
  clear hW
  refine (HCK.out W hB (hg.below hB)).mono ?_
  rintro e w1 ⟨_, rfl, rfl, hb1⟩
  have hB1 := hB.trans (hb1.mono hB.size)
  have e51 := e5.below hb1 e5.lt
  have y0 := e51.cell 0 rfl
  clear hb1 hB e5
  go_wp2_with fail
  refine (checkQ_any sa (by omega) _ (hg.below hB1)).mono ?_
  rintro e w2 ⟨_, rfl, rfl, hb2⟩
  rw [HEA.out]
  have hB2 := hB1.trans (hb2.mono hB1.size)
  have e52 := e51.below hb2 e51.lt
  have y1 := e52.cell 1 rfl
  clear hb2 hB1 e51 y0
  go_wp2_with fail
  refine (checkQ_any sz (by omega) _ (hg.below hB2)).mono ?_
  rintro e w3 ⟨_, rfl, rfl, hb3⟩
  rw [HES.out]
  have hB3 := hB2.trans (hb3.mono hB2.size)
  have e53 := e52.below hb3 e52.lt
  clear hb3 hB2 e52 y1
  have y1 := e53.cell 1 rfl
  go_wp2_with fail
  refine (HSI.out w3).mono ?_
  rintro e w4 ⟨_, rfl, rfl, nd4, rfl⟩
  obtain ⟨w4, hw4⟩ : ∃ X, X = w3.drewN nd4 := ⟨_, rfl⟩
  have hb4 : Below w3.heap.size w3 w4 := by rw [hw4]; exact below_drewN w3 nd4
  rw [← hw4]
  clear hw4
  have hB4 := hB3.trans (hb4.mono hB3.size)
  have e54 := e53.below hb4 e53.lt
  clear hb4 hB3 e53 y1
  have y2 := e54.cell 2 rfl
  rcases hr' with h1 | ⟨h1, h2⟩
  · go_wp2_with fail
    go_ret2
    exact ⟨_, rfl, rfl, hB4⟩
  · rcases h2 with h2 | h2
    · go_wp2_with fail
      go_ret2
      exact ⟨_, rfl, rfl, hB4⟩
    · have h3 : ¬ n < 1 := by omega
      go_wp2_with fail
      go_ret2
      exact ⟨_, rfl, rfl, hB4⟩

def dipsL (P : List PtQ) (T : List Tri) (F : List Rat) : List Rat := T.map fun tr => dipQ (slopeT P F tr)
theorem dipsL_get (P : List PtQ) (T : List Tri) (F : List Rat) (i : Nat) (h : i < T.length) : (dipsL P T F)[i]? = some (dipQ (slopeT P F (triI T i))) := by
  unfold dipsL
  rw [List.getElem?_map, List.getElem?_eq_getElem h, triI_nat T i h]; rfl
theorem dip_Sz {s : PtQ} {k : Nat} (h : SzP k s) : Sz (4 * k + 1) (dipQ s) := by
  unfold dipQ
  exact ((h.1.mul h.1).add (h.2.mul h.2)).mono (by omega)
set_option maxHeartbeats 4000000 in
set_option maxRecDepth 100000 in
theorem dips_ok (w : World) (vp vt vf : Value) (P : List PtQ) (T : List Tri) (F : List Rat) (h : FieldIn w vp vt vf P T 2 F) (hg : Good w) :
    Calls Tryz.prog 42 #[.agg #[vp, vt], vf] w (Ret (fun r w' => ∃ v, r = .tuple #[v, .int .i64 0] ∧ RdQ w' v (dipsL P T F)) w) := by
  have HH := Lib.hid h
  have HSZ : Hid (∀ i (hi : i < T.length), SzP 43 (slopeT P F (triI T i))) := fun i hi => by
    rw [triI_nat T i hi]; exact slope_Sz h.m rfl h.fs (List.getElem_mem hi)
  have HCK : Hid (∀ w', FieldIn w' vp vt vf P T 2 F → Good w' → _) := fun w' h hg => fcheck_ok h hg
  have HSL : Hid (∀ i (hi : i < T.length), ∀ w', FieldIn w' vp vt vf P T 2 F → Good w' → _) := fun i hi w' h hg => fslope_ok w' vp vt vf P T 2 F h i i rfl hi (triI T i) (triI_nat T i hi) ⟨(HSZ.out i hi).1.mono (by omega), (HSZ.out i hi).2.mono (by omega)⟩ hg
  have HDI : Hid (∀ i (hi : i < T.length), ∀ w, Good w → _) := fun i hi w hg => dip_any (slopeT P F (triI T i)) 43 (by omega) (by omega) (HSZ.out i hi) w hg
  have HSH : Hid (∀ i (hi : i < T.length), ∀ w, Good w → _) := fun i hi w hg => short_ok (dipQ (slopeT P F (triI T i))) ((dip_Sz (HSZ.out i hi)).mono (by omega)) w hg
  have HDG : Hid (∀ i (hi : i < T.length), (dipsL P T F)[i]? = some (dipQ (slopeT P F (triI T i)))) := fun i hi => dipsL_get P T F i hi
  have HDN : Hid ((dipsL P T F).length = T.length) := by unfold Hid dipsL; rw [List.length_map]
  have hTl : T.length ≤ 800 := h.m.tlen
  generalize dipsL P T F = D at *
  obtain ⟨pp, cp, pt, ct, pf, cf, rfl, rfl, rfl⟩ := h.open
  obtain ⟨i0, hi0, hz0, hz1, hz2⟩ := info_parts info_str
  clear h HSZ
  go_enter Tryz.func42, Tryz.ntmps42
  go_wp2_with fail
  obtain ⟨W, hW⟩ : ∃ W, W = w.alloc (.cells #[.slice pp P.length cp, .slice pt T.length ct] 40) := ⟨_, rfl⟩
  have hB : Below w.heap.size w W := by rw [hW]; exact (Below.refl _ _).alloc (Nat.le_refl _) _
  have e2 : BoxN W w.heap.size 40 [.slice pp P.length cp, .slice pt T.length ct] := by rw [hW]; exact BoxN.new _ _ _ _ rfl
  rw [← hW]
  clear hW
  refine (HCK.out W (HH.out.below hB) (hg.below hB)).mono ?_
  rintro e w1 ⟨_, rfl, rfl, hb1⟩
  have hB1 := hB.trans (hb1.mono hB.size)
  have e21 := e2.below hb1 e2.lt
  have x1 := e21.cell 1 rfl
  clear hb1 hB e2 HCK
  go_wp2_with fail
  clear x1
  go_loopw [7, 21] (fun t7 t21 wr => ∃ i : Nat, t21 = .int .i64 i ∧ i ≤ T.length ∧ wr.ownsRow w1.heap.size 33 1 t7 i ((D.take i).map fun q => Value.string (RS q)) ∧ Below w1.heap.size w1 wr) (fun _ t21 _ => T.length - (RowKit.intOf t21).toNat)
  case atStart => exact ⟨0, rfl, Nat.zero_le _, World.ownsRow_nil _ _ _ _, Below.refl _ _⟩
  case round =>
    obtain ⟨i, rfl, hin, hown, hbr⟩ := hrel
    obtain ⟨p7, c7, rfl⟩ := ownsRow_shape hown
    have hbW : Below w.heap.size w wr := hB1.trans (hbr.mono hB1.size)
    rcases Nat.lt_or_ge i T.length with h | h
    · have HSLi : Hid (∀ w', _ → Good w' → _) := fun w' h' hg' => HSL.out i h w' h' hg'
      have HDIi : Hid (∀ w, Good w → _) := fun w hg => HDI.out i h w hg
      have HSHi : Hid (∀ w, Good w → _) := fun w hg => HSH.out i h w hg
      have HTK := Lib.hid (take_snoc _ _ _ (HDG.out i h))
      generalize dipQ (slopeT P F (triI T i)) = dq at *
      generalize RS (slopeT P F (triI T i)).1 = sx at *
      generalize RS (slopeT P F (triI T i)).2 = sy at *
      have e2r := e21.below hbr e21.lt
      have x0 := e2r.cell 0 rfl
      have x1 := e2r.cell 1 rfl
      have hiT : (i : Int) < (T.length : Int) := by omega
      go_wp2_with fail
      refine (HSLi.out wr (HH.out.below hbW) (hg.below hbW)).mono ?_
      rintro e w3 ⟨_, rfl, rfl, hb3⟩
      have hbr3 := hbr.trans (hb3.mono hbr.size)
      have hown3 := World.ownsRow.belowAll hown hb3
      clear hb3 hbr hown hbW x0 x1 e2r
      go_upto_region 11 with fail
      obtain ⟨W4, hW4⟩ : ∃ W, W = w3.alloc (.cells #[.string sx, .string sy] 54) := ⟨_, rfl⟩
      have hb4 : Below w3.heap.size w3 W4 := by rw [hW4]; exact (Below.refl _ _).alloc (Nat.le_refl _) _
      have b9 : BoxN W4 w3.heap.size 54 [.string sx, .string sy] := by rw [hW4]; exact BoxN.new _ _ _ _ rfl
      rw [← hW4]
      clear hW4
      have hbr4 := hbr3.trans (hb4.mono hbr3.size)
      have hown4 := World.ownsRow.belowAll hown3 hb4
      have hbW4 := hB1.trans (hbr4.mono hB1.size)
      have y0 := b9.cell 0 rfl
      have y1 := b9.cell 1 rfl
      clear hb4 hbr3 hown3
      go_wp2_with fail
      refine (HDIi.out W4 (hg.below hbW4)).mono ?_
      rintro e w5 ⟨_, rfl, rfl, hb5⟩
      have hbW5 := hbW4.trans (hb5.mono hbW4.size)
      clear y0 y1 b9
      go_wp2_with fail
      refine (HSHi.out w5 (hg.below hbW5)).mono ?_
      rintro e w6 ⟨_, rfl, rfl, hb6⟩
      have hb46 := hb5.trans (hb6.mono hb5.size)
      have hbr6 := hbr4.trans (hb46.mono hbr4.size)
      have hown6 := World.ownsRow.belowAll hown4 hb46
      have hz6 := hbr6.size
      clear hb5 hb6 hb46 hbr4 hown4 hbW4 hbW5
      go_wp2_with (at_builtin; refine wpList_append_own _ rfl _ _ 41 rfl w1.heap.size 33 i0 (.string ⟨#[]⟩) 1 16 Tryz.underlying41 hi0 hz0 hz1 hz2 rfl (by decide) _ _ _ rfl (hown6.alloc _) ⟨w6.heap.size, 0, none⟩ 1 1 [.string (RS dq)] rfl rfl (cell_one_str _ _ _) (one_cell_str _) (by unfold maxLen; omega) (by omega) (by simp; omega) ?_
                   intro v7 w7 hown7 hgrow7 _
                   have hzw7 := hgrow7.size
                   have hbr7 : Below w1.heap.size w1 w7 := (hbr6.alloc hz6 _).grown hgrow7 (by simp; omega) (fun j hj => by have := (hown6.lt j hj).1; omega)
                   clear hgrow7)
      go_roundw
      case rel => exact ⟨i + 1, by go_num, h, by rw [HTK.out, List.map_append]; exact hown7, hbr7⟩
      case measure => simp [RowKit.intOf]; omega
    · obtain rfl : i = T.length := by omega
      have hrd : RdQ wr (.slice p7 T.length c7) D := by
        have h1 : RdC 1 wr (.slice p7 T.length c7) T.length ((D.take T.length).map fun q => Value.string (RS q)) := RdC.of_owns hown
        rw [List.take_of_length_le (by rw [HDN.out]; exact Nat.le_refl _)] at h1
        unfold RdQ
        rw [HDN.out]
        exact h1
      have HRD := Lib.hid hrd
      clear hrd
      go_wp2_with fail
      go_ret2
      exact ⟨_, rfl, ⟨_, rfl, HRD.out⟩, hbW⟩
end Go.Proofs.YtjfjkiibmfgplaaGreatDoor
