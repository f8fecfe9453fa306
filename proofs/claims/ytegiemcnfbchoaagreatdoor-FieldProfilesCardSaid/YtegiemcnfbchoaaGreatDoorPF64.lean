import Derived.Test.YtegiemcnfbchoaaGreatDoorPF53
/- klippelaw13.FieldProfiles returns true: any described mesh with a field, any two places. -/
namespace Go.Proofs.YtegiemcnfbchoaaGreatDoor
open Go.RowKit Go.Lib
theorem fieldProfiles_all (w : World) (kz s0 s1 : Int) (half : Bool) (a0 a1 a2 a3 a4 a5 : Int) (ah : Bool) (b0 b1 b2 b3 b4 b5 : Int) (bh : Bool) (ax ay bx bY : ByteArray) (hk0 : 0 <= kz) (hk1 : kz <= 255) (hs0 : -128 <= s0 /\ s0 <= 127) (hs1 : -128 <= s1 /\ s1 <= 127) (ha : ∀ x ∈ [a0, a1, a2, a3, a4, a5], -128 <= x /\ x <= 127) (hg : Good w) :
 Calls Tryz.prog 3 #[.agg #[.int .u8 kz, .int .i8 s0, .int .i8 s1, .bool half, .int .i8 a0, .int .i8 a1, .int .i8 a2, .int .i8 a3, .int .i8 a4, .int .i8 a5, .bool ah, .int .i8 b0, .int .i8 b1, .int .i8 b2, .int .i8 b3, .int .i8 b4, .int .i8 b5, .bool bh], .agg #[.string ax, .string ay], .agg #[.string bx, .string bY]] w (Ret (fun r _ => r = .bool true) w) := by
 by_cases hl : 40 < ax.size \/ 40 < ay.size \/ 40 < bx.size \/ 40 < bY.size
 ·exact fieldProfiles_long w kz s0 s1 half a0 a1 a2 a3 a4 a5 ah b0 b1 b2 b3 b4 b5 bh ax ay bx bY hl hg
 have h1 : ax.size <= 40 := by omega
 have h2 : ay.size <= 40 := by omega
 have h3 : bx.size <= 40 := by omega
 have h4 : bY.size <= 40 := by omega
 clear hl;obtain ⟨kk, hk⟩ : ∃ k : Nat, kz.tmod 8 = (k : Int) := ⟨(kz.tmod 8).toNat, by have := Int.tmod_nonneg 8 hk0; omega⟩;have HMK := hid fun w hg => make12_any w kz s0 s1 half kk hk hk0 hk1 hs0 hs1 hg;have hM : MeshOK (sPP kk s0 s1 half) (sTT kk) 2 := sheet_ok kk s0 s1 half;have hP6 : (sPP kk s0 s1 half).length <= 6 := by rw [sheetP_length]; exact shapeP_len kk
 have hT6 : (sTT kk).length <= 6 := by unfold sTT; split <;> decide
 have hFs := heights_Sz [a0, a1, a2, a3, a4, a5] ah (sPP kk s0 s1 half).length;have fF := fr_height [a0, a1, a2, a3, a4, a5] ah (sPP kk s0 s1 half).length;have HMF : Hid (∀ w vp vt, RdP w vp (strP (sPP kk s0 s1 half)) -> RdT w vt (sTT kk) -> Good w -> Calls Tryz.prog 8 #[.agg #[vp, vt], .agg #[.int .i8 a0, .int .i8 a1, .int .i8 a2, .int .i8 a3, .int .i8 a4, .int .i8 a5, .bool ah]] w (Ret (fun r w' => FieldIn w' vp vt r (sPP kk s0 s1 half) (sTT kk) 2 (hFF [a0, a1, a2, a3, a4, a5] ah (sPP kk s0 s1 half).length)) w)) := fun w vp vt hp ht hg => by
  obtain ⟨pp, cp, rfl, -, -, -⟩ := hp.open;rw [sPl];rw [sPl] at hp;refine (make13_any w pp _ cp vt a0 a1 a2 a3 a4 a5 ah ha hP6 hg).mono ?_;rintro e w' ⟨r, rfl, ⟨hf, -⟩, hb⟩;exact ⟨r, rfl, make_in (RdC.below hp hb) (RdC.below ht hb) hf, hb⟩
 have HRA := hid fun w hg => rightPoint_any ax ay (by omega) (by omega) w hg
 have HRB := hid fun w hg => rightPoint_any bx bY (by omega) (by omega) w hg
 generalize hFF [a0, a1, a2, a3, a4, a5] ah (sPP kk s0 s1 half).length = F at *;by_cases hr : allQ [ax, ay] = true /\ allQ [bx, bY] = true
 ·obtain ⟨hra, hrb⟩ := hr
  have hr2 : rQQ ax.data.toList = true /\ rQQ ay.data.toList = true := by unfold allQ at hra; simpa using hra
  have hr3 : rQQ bx.data.toList = true /\ rQQ bY.data.toList = true := by unfold allQ at hrb; simpa using hrb
  obtain ⟨qax, rfl, zax⟩ := rightM hr2.1 (by omega) h1;obtain ⟨qay, rfl, zay⟩ := rightM hr2.2 (by omega) h2;obtain ⟨qbx, rfl, zbx⟩ := rightM hr3.1 (by omega) h3;obtain ⟨qby, rfl, zby⟩ := rightM hr3.2 (by omega) h4;have za : SzP 40 ((qax, qay) : PtQ) := ⟨zax, zay⟩;have zb : SzP 40 ((qbx, qby) : PtQ) := ⟨zbx, zby⟩;rw [hra] at HRA;rw [hrb] at HRB;clear hra hrb hr2 hr3 zax zay zbx zby
  have up : ∀ {p : PtQ} {m : Nat}, SzP 40 p -> 40 <= m -> SzP m p := fun h hm => ⟨h.1.mono hm, h.2.mono hm⟩;by_cases hab : ((qax, qay) : PtQ) = (qbx, qby)
  ·injection hab with e1 e2
   subst e1; subst e2;refine fPw w kz s0 s1 half a0 a1 a2 a3 a4 a5 ah b0 b1 b2 b3 b4 b5 bh _ _ _ _ h1 h2 h3 h4 (sPP kk s0 s1 half) (sTT kk) F [] [] 17 true true true true true ⟨#[]⟩ ⟨#[]⟩ (by simp) (.inl ⟨rfl, rfl, rfl⟩) (fun _ => rfl) (fun h => absurd h (by decide)) (by simp) HMK HMF (fun w vp vt vf h hg => ?_) HRA HRB (fun _ _ h => by cases h) (fun _ _ h => by cases h) (fun h => absurd h (by decide)) (fun h => absurd h (by decide)) hg;refine (fprofile_err w vp vt vf _ _ 2 F h _ _ _ _ 17 (by decide) (fun w' h hg => along_zero w' vp vt _ _ 2 40 h.p h.t h.m (by omega) (by omega) (qax, qay) za hg) hg).mono ?_;rintro e w' ⟨r, rfl, h2, hb⟩;exact ⟨_, rfl, ⟨_, h2, RdC.nil0 2 w'⟩, hb⟩
  have hne := (two_pts (qax, qay) (qbx, qby)).resolve_left (fun e => hab e.1);have hcA : ∀ (p : PtQ), SzP 40 p -> ∃ (i : Bool) (s : ByteArray), (i = true ↔ sIn (sPP kk s0 s1 half) (sTT kk) p) /\ (i = decide ((0 : Int) < ((locN (sPP kk s0 s1 half) (sTT kk) p (sTT kk).length).length : Int))) /\ ∀ w vp vt vf, FieldIn w vp vt vf (sPP kk s0 s1 half) (sTT kk) 2 F -> Good w -> Calls Tryz.prog 11 #[.agg #[vp, vt], vf, .agg #[.string (RS p.1), .string (RS p.2)]] w (Ret (fun r _ => r = .tuple #[.string s, .bool i]) w) := fun p hp => by
   have hin := locN_in (sPP kk s0 s1 half) (sTT kk) p;cases hl : locN (sPP kk s0 s1 half) (sTT kk) p (sTT kk).length with
   | nil =>
     rw [hl] at hin;refine ⟨false, ⟨#[]⟩, ⟨fun h => (by cases h), fun h => absurd (hin.2 h) (by simp)⟩, by simp, fun w vp vt vf h hg => ?_⟩;refine (at13_any w vp vt vf _ _ F h p hp hg).mono ?_;rintro e w' ⟨r, rfl, ⟨-, h2⟩ | ⟨t, ht, l, h1, -⟩, hb⟩
     ·exact ⟨_, rfl, h2, hb⟩
     ·rw [hl] at h1; cases h1
   | cons z l =>
     rw [hl] at hin;have hzm : z ∈ locN (sPP kk s0 s1 half) (sTT kk) p (sTT kk).length := by rw [hl]; exact List.mem_cons_self ..
     obtain ⟨t, ht, rfl⟩ : ∃ t : Nat, t < (sTT kk).length /\ z = (t : Int) := by
      unfold locN at hzm;obtain ⟨t, ht, rfl⟩ := List.mem_map.1 hzm;exact ⟨t, List.mem_range.1 (List.mem_filter.1 ht).1, rfl⟩
     refine ⟨true, RS (onQ (sPP kk s0 s1 half) F (sTT kk)[t] p), ⟨fun _ => hin.1 (by simp), fun _ => rfl⟩, by simp, fun w vp vt vf h hg => ?_⟩;refine (at13_any w vp vt vf _ _ F h p hp hg).mono ?_;rintro e w' ⟨r, rfl, ⟨h1, -⟩ | ⟨t', ht', l', h1, h2⟩, hb⟩
     ·rw [hl] at h1; cases h1
     ·rw [hl] at h1
      injection h1 with h1 _
      obtain rfl : t = t' := by omega
      exact ⟨_, rfl, h2, hb⟩
  obtain ⟨ia, sa, ha1, ha2, HTA⟩ := hcA (qax, qay) za;obtain ⟨ib, sb, hb1, hb2, HTB⟩ := hcA (qbx, qby) zb;clear hcA;have hsz := spansN_Sz3 hM za zb;have HAL : ∀ w vp vt vf, FieldIn w vp vt vf (sPP kk s0 s1 half) (sTT kk) 2 F -> Good w -> Calls Tryz.prog 12 #[.agg #[vp, vt], .agg #[.string (RS qax), .string (RS qay)], .agg #[.string (RS qbx), .string (RS qby)]] w (Ret (fun r w' => ∃ v, r = .tuple #[v, .int .i64 0] /\ RdSp w' v (alongL (sPP kk s0 s1 half) (sTT kk) (qax, qay) (qbx, qby))) w) := fun w vp vt vf h hg =>
   along_gen w vp vt _ _ 2 40 h.p h.t h.m (by omega) (by omega) hT6 (qax, qay) (qbx, qby) za zb hab (fun tr htr r hr => by
    obtain ⟨z0, z1, z2⟩ := ptI_SzP h.m htr;have := withinF_Sz3 z0 z1 z2 za zb hr;exact ⟨this.1.mono (by omega), this.2.mono (by omega)⟩) (fun i s hs => ⟨(hsz i s hs).1.mono (by omega), (hsz i s hs).2.mono (by omega)⟩) hg
  by_cases hin : ia = true /\ ib = true
  ·obtain ⟨e1, e2⟩ := hin
   subst e1; subst e2;obtain ⟨L, hL⟩ : ∃ L, L = alongL (sPP kk s0 s1 half) (sTT kk) (qax, qay) (qbx, qby) := ⟨_, rfl⟩;rw [<- hL] at HAL;obtain ⟨k1, k2, k3, k4, k5⟩ := sheet_knots kk s0 s1 half F fF hFs hab za zb (ha1.1 rfl) (hb1.1 rfl) L hL;have hget := profTo_get (P := sPP kk s0 s1 half) (T := sTT kk) (F := F) (a := (qax, qay)) (b := (qbx, qby)) k4 L.length k1;have hlen : (pTo (sPP kk s0 s1 half) (sTT kk) F (qax, qay) (qbx, qby) L L.length).length = L.length + 1 := by rw [profTo_len, if_neg (by omega)]
   have HPO : ∀ w vp vt vf, FieldIn w vp vt vf (sPP kk s0 s1 half) (sTT kk) 2 F -> Good w -> _ := fun w vp vt vf h hg => fprofile_ok w vp vt vf _ _ 2 F h (qax, qay) (qbx, qby) 40 200 (by omega) (by omega) (by omega) (by omega) za zb L (fun w' h hg => HAL w' vp vt vf h hg)
    (fun w' h hg => by have := contains_ok w' vp vt _ _ 2 h.p h.t h.m (qax, qay) (up za (by omega)) hg; rw [<- ha2] at this; exact this)
    (fun w' h hg => by have := contains_ok w' vp vt _ _ 2 h.p h.t h.m (qbx, qby) (up zb (by omega)) hg; rw [<- hb2] at this; exact this)
    (by omega) (fun s hs => ⟨(k3 s hs).1, (k3 s hs).2.1.mono (by omega), (k3 s hs).2.2.mono (by omega)⟩)
    (fun tr htr => by have := slope_Sz hM rfl hFs htr; exact ⟨this.1.mono (by omega), this.2.mono (by omega)⟩)
    (fun kn hkn => by
      obtain ⟨i, hi, rfl⟩ := List.mem_iff_getElem.1 hkn;have hg1 := hget i (by omega);rw [List.getElem?_eq_getElem hi] at hg1;rw [Option.some.inj hg1];exact ⟨(k5 i (by omega)).1.mono (by omega), (k5 i (by omega)).2.1⟩) hg
   refine fPw w kz s0 s1 half a0 a1 a2 a3 a4 a5 ah b0 b1 b2 b3 b4 b5 bh _ _ _ _ h1 h2 h3 h4 (sPP kk s0 s1 half) (sTT kk) F (pTo (sPP kk s0 s1 half) (sTT kk) F (qax, qay) (qbx, qby) L L.length) L 0 true true false true true sa sb (by simp) (.inr ⟨rfl, hne.2⟩) (fun h => absurd rfl h) (fun _ => hlen) (by omega) HMK HMF HPO HRA HRB (fun _ _ _ => HTA) (fun _ _ _ => HTB) (fun _ => HAL) (fun _ i hi => ?_) hg;obtain ⟨z1, z2, z3, z4⟩ := k5 i hi;refine ⟨RS (towQ qax qbx (knSh L i)), RS (towQ qay qby (knSh L i)), _, hget i hi, rfl, fun w hg => tow05_any (qax, qay) (qbx, qby) (knSh L i) 40 195 (by omega) (by omega) za zb z1 w hg, fun w vp vt vf h hg => ?_⟩;refine (at13_gen w vp vt vf _ _ F h (towQ qax qbx (knSh L i), towQ qay qby (knSh L i)) 317 (by omega) (by omega) ⟨(towQ_Sz za.1 zb.1 z1).mono (by omega), (towQ_Sz za.2 zb.2 z1).mono (by omega)⟩ hg).mono ?_;rintro e w' ⟨r, rfl, ⟨g1, -⟩ | ⟨t, ht, l, g1, g2⟩, hb⟩
   ·exact absurd g1 z3
   ·rw [z4 t ht l g1] at g2
    exact ⟨_, rfl, g2, hb⟩
  ·have hc : ia = true -> ib = false := fun h => by
    cases ib with
    | false => rfl
    | true => exact absurd ⟨h, rfl⟩ hin
   refine fPw w kz s0 s1 half a0 a1 a2 a3 a4 a5 ah b0 b1 b2 b3 b4 b5 bh _ _ _ _ h1 h2 h3 h4 (sPP kk s0 s1 half) (sTT kk) F [] [] 28 true true false ia ib sa sb (by cases ia <;> cases ib <;> simp_all) (.inr ⟨rfl, hne.2⟩) (fun _ => rfl) (fun h => absurd h (by decide)) (by simp) HMK HMF (fun w vp vt vf h hg => ?_) HRA HRB (fun _ _ _ => HTA) (fun _ _ _ => HTB) (fun h => absurd h (by decide)) (fun h => absurd h (by decide)) hg;refine (fprofile_out w vp vt vf _ _ 2 F h _ _ _ _ ia ib hc (fun w' h hg => (HAL w' vp vt vf h hg).mono ?_)
    (fun w' h hg => by have := contains_ok w' vp vt _ _ 2 h.p h.t h.m (qax, qay) (up za (by omega)) hg; rw [<- ha2] at this; exact this)
    (fun w' h hg => by have := contains_ok w' vp vt _ _ 2 h.p h.t h.m (qbx, qby) (up zb (by omega)) hg; rw [<- hb2] at this; exact this) hg).mono ?_
   ·rintro e w' ⟨r, rfl, ⟨v, rfl, hv⟩, hb⟩
    obtain ⟨p, c, rfl, -⟩ := hv.cells;exact ⟨_, rfl, ⟨_, _, _, rfl⟩, hb⟩
   ·rintro e w' ⟨r, rfl, g2, hb⟩
    exact ⟨_, rfl, ⟨_, g2, RdC.nil0 2 w'⟩, hb⟩
 ·refine fPw w kz s0 s1 half a0 a1 a2 a3 a4 a5 ah b0 b1 b2 b3 b4 b5 bh ax ay bx bY h1 h2 h3 h4 (sPP kk s0 s1 half) (sTT kk) F [] [] 2 (allQ [ax, ay]) (allQ [bx, bY]) (decide (ax.toList = bx.toList /\ ay.toList = bY.toList)) true true ⟨#[]⟩ ⟨#[]⟩ ?_ ?_ (fun _ => rfl) (fun h => absurd h (by decide)) (by simp) HMK HMF (fun w vp vt vf h hg => ?_) HRA HRB (fun g1 g2 => absurd ⟨g1, g2⟩ hr) (fun g1 g2 => absurd ⟨g1, g2⟩ hr) (fun h => absurd h (by decide)) (fun h => absurd h (by decide)) hg
  ·rw [if_pos]
   cases e1 : allQ [ax, ay] <;> cases e2 : allQ [bx, bY] <;> simp_all
  ·by_cases g1 : ax.toList = bx.toList <;> by_cases g2 : ay.toList = bY.toList <;> simp [g1, g2]
  ·refine (fprofile_err w vp vt vf _ _ 2 F h ax ay bx bY 2 (by decide) (fun w' h hg => ?_) hg).mono ?_
   ·cases hra : allQ [ax, ay]
    ·exact along_wrong w' vp vt _ _ 2 h.p h.t h.m ax ay bx bY (by omega) (by omega) (by rw [hra]; rfl) hg
    ·have hrb : allQ [bx, bY] = false := by cases g : allQ [bx, bY] with
      | false => rfl
      | true => exact absurd ⟨hra, g⟩ hr
     have hr2 : rQQ ax.data.toList = true /\ rQQ ay.data.toList = true := by unfold allQ at hra; simpa using hra
     obtain ⟨qax, rfl, zax⟩ := rightM hr2.1 (by omega) h1;obtain ⟨qay, rfl, zay⟩ := rightM hr2.2 (by omega) h2;exact along_number w' vp vt _ _ 2 40 h.p h.t h.m (by omega) (by omega) (qax, qay) ⟨zax, zay⟩ bx bY (by omega) (by omega) (by rw [hrb]; rfl) hg
   ·rintro e w' ⟨r, rfl, g2, hb⟩
    exact ⟨_, rfl, ⟨_, g2, RdC.nil0 2 w'⟩, hb⟩
end Go.Proofs.YtegiemcnfbchoaaGreatDoor
