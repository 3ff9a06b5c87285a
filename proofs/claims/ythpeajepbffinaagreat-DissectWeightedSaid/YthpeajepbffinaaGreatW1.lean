/- Walks: each function computes its model, printed. -/
import Derived.Test.YthpeajepbffinaaGreatW0
namespace Go.Proofs.YthpeajepbffinaaGreat
open Go Sx M
set_option maxRecDepth 100000
set_option maxHeartbeats 40000000
set_option linter.unusedVariables false
attribute [local irreducible] wpList Code.wp Calls DR QR QS LA LS St
variable {w0 : World} {ros : List Fact} {rs : List Res} {w : World}
theorem graph_levels_ok {x1 : L2} {x3 : Int} {h2 : Hdr} {out : L2} (hM : graph_levels x1 x3 = some out) (q1 : imm S1 h2.v x1 ∈ ros) (hst : St w0 ros rs w) :
  Calls Tryz.prog 117 #[.agg #[h2.v], iV x3] w (fun e w => ∃ (h100001 : Hdr), e = .returned (h100001.v) ∧ St w0 ros (row 22 S1 h100001.v out :: rs) w) := by
 refine enterQ Tryz.func117 rfl Tryz.ntmps117 rfl fun Q hQ => sR fun _ k1 => YB wn rfl (r_box (vals := [h2.v]) hst e0 rfl) ?_
 intro b4 w hst
 refine Ya hnil.v rfl (wK k1 (sR fun _ k2 => yY (yFb FL_26_0 e0) (yY (lb_ h2.v O_24 e0 hst R0) (yY (yLen SL_24 e0 hst (rdI q1)) ?_))))
 obtain ⟨x7, gx7, hM⟩ := bs hM
 refine YH wn rfl (rMk hst SL_93 e0 gx7) ?_
 intro h5 w hst
 refine Ya h5.v e0 (wK k2 (sR fun _ k3 => Ym h5.v e0 (Ym (iV x3) e0 ?_)))
 obtain ⟨x8, gx8, hM⟩ := bs hM
 refine yY (yIs SL_93 e0 e0 hst rO0 gx8) (YT wn rfl (r_sti (cs := [.bool true]) hst O_4 rfl e0 rfl rfl mkB gx8) ?_)
 intro w hst
 refine wK k3 (sR fun _ k4 => Ya hnil.v rfl (wK k4 (sQ fun _ k5 => sR fun _ k6 => Ym (iV x3) e0 (YH wn rfl (rLt (n := 1) (l := [x3]) hst SL_22 [iV x3] (bp1 e0) rfl rfl (mks1 (cs := [iV x3]) rfl mkI mks0)) ?_))))
 intro h9 w hst
 refine Ya h9.v e0 (wK k6 (blockQ fun Q7 qb7 => ?_))
 obtain ⟨o27, go27, hM⟩ := bs hM
 have je27_0 : ∀ (x413 : L2) (h412 : Hdr) (f : FV) (w : World), f 6 = h412.v → St w0 ros (row 22 S1 h412.v x413 :: rs) w → x413 = o27 → Q7 (.exit 0) (fr 63 f) w := by
  intro x413 h412 f w eje27_0_6 hst ho
  subst ho
  refine qb7 _ _ _ (k5 _ _ (sR fun _ k212 => Ym h412.v (eh eje27_0_6) (Ya h412.v e0 (wK k212 (wp_ret ?_)))))
  obtain rfl := someI hM
  exact hQ _ _ _ (fin1r Tryz.results117 ⟨rfl, rfl⟩ ⟨_, rfl, hst⟩)
 replace hst := hst.rowNh 22 S1
 refine loopQ (fun s a w => ∃ (x206 : List Bool) (x208 : L2) (x210 : LI) (f : FV) (h207 h209 : Hdr), (x206, x208, x210) = s ∧ a = fr 63 f ∧ f 2 = (pB b4) ∧ f 5 = h5.v ∧ f 6 = h207.v ∧ f 7 = h209.v ∧ St w0 ros (box b4 26 [h2.v] :: row 4 rB h5.v x206 :: row 22 S1 h207.v x208 :: row 3 I1 h209.v x210 :: rs) w) go27 ⟨_, _, _, _, _, _, rfl, rfl, rfl, rfl, rfl, rfl, (hst.pk 4 [3, 2, 0, 0] rfl)⟩ ?_
 rintro _ _ w r27_ ⟨x206, x208, x210, f, h207, h209, rfl, rfl, e27_2, e27_5, e27_6, e27_7, hst⟩ hM27 ho27 Q100027 n27 zz27
 refine seqQ fun Q213 k213 z213 => sR fun _ k214 => Ym h209.v (eh e27_7) (yY (yLen SL_22 e0 hst rO3) (yY (ygtr e0 rfl) (wK k214 ?_)))
 rcases iteS hM27 with ⟨c414, hM27⟩ | ⟨c414, hM27⟩
 ·refine cT e0 c414 (wp_skip (k213 _ _ (blockQ fun _ qb215 => sR fun _ k216 => Ym h207.v (eh e27_6) (Ym h209.v (eh e27_7) ?_))))
  replace hst := hst.pk 4 [3, 0, 0, 0] rfl
  replace hst := hst.fz
  refine YH wn rfl (rLt (n := 1) (l := [x210]) hst SL_24 [h209.v] (bp1 e0) rfl rfl (mks1 (cs := [h209.v]) rfl (mkS F0) mks0)) ?_
  intro h415 w hst
  obtain ⟨x417, gx417, hM27⟩ := bs hM27
  replace hst := hst.pk 4 [3, 0, 0, 0] rfl
  refine YH wn rfl (rAp hst SL_24 e0 e0 rO1 gx417) ?_
  intro h416 w hst
  refine Ya h416.v e0 (wK k216 (sR fun _ k217 => Ya hnil.v rfl (wK k217 (sQ fun _ k218 => sR fun _ k219 => Ym h209.v (eh e27_7) (yY (yLen SL_22 e0 hst (rdI F0)) (Ym (iV 0) rfl ?_))))))
  refine wK k219 (blockQ fun Q220 qb220 => ?_)
  obtain ⟨o36, go36, hM27⟩ := bs hM27
  have je36_0 : ∀ (x546 : List Bool) (x548 : LI) (h547 : Hdr) (f : FV) (w : World), f 2 = (pB b4) → f 5 = h5.v → f 6 = h416.v → f 8 = h547.v → St w0 ros (box b4 26 [h2.v] :: row 4 rB h5.v x546 :: row 22 S1 h416.v x417 :: row 3 I1 h547.v x548 :: rs) w → (x546, x548) = o36 → Q220 (.exit 2) (fr 63 f) w := by
   intro x546 x548 h547 f w eje36_0_2 eje36_0_5 eje36_0_6 eje36_0_8 hst ho
   subst ho
   refine qb220 _ _ _ (k218 _ _ (sR fun _ k283 => Ym h547.v (eh eje36_0_8) ?_))
   obtain ⟨r549, gr549, hM27⟩ := bs hM27
   replace hst := hst.pk 4 [3, 0, 0, 0] rfl
   refine Yc wn rfl (yCall FN_118 (a1 e0)) (sortI_ok gr549 hst) ?_
   rintro _ w ⟨rfl, hst⟩
   refine ⟨_, rfl, ?_⟩
   refine wK k283 (wR (Ym h547.v (eh eje36_0_8) (Ya h547.v e0 (wN (qb215 _ _ _ ?_)))))
   obtain rfl := someI hM27
   exact n27 _ _ _ rfl ⟨_, _, _, _, _, _, rfl, rfl, eje36_0_2, eje36_0_5, eje36_0_6, rfl, (hst.pk 4 [1, 1, 1, 0] rfl)⟩
  replace hst := hst.rowNh 3 I1
  refine loopQ (fun s a w => ∃ (x478 : List Bool) (x480 : LI) (x481 : Int) (f : FV) (h479 : Hdr), (x478, x480, x481) = s ∧ a = fr 63 f ∧ f 2 = (pB b4) ∧ f 5 = h5.v ∧ f 6 = h416.v ∧ f 8 = h479.v ∧ f 29 = h209.v ∧ f 30 = iV (x210.length : Int) ∧ f 31 = iV x481 ∧ St w0 (imm I1 h209.v x210 :: ros) (box b4 26 [h2.v] :: row 4 rB h5.v x478 :: row 22 S1 h416.v x417 :: row 3 I1 h479.v x480 :: rs) w) go36 ⟨_, _, _, _, _, rfl, rfl, e27_2, e27_5, rfl, rfl, rfl, rfl, rfl, (hst.pk 5 [3, 3, 1, 0] rfl)⟩ ?_
  rintro _ _ w r36_ ⟨x478, x480, x481, f, h479, rfl, rfl, e36_2, e36_5, e36_6, e36_8, e36_29, e36_30, e36_31, hst⟩ hM36 ho36 Q100036 n36 zz36
  refine sR fun _ k284 => yY (ylss (eh e36_31) (eh e36_30)) (wK k284 (seqQ fun Q285 k285 z285 => ?_))
  rcases iteS hM36 with ⟨c550, hM36⟩ | ⟨c550, hM36⟩
  ·refine cT e0 c550 (wp_skip (k285 _ _ (sQ fun _ k286 => blockQ fun _ qb287 => sR fun _ k288 => ?_)))
   obtain ⟨x551, gx551, hM36⟩ := bs hM36
   refine yY (yIa SL_22 (eh e36_29) (eh e36_31) hst (rdI F0) gx551) (yY (yI O_3 e0 hst (rdI F0) gx551) (Ya (iV x551) e0 (wK k288 (sR fun _ k289 => yY (yFb FL_26_0 (eh e36_2)) (yY (lb_ h2.v O_24 e0 hst R0) (Ym (iV x551) e0 ?_))))))
   obtain ⟨x552, gx552, hM36⟩ := bs hM36
   refine yY (yIa SL_24 e0 e0 hst (rdI (mtF q1)) gx552) ?_
   obtain ⟨h553, hst⟩ := iLs hst (mtF q1) gx552
   refine yY (yCt O_22 e0 hst F1 rfl) (yY (yLen SL_22 e0 hst (rdI F0)) (Ym (iV 0) rfl (wK k289 (blockQ fun Q290 qb290 => ?_))))
   obtain ⟨o39, go39, hM36⟩ := bs hM36
   have je39_0 : ∀ (x592 : List Bool) (x594 : LI) (h593 : Hdr) (f : FV) (w : World), f 2 = (pB b4) → f 5 = h5.v → f 6 = h416.v → f 8 = h593.v → f 29 = h209.v → f 30 = iV (x210.length : Int) → f 31 = iV x481 → St w0 (imm I1 h209.v x210 :: ros) (box b4 26 [h2.v] :: row 4 rB h5.v x592 :: row 22 S1 h416.v x417 :: row 3 I1 h593.v x594 :: rs) w → (x592, x594) = o39 → Q290 (.exit 4) (fr 63 f) w := by
    intro x592 x594 h593 f w eje39_0_2 eje39_0_5 eje39_0_6 eje39_0_8 eje39_0_29 eje39_0_30 eje39_0_31 hst ho
    subst ho
    refine qb290 _ _ _ (qb287 _ _ _ (k286 _ _ (wR (yY (yadd (eh eje39_0_31) rfl) (Ym (iV (wa .i64 x481 1)) e0 (wN ?_))))))
    obtain rfl := someI hM36
    exact n36 _ _ _ rfl ⟨_, _, _, _, _, rfl, rfl, eje39_0_2, eje39_0_5, eje39_0_6, eje39_0_8, eje39_0_29, eje39_0_30, rfl, hst⟩
   refine loopQ (fun s a w => ∃ (x569 : List Bool) (x571 : LI) (x572 : Int) (f : FV) (h570 : Hdr), (x569, x571, x572) = s ∧ a = fr 63 f ∧ f 2 = (pB b4) ∧ f 5 = h5.v ∧ f 6 = h416.v ∧ f 8 = h570.v ∧ f 29 = h209.v ∧ f 30 = iV (x210.length : Int) ∧ f 31 = iV x481 ∧ f 39 = h553.v ∧ f 40 = iV (x552.length : Int) ∧ f 41 = iV x572 ∧ St w0 (imm I1 h209.v x210 :: imm I1 h553.v x552 :: ros) (box b4 26 [h2.v] :: row 4 rB h5.v x569 :: row 22 S1 h416.v x417 :: row 3 I1 h570.v x571 :: rs) w) go39 ⟨_, _, _, _, _, rfl, rfl, e36_2, e36_5, e36_6, e36_8, e36_29, e36_30, e36_31, rfl, rfl, rfl, (hst.facts (allC F2 (allC F0 (allT (allT (allT allI))))))⟩ ?_
   rintro _ _ w r39_ ⟨x569, x571, x572, f, h570, rfl, rfl, e39_2, e39_5, e39_6, e39_8, e39_29, e39_30, e39_31, e39_39, e39_40, e39_41, hst⟩ hM39 ho39 Q100039 n39 zz39
   refine sR fun _ k307 => yY (ylss (eh e39_41) (eh e39_40)) (wK k307 (seqQ fun Q308 k308 z308 => ?_))
   rcases iteS hM39 with ⟨c595, hM39⟩ | ⟨c595, hM39⟩
   ·refine cT e0 c595 (wp_skip (k308 _ _ (sQ fun _ k309 => blockQ fun Q310 qb310 => sR fun _ k311 => ?_)))
    obtain ⟨x596, gx596, hM39⟩ := bs hM39
    refine yY (yIa SL_22 (eh e39_39) (eh e39_41) hst (rdI F1) gx596) (yY (yI O_3 e0 hst (rdI F1) gx596) (Ya (iV x596) e0 (wK k311 (sR fun _ k312 => Ym h5.v (eh e39_5) (Ym (iV x596) e0 ?_)))))
    obtain ⟨x597, gx597, hM39⟩ := bs hM39
    refine yY (yIa SL_93 e0 e0 hst rO1 gx597) (yY (yB O_4 e0 hst rO1 gx597) (yY (ynot e0) (wK k312 ?_)))
    have j40 : ∀ (x602 : List Bool) (x604 : LI) (h603 : Hdr) (f : FV) (w : World), f 2 = (pB b4) → f 5 = h5.v → f 6 = h416.v → f 8 = h603.v → f 29 = h209.v → f 30 = iV (x210.length : Int) → f 31 = iV x481 → f 39 = h553.v → f 40 = iV (x552.length : Int) → f 41 = iV x572 → St w0 (imm I1 h209.v x210 :: imm I1 h553.v x552 :: ros) (box b4 26 [h2.v] :: row 4 rB h5.v x602 :: row 22 S1 h416.v x417 :: row 3 I1 h603.v x604 :: rs) w → graph_levels_j40 x572 x602 x604 = some r39_ → Q310 .normal (fr 63 f) w := by
     intro x602 x604 h603 f w ej40_2 ej40_5 ej40_6 ej40_8 ej40_29 ej40_30 ej40_31 ej40_39 ej40_40 ej40_41 hst hM
     refine qb310 _ _ _ (k309 _ _ (wR (yY (yadd (eh ej40_41) rfl) (Ym (iV (wa .i64 x572 1)) e0 (wN ?_)))))
     obtain rfl := someI hM
     exact n39 _ _ _ rfl ⟨_, _, _, _, _, rfl, rfl, ej40_2, ej40_5, ej40_6, ej40_8, ej40_29, ej40_30, ej40_31, ej40_39, ej40_40, rfl, hst⟩
    rcases iteS hM39 with ⟨c605, hM39⟩ | ⟨c605, hM39⟩
    ·exact condF e0 (nF c605) (wp_skip (j40 _ _ _ _ _ e39_2 e39_5 e39_6 e39_8 e39_29 e39_30 e39_31 e39_39 e39_40 e39_41 hst hM39))
    ·refine condT e0 (nT (bfalse c605)) (sR fun _ k314 => Ym h5.v (eh e39_5) (Ym (iV x596) e0 ?_))
     obtain ⟨x606, gx606, hM39⟩ := bs hM39
     refine yY (yIs SL_93 e0 e0 hst rO1 gx606) ?_
     replace hst := hst.pk 2 [1, 0] rfl
     refine YT wn rfl (r_sti (cs := [.bool true]) hst O_4 rfl e0 rfl rfl mkB gx606) ?_
     intro w hst
     refine wK k314 (wR (Ym h570.v (eh e39_8) (Ym (iV x596) e0 (YH wn rfl (rLt (n := 1) (l := [x596]) hst SL_22 [iV x596] (bp1 e0) rfl rfl (mks1 (cs := [iV x596]) rfl mkI mks0)) ?_))))
     intro h607 w hst
     obtain ⟨x609, gx609, hM39⟩ := bs hM39
     replace hst := hst.pk 5 [4, 0, 0, 0, 0] rfl
     refine YH wn rfl (rAp hst SL_22 e0 e0 rO1 gx609) ?_
     intro h608 w hst
     exact Ya h608.v e0 (wN (j40 _ _ _ _ _ e39_2 e39_5 e39_6 rfl e39_29 e39_30 e39_31 e39_39 e39_40 e39_41 (hst.pk 5 [3, 2, 2, 0] rfl) hM39))
   ·refine cF e0 c595 (wp_exit (z308 _ _ _ rfl ?_))
    obtain rfl := someI hM39
    exact zz39 _ _ _ _ rfl rfl (je39_0 _ _ _ _ _ e39_2 e39_5 e39_6 e39_8 e39_29 e39_30 e39_31 (hst.facts (allC F0 (allT (allT allI)))) (ho39 _ rfl))
  ·refine cF e0 c550 (wp_exit (z285 _ _ _ rfl ?_))
   obtain rfl := someI hM36
   exact zz36 _ _ _ _ rfl rfl (je36_0 _ _ _ _ _ e36_2 e36_5 e36_6 e36_8 (hst.facts (allT allI)) (ho36 _ rfl))
 ·refine cF e0 c414 (wp_exit (z213 _ _ _ rfl ?_))
  obtain rfl := someI hM27
  exact zz27 _ _ _ _ rfl rfl (je27_0 _ _ _ _ e27_6 (hst.pk 4 [2] rfl) (ho27 _ rfl))
theorem slices_Grow_int_ok {x1 : Int} {out : LI} (hM : slices_Grow_int x1 = some out) (hst : St w0 ros rs w) :
  Calls Tryz.prog 119 #[hnil.v, iV x1] w (fun e w => ∃ (h100001 : Hdr), e = .returned (h100001.v) ∧ St w0 ros (row 3 I1 h100001.v out :: rs) w) := by
 refine enterQ Tryz.func119 rfl Tryz.ntmps119 rfl fun Q hQ => sR fun _ k1 => Ya hnil.v rfl (wK k1 (sQ fun Q2 k2 => sR fun _ k3 => Ym (iV x1) e0 (yY (ylss e0 rfl) (wK k3 ?_))))
 have j1 : ∀ (f : FV) (w : World), f 0 = hnil.v → f 1 = iV x1 → St w0 ros rs w → slices_Grow_int_j1 x1 = some out → Q2 .normal (fr 27 f) w := by
  intro f w ej1_0 ej1_1 hst hM
  refine k2 _ _ (sQ fun Q4 k4 => sR fun _ k5 => Ym (iV x1) (eh ej1_1) (Ym hnil.v (eh ej1_0) (yY (yCapN (by kernel_rfl : Tryz.prog.underlying 22 = some (.slice 3)) e0) (Ym hnil.v (eh ej1_0) (yY (yLen SL_22 e0 hst rdN) (yY (ysub e0 e0) (yY (ysub e0 e0) (Ya (iV (ws .i64 x1 (ws .i64 0 0))) e0 (wK k5 ?_)))))))))
  refine sR fun _ k6 => Ym (iV (ws .i64 x1 (ws .i64 0 0))) e0 (yY (ygtr e0 rfl) (wK k6 ?_))
  have j2 : ∀ (x7 : LI) (h6 : Hdr) (f : FV) (w : World), f 0 = h6.v → St w0 ros (row 3 I1 h6.v x7 :: rs) w → slices_Grow_int_j2 x7 = some out → Q4 .normal (fr 27 f) w := by
   intro x7 h6 f w ej2_0 hst hM
   refine k4 _ _ (sR fun _ k7 => Ym h6.v (eh ej2_0) (Ya h6.v e0 (wK k7 (wp_ret ?_))))
   obtain rfl := someI hM
   exact hQ _ _ _ (fin1r Tryz.results119 ⟨rfl, rfl⟩ ⟨_, rfl, hst⟩)
  rcases iteS hM with ⟨c8, hM⟩ | ⟨c8, hM⟩
  ·refine cT e0 c8 (wR (Ym hnil.v (eh ej1_0) (Ym hnil.v (eh ej1_0) (yY (yCapN (by kernel_rfl : Tryz.prog.underlying 22 = some (.slice 3)) e0) (yY (ySlN SL_22 e0 e0) (Ym (iV (ws .i64 x1 (ws .i64 0 0))) e0 ?_))))))
   obtain ⟨x10, gx10, hM⟩ := bs hM
   refine YH wn rfl (rZn hst SL_22 (by kernel_rfl : Tryz.prog.underlying 3 = some (.int .i64)) e0 e0 gx10) ?_
   intro h9 w hst
   refine Ym hnil.v (eh ej1_0) (yY (yLen SL_22 e0 hst rdN) ?_)
   obtain ⟨x11, gx11, hM⟩ := bs hM
   refine yY (ySl (k1 := .i64) (hi := (0 : Int)) SL_22 e0 hst rO0 (.inr ⟨rfl, rfl⟩) (.inl (congrArg some e0)) gx11) ?_
   obtain ⟨h12, eh12, hst⟩ := hst.resl gx11
   rw [← eh12]
   exact Ya h12.v e0 (wN (j2 _ _ _ _ rfl hst hM))
  ·refine cF e0 c8 (wp_skip ?_)
   replace hst := hst.rowNh 3 I1
   exact j2 _ _ _ _ ej1_0 hst hM
 rcases iteS hM with ⟨c13, hM⟩ | ⟨c13, hM⟩
 ·refine cT e0 c13 ?_
  cases hM
 ·exact cF e0 c13 (wp_skip (j1 _ _ rfl rfl hst hM))
theorem slices_Concat_int_ok {x1 : L2} {h2 : Hdr} {out : LI} (hM : slices_Concat_int x1 = some out) (q1 : imm S1 h2.v x1 ∈ ros) (hst : St w0 ros rs w) :
  Calls Tryz.prog 98 #[h2.v] w (fun e w => ∃ (h100001 : Hdr), e = .returned (h100001.v) ∧ St w0 ros (row 3 I1 h100001.v out :: rs) w) := by
 refine enterQ Tryz.func98 rfl Tryz.ntmps98 rfl fun Q hQ => sR fun _ k1 => Ya hnil.v rfl (wK k1 (sR fun _ k2 => Ya (iV 0) rfl (wK k2 (sQ fun _ k3 => sR fun _ k4 => ?_))))
 refine Ym h2.v e0 (yY (yLen SL_24 e0 hst (rdI q1)) (Ym (iV 0) rfl (wK k4 (blockQ fun Q5 qb5 => ?_))))
 obtain ⟨o3, go3, hM⟩ := bs hM
 have je3_0 : ∀ (x15 : Int) (f : FV) (w : World), f 0 = h2.v → f 3 = iV x15 → St w0 ros rs w → x15 = o3 → Q5 (.exit 0) (fr 36 f) w := by
  intro x15 f w eje3_0_0 eje3_0_3 hst ho
  subst ho
  refine qb5 _ _ _ (k3 _ _ (sR fun _ k20 => Ym (iV x15) (eh eje3_0_3) ?_))
  obtain ⟨r16, gr16, hM⟩ := bs hM
  refine Yc wn rfl (yCall FN_119 (a2 rfl e0)) (slices_Grow_int_ok gr16 hst) ?_
  rintro _ w ⟨h17, rfl, hst⟩
  refine ⟨_, rfl, ?_⟩
  refine Ya h17.v e0 (wK k20 (sQ fun _ k21 => sR fun _ k22 => Ym h2.v (eh eje3_0_0) (yY (yLen SL_24 e0 hst (rdI q1)) (Ym (iV 0) rfl (wK k22 (blockQ fun Q23 qb23 => ?_))))))
  obtain ⟨o4, go4, hM⟩ := bs hM
  have je4_0 : ∀ (x35 : LI) (h34 : Hdr) (f : FV) (w : World), f 6 = h34.v → St w0 ros (row 3 I1 h34.v x35 :: rs) w → x35 = o4 → Q23 (.exit 2) (fr 36 f) w := by
   intro x35 h34 f w eje4_0_6 hst ho
   subst ho
   refine qb23 _ _ _ (k21 _ _ (sR fun _ k34 => Ym h34.v (eh eje4_0_6) (Ya h34.v e0 (wK k34 (wp_ret ?_)))))
   obtain rfl := someI hM
   exact hQ _ _ _ (fin1r Tryz.results98 ⟨rfl, rfl⟩ ⟨_, rfl, hst⟩)
  refine loopQ (fun s a w => ∃ (x24 : LI) (x25 : Int) (f : FV) (h23 : Hdr), (x24, x25) = s ∧ a = fr 36 f ∧ f 6 = h23.v ∧ f 25 = h2.v ∧ f 26 = iV (x1.length : Int) ∧ f 27 = iV x25 ∧ St w0 ros (row 3 I1 h23.v x24 :: rs) w) go4 ⟨_, _, _, _, rfl, rfl, rfl, rfl, rfl, rfl, hst⟩ ?_
  rintro _ _ w r4_ ⟨x24, x25, f, h23, rfl, rfl, e4_6, e4_25, e4_26, e4_27, hst⟩ hM4 ho4 Q100004 n4 zz4
  refine sR fun _ k35 => yY (ylss (eh e4_27) (eh e4_26)) (wK k35 (seqQ fun Q36 k36 z36 => ?_))
  rcases iteS hM4 with ⟨c36, hM4⟩ | ⟨c36, hM4⟩
  ·refine cT e0 c36 (wp_skip (k36 _ _ (sQ fun _ k37 => blockQ fun _ qb38 => sR fun _ k39 => ?_)))
   obtain ⟨x37, gx37, hM4⟩ := bs hM4
   refine yY (yIa SL_24 (eh e4_25) (eh e4_27) hst (rdI q1) gx37) ?_
   obtain ⟨h38, hst⟩ := iLs hst q1 gx37
   refine yY (yCt O_22 e0 hst F1 rfl) (Ya h38.v e0 (wK k39 (wR (Ym h23.v (eh e4_6) (Ym h38.v e0 ?_)))))
   obtain ⟨x40, gx40, hM4⟩ := bs hM4
   refine YH wn rfl (rAp hst SL_22 e0 e0 (rdI F0) gx40) ?_
   intro h39 w hst
   refine Ya h39.v e0 (wN (qb38 _ _ _ (k37 _ _ (wR (yY (yadd (eh e4_27) rfl) (Ym (iV (wa .i64 x25 1)) e0 (wN ?_)))))))
   obtain rfl := someI hM4
   exact n4 _ _ _ rfl ⟨_, _, _, _, rfl, rfl, rfl, e4_25, e4_26, rfl, (hst.facts (allT (allT allI)))⟩
  ·refine cF e0 c36 (wp_exit (z36 _ _ _ rfl ?_))
   obtain rfl := someI hM4
   exact zz4 _ _ _ _ rfl rfl (je4_0 _ _ _ _ e4_6 hst (ho4 _ rfl))
 refine loopQ (fun s a w => ∃ (x7 x8 : Int) (f : FV), (x7, x8) = s ∧ a = fr 36 f ∧ f 0 = h2.v ∧ f 3 = iV x7 ∧ f 9 = h2.v ∧ f 10 = iV (x1.length : Int) ∧ f 11 = iV x8 ∧ St w0 ros rs w) go3 ⟨_, _, _, rfl, rfl, rfl, rfl, rfl, rfl, rfl, hst⟩ ?_
 rintro _ _ w r3_ ⟨x7, x8, f, rfl, rfl, e3_0, e3_3, e3_9, e3_10, e3_11, hst⟩ hM3 ho3 Q100003 n3 zz3
 refine sR fun _ k40 => yY (ylss (eh e3_11) (eh e3_10)) (wK k40 (seqQ fun Q41 k41 z41 => ?_))
 rcases iteS hM3 with ⟨c41, hM3⟩ | ⟨c41, hM3⟩
 ·refine cT e0 c41 (wp_skip (k41 _ _ (sQ fun _ k42 => blockQ fun Q43 qb43 => sR fun _ k44 => ?_)))
  obtain ⟨x42, gx42, hM3⟩ := bs hM3
  refine yY (yIa SL_24 (eh e3_9) (eh e3_11) hst (rdI q1) gx42) ?_
  obtain ⟨h43, hst⟩ := iLs hst q1 gx42
  refine yY (yCt O_22 e0 hst F1 rfl) (Ya h43.v e0 (wK k44 (sR fun _ k45 => Ym (iV x7) (eh e3_3) (Ym h43.v e0 (yY (yLen SL_22 e0 hst (rdI F0)) (yY (yadd e0 e0) (Ya (iV (wa .i64 x7 (x42.length : Int))) e0 (wK k45 (sQ fun _ k46 => ?_)))))))))
  refine wR (Ym (iV (wa .i64 x7 (x42.length : Int))) e0 (yY (ylss e0 rfl) (wK k46 ?_)))
  have j5 : ∀ (f : FV) (w : World), f 0 = h2.v → f 3 = iV (wa .i64 x7 (x42.length : Int)) → f 9 = h2.v → f 10 = iV (x1.length : Int) → f 11 = iV x8 → St w0 ros rs w → slices_Concat_int_j5 x7 x42 x8 = some r3_ → Q43 .normal (fr 36 f) w := by
   intro f w ej5_0 ej5_3 ej5_9 ej5_10 ej5_11 hst hM
   refine qb43 _ _ _ (k42 _ _ (wR (yY (yadd (eh ej5_11) rfl) (Ym (iV (wa .i64 x8 1)) e0 (wN ?_)))))
   obtain rfl := someI hM
   exact n3 _ _ _ rfl ⟨_, _, _, rfl, rfl, ej5_0, ej5_3, ej5_9, ej5_10, rfl, hst⟩
  rcases iteS hM3 with ⟨c44, hM3⟩ | ⟨c44, hM3⟩
  ·refine cT e0 c44 ?_
   cases hM3
  ·exact cF e0 c44 (wp_skip (j5 _ _ e3_0 rfl e3_9 e3_10 e3_11 (hst.facts (allT (allT allI))) hM3))
 ·refine cF e0 c41 (wp_exit (z41 _ _ _ rfl ?_))
  obtain rfl := someI hM3
  exact zz3 _ _ _ _ rfl rfl (je3_0 _ _ _ e3_0 e3_3 hst (ho3 _ rfl))
theorem graph_Components_ok {x1 : L2} {h2 : Hdr} {out : L2} (hM : graph_Components x1 = some out) (q1 : imm S1 h2.v x1 ∈ ros) (hst : St w0 ros rs w) :
  Calls Tryz.prog 97 #[.agg #[h2.v]] w (fun e w => ∃ (h100001 : Hdr), e = .returned (h100001.v) ∧ St w0 ros (row 22 S1 h100001.v out :: rs) w) := by
 refine enterQ Tryz.func97 rfl Tryz.ntmps97 rfl fun Q hQ => sR fun _ k1 => YB wn rfl (r_box (vals := [h2.v]) hst e0 rfl) ?_
 intro b3 w hst
 refine Ya hnil.v rfl (wK k1 (seqQ fun Q2 k2 z2 => sR fun _ k3 => yY (lbs_ [h2.v] ST_26 e0 hst R0) ?_))
 obtain ⟨r4, gr4, hM⟩ := bs hM
 refine Yc wn rfl (yCall FN_51 (a1 e0)) (graph_Check_ok gr4 q1 hst) ?_
 rintro _ w ⟨rfl, hst⟩
 refine ⟨_, rfl, ?_⟩
 refine yY (yneq e0 rfl) (wK k3 ?_)
 rcases iteS hM with ⟨c5, hM⟩ | ⟨c5, hM⟩
 ·refine condF e0 (nF (dT c5)) (wp_skip (k2 _ _ (sR fun _ k4 => yY (yFb FL_26_0 e0) (yY (lb_ h2.v O_24 e0 hst R0) (yY (yLen SL_24 e0 hst (rdI q1)) ?_)))))
  obtain ⟨x8, gx8, hM⟩ := bs hM
  refine YH wn rfl (rMk hst SL_93 e0 gx8) ?_
  intro h6 w hst
  refine Ya h6.v e0 (wK k4 (sR fun _ k5 => Ya hnil.v rfl (wK k5 (sQ fun _ k6 => sR fun _ k7 => yY (yFb FL_26_0 e0) (yY (lb_ h2.v O_24 e0 hst R1) (yY (yLen SL_24 e0 hst (rdI q1)) ?_))))))
  refine Ym (iV 0) rfl (wK k7 (blockQ fun Q8 qb8 => ?_))
  obtain ⟨o9, go9, hM⟩ := bs hM
  have je9_0 : ∀ (x170 : L2) (h169 : Hdr) (f : FV) (w : World), f 4 = h169.v → St w0 ros (row 22 S1 h169.v x170 :: rs) w → x170 = o9 → Q8 (.exit 0) (fr 48 f) w := by
   intro x170 h169 f w eje9_0_4 hst ho
   subst ho
   refine qb8 _ _ _ (k6 _ _ (sR fun _ k159 => Ym h169.v (eh eje9_0_4) (Ya h169.v e0 (wK k159 (wp_ret ?_)))))
   obtain rfl := someI hM
   exact hQ _ _ _ (fin1r Tryz.results97 ⟨rfl, rfl⟩ ⟨_, rfl, hst⟩)
  replace hst := hst.rowNh 22 S1
  refine loopQ (fun s a w => ∃ (x85 : List Bool) (x87 : L2) (x88 : Int) (f : FV) (h86 : Hdr), (x85, x87, x88) = s ∧ a = fr 48 f ∧ f 1 = (pB b3) ∧ f 3 = h6.v ∧ f 4 = h86.v ∧ f 18 = iV (x1.length : Int) ∧ f 19 = iV x88 ∧ St w0 ros (box b3 26 [h2.v] :: row 4 rB h6.v x85 :: row 22 S1 h86.v x87 :: rs) w) go9 ⟨_, _, _, _, _, rfl, rfl, rfl, rfl, rfl, rfl, rfl, (hst.pk 3 [2, 1, 0] rfl)⟩ ?_
  rintro _ _ w r9_ ⟨x85, x87, x88, f, h86, rfl, rfl, e9_1, e9_3, e9_4, e9_18, e9_19, hst⟩ hM9 ho9 Q100009 n9 zz9
  refine sR fun _ k160 => yY (ylss (eh e9_19) (eh e9_18)) (wK k160 (seqQ fun Q161 k161 z161 => ?_))
  rcases iteS hM9 with ⟨c171, hM9⟩ | ⟨c171, hM9⟩
  ·refine cT e0 c171 (wp_skip (k161 _ _ (sQ fun Q162 k162 => ?_)))
   have j12 : ∀ (x220 : List Bool) (x222 : L2) (h221 : Hdr) (f : FV) (w : World), f 1 = (pB b3) → f 3 = h6.v → f 4 = h221.v → f 18 = iV (x1.length : Int) → f 19 = iV x88 → St w0 ros (box b3 26 [h2.v] :: row 4 rB h6.v x220 :: row 22 S1 h221.v x222 :: rs) w → graph_Components_j12 x88 x220 x222 = some r9_ → Q162 .normal (fr 48 f) w := by
    intro x220 x222 h221 f w ej12_1 ej12_3 ej12_4 ej12_18 ej12_19 hst hM
    refine k162 _ _ (wR (yY (yadd (eh ej12_19) rfl) (Ym (iV (wa .i64 x88 1)) e0 (wN ?_))))
    obtain rfl := someI hM
    exact n9 _ _ _ rfl ⟨_, _, _, _, _, rfl, rfl, ej12_1, ej12_3, ej12_4, ej12_18, rfl, hst⟩
   refine blockQ fun _ qb211 => sR fun _ k212 => Ym (iV x88) (eh e9_19) (Ya (iV x88) e0 (wK k212 (seqQ fun Q213 k213 z213 => sR fun _ k214 => Ym h6.v (eh e9_3) (Ym (iV x88) e0 ?_))))
   obtain ⟨x223, gx223, hM9⟩ := bs hM9
   refine yY (yIa SL_93 e0 e0 hst rO1 gx223) (yY (yB O_4 e0 hst rO1 gx223) (wK k214 ?_))
   rcases iteS hM9 with ⟨c224, hM9⟩ | ⟨c224, hM9⟩
   ·exact condT e0 c224 (wp_exit (z213 _ _ _ rfl (qb211 _ _ _ (j12 _ _ _ _ _ e9_1 e9_3 e9_4 e9_18 e9_19 hst hM9))))
   ·refine condF e0 (bfalse c224) (wp_skip (k213 _ _ (sR fun _ k215 => yY (lbs_ [h2.v] ST_26 (eh e9_1) hst R0) (Ym (iV x88) e0 ?_))))
    obtain ⟨r225, gr225, hM9⟩ := bs hM9
    refine Yc wn rfl (yCall FN_117 (a2 e0 e0)) (graph_levels_ok gr225 q1 hst) ?_
    rintro _ w ⟨h226, rfl, hst⟩
    refine ⟨_, rfl, ?_⟩
    obtain ⟨r227, gr227, hM9⟩ := bs hM9
    replace hst := hst.fz
    refine Yc wn rfl (yCall FN_98 (a1 e0)) (slices_Concat_int_ok gr227 F0 hst) ?_
    rintro _ w ⟨h228, rfl, hst⟩
    refine ⟨_, rfl, ?_⟩
    refine Ya h228.v e0 (wK k215 (sR fun _ k216 => Ym h228.v e0 ?_))
    obtain ⟨r229, gr229, hM9⟩ := bs hM9
    refine Yc wn rfl (yCall FN_118 (a1 e0)) (sortI_ok gr229 hst) ?_
    rintro _ w ⟨rfl, hst⟩
    refine ⟨_, rfl, ?_⟩
    refine wK k216 (sQ fun _ k217 => sR fun _ k218 => Ym h228.v e0 (yY (yLen SL_22 e0 hst rO0) (Ym (iV 0) rfl (wK k218 (blockQ fun Q219 qb219 => ?_)))))
    obtain ⟨o13, go13, hM9⟩ := bs hM9
    have je13_0 : ∀ (x240 : List Bool) (f : FV) (w : World), f 1 = (pB b3) → f 3 = h6.v → f 4 = h86.v → f 6 = h228.v → f 18 = iV (x1.length : Int) → f 19 = iV x88 → St w0 ros (box b3 26 [h2.v] :: row 4 rB h6.v x240 :: row 22 S1 h86.v x87 :: row 3 I1 h228.v r229 :: rs) w → x240 = o13 → Q219 (.exit 2) (fr 48 f) w := by
     intro x240 f w eje13_0_1 eje13_0_3 eje13_0_4 eje13_0_6 eje13_0_18 eje13_0_19 hst ho
     subst ho
     refine qb219 _ _ _ (k217 _ _ (wR (Ym h86.v (eh eje13_0_4) (Ym h228.v (eh eje13_0_6) ?_))))
     replace hst := hst.pk 4 [3, 0, 0, 0] rfl
     replace hst := hst.fz
     refine YH wn rfl (rLt (n := 1) (l := [r229]) hst SL_24 [h228.v] (bp1 e0) rfl rfl (mks1 (cs := [h228.v]) rfl (mkS F0) mks0)) ?_
     intro h241 w hst
     obtain ⟨x243, gx243, hM9⟩ := bs hM9
     replace hst := hst.pk 4 [3, 0, 0, 0] rfl
     refine YH wn rfl (rAp hst SL_24 e0 e0 rO1 gx243) ?_
     intro h242 w hst
     exact Ya h242.v e0 (wN (qb211 _ _ _ (j12 _ _ _ _ _ eje13_0_1 eje13_0_3 rfl eje13_0_18 eje13_0_19 ((hst.pk 4 [2, 2, 0] rfl).facts (allT allI)) hM9)))
    refine loopQ (fun s a w => ∃ (x233 : List Bool) (x234 : Int) (f : FV), (x233, x234) = s ∧ a = fr 48 f ∧ f 1 = (pB b3) ∧ f 3 = h6.v ∧ f 4 = h86.v ∧ f 6 = h228.v ∧ f 18 = iV (x1.length : Int) ∧ f 19 = iV x88 ∧ f 32 = h228.v ∧ f 33 = iV (r229.length : Int) ∧ f 34 = iV x234 ∧ St w0 ros (box b3 26 [h2.v] :: row 4 rB h6.v x233 :: row 22 S1 h86.v x87 :: row 3 I1 h228.v r229 :: rs) w) go13 ⟨_, _, _, rfl, rfl, e9_1, e9_3, e9_4, rfl, e9_18, e9_19, rfl, rfl, rfl, ((hst.pk 4 [1, 1, 1, 0] rfl).facts (allT allI))⟩ ?_
    rintro _ _ w r13_ ⟨x233, x234, f, rfl, rfl, e13_1, e13_3, e13_4, e13_6, e13_18, e13_19, e13_32, e13_33, e13_34, hst⟩ hM13 ho13 Q100013 n13 zz13
    refine sR fun _ k230 => yY (ylss (eh e13_34) (eh e13_33)) (wK k230 (seqQ fun Q231 k231 z231 => ?_))
    rcases iteS hM13 with ⟨c244, hM13⟩ | ⟨c244, hM13⟩
    ·refine cT e0 c244 (wp_skip (k231 _ _ (sQ fun _ k232 => blockQ fun _ qb233 => sR fun _ k234 => ?_)))
     obtain ⟨x245, gx245, hM13⟩ := bs hM13
     refine yY (yIa SL_22 (eh e13_32) (eh e13_34) hst rO3 gx245) (yY (yI O_3 e0 hst rO3 gx245) (Ya (iV x245) e0 (wK k234 (wR (Ym h6.v (eh e13_3) (Ym (iV x245) e0 ?_))))))
     obtain ⟨x246, gx246, hM13⟩ := bs hM13
     refine yY (yIs SL_93 e0 e0 hst rO1 gx246) ?_
     replace hst := hst.pk 2 [1, 0] rfl
     refine YT wn rfl (r_sti (cs := [.bool true]) hst O_4 rfl e0 rfl rfl mkB gx246) ?_
     intro w hst
     refine wN (qb233 _ _ _ (k232 _ _ (wR (yY (yadd (eh e13_34) rfl) (Ym (iV (wa .i64 x234 1)) e0 (wN ?_))))))
     obtain rfl := someI hM13
     exact n13 _ _ _ rfl ⟨_, _, _, rfl, rfl, e13_1, e13_3, e13_4, e13_6, e13_18, e13_19, e13_32, e13_33, rfl, (hst.pk 4 [1, 0, 0, 0] rfl)⟩
    ·refine cF e0 c244 (wp_exit (z231 _ _ _ rfl ?_))
     obtain rfl := someI hM13
     exact zz13 _ _ _ _ rfl rfl (je13_0 _ _ _ e13_1 e13_3 e13_4 e13_6 e13_18 e13_19 hst (ho13 _ rfl))
  ·refine cF e0 c171 (wp_exit (z161 _ _ _ rfl ?_))
   obtain rfl := someI hM9
   exact zz9 _ _ _ _ rfl rfl (je9_0 _ _ _ _ e9_4 (hst.pk 3 [2] rfl) (ho9 _ rfl))
 ·refine condT e0 (nT (dF c5)) (sR fun _ k235 => Ya hnil.v rfl (wK k235 (wp_ret (z2 _ _ _ rfl ?_))))
  obtain rfl := someI hM
  replace hst := hst.rowNh 22 S1
  exact hQ _ _ _ (fin1r Tryz.results97 ⟨rfl, rfl⟩ ⟨_, rfl, (hst.pk 2 [0] rfl)⟩)
theorem graph_vertex_ok {x1 : L2} {x3 : Int} {h2 : Hdr} {out : Bool} (hM : graph_vertex x1 x3 = some out) (q1 : imm S1 h2.v x1 ∈ ros) (hst : St w0 ros rs w) :
  Calls Tryz.prog 112 #[.agg #[h2.v], iV x3] w (fun e w => e = .returned (.bool out) ∧ St w0 ros rs w) := by
 refine enterQ Tryz.func112 rfl Tryz.ntmps112 rfl fun Q hQ => sR fun _ k1 => YB wn rfl (r_box (vals := [h2.v]) hst e0 rfl) ?_
 intro b4 w hst
 refine Ya (.bool false) rfl (wK k1 (sR fun _ k2 => Ym (iV x3) e0 (yY (ygeq e0 rfl) (Ym (.bool (decide ((0 : Int) ≤ x3))) e0 ?_))))
 refine joinW 6 (fun f w => f 13 = .bool ((decide ((0 : Int) ≤ x3)) && (decide (x3 < (x1.length : Int)))) ∧ St w0 ros rs w) (fun j1 => ?_) ?_
 ·rcases Bool.eq_false_or_eq_true (decide ((0 : Int) ≤ x3)) with c6 | c6
  ·exact yG c6 (m_ (iV x3) e0) (yG c6 (yFb FL_26_0 e0) (yG c6 (lb_ h2.v O_24 e0 hst R0) (yG c6 (yLen SL_24 e0 hst (rdI q1)) (yG c6 (ylss e0 e0) (yY (pt_ (.bool (decide (x3 < (x1.length : Int)))) e0 c6 e0) (j1 _ _ ⟨(congrArg Value.bool (andT c6)), (hst.pk 1 [] rfl)⟩))))))
  ·exact gN c6 (gN c6 (gN c6 (gN c6 (gN c6 (yY (pf_ (.bool false) e0 c6 rfl) (j1 _ _ ⟨(congrArg Value.bool (andF c6)), (hst.pk 1 [] rfl)⟩))))))
 rintro f w ⟨e5_13, hst⟩
 refine Ya (.bool ((decide ((0 : Int) ≤ x3)) && (decide (x3 < (x1.length : Int))))) (eh e5_13) (wK k2 (wp_ret ?_))
 obtain rfl := someI hM
 exact hQ _ _ _ (fin1r Tryz.results112 ⟨rfl, rfl⟩ ⟨rfl, hst⟩)
theorem graph_Peripheral_ok {x1 : L2} {x3 : Int} {h2 : Hdr} {out : Int} (hM : graph_Peripheral x1 x3 = some out) (q1 : imm S1 h2.v x1 ∈ ros) (hst : St w0 ros rs w) :
  Calls Tryz.prog 100 #[.agg #[h2.v], iV x3] w (fun e w => e = .returned (iV out) ∧ St w0 ros rs w) := by
 refine enterQ Tryz.func100 rfl Tryz.ntmps100 rfl fun Q hQ => sR fun _ k1 => YB wn rfl (r_box (vals := [h2.v]) hst e0 rfl) ?_
 intro b4 w hst
 refine Ya (iV 0) rfl (wK k1 (seqQ fun Q2 k2 z2 => sR fun _ k3 => yY (lbs_ [h2.v] ST_26 e0 hst R0) ?_))
 obtain ⟨r5, gr5, hM⟩ := bs hM
 refine Yc wn rfl (yCall FN_51 (a1 e0)) (graph_Check_ok gr5 q1 hst) ?_
 rintro _ w ⟨rfl, hst⟩
 refine ⟨_, rfl, ?_⟩
 refine yY (yneq e0 rfl) (Ym (.bool (!(decide (r5 = 0)))) e0 ?_)
 obtain ⟨r7, gr7, hM⟩ := bs hM
 refine joinW 5 (fun f w => f 1 = iV x3 ∧ f 2 = (pB b4) ∧ f 19 = .bool r7 ∧ St w0 ros (box b4 26 [h2.v] :: rs) w) (fun j1 => ?_) ?_
 ·rcases iteS gr7 with ⟨c9, gr7⟩ | ⟨c9, gr7⟩
  ·refine yG (nF (dT c9)) (lbs_ [h2.v] ST_26 e0 hst R0) (yG (nF (dT c9)) (m_ (iV x3) e0) ?_)
   obtain ⟨r10, gr10, gr7⟩ := bs gr7
   refine Yc (wG (nF (dT c9))) rfl (yCall FN_112 (a2 e0 e0)) (graph_vertex_ok gr10 q1 hst) ?_
   rintro _ w ⟨rfl, hst⟩
   refine ⟨_, rfl, ?_⟩
   refine yG (nF (dT c9)) (ynot e0) (yY (pf_ (.bool (!r10)) e0 (nF (dT c9)) e0) ?_)
   obtain rfl := someI gr7
   exact j1 _ _ ⟨rfl, rfl, rfl, hst⟩
  ·refine gN (nT (dF c9)) (gN (nT (dF c9)) (gN (nT (dF c9)) (gN (nT (dF c9)) (yY (pt_ (.bool true) e0 (nT (dF c9)) rfl) ?_))))
   obtain rfl := someI gr7
   exact j1 _ _ ⟨rfl, rfl, rfl, hst⟩
 rintro f w ⟨e8_1, e8_2, e8_19, hst⟩
 refine wK k3 ?_
 rcases iteS hM with ⟨c11, hM⟩ | ⟨c11, hM⟩
 ·refine condT (eh e8_19) c11 (sR fun _ k4 => Ya (iV (-1)) rfl (wK k4 (wp_ret (z2 _ _ _ rfl ?_))))
  obtain rfl := someI hM
  exact hQ _ _ _ (fin1r Tryz.results100 ⟨rfl, rfl⟩ ⟨rfl, (hst.pk 1 [] rfl)⟩)
 ·refine condF (eh e8_19) (bfalse c11) (wp_skip (k2 _ _ (sR fun _ k5 => yY (lbs_ [h2.v] ST_26 (eh e8_2) hst R0) (Ym (iV x3) (eh e8_1) ?_))))
  obtain ⟨r12, gr12, hM⟩ := bs hM
  refine Yc wn rfl (yCall FN_117 (a2 e0 e0)) (graph_levels_ok gr12 q1 hst) ?_
  rintro _ w ⟨h13, rfl, hst⟩
  refine ⟨_, rfl, ?_⟩
  refine Ya h13.v e0 (wK k5 (blockQ fun Q6 qb6 => ?_))
  obtain ⟨o10, go10, hM⟩ := bs hM
  have je10_0 : ∀ (x90 : Int) (f : FV) (w : World), f 4 = iV x90 → St w0 ros rs w → x90 = o10 → Q6 .ret (fr 64 f) w := by
   intro x90 f w eje10_0_4 hst ho
   subst ho
   refine qb6 _ _ _ ?_
   obtain rfl := someI hM
   exact hQ _ _ _ (fin1r Tryz.results100 ⟨rfl, eje10_0_4⟩ ⟨rfl, hst⟩)
  refine loopQ (fun s a w => ∃ (x49 : Int) (x51 : L2) (f : FV) (h50 : Hdr), (x49, x51) = s ∧ a = fr 64 f ∧ f 1 = iV x49 ∧ f 2 = (pB b4) ∧ f 5 = h50.v ∧ St w0 ros (box b4 26 [h2.v] :: row 22 S1 h50.v x51 :: rs) w) go10 ⟨_, _, _, _, rfl, rfl, e8_1, e8_2, rfl, (hst.pk 2 [1, 0] rfl)⟩ ?_
  rintro _ _ w r10_ ⟨x49, x51, f, h50, rfl, rfl, e10_1, e10_2, e10_5, hst⟩ hM10 ho10 Q100010 n10 zz10
  refine blockQ fun _ qb63 => sR fun _ k64 => Ym h50.v (eh e10_5) (Ym h50.v (eh e10_5) (yY (yLen SL_24 e0 hst rO1) (yY (ysub e0 rfl) ?_)))
  obtain ⟨x91, gx91, hM10⟩ := bs hM10
  refine yY (yIa SL_24 e0 e0 hst rO1 gx91) ?_
  obtain ⟨h92, ch92, hst⟩ := rLs hst rO1 gx91
  refine yY (yCe O_22 e0 ch92 rfl) (Ya h92.v e0 (wK k64 (sR fun _ k65 => Ym h92.v e0 ?_)))
  obtain ⟨x93, gx93, hM10⟩ := bs hM10
  refine yY (yIa SL_22 e0 rfl hst (rdI F0) gx93) (yY (yI O_3 e0 hst (rdI F0) gx93) (Ya (iV x93) e0 (wK k65 (sQ fun _ k66 => sR fun _ k67 => Ym h92.v e0 (yY (yLen SL_22 e0 hst (rdI F0)) (Ym (iV 0) rfl (wK k67 (blockQ fun Q68 qb68 => ?_))))))))
  obtain ⟨o13, go13, hM10⟩ := bs hM10
  have je13_0 : ∀ (x114 : Int) (f : FV) (w : World), f 1 = iV x49 → f 2 = (pB b4) → f 5 = h50.v → f 7 = iV x114 → St w0 ros (box b4 26 [h2.v] :: row 22 S1 h50.v x51 :: rs) w → x114 = o13 → Q68 (.exit 2) (fr 64 f) w := by
   intro x114 f w eje13_0_1 eje13_0_2 eje13_0_5 eje13_0_7 hst ho
   subst ho
   refine qb68 _ _ _ (k66 _ _ (sR fun _ k81 => yY (lbs_ [h2.v] ST_26 (eh eje13_0_2) hst R0) (Ym (iV x114) (eh eje13_0_7) ?_)))
   obtain ⟨r115, gr115, hM10⟩ := bs hM10
   refine Yc wn rfl (yCall FN_117 (a2 e0 e0)) (graph_levels_ok gr115 q1 hst) ?_
   rintro _ w ⟨h116, rfl, hst⟩
   refine ⟨_, rfl, ?_⟩
   refine Ya h116.v e0 (wK k81 (seqQ fun Q82 k82 z82 => sR fun _ k83 => Ym h116.v e0 (yY (yLen SL_24 e0 hst rO0) (Ym h50.v (eh eje13_0_5) (yY (yLen SL_24 e0 hst rO2) (yY (yleq e0 e0) (wK k83 ?_)))))))
   rcases iteS hM10 with ⟨c117, hM10⟩ | ⟨c117, hM10⟩
   ·refine cT e0 c117 (sR fun _ k84 => Ym (iV x49) (eh eje13_0_1) (Ya (iV x49) e0 (wK k84 (wp_ret (z82 _ _ _ rfl (qb63 _ _ _ ?_))))))
    obtain rfl := someI hM10
    exact zz10 _ _ _ _ rfl rfl (je10_0 _ _ _ rfl (hst.pk 3 [] rfl) (ho10 _ rfl))
   ·refine cF e0 c117 (wp_skip (k82 _ _ (wR (Ym (iV x114) (eh eje13_0_7) (Ym h116.v e0 (Ya (iV x114) e0 (Ya h116.v e0 (wN (qb63 _ _ _ ?_)))))))))
    obtain rfl := someI hM10
    exact n10 _ _ _ rfl ⟨_, _, _, _, rfl, rfl, rfl, eje13_0_2, rfl, (hst.pk 3 [1, 0] rfl)⟩
  refine loopQ (fun s a w => ∃ (x102 x103 : Int) (f : FV), (x102, x103) = s ∧ a = fr 64 f ∧ f 1 = iV x49 ∧ f 2 = (pB b4) ∧ f 5 = h50.v ∧ f 7 = iV x102 ∧ f 32 = h92.v ∧ f 33 = iV (x91.length : Int) ∧ f 34 = iV x103 ∧ St w0 (imm I1 h92.v x91 :: ros) (box b4 26 [h2.v] :: row 22 S1 h50.v x51 :: rs) w) go13 ⟨_, _, _, rfl, rfl, e10_1, e10_2, e10_5, rfl, rfl, rfl, rfl, hst⟩ ?_
  rintro _ _ w r13_ ⟨x102, x103, f, rfl, rfl, e13_1, e13_2, e13_5, e13_7, e13_32, e13_33, e13_34, hst⟩ hM13 ho13 Q100013 n13 zz13
  refine sR fun _ k85 => yY (ylss (eh e13_34) (eh e13_33)) (wK k85 (seqQ fun Q86 k86 z86 => ?_))
  rcases iteS hM13 with ⟨c118, hM13⟩ | ⟨c118, hM13⟩
  ·refine cT e0 c118 (wp_skip (k86 _ _ (sQ fun _ k87 => blockQ fun Q88 qb88 => sR fun _ k89 => ?_)))
   obtain ⟨x119, gx119, hM13⟩ := bs hM13
   refine yY (yIa SL_22 (eh e13_32) (eh e13_34) hst (rdI F0) gx119) (yY (yI O_3 e0 hst (rdI F0) gx119) (Ya (iV x119) e0 (wK k89 (sQ fun _ k90 => ?_))))
   obtain ⟨x120, gx120, hM13⟩ := bs hM13
   obtain ⟨x122, gx122, hM13⟩ := bs hM13
   refine dR [0, 1, 0, 7, 15, 31, 0, 64, 0, 448, 960, 1984, 4095] [] 0 folM ?_
   replace hst := hst.drew
   refine Dz [0, 1, 2, 3, 4, 5, 6, 7, 8, 9, 10, 11, 12] [] (yR rfl (yFb FL_26_0 (eh e13_2)) (yR rfl (lb_ h2.v O_24 e0 hst R0) (yR rfl (m_ (iV x119) e0) (yR rfl (yIa SL_24 e0 e0 hst (rdI (mtF q1)) gx120) ?_))))
   obtain ⟨h121, hst⟩ := iLs hst (mtF q1) gx120
   refine yR rfl (yCt O_22 e0 hst F1 rfl) (yR rfl (yLen SL_22 e0 hst (rdI F0)) (yR rfl (yFb FL_26_0 (eh e13_2)) (yR rfl (lb_ h2.v O_24 e0 hst R0) (yR rfl (m_ (iV x102) (eh e13_7)) (yR rfl (yIa SL_24 e0 e0 hst (rdI (F_3 q1)) gx122) ?_)))))
   obtain ⟨h123, hst⟩ := iLs hst (F_3 q1) gx122
   refine yR rfl (yCt O_22 e0 hst F1 rfl) (yR rfl (yLen SL_22 e0 hst (rdI F0)) (yR rfl (ylss e0 e0) (Rn QSn (k90 _ _ ?_))))
   have j14 : ∀ (x124 : Int) (f : FV) (w : World), f 1 = iV x49 → f 2 = (pB b4) → f 5 = h50.v → f 7 = iV x124 → f 32 = h92.v → f 33 = iV (x91.length : Int) → f 34 = iV x103 → St w0 (imm I1 h92.v x91 :: ros) (box b4 26 [h2.v] :: row 22 S1 h50.v x51 :: rs) w → graph_Peripheral_j14 x103 x124 = some r13_ → Q88 .normal (fr 64 f) w := by
    intro x124 f w ej14_1 ej14_2 ej14_5 ej14_7 ej14_32 ej14_33 ej14_34 hst hM
    refine qb88 _ _ _ (k87 _ _ (wR (yY (yadd (eh ej14_34) rfl) (Ym (iV (wa .i64 x103 1)) e0 (wN ?_)))))
    obtain rfl := someI hM
    exact n13 _ _ _ rfl ⟨_, _, _, rfl, rfl, ej14_1, ej14_2, ej14_5, ej14_7, ej14_32, ej14_33, rfl, hst⟩
   rcases iteS hM13 with ⟨c125, hM13⟩ | ⟨c125, hM13⟩
   ·exact cT e0 c125 (wR (Ym (iV x119) e0 (Ya (iV x119) e0 (wN (j14 _ _ _ e13_1 e13_2 e13_5 rfl e13_32 e13_33 e13_34 (hst.facts (allC F4 (allT (allT (allT (allT (allT allI))))))) hM13)))))
   ·exact cF e0 c125 (wp_skip (j14 _ _ _ e13_1 e13_2 e13_5 e13_7 e13_32 e13_33 e13_34 (hst.facts (allC F4 (allT (allT (allT (allT (allT allI))))))) hM13))
  ·refine cF e0 c118 (wp_exit (z86 _ _ _ rfl ?_))
   obtain rfl := someI hM13
   exact zz13 _ _ _ _ rfl rfl (je13_0 _ _ _ e13_1 e13_2 e13_5 e13_7 (hst.facts (allT allI)) (ho13 _ rfl))
theorem graph_Levels_ok {x1 : L2} {x3 : Int} {h2 : Hdr} {out : L2} (hM : graph_Levels x1 x3 = some out) (q1 : imm S1 h2.v x1 ∈ ros) (hst : St w0 ros rs w) :
  Calls Tryz.prog 99 #[.agg #[h2.v], iV x3] w (fun e w => ∃ (h100001 : Hdr), e = .returned (h100001.v) ∧ St w0 ros (row 22 S1 h100001.v out :: rs) w) := by
 refine enterQ Tryz.func99 rfl Tryz.ntmps99 rfl fun Q hQ => sR fun _ k1 => YB wn rfl (r_box (vals := [h2.v]) hst e0 rfl) ?_
 intro b4 w hst
 refine Ya hnil.v rfl (wK k1 (seqQ fun Q2 k2 z2 => sR fun _ k3 => yY (lbs_ [h2.v] ST_26 e0 hst R0) ?_))
 obtain ⟨r5, gr5, hM⟩ := bs hM
 refine Yc wn rfl (yCall FN_51 (a1 e0)) (graph_Check_ok gr5 q1 hst) ?_
 rintro _ w ⟨rfl, hst⟩
 refine ⟨_, rfl, ?_⟩
 refine yY (yneq e0 rfl) (Ym (.bool (!(decide (r5 = 0)))) e0 ?_)
 obtain ⟨r7, gr7, hM⟩ := bs hM
 refine joinW 5 (fun f w => f 1 = iV x3 ∧ f 2 = (pB b4) ∧ f 13 = .bool r7 ∧ St w0 ros (box b4 26 [h2.v] :: rs) w) (fun j1 => ?_) ?_
 ·rcases iteS gr7 with ⟨c9, gr7⟩ | ⟨c9, gr7⟩
  ·refine yG (nF (dT c9)) (lbs_ [h2.v] ST_26 e0 hst R0) (yG (nF (dT c9)) (m_ (iV x3) e0) ?_)
   obtain ⟨r10, gr10, gr7⟩ := bs gr7
   refine Yc (wG (nF (dT c9))) rfl (yCall FN_112 (a2 e0 e0)) (graph_vertex_ok gr10 q1 hst) ?_
   rintro _ w ⟨rfl, hst⟩
   refine ⟨_, rfl, ?_⟩
   refine yG (nF (dT c9)) (ynot e0) (yY (pf_ (.bool (!r10)) e0 (nF (dT c9)) e0) ?_)
   obtain rfl := someI gr7
   exact j1 _ _ ⟨rfl, rfl, rfl, hst⟩
  ·refine gN (nT (dF c9)) (gN (nT (dF c9)) (gN (nT (dF c9)) (gN (nT (dF c9)) (yY (pt_ (.bool true) e0 (nT (dF c9)) rfl) ?_))))
   obtain rfl := someI gr7
   exact j1 _ _ ⟨rfl, rfl, rfl, hst⟩
 rintro f w ⟨e8_1, e8_2, e8_13, hst⟩
 refine wK k3 ?_
 rcases iteS hM with ⟨c11, hM⟩ | ⟨c11, hM⟩
 ·refine condT (eh e8_13) c11 (sR fun _ k4 => Ya hnil.v rfl (wK k4 (wp_ret (z2 _ _ _ rfl ?_))))
  obtain rfl := someI hM
  replace hst := hst.rowNh 22 S1
  exact hQ _ _ _ (fin1r Tryz.results99 ⟨rfl, rfl⟩ ⟨_, rfl, (hst.pk 2 [0] rfl)⟩)
 ·refine condF (eh e8_13) (bfalse c11) (wp_skip (k2 _ _ (sR fun _ k5 => yY (lbs_ [h2.v] ST_26 (eh e8_2) hst R0) (Ym (iV x3) (eh e8_1) ?_))))
  obtain ⟨r12, gr12, hM⟩ := bs hM
  refine Yc wn rfl (yCall FN_117 (a2 e0 e0)) (graph_levels_ok gr12 q1 hst) ?_
  rintro _ w ⟨h13, rfl, hst⟩
  refine ⟨_, rfl, ?_⟩
  refine Ya h13.v e0 (wK k5 (wp_ret ?_))
  obtain rfl := someI hM
  exact hQ _ _ _ (fin1r Tryz.results99 ⟨rfl, rfl⟩ ⟨_, rfl, (hst.pk 2 [0] rfl)⟩)
theorem dissect_grown_ok {x1 : L2} {x3 : LI} {x5 : L2} {h2 h4 h6 : Hdr} {out : LI} (hM : dissect_grown x1 x3 x5 = some out) (q1 : imm S1 h2.v x1 ∈ ros) (q2 : imm I1 h4.v x3 ∈ ros) (q3 : imm S1 h6.v x5 ∈ ros) (hst : St w0 ros rs w) :
  Calls Tryz.prog 73 #[.agg #[h2.v, h4.v, h6.v]] w (fun e w => ∃ (h100001 : Hdr), e = .returned (h100001.v) ∧ St w0 ros (row 3 I1 h100001.v out :: rs) w) := by
 refine enterQ Tryz.func73 rfl Tryz.ntmps73 rfl fun Q hQ => sR fun _ k1 => YB wn rfl (r_box (vals := [h2.v, h4.v, h6.v]) hst e0 rfl) ?_
 intro b7 w hst
 refine Ya hnil.v rfl (wK k1 (sR fun _ k2 => YH wn rfl (rLt (n := 1) (l := [1]) hst SL_22 [iV 1] (bp1 rfl) rfl rfl (mks1 (cs := [iV 1]) rfl mkI mks0)) ?_))
 intro h8 w hst
 refine yY (yFb FL_28_1 e0) (yY (lb_ h4.v O_22 e0 hst R1) (yY (yLen SL_22 e0 hst (rdI q2)) ?_))
 obtain ⟨r9, gr9, hM⟩ := bs hM
 replace hst := hst.fz
 refine Yc wn rfl (yCall FN_72 (a2 e0 e0)) (slices_Repeat_int_ok gr9 F0 hst) ?_
 rintro _ w ⟨h10, rfl, hst⟩
 refine ⟨_, rfl, ?_⟩
 refine Ya h10.v e0 (wK k2 (sR fun _ k3 => yY (yFb FL_28_1 e0) (yY (lb_ h4.v O_22 e0 hst R1) ?_)))
 obtain ⟨r11, gr11, hM⟩ := bs hM
 refine Yc wn rfl (yCall FN_96 (a1 e0)) (dissect_total_ok gr11 (mtF q2) hst) ?_
 rintro _ w ⟨rfl, hst⟩
 refine ⟨_, rfl, ?_⟩
 refine Ya (iV r11) e0 (Ya (iV 0) rfl (wK k3 (seqQ fun Q4 k4 z4 => sR fun _ k5 => yY (yFb FL_28_0 e0) (yY (lbs_ [h2.v] ST_26 e0 hst R1) ?_))))
 obtain ⟨r12, gr12, hM⟩ := bs hM
 refine Yc wn rfl (yCall FN_97 (a1 e0)) (graph_Components_ok gr12 (mtF q1) hst) ?_
 rintro _ w ⟨h13, rfl, hst⟩
 refine ⟨_, rfl, ?_⟩
 refine yY (yLen SL_24 e0 hst rO0) (Ym (iV 0) rfl (wK k5 (blockQ fun Q6 qb6 => ?_)))
 obtain ⟨o3, go3, hM⟩ := bs hM
 have je3_0 : ∀ (x86 : LI) (f : FV) (w : World), f 3 = h10.v → St w0 ros (row 3 I1 h10.v x86 :: rs) w → .inl x86 = o3 → Q6 (.exit 0) (fr 59 f) w := by
  intro x86 f w eje3_0_3 hst ho
  subst ho
  refine qb6 _ _ _ (k4 _ _ (sR fun _ k75 => Ym h10.v (eh eje3_0_3) (Ya h10.v e0 (wK k75 (wp_ret ?_)))))
  obtain rfl := someI hM
  exact hQ _ _ _ (fin1r Tryz.results73 ⟨rfl, rfl⟩ ⟨_, rfl, hst⟩)
 have je3_1 : ∀ (x87 : LI) (f : FV) (w : World), f 2 = h10.v → St w0 ros (row 3 I1 h10.v x87 :: rs) w → .inr x87 = o3 → Q6 .ret (fr 59 f) w := by
  intro x87 f w eje3_1_2 hst ho
  subst ho
  refine qb6 _ _ _ (z4 _ _ _ rfl ?_)
  obtain rfl := someI hM
  exact hQ _ _ _ (fin1r Tryz.results73 ⟨rfl, eje3_1_2⟩ ⟨_, rfl, hst⟩)
 refine loopQ (fun s a w => ∃ (x47 : LI) (x48 x49 : Int) (f : FV), (x47, x48, x49) = s ∧ a = fr 59 f ∧ f 1 = (pB b7) ∧ f 3 = h10.v ∧ f 4 = iV r11 ∧ f 5 = iV x48 ∧ f 20 = h13.v ∧ f 21 = iV (r12.length : Int) ∧ f 22 = iV x49 ∧ St w0 ros (box b7 28 [h2.v, h4.v, h6.v] :: row 3 I1 h10.v x47 :: row 22 S1 h13.v r12 :: rs) w) go3 ⟨_, _, _, _, rfl, rfl, rfl, rfl, rfl, rfl, rfl, rfl, rfl, ((hst.pk 3 [2, 1, 0] rfl).facts (allT allI))⟩ ?_
 rintro _ _ w r3_ ⟨x47, x48, x49, f, rfl, rfl, e3_1, e3_3, e3_4, e3_5, e3_20, e3_21, e3_22, hst⟩ hM3 ho3 Q100003 n3 zz3
 refine sR fun _ k76 => yY (ylss (eh e3_22) (eh e3_21)) (wK k76 (seqQ fun Q77 k77 z77 => ?_))
 rcases iteS hM3 with ⟨c88, hM3⟩ | ⟨c88, hM3⟩
 ·refine cT e0 c88 (wp_skip (k77 _ _ (seqQ fun Q78 k78 z78 => blockQ fun _ qb79 => sR fun _ k80 => ?_)))
  obtain ⟨x89, gx89, hM3⟩ := bs hM3
  refine yY (yIa SL_24 (eh e3_20) (eh e3_22) hst rO2 gx89) ?_
  obtain ⟨h90, ch90, hst⟩ := rLs hst rO2 gx89
  refine yY (yCe O_22 e0 ch90 rfl) (Ya h90.v e0 (wK k80 (sQ fun _ k81 => ?_)))
  obtain ⟨x91, gx91, hM3⟩ := bs hM3
  obtain ⟨r92, gr92, hM3⟩ := bs hM3
  obtain ⟨r93, gr93, hM3⟩ := bs hM3
  obtain ⟨r95, gr95, hM3⟩ := bs hM3
  refine dR [0, 1, 0, 4, 0, 16, 48, 124, 255, 511, 1023, 0] [7, 8, 9] 3 folM ?_
  replace hst := hst.drew
  refine Dn [0, 1, 2, 3, 4, 5, 6, 11] [] [7] (yR rfl (yFb FL_28_0 (eh e3_1)) (yR rfl (lbs_ [h2.v] ST_26 e0 hst R0) (yR rfl (yFb FL_28_0 (eh e3_1)) (yR rfl (lbs_ [h2.v] ST_26 e0 hst R0) (yR rfl (m_ h90.v e0) (yR rfl (yIa SL_22 e0 rfl hst (rdI F0) gx91) (yR rfl (yI O_3 e0 hst (rdI F0) gx91) (yR rfl (m_ (iV 0) rfl) (Rn QSn ?_)))))))))
  refine Lc1 rfl ?_
  refine Lk wn (yCall FN_100 (a2 e0 e0)) (graph_Peripheral_ok gr92 (mtF q1) hst) ?_
  rintro _ w ⟨rfl, hst⟩
  refine ⟨_, rfl, ?_⟩
  refine Dn [] [0, 1, 11] [8] (Rn (yS rfl (yFb FL_28_0 (eh e3_1)) (yS rfl (lbs_ [h2.v] ST_26 e0 hst R0) (yS rfl (m_ (iV 0) rfl) QSn))) ?_)
  refine Lc1 rfl ?_
  refine Lk wn (yCall FN_99 (a2 e0 e0)) (graph_Levels_ok gr93 (mtF q1) hst) ?_
  rintro _ w ⟨h94, rfl, hst⟩
  refine ⟨_, rfl, ?_⟩
  refine Dn [] [11] [9] (Rn (yS rfl (m_ (iV 0) rfl) QSn) ?_)
  refine Lc1 rfl ?_
  replace hst := hst.fz
  refine Lk wn (yCall FN_98 (a1 e0)) (slices_Concat_int_ok gr95 F0 hst) ?_
  rintro _ w ⟨h96, rfl, hst⟩
  refine ⟨_, rfl, ?_⟩
  refine Dz [10] [11] (yR rfl (yLen SL_22 e0 hst rO0) (Rn (yS rfl (m_ (iV 0) rfl) QSn) (k81 _ _ (blockQ fun Q82 qb82 => ?_))))
  obtain ⟨o4, go4, hM3⟩ := bs hM3
  have je4_0 : ∀ (x113 : LI) (x114 : Int) (f : FV) (w : World), f 1 = (pB b7) → f 3 = h10.v → f 4 = iV r11 → f 5 = iV x114 → f 20 = h13.v → f 21 = iV (r12.length : Int) → f 22 = iV x49 → St w0 ros (box b7 28 [h2.v, h4.v, h6.v] :: row 3 I1 h10.v x113 :: row 22 S1 h13.v r12 :: rs) w → .inl (x113, x114) = o4 → Q82 (.exit 2) (fr 59 f) w := by
   intro x113 x114 f w eje4_0_1 eje4_0_3 eje4_0_4 eje4_0_5 eje4_0_20 eje4_0_21 eje4_0_22 hst ho
   subst ho
   refine qb82 _ _ _ (qb79 _ _ _ (k78 _ _ (wR (yY (yadd (eh eje4_0_22) rfl) (Ym (iV (wa .i64 x49 1)) e0 (wN ?_))))))
   obtain rfl := someI hM3
   exact n3 _ _ _ rfl ⟨_, _, _, _, rfl, rfl, eje4_0_1, eje4_0_3, eje4_0_4, eje4_0_5, eje4_0_20, eje4_0_21, rfl, hst⟩
  have je4_1 : ∀ (x115 : LI) (f : FV) (w : World), f 2 = h10.v → St w0 ros (row 3 I1 h10.v x115 :: rs) w → .inr x115 = o4 → Q82 .ret (fr 59 f) w := by
   intro x115 f w eje4_1_2 hst ho
   subst ho
   refine qb82 _ _ _ (qb79 _ _ _ (z78 _ _ _ rfl ?_))
   obtain rfl := someI hM3
   exact zz3 _ _ _ _ rfl rfl (je3_1 _ _ _ eje4_1_2 hst (ho3 _ rfl))
  refine loopQ (fun s a w => ∃ (x102 : LI) (x103 x104 : Int) (f : FV), (x102, x103, x104) = s ∧ a = fr 59 f ∧ f 1 = (pB b7) ∧ f 3 = h10.v ∧ f 4 = iV r11 ∧ f 5 = iV x103 ∧ f 20 = h13.v ∧ f 21 = iV (r12.length : Int) ∧ f 22 = iV x49 ∧ f 35 = h96.v ∧ f 36 = iV (r95.length : Int) ∧ f 37 = iV x104 ∧ St w0 ros (box b7 28 [h2.v, h4.v, h6.v] :: row 3 I1 h10.v x102 :: row 22 S1 h13.v r12 :: row 3 I1 h96.v r95 :: rs) w) go4 ⟨_, _, _, _, rfl, rfl, e3_1, e3_3, e3_4, e3_5, e3_20, e3_21, e3_22, rfl, rfl, rfl, ((hst.pk 4 [1, 1, 1, 0] rfl).facts (allT (allT allI)))⟩ ?_
  rintro _ _ w r4_ ⟨x102, x103, x104, f, rfl, rfl, e4_1, e4_3, e4_4, e4_5, e4_20, e4_21, e4_22, e4_35, e4_36, e4_37, hst⟩ hM4 ho4 Q100004 n4 zz4
  refine sR fun _ k101 => yY (ylss (eh e4_37) (eh e4_36)) (wK k101 (seqQ fun Q102 k102 z102 => ?_))
  rcases iteS hM4 with ⟨c116, hM4⟩ | ⟨c116, hM4⟩
  ·refine cT e0 c116 (wp_skip (k102 _ _ (seqQ fun Q103 k103 z103 => blockQ fun _ qb104 => sR fun _ k105 => ?_)))
   obtain ⟨x117, gx117, hM4⟩ := bs hM4
   refine yY (yIa SL_22 (eh e4_35) (eh e4_37) hst rO3 gx117) (yY (yI O_3 e0 hst rO3 gx117) (Ya (iV x117) e0 (wK k105 (seqQ fun Q106 k106 z106 => sR fun _ k107 => Ym (iV x103) (eh e4_5) (yY (ymul rfl e0) (Ym (iV r11) (eh e4_4) (yY (ygeq e0 e0) (wK k107 ?_))))))))
   rcases iteS hM4 with ⟨c118, hM4⟩ | ⟨c118, hM4⟩
   ·refine cT e0 c118 (sR fun _ k108 => Ym h10.v (eh e4_3) (Ya h10.v e0 (wK k108 (wp_ret (z106 _ _ _ rfl (qb104 _ _ _ (z103 _ _ _ rfl ?_)))))))
    obtain rfl := someI hM4
    exact zz4 _ _ _ _ rfl rfl (je4_1 _ _ _ rfl (hst.pk 4 [1] rfl) (ho4 _ rfl))
   ·refine cF e0 c118 (wp_skip (k106 _ _ (sR fun _ k109 => Ym h10.v (eh e4_3) (Ym (iV x117) e0 ?_))))
    obtain ⟨x119, gx119, hM4⟩ := bs hM4
    refine yY (yIs SL_22 e0 e0 hst rO1 gx119) ?_
    replace hst := hst.pk 2 [1, 0] rfl
    refine YT wn rfl (r_sti (cs := [iV 0]) hst O_3 rfl e0 rfl rfl mkI gx119) ?_
    intro w hst
    refine wK k109 (wR (Ym (iV x103) (eh e4_5) (yY (yFb FL_28_1 (eh e4_1)) (yY (lb_ h4.v O_22 e0 hst R1) (Ym (iV x117) e0 ?_)))))
    obtain ⟨x120, gx120, hM4⟩ := bs hM4
    refine yY (yIa SL_22 e0 e0 hst (rdI q2) gx120) (yY (yI O_3 e0 hst (rdI q2) gx120) (yY (yadd e0 e0) (Ya (iV (wa .i64 x103 x120)) e0 (wN (qb104 _ _ _ (k103 _ _ (wR (yY (yadd (eh e4_37) rfl) (Ym (iV (wa .i64 x104 1)) e0 (wN ?_))))))))))
    obtain rfl := someI hM4
    exact n4 _ _ _ rfl ⟨_, _, _, _, rfl, rfl, e4_1, e4_3, e4_4, rfl, e4_20, e4_21, e4_22, e4_35, e4_36, rfl, (hst.pk 4 [1, 0, 0, 0] rfl)⟩
  ·refine cF e0 c116 (wp_exit (z102 _ _ _ rfl ?_))
   obtain rfl := someI hM4
   exact zz4 _ _ _ _ rfl rfl (je4_0 _ _ _ _ e4_1 e4_3 e4_4 e4_5 e4_20 e4_21 e4_22 (hst.pk 4 [0, 0, 0] rfl) (ho4 _ rfl))
 ·refine cF e0 c88 (wp_exit (z77 _ _ _ rfl ?_))
  obtain rfl := someI hM3
  exact zz3 _ _ _ _ rfl rfl (je3_0 _ _ _ e3_3 (hst.pk 3 [1] rfl) (ho3 _ rfl))
theorem dissect_match_ok {x1 : L2} {x3 : LI} {x5 : L2} {h2 h4 h6 : Hdr} {out : LI} (hM : dissect_match x1 x3 x5 = some out) (q1 : imm S1 h2.v x1 ∈ ros) (q2 : imm I1 h4.v x3 ∈ ros) (q3 : imm S1 h6.v x5 ∈ ros) (hst : St w0 ros rs w) :
  Calls Tryz.prog 40 #[.agg #[h2.v, h4.v, h6.v]] w (fun e w => ∃ (h100001 : Hdr), e = .returned (h100001.v) ∧ St w0 ros (row 3 I1 h100001.v out :: rs) w) := by
 refine enterQ Tryz.func40 rfl Tryz.ntmps40 rfl fun Q hQ => sR fun _ k1 => YB wn rfl (r_box (vals := [h2.v, h4.v, h6.v]) hst e0 rfl) ?_
 intro b7 w hst
 refine Ya hnil.v rfl (wK k1 (sR fun _ k2 => YH wn rfl (rLt (n := 1) (l := [(-1)]) hst SL_22 [iV (-1)] (bp1 rfl) rfl rfl (mks1 (cs := [iV (-1)]) rfl mkI mks0)) ?_))
 intro h8 w hst
 refine yY (yFb FL_28_1 e0) (yY (lb_ h4.v O_22 e0 hst R1) (yY (yLen SL_22 e0 hst (rdI q2)) ?_))
 obtain ⟨r9, gr9, hM⟩ := bs hM
 replace hst := hst.fz
 refine Yc wn rfl (yCall FN_72 (a2 e0 e0)) (slices_Repeat_int_ok gr9 F0 hst) ?_
 rintro _ w ⟨h10, rfl, hst⟩
 refine ⟨_, rfl, ?_⟩
 refine Ya h10.v e0 (wK k2 (sQ fun _ k3 => sR fun _ k4 => yY (yFb FL_28_0 e0) (yY (yFb FL_26_0 e0) (yY (lb_ h2.v O_24 e0 hst R1) (yY (yLen SL_24 e0 hst (rdI (mtF q1))) (Ym (iV 0) rfl (wK k4 (blockQ fun Q5 qb5 => ?_))))))))
 obtain ⟨o45, go45, hM⟩ := bs hM
 have je45_0 : ∀ (x475 : LI) (f : FV) (w : World), f 3 = h10.v → St w0 ros (row 3 I1 h10.v x475 :: rs) w → x475 = o45 → Q5 (.exit 0) (fr 74 f) w := by
  intro x475 f w eje45_0_3 hst ho
  subst ho
  refine qb5 _ _ _ (k3 _ _ (sR fun _ k168 => Ym h10.v (eh eje45_0_3) (Ya h10.v e0 (wK k168 (wp_ret ?_)))))
  obtain rfl := someI hM
  exact hQ _ _ _ (fin1r Tryz.results40 ⟨rfl, rfl⟩ ⟨_, rfl, hst⟩)
 refine loopQ (fun s a w => ∃ (x241 : LI) (x242 : Int) (f : FV), (x241, x242) = s ∧ a = fr 74 f ∧ f 1 = (pB b7) ∧ f 3 = h10.v ∧ f 17 = h2.v ∧ f 18 = iV (x1.length : Int) ∧ f 19 = iV x242 ∧ St w0 ros (box b7 28 [h2.v, h4.v, h6.v] :: row 3 I1 h10.v x241 :: rs) w) go45 ⟨_, _, _, rfl, rfl, rfl, rfl, rfl, rfl, rfl, ((hst.pk 2 [1, 0] rfl).facts (allT allI))⟩ ?_
 rintro _ _ w r45_ ⟨x241, x242, f, rfl, rfl, e45_1, e45_3, e45_17, e45_18, e45_19, hst⟩ hM45 ho45 Q100045 n45 zz45
 refine sR fun _ k169 => yY (ylss (eh e45_19) (eh e45_18)) (wK k169 (seqQ fun Q170 k170 z170 => ?_))
 rcases iteS hM45 with ⟨c476, hM45⟩ | ⟨c476, hM45⟩
 ·refine cT e0 c476 (wp_skip (k170 _ _ (sQ fun Q171 k171 => ?_)))
  have j60 : ∀ (x629 : LI) (f : FV) (w : World), f 1 = (pB b7) → f 3 = h10.v → f 17 = h2.v → f 18 = iV (x1.length : Int) → f 19 = iV x242 → St w0 ros (box b7 28 [h2.v, h4.v, h6.v] :: row 3 I1 h10.v x629 :: rs) w → dissect_match_j60 x242 x629 = some r45_ → Q171 .normal (fr 74 f) w := by
   intro x629 f w ej60_1 ej60_3 ej60_17 ej60_18 ej60_19 hst hM
   refine k171 _ _ (wR (yY (yadd (eh ej60_19) rfl) (Ym (iV (wa .i64 x242 1)) e0 (wN ?_))))
   obtain rfl := someI hM
   exact n45 _ _ _ rfl ⟨_, _, _, rfl, rfl, ej60_1, ej60_3, ej60_17, ej60_18, rfl, hst⟩
  refine blockQ fun _ qb224 => sR fun _ k225 => Ym (iV x242) (eh e45_19) ?_
  obtain ⟨x630, gx630, hM45⟩ := bs hM45
  refine yY (yIa SL_24 (eh e45_17) (eh e45_19) hst (rdI q1) gx630) ?_
  obtain ⟨h631, hst⟩ := iLs hst q1 gx630
  refine yY (yCt O_22 e0 hst F1 rfl) (Ya (iV x242) e0 (Ya h631.v e0 (wK k225 (seqQ fun Q226 k226 z226 => sR fun _ k227 => Ym h10.v (eh e45_3) (Ym (iV x242) e0 ?_)))))
  obtain ⟨x632, gx632, hM45⟩ := bs hM45
  refine yY (yIa SL_22 e0 e0 hst rO1 gx632) (yY (yI O_3 e0 hst rO1 gx632) (yY (yneq e0 rfl) (wK k227 ?_)))
  rcases iteS hM45 with ⟨c633, hM45⟩ | ⟨c633, hM45⟩
  ·refine condF e0 (nF (dT c633)) (wp_skip (k226 _ _ (sR fun _ k228 => Ym (iV x242) e0 (Ya (iV x242) e0 (Ya (iV 0) rfl (wK k228 (sQ fun _ k229 => sR fun _ k230 => Ym h631.v e0 ?_)))))))
   refine yY (yLen SL_22 e0 hst (rdI F0)) (Ym (iV 0) rfl (wK k230 (blockQ fun Q231 qb231 => ?_)))
   obtain ⟨o65, go65, hM45⟩ := bs hM45
   have je65_0 : ∀ (x682 : Int) (f : FV) (w : World), f 1 = (pB b7) → f 3 = h10.v → f 4 = iV x242 → f 6 = iV x682 → f 17 = h2.v → f 18 = iV (x1.length : Int) → f 19 = iV x242 → St w0 ros (box b7 28 [h2.v, h4.v, h6.v] :: row 3 I1 h10.v x241 :: rs) w → x682 = o65 → Q231 (.exit 2) (fr 74 f) w := by
    intro x682 f w eje65_0_1 eje65_0_3 eje65_0_4 eje65_0_6 eje65_0_17 eje65_0_18 eje65_0_19 hst ho
    subst ho
    refine qb231 _ _ _ (k229 _ _ (wR (Ym h10.v (eh eje65_0_3) (Ym (iV x242) (eh eje65_0_4) (Ym h10.v (eh eje65_0_3) (Ym (iV x682) (eh eje65_0_6) (Ym (iV x682) (eh eje65_0_6) (Ym (iV x242) (eh eje65_0_4) ?_))))))))
    obtain ⟨x683, gx683, hM45⟩ := bs hM45
    refine yY (yIs SL_22 e0 e0 hst rO1 gx683) ?_
    replace hst := hst.pk 2 [1, 0] rfl
    refine YT wn rfl (r_sti (cs := [iV x682]) hst O_3 rfl e0 e0 rfl mkI gx683) ?_
    intro w hst
    obtain ⟨x684, gx684, hM45⟩ := bs hM45
    refine yY (yIs SL_22 e0 e0 hst rO0 gx684) (YT wn rfl (r_sti (cs := [iV x242]) hst O_3 rfl e0 e0 rfl mkI gx684) ?_)
    intro w hst
    exact wN (qb224 _ _ _ (j60 _ _ _ eje65_0_1 eje65_0_3 eje65_0_17 eje65_0_18 eje65_0_19 (hst.pk 2 [1, 0] rfl) hM45))
   refine loopQ (fun s a w => ∃ (x655 x656 x657 : Int) (f : FV), (x655, x656, x657) = s ∧ a = fr 74 f ∧ f 1 = (pB b7) ∧ f 3 = h10.v ∧ f 4 = iV x242 ∧ f 6 = iV x655 ∧ f 7 = iV x656 ∧ f 17 = h2.v ∧ f 18 = iV (x1.length : Int) ∧ f 19 = iV x242 ∧ f 30 = h631.v ∧ f 31 = iV (x630.length : Int) ∧ f 32 = iV x657 ∧ St w0 (imm I1 h631.v x630 :: ros) (box b7 28 [h2.v, h4.v, h6.v] :: row 3 I1 h10.v x241 :: rs) w) go65 ⟨_, _, _, _, rfl, rfl, e45_1, e45_3, rfl, rfl, rfl, e45_17, e45_18, e45_19, rfl, rfl, rfl, (hst.facts (allC F0 (allT (allT allI))))⟩ ?_
   rintro _ _ w r65_ ⟨x655, x656, x657, f, rfl, rfl, e65_1, e65_3, e65_4, e65_6, e65_7, e65_17, e65_18, e65_19, e65_30, e65_31, e65_32, hst⟩ hM65 ho65 Q100065 n65 zz65
   refine sR fun _ k244 => yY (ylss (eh e65_32) (eh e65_31)) (wK k244 (seqQ fun Q245 k245 z245 => ?_))
   rcases iteS hM65 with ⟨c685, hM65⟩ | ⟨c685, hM65⟩
   ·refine cT e0 c685 (wp_skip (k245 _ _ (sQ fun _ k246 => blockQ fun Q247 qb247 => sR fun _ k248 => Ym (iV x657) (eh e65_32) ?_)))
    obtain ⟨x686, gx686, hM65⟩ := bs hM65
    refine yY (yIa SL_22 (eh e65_30) (eh e65_32) hst (rdI F0) gx686) (yY (yI O_3 e0 hst (rdI F0) gx686) (Ya (iV x657) e0 (Ya (iV x686) e0 (wK k248 (sR fun _ k249 => Ym h10.v (eh e65_3) (Ym (iV x686) e0 ?_))))))
    obtain ⟨x687, gx687, hM65⟩ := bs hM65
    refine yY (yIa SL_22 e0 e0 hst rO1 gx687) (yY (yI O_3 e0 hst rO1 gx687) (yY (yeql e0 rfl) (Ym (.bool (decide (x687 = (-1)))) e0 ?_)))
    obtain ⟨r691, gr691, hM65⟩ := bs hM65
    refine joinW 11 (fun f w => f 1 = (pB b7) ∧ f 3 = h10.v ∧ f 4 = iV x242 ∧ f 6 = iV x655 ∧ f 7 = iV x656 ∧ f 8 = iV x657 ∧ f 9 = iV x686 ∧ f 17 = h2.v ∧ f 18 = iV (x1.length : Int) ∧ f 19 = iV x242 ∧ f 30 = h631.v ∧ f 31 = iV (x630.length : Int) ∧ f 32 = iV x657 ∧ f 53 = .bool r691 ∧ St w0 (imm I1 h631.v x630 :: ros) (box b7 28 [h2.v, h4.v, h6.v] :: row 3 I1 h10.v x241 :: rs) w) (fun j66 => ?_) ?_
    ·rcases iteS gr691 with ⟨c693, gr691⟩ | ⟨c693, gr691⟩
     ·refine yG (dT c693) (yFb FL_28_2 (eh e65_1)) (yG (dT c693) (lb_ h6.v O_24 e0 hst R0) (yG (dT c693) (m_ (iV x242) (eh e65_4)) ?_))
      obtain ⟨x694, gx694, gr691⟩ := bs gr691
      refine yG (dT c693) (yIa SL_24 e0 e0 hst (rdI (mtF q3)) gx694) ?_
      obtain ⟨h695, hst⟩ := iLs hst (mtF q3) gx694
      refine yG (dT c693) (yCt O_22 e0 hst F1 rfl) (yG (dT c693) (m_ (iV x657) e0) ?_)
      obtain ⟨x696, gx696, gr691⟩ := bs gr691
      refine yG (dT c693) (yIa SL_22 e0 e0 hst (rdI F0) gx696) (yG (dT c693) (yI O_3 e0 hst (rdI F0) gx696) (yG (dT c693) (m_ (iV x656) (eh e65_7)) (yG (dT c693) (ygtr e0 e0) (yY (pt_ (.bool (decide (x656 < x696))) e0 (dT c693) e0) ?_))))
      obtain rfl := someI gr691
      exact j66 _ _ ⟨e65_1, e65_3, e65_4, e65_6, e65_7, rfl, rfl, e65_17, e65_18, e65_19, e65_30, e65_31, e65_32, rfl, (hst.facts (allC F2 (allT (allT (allT allI)))))⟩
     ·refine gN (dF c693) (gN (dF c693) (gN (dF c693) (gN (dF c693) (gN (dF c693) (gN (dF c693) (gN (dF c693) (gN (dF c693) (gN (dF c693) (gN (dF c693) (yY (pf_ (.bool false) e0 (dF c693) rfl) ?_))))))))))
      obtain rfl := someI gr691
      exact j66 _ _ ⟨e65_1, e65_3, e65_4, e65_6, e65_7, rfl, rfl, e65_17, e65_18, e65_19, e65_30, e65_31, e65_32, rfl, hst⟩
    rintro f w ⟨e692_1, e692_3, e692_4, e692_6, e692_7, e692_8, e692_9, e692_17, e692_18, e692_19, e692_30, e692_31, e692_32, e692_53, hst⟩
    refine wK k249 ?_
    have j67 : ∀ (x700 x701 : Int) (f : FV) (w : World), f 1 = (pB b7) → f 3 = h10.v → f 4 = iV x242 → f 6 = iV x700 → f 7 = iV x701 → f 17 = h2.v → f 18 = iV (x1.length : Int) → f 19 = iV x242 → f 30 = h631.v → f 31 = iV (x630.length : Int) → f 32 = iV x657 → St w0 (imm I1 h631.v x630 :: ros) (box b7 28 [h2.v, h4.v, h6.v] :: row 3 I1 h10.v x241 :: rs) w → dissect_match_j67 x657 x700 x701 = some r65_ → Q247 .normal (fr 74 f) w := by
     intro x700 x701 f w ej67_1 ej67_3 ej67_4 ej67_6 ej67_7 ej67_17 ej67_18 ej67_19 ej67_30 ej67_31 ej67_32 hst hM
     refine qb247 _ _ _ (k246 _ _ (wR (yY (yadd (eh ej67_32) rfl) (Ym (iV (wa .i64 x657 1)) e0 (wN ?_)))))
     obtain rfl := someI hM
     exact n65 _ _ _ rfl ⟨_, _, _, _, rfl, rfl, ej67_1, ej67_3, ej67_4, ej67_6, ej67_7, ej67_17, ej67_18, ej67_19, ej67_30, ej67_31, rfl, hst⟩
    rcases iteS hM65 with ⟨c702, hM65⟩ | ⟨c702, hM65⟩
    ·refine condT (eh e692_53) c702 ?_
     obtain ⟨x703, gx703, hM65⟩ := bs hM65
     obtain ⟨x705, gx705, hM65⟩ := bs hM65
     refine dR [0, 0, 2, 0, 14, 30, 0, 126, 254, 1, 1023] [9, 10] 2 folM ?_
     replace hst := hst.drew
     refine Dn [0, 1, 2, 3, 4, 5, 6, 7, 8] [] [9] (yR rfl (m_ (iV x686) (eh e692_9)) (yR rfl (yFb FL_28_2 (eh e692_1)) (yR rfl (lb_ h6.v O_24 e0 hst R0) (yR rfl (m_ (iV x242) (eh e692_4)) (yR rfl (yIa SL_24 e0 e0 hst (rdI (mtF q3)) gx703) ?_)))))
     obtain ⟨h704, hst⟩ := iLs hst (mtF q3) gx703
     refine yR rfl (yCt O_22 e0 hst F1 rfl) (yR rfl (m_ (iV x657) (eh e692_8)) (yR rfl (yIa SL_22 e0 e0 hst (rdI F0) gx705) (yR rfl (yI O_3 e0 hst (rdI F0) gx705) (Rn QSn ?_))))
     refine Lc1 rfl ?_
     refine Ly wn (a_ (iV x686) e0) (Dn [] [1, 2, 3, 4, 5, 6, 7, 8] [10] (Rn (yS rfl (yFb FL_28_2 (eh e692_1)) (yS rfl (lb_ h6.v O_24 e0 hst R0) (yS rfl (m_ (iV x242) (eh e692_4)) (yS rfl (yIa SL_24 e0 e0 hst (rdI (F_3 q3)) gx703) (yS rfl (yCt O_22 e0 hst F1 rfl) (yS rfl (m_ (iV x657) (eh e692_8)) (yS rfl (yIa SL_22 e0 e0 hst (rdI F0) gx705) (yS rfl (yI O_3 e0 hst (rdI F0) gx705) QSn)))))))) ?_))
     refine Lc1 rfl ?_
     exact Ly wn (a_ (iV x705) e0) (Dz [] [] (Rn QSn (j67 _ _ _ _ e692_1 e692_3 e692_4 rfl rfl e692_17 e692_18 e692_19 e692_30 e692_31 e692_32 (hst.facts (allC F2 (allT (allT (allT allI))))) hM65)))
    ·exact condF (eh e692_53) (bfalse c702) (wp_skip (j67 _ _ _ _ e692_1 e692_3 e692_4 e692_6 e692_7 e692_17 e692_18 e692_19 e692_30 e692_31 e692_32 hst hM65))
   ·refine cF e0 c685 (wp_exit (z245 _ _ _ rfl ?_))
    obtain rfl := someI hM65
    exact zz65 _ _ _ _ rfl rfl (je65_0 _ _ _ e65_1 e65_3 e65_4 e65_6 e65_17 e65_18 e65_19 (hst.facts (allT allI)) (ho65 _ rfl))
  ·exact condT e0 (nT (dF c633)) (wp_exit (z226 _ _ _ rfl (qb224 _ _ _ (j60 _ _ _ e45_1 e45_3 e45_17 e45_18 e45_19 (hst.facts (allT (allT allI))) hM45))))
 ·refine cF e0 c476 (wp_exit (z170 _ _ _ rfl ?_))
  obtain rfl := someI hM45
  exact zz45 _ _ _ _ rfl rfl (je45_0 _ _ _ e45_3 (hst.pk 2 [1] rfl) (ho45 _ rfl))
theorem dissect_weights_1_ok {x1 : Int} {out : Bool} (hM : dissect_weights_1 x1 = some out) (hst : St w0 ros rs w) :
  Calls Tryz.prog 83 #[iV x1] w (fun e w => e = .returned (.bool out) ∧ St w0 ros rs w) := by
 refine enterQ Tryz.func83 rfl Tryz.ntmps83 rfl fun Q hQ => sR fun _ k1 => Ya (.bool false) rfl (wK k1 (sR fun _ k2 => Ym (iV x1) e0 (yY (ylss e0 rfl) (Ym (.bool (decide (x1 < 1))) e0 ?_))))
 refine joinW 3 (fun f w => f 8 = .bool ((decide (x1 < 1)) || (decide ((1099511627776 : Int) < x1))) ∧ St w0 ros rs w) (fun j1 => ?_) ?_
 ·rcases Bool.eq_false_or_eq_true (decide (x1 < 1)) with c3 | c3
  ·exact gN c3 (gN c3 (yY (pt_ (.bool true) e0 c3 rfl) (j1 _ _ ⟨(congrArg Value.bool (orT c3)), hst⟩)))
  ·exact yG c3 (m_ (iV x1) e0) (yG c3 (ygtr e0 rfl) (yY (pf_ (.bool (decide ((1099511627776 : Int) < x1))) e0 c3 e0) (j1 _ _ ⟨(congrArg Value.bool (orF c3)), hst⟩)))
 rintro f w ⟨e2_8, hst⟩
 refine Ya (.bool ((decide (x1 < 1)) || (decide ((1099511627776 : Int) < x1)))) (eh e2_8) (wK k2 (wp_ret ?_))
 obtain rfl := someI hM
 exact hQ _ _ _ (fin1r Tryz.results83 ⟨rfl, rfl⟩ ⟨rfl, hst⟩)
theorem slices_IndexFunc_int_ok {x1 : LI} {h2 : Hdr} {out : Int} (hM : slices_IndexFunc_int x1 = some out) (q1 : imm I1 h2.v x1 ∈ ros) (hst : St w0 ros rs w) :
  Calls Tryz.prog 80 #[h2.v, .func (.func 83) #[] #[]] w (fun e w => e = .returned (iV out) ∧ St w0 ros rs w) := by
 refine enterQ Tryz.func80 rfl Tryz.ntmps80 rfl fun Q hQ => sR fun _ k1 => Ya (iV 0) rfl (wK k1 (seqQ fun Q2 k2 z2 => sR fun _ k3 => Ym h2.v e0 (yY (yLen SL_22 e0 hst (rdI q1)) (Ym (iV 0) rfl (wK k3 ?_)))))
 refine blockQ fun Q4 qb4 => ?_
 obtain ⟨o1, go1, hM⟩ := bs hM
 have je1_0 : ∀ (f : FV) (w : World), St w0 ros rs w → .inl () = o1 → Q4 (.exit 0) (fr 19 f) w := by
  intro f w hst ho
  subst ho
  refine qb4 _ _ _ (k2 _ _ (sR fun _ k19 => Ya (iV (-1)) rfl (wK k19 (wp_ret ?_))))
  obtain rfl := someI hM
  exact hQ _ _ _ (fin1r Tryz.results80 ⟨rfl, rfl⟩ ⟨rfl, hst⟩)
 have je1_1 : ∀ (x13 : Int) (f : FV) (w : World), f 4 = iV x13 → St w0 ros rs w → .inr x13 = o1 → Q4 .ret (fr 19 f) w := by
  intro x13 f w eje1_1_4 hst ho
  subst ho
  refine qb4 _ _ _ (z2 _ _ _ rfl ?_)
  obtain rfl := someI hM
  exact hQ _ _ _ (fin1r Tryz.results80 ⟨rfl, eje1_1_4⟩ ⟨rfl, hst⟩)
 refine loopQ (fun s a w => ∃ (x7 : Int) (f : FV), x7 = s ∧ a = fr 19 f ∧ f 0 = h2.v ∧ f 1 = .func (.func 83) #[] #[] ∧ f 7 = iV (x1.length : Int) ∧ f 8 = iV x7 ∧ St w0 ros rs w) go1 ⟨_, _, rfl, rfl, rfl, rfl, rfl, rfl, hst⟩ ?_
 rintro _ _ w r1_ ⟨x7, f, rfl, rfl, e1_0, e1_1, e1_7, e1_8, hst⟩ hM1 ho1 Q100001 n1 zz1
 refine sR fun _ k20 => yY (ylss (eh e1_8) (eh e1_7)) (wK k20 (seqQ fun Q21 k21 z21 => ?_))
 rcases iteS hM1 with ⟨c14, hM1⟩ | ⟨c14, hM1⟩
 ·refine cT e0 c14 (wp_skip (k21 _ _ (seqQ fun Q22 k22 z22 => blockQ fun _ qb23 => sR fun _ k24 => Ym (iV x7) (eh e1_8) (Ya (iV x7) e0 (wK k24 (sR fun _ k25 => Ym (.func (.func 83) #[] #[]) (eh e1_1) ?_))))))
  refine Ym h2.v (eh e1_0) (Ym (iV x7) e0 ?_)
  obtain ⟨x15, gx15, hM1⟩ := bs hM1
  refine yY (yIa SL_22 e0 e0 hst (rdI q1) gx15) (yY (yI O_3 e0 hst (rdI q1) gx15) ?_)
  obtain ⟨r16, gr16, hM1⟩ := bs hM1
  refine Yc wn rfl (yCallw FN_83 e0 (a1 e0)) (dissect_weights_1_ok gr16 hst) ?_
  rintro _ w ⟨rfl, hst⟩
  refine ⟨_, rfl, ?_⟩
  refine wK k25 ?_
  rcases iteS hM1 with ⟨c17, hM1⟩ | ⟨c17, hM1⟩
  ·refine condT e0 c17 (sR fun _ k26 => Ym (iV x7) e0 (Ya (iV x7) e0 (wK k26 (wp_ret (qb23 _ _ _ (z22 _ _ _ rfl ?_))))))
   obtain rfl := someI hM1
   exact zz1 _ _ _ _ rfl rfl (je1_1 _ _ _ rfl hst (ho1 _ rfl))
  ·refine condF e0 (bfalse c17) (wp_skip (qb23 _ _ _ (k22 _ _ (wR (yY (yadd (eh e1_8) rfl) (Ym (iV (wa .i64 x7 1)) e0 (wN ?_)))))))
   obtain rfl := someI hM1
   exact n1 _ _ _ rfl ⟨_, _, rfl, rfl, e1_0, e1_1, e1_7, rfl, hst⟩
 ·refine cF e0 c14 (wp_exit (z21 _ _ _ rfl ?_))
  obtain rfl := someI hM1
  exact zz1 _ _ _ _ rfl rfl (je1_0 _ _ hst (ho1 _ rfl))
theorem slices_ContainsFunc_int_ok {x1 : LI} {h2 : Hdr} {out : Bool} (hM : slices_ContainsFunc_int x1 = some out) (q1 : imm I1 h2.v x1 ∈ ros) (hst : St w0 ros rs w) :
  Calls Tryz.prog 49 #[h2.v, .func (.func 83) #[] #[]] w (fun e w => e = .returned (.bool out) ∧ St w0 ros rs w) := by
 refine enterQ Tryz.func49 rfl Tryz.ntmps49 rfl fun Q hQ => sR fun _ k1 => Ya (.bool false) rfl (wK k1 (sR fun _ k2 => Ym h2.v e0 (Ym (.func (.func 83) #[] #[]) e0 ?_)))
 obtain ⟨r3, gr3, hM⟩ := bs hM
 refine Yc wn rfl (yCall FN_80 (a2 e0 e0)) (slices_IndexFunc_int_ok gr3 q1 hst) ?_
 rintro _ w ⟨rfl, hst⟩
 refine ⟨_, rfl, ?_⟩
 refine yY (ygeq e0 rfl) (Ya (.bool (decide ((0 : Int) ≤ r3))) e0 (wK k2 (wp_ret ?_)))
 obtain rfl := someI hM
 exact hQ _ _ _ (fin1r Tryz.results49 ⟨rfl, rfl⟩ ⟨rfl, hst⟩)
theorem dissect_weights_ok {x1 : LI} {h2 : Hdr} {out : Bool} (hM : dissect_weights x1 = some out) (q1 : imm I1 h2.v x1 ∈ ros) (hst : St w0 ros rs w) :
  Calls Tryz.prog 52 #[h2.v] w (fun e w => e = .returned (.bool out) ∧ St w0 ros rs w) := by
 refine enterQ Tryz.func52 rfl Tryz.ntmps52 rfl fun Q hQ => sR fun _ k1 => Ya (.bool false) rfl (wK k1 (sR fun _ k2 => Ym h2.v e0 ?_))
 obtain ⟨r3, gr3, hM⟩ := bs hM
 refine Yc wn rfl (yCall FN_49 (a2 e0 rfl)) (slices_ContainsFunc_int_ok gr3 q1 hst) ?_
 rintro _ w ⟨rfl, hst⟩
 refine ⟨_, rfl, ?_⟩
 refine yY (ynot e0) (Ya (.bool (!r3)) e0 (wK k2 (wp_ret ?_)))
 obtain rfl := someI hM
 exact hQ _ _ _ (fin1r Tryz.results52 ⟨rfl, rfl⟩ ⟨rfl, hst⟩)
theorem dissect_coarsen_ok {x1 : L2} {x3 : LI} {x5 : L2} {x7 : LI} {h2 h4 h6 h8 : Hdr} {out : L2 × LI × L2 × LI × Bool} (hM : dissect_coarsen x1 x3 x5 x7 = some out) (q1 : imm S1 h2.v x1 ∈ ros) (q2 : imm I1 h4.v x3 ∈ ros) (q3 : imm S1 h6.v x5 ∈ ros) (q4 : imm I1 h8.v x7 ∈ ros) (hst : St w0 ros rs w) :
  Calls Tryz.prog 42 #[.agg #[h2.v, h4.v, h6.v], h8.v] w (fun e w => ∃ (h100001 : Hdr) (y100002 : List Hdr) (h100004 h100006 : Hdr) (y100007 : List Hdr) (h100009 : Hdr), e = .returned (.tuple #[.agg #[h100001.v, h100004.v, h100006.v], h100009.v, .bool out.2.2.2.2]) ∧ St w0 (imm I1 h100004.v out.2.1 :: ros) (row 22 rH h100001.v y100002 :: fam 3 I1 y100002 out.1 :: row 22 rH h100006.v y100007 :: fam 3 I1 y100007 out.2.2.1 :: row 3 I1 h100009.v out.2.2.2.1 :: rs) w) := by
 refine enterQ Tryz.func42 rfl Tryz.ntmps42 rfl fun Q hQ => sR fun _ k1 => YB wn rfl (r_box (vals := [h2.v, h4.v, h6.v]) hst e0 rfl) ?_
 intro b9 w hst
 refine YB wn rfl (rAl hst ZT_28) ?_
 intro b10 w hst
 refine Ya hnil.v rfl (Ya (.bool false) rfl (wK k1 (sR fun _ k2 => Ym h8.v e0 (yY (yLen SL_22 e0 hst (rdI q4)) ?_))))
 obtain ⟨x13, gx13, hM⟩ := bs hM
 refine YH wn rfl (rMk hst SL_22 e0 gx13) ?_
 intro h11 w hst
 refine Ya h11.v e0 (wK k2 (sQ fun _ k3 => sR fun _ k4 => Ym h8.v e0 (yY (yLen SL_22 e0 hst (rdI q4)) (Ym (iV 0) rfl (wK k4 (blockQ fun Q5 qb5 => ?_))))))
 obtain ⟨o3, go3, hM⟩ := bs hM
 have je3_0 : ∀ (x109 x110 : LI) (h108 : Hdr) (f : FV) (w : World), f 2 = (pB b9) → f 4 = (pB b10) → f 5 = h11.v → St w0 ros (box b9 28 [h2.v, h4.v, h6.v] :: row 3 I1 h108.v x109 :: box b10 28 [hnil.v, h108.v, hnil.v] :: row 3 I1 h11.v x110 :: rs) w → (x109, x110) = o3 → Q5 (.exit 0) (fr 200 f) w := by
  intro x109 x110 h108 f w eje3_0_2 eje3_0_4 eje3_0_5 hst ho
  subst ho
  refine qb5 _ _ _ (k3 _ _ (sR fun _ k54 => yY (yFb FL_28_1 (eh eje3_0_4)) (yY (lb_ h108.v O_22 e0 hst R2) (yY (yLen SL_22 e0 hst rO1) (Ya (iV (x109.length : Int)) e0 (wK k54 (sR fun _ k55 => Ym (iV (x109.length : Int)) e0 ?_)))))))
  obtain ⟨x113, gx113, hM⟩ := bs hM
  obtain ⟨m112, em112, gm112⟩ := mkL_rep gx113 hnil
  refine YH wn rfl (rMk hst SLH_24 e0 gm112) ?_
  intro h111 w hst
  replace hst := (hst.fReps 3 I1 m112).pk 2 [1, 0] rfl
  rw [← em112] at hst
  refine Ya h111.v e0 (wK k55 (sQ fun _ k56 => sR fun _ k57 => Ym h111.v e0 (yY (yLenF SLH_24 e0 hst rO0 R1) (Ym (iV 0) rfl (wK k57 (blockQ fun Q58 qb58 => ?_))))))
  obtain ⟨o4, go4, hM⟩ := bs hM
  have je4_0 : ∀ (x133 : L2) (y132 : List Hdr) (f : FV) (w : World), f 2 = (pB b9) → f 4 = (pB b10) → f 5 = h11.v → f 9 = iV (x109.length : Int) → f 10 = h111.v → St w0 ros (box b9 28 [h2.v, h4.v, h6.v] :: row 3 I1 h108.v x109 :: box b10 28 [hnil.v, h108.v, hnil.v] :: row 3 I1 h11.v x110 :: row 22 rH h111.v y132 :: fam 3 I1 y132 x133 :: rs) w → x133 = o4 → Q58 (.exit 2) (fr 200 f) w := by
   intro x133 y132 f w eje4_0_2 eje4_0_4 eje4_0_5 eje4_0_9 eje4_0_10 hst ho
   subst ho
   refine qb58 _ _ _ (k56 _ _ (sQ fun _ k69 => sR fun _ k70 => yY (yFb FL_28_0 (eh eje4_0_2)) (yY (yFb FL_26_0 e0) (yY (lb_ h2.v O_24 e0 hst R0) (yY (yLen SL_24 e0 hst (rdI q1)) (Ym (iV 0) rfl (wK k70 (blockQ fun Q71 qb71 => ?_))))))))
   obtain ⟨o7, go7, hM⟩ := bs hM
   have je7_0 : ∀ (x226 : L2) (f : FV) (w : World), f 4 = (pB b10) → f 5 = h11.v → f 9 = iV (x109.length : Int) → f 10 = h111.v → St w0 ros (row 3 I1 h108.v x109 :: box b10 28 [hnil.v, h108.v, hnil.v] :: row 3 I1 h11.v x110 :: row 22 rH h111.v y132 :: fam 3 I1 y132 x226 :: rs) w → x226 = o7 → Q71 (.exit 4) (fr 200 f) w := by
    intro x226 f w eje7_0_4 eje7_0_5 eje7_0_9 eje7_0_10 hst ho
    subst ho
    refine qb71 _ _ _ (k69 _ _ (sQ fun _ k116 => ?_))
    obtain ⟨x229, gx229, hM⟩ := bs hM
    obtain ⟨x232, gx232, hM⟩ := bs hM
    refine joinN (n := 200) (fun f w => ∃ (h233 : Hdr) (y234 : List Hdr) (h235 : Hdr) (y236 : List Hdr), f 4 = (pB b10) ∧ f 5 = h11.v ∧ f 10 = h111.v ∧ St w0 ros (row 22 rH h233.v y234 :: fam 3 I1 y234 x229 :: row 3 I1 h108.v x109 :: row 22 rH h235.v y236 :: fam 3 I1 y236 x232 :: box b10 28 [h233.v, h108.v, h235.v] :: row 3 I1 h11.v x110 :: row 22 rH h111.v y132 :: fam 3 I1 y132 x226 :: rs) w) (fun j8 => ?_) ?_
    ·refine dR [0, 1, 0, 4, 3, 19, 51, 127, 255] [1, 3, 6, 8] 4 folM ?_
     replace hst := hst.drew
     refine Dn [0, 2] [] [1, 3] (yR rfl (m_ (iV (x109.length : Int)) (eh eje7_0_9)) (yR rfl (m_ (iV (x109.length : Int)) (eh eje7_0_9)) (Rn QSn ?_)))
     refine Lc rfl ?_ (Lc1 rfl ?_)
     ·obtain ⟨m228, em228, gm228⟩ := mkL_rep gx229 hnil
      refine LH wn (rMk hst SLH_24 e0 gm228) ?_
      intro h227 w hst
      replace hst := (hst.fReps 3 I1 m228).pk 2 [1, 0] rfl
      rw [← em228] at hst
      refine Dn [4, 5] [2] [3, 6] (yR rfl (yFb FL_28_0 (eh eje7_0_4)) (yR rfl (yFb FL_26_0 e0) (Rn (yS rfl (m_ (iV (x109.length : Int)) (eh eje7_0_9)) QSn) ?_)))
      refine Lc rfl ?_ (Lc1 rfl ?_)
      ·obtain ⟨m231, em231, gm231⟩ := mkL_rep gx232 hnil
       refine LH wn (rMk hst SLH_24 e0 gm231) ?_
       intro h230 w hst
       replace hst := (hst.fReps 3 I1 m231).pk 2 [1, 0] rfl
       rw [← em231] at hst
       refine Dn [] [4, 5] [6] (Rn (yS rfl (yFb FL_28_0 (eh eje7_0_4)) (yS rfl (yFb FL_26_0 e0) QSn)) ?_)
       refine Lc1 rfl ?_
       replace hst := hst.pk 6 [5, 0, 0, 0, 0, 0] rfl
       refine LT wn (r_stb1 (vals' := [h227.v, h108.v, hnil.v]) hst O_24 e0 e0 rfl rfl rfl rfl) ?_
       intro w hst
       refine Dn [7] [] [8] (yR rfl (yFb FL_28_2 (eh eje7_0_4)) (Rn QSn ?_))
       refine Lc1 rfl ?_
       refine LT wn (r_stb1 (vals' := [h227.v, h108.v, h230.v]) hst O_24 e0 e0 rfl rfl rfl rfl) ?_
       intro w hst
       exact Dz [] [] (Rn QSn (j8 _ _ ⟨_, _, _, _, eje7_0_4, eje7_0_5, eje7_0_10, (hst.pk 9 [3, 3, 3, 1, 1, 0, 0, 0, 0] rfl)⟩))
      ·replace hst := hst.pk 4 [3, 0, 0, 0] rfl
       refine LT wn (r_stb1 (vals' := [h227.v, h108.v, hnil.v]) hst O_24 e0 e0 rfl rfl rfl rfl) ?_
       intro w hst
       refine Dn [] [2] [3] (Rn (yS rfl (m_ (iV (x109.length : Int)) (eh eje7_0_9)) QSn) ?_)
       refine Lc1 rfl ?_
       obtain ⟨m231, em231, gm231⟩ := mkL_rep gx232 hnil
       refine LH wn (rMk hst SLH_24 e0 gm231) ?_
       intro h230 w hst
       replace hst := (hst.fReps 3 I1 m231).pk 2 [1, 0] rfl
       rw [← em231] at hst
       refine Dn [7] [] [8] (yR rfl (yFb FL_28_2 (eh eje7_0_4)) (Rn QSn ?_))
       refine Lc1 rfl ?_
       replace hst := hst.pk 3 [2, 0, 0] rfl
       refine LT wn (r_stb1 (vals' := [h227.v, h108.v, h230.v]) hst O_24 e0 e0 rfl rfl rfl rfl) ?_
       intro w hst
       exact Dz [] [] (Rn QSn (j8 _ _ ⟨_, _, _, _, eje7_0_4, eje7_0_5, eje7_0_10, (hst.pk 9 [3, 3, 3, 1, 1, 0, 0, 0, 0] rfl)⟩))
     ·obtain ⟨m231, em231, gm231⟩ := mkL_rep gx232 hnil
      refine LH wn (rMk hst SLH_24 e0 gm231) ?_
      intro h230 w hst
      replace hst := (hst.fReps 3 I1 m231).pk 2 [1, 0] rfl
      rw [← em231] at hst
      refine Dn [] [0] [1] (Rn (yS rfl (m_ (iV (x109.length : Int)) (eh eje7_0_9)) QSn) ?_)
      refine Lc1 rfl ?_
      obtain ⟨m228, em228, gm228⟩ := mkL_rep gx229 hnil
      refine LH wn (rMk hst SLH_24 e0 gm228) ?_
      intro h227 w hst
      replace hst := (hst.fReps 3 I1 m228).pk 2 [1, 0] rfl
      rw [← em228] at hst
      refine Dn [4, 5] [] [6] (yR rfl (yFb FL_28_0 (eh eje7_0_4)) (yR rfl (yFb FL_26_0 e0) (Rn QSn ?_)))
      refine Lc1 rfl ?_
      replace hst := hst.pk 6 [5, 0, 0, 0, 0, 0] rfl
      refine LT wn (r_stb1 (vals' := [h227.v, h108.v, hnil.v]) hst O_24 e0 e0 rfl rfl rfl rfl) ?_
      intro w hst
      refine Dn [7] [] [8] (yR rfl (yFb FL_28_2 (eh eje7_0_4)) (Rn QSn ?_))
      refine Lc1 rfl ?_
      refine LT wn (r_stb1 (vals' := [h227.v, h108.v, h230.v]) hst O_24 e0 e0 rfl rfl rfl rfl) ?_
      intro w hst
      exact Dz [] [] (Rn QSn (j8 _ _ ⟨_, _, _, _, eje7_0_4, eje7_0_5, eje7_0_10, (hst.pk 9 [1, 1, 3, 1, 1, 0, 0, 0, 0] rfl)⟩))
    rintro f w ⟨h233, y234, h235, y236, e237_4, e237_5, e237_10, hst⟩
    refine k116 _ _ (seqQ fun Q117 k117 z117 => sR fun _ k118 => Ym h111.v (eh e237_10) (yY (yLenF SLH_24 e0 hst rO7 R8) (Ym (iV 0) rfl (wK k118 (blockQ fun Q119 qb119 => ?_)))))
    replace hst := hst.pk 9 [7, 7, 0, 0, 0, 0, 0, 0, 0] rfl
    replace hst := hst.ffz
    obtain ⟨o35, go35, hM⟩ := bs hM
    have je35_0 : ∀ (x549 x551 : L2) (y548 y550 : List Hdr) (f : FV) (w : World), f 4 = (pB b10) → f 5 = h11.v → St w0 ros (row 22 rH h233.v y548 :: fam 3 I1 y548 x549 :: row 3 I1 h108.v x109 :: row 22 rH h235.v y550 :: fam 3 I1 y550 x551 :: box b10 28 [h233.v, h108.v, h235.v] :: row 3 I1 h11.v x110 :: rs) w → .inl (x549, x551) = o35 → Q119 (.exit 8) (fr 200 f) w := by
     intro x549 x551 y548 y550 f w eje35_0_4 eje35_0_5 hst ho
     subst ho
     refine qb119 _ _ _ (k117 _ _ (seqQ fun Q176 k176 z176 => sR fun _ k177 => yY (yFb FL_28_1 (eh eje35_0_4)) (yY (lb_ h108.v O_22 e0 hst R5) ?_)))
     obtain ⟨r552, gr552, hM⟩ := bs hM
     replace hst := hst.pk 3 [2, 0, 0] rfl
     replace hst := hst.fz
     refine Yc wn rfl (yCall FN_52 (a1 e0)) (dissect_weights_ok gr552 F0 hst) ?_
     rintro _ w ⟨rfl, hst⟩
     refine ⟨_, rfl, ?_⟩
     refine yY (ynot e0) (wK k177 ?_)
     rcases iteS hM with ⟨c553, hM⟩ | ⟨c553, hM⟩
     ·refine condF e0 (nF c553) (wp_skip (k176 _ _ (sR fun _ k178 => yY (lbs_ [h233.v, h108.v, h235.v] ST_28 (eh eje35_0_4) hst R4) (Ym h11.v (eh eje35_0_5) ?_))))
      replace hst := hst.pk 5 [4, 0, 0, 0, 0] rfl
      refine YT wn rfl (r_stbn (vals' := [h233.v, h108.v, h235.v]) (us := [h233.v, h108.v, h235.v]) hst ST_28 (eh eje35_0_4) e0 rfl rfl (one_of rfl) rfl) ?_
      intro w hst
      refine Ya h11.v e0 (Ya (.bool true) rfl (wK k178 (wp_ret ?_)))
      obtain rfl := someI hM
      exact hQ _ _ _ (fin3r Tryz.results42 (rcs2 rfl eje35_0_4 hst R0 ST_28 rfl) ⟨rfl, rfl⟩ ⟨rfl, rfl⟩ ⟨_, _, _, _, _, _, rfl, (hst.pk 6 [1, 1, 1, 1, 1] rfl)⟩)
     ·refine condT e0 (nT (bfalse c553)) (sR fun _ k179 => yY (ybuild (us := [hnil.v, hnil.v, hnil.v]) [] SO_28 bp0 rfl) ?_)
      replace hst := hst.pk 5 [4, 0, 0, 0, 0] rfl
      refine YT wn rfl (r_stbn (vals' := [hnil.v, hnil.v, hnil.v]) (us := [hnil.v, hnil.v, hnil.v]) hst ST_28 (eh eje35_0_4) e0 rfl rfl (one_of rfl) rfl) ?_
      intro w hst
      refine Ya hnil.v rfl (Ya (.bool false) rfl (wK k179 (wp_ret (z176 _ _ _ rfl ?_))))
      obtain rfl := someI hM
      replace hst := ((hst.rowNh 22 rH).fNew 3 I1).pk 2 [1, 0] rfl
      replace hst := hst.immNh I1
      replace hst := ((hst.rowNh 22 rH).fNew 3 I1).pk 2 [1, 0] rfl
      replace hst := hst.rowNh 3 I1
      exact hQ _ _ _ (fin3r Tryz.results42 (rcs2 rfl eje35_0_4 hst R5 ST_28 rfl) ⟨rfl, rfl⟩ ⟨rfl, rfl⟩ ⟨_, _, _, _, _, _, rfl, ((hst.pk 11 [3, 3, 1, 1, 0] rfl).facts (allC F0 (allT (allT allI))))⟩)
    have je35_1 : ∀ (f : FV) (w : World), f 4 = (pB b10) → f 5 = hnil.v → f 6 = .bool false → St w0 ros (box b10 28 [hnil.v, hnil.v, hnil.v] :: rs) w → .inr () = o35 → Q119 .ret (fr 200 f) w := by
     intro f w eje35_1_4 eje35_1_5 eje35_1_6 hst ho
     subst ho
     refine qb119 _ _ _ (z117 _ _ _ rfl ?_)
     obtain rfl := someI hM
     replace hst := ((hst.rowNh 22 rH).fNew 3 I1).pk 2 [1, 0] rfl
     replace hst := hst.immNh I1
     replace hst := ((hst.rowNh 22 rH).fNew 3 I1).pk 2 [1, 0] rfl
     replace hst := hst.rowNh 3 I1
     exact hQ _ _ _ (fin3r Tryz.results42 (rcs2 rfl eje35_1_4 hst R5 ST_28 rfl) ⟨rfl, eje35_1_5⟩ ⟨rfl, eje35_1_6⟩ ⟨_, _, _, _, _, _, rfl, (hst.pk 6 [3, 3, 1, 1, 0] rfl)⟩)
    refine loopQ (fun s a w => ∃ (x389 x391 : L2) (x392 : Int) (f : FV) (y388 y390 : List Hdr), (x389, x391, x392) = s ∧ a = fr 200 f ∧ f 4 = (pB b10) ∧ f 5 = h11.v ∧ f 136 = h111.v ∧ f 137 = iV (x226.length : Int) ∧ f 138 = iV x392 ∧ St w0 (imm S1 h111.v x226 :: ros) (row 22 rH h233.v y388 :: fam 3 I1 y388 x389 :: row 3 I1 h108.v x109 :: row 22 rH h235.v y390 :: fam 3 I1 y390 x391 :: box b10 28 [h233.v, h108.v, h235.v] :: row 3 I1 h11.v x110 :: rs) w) go35 ⟨_, _, _, _, _, _, rfl, rfl, e237_4, e237_5, rfl, rfl, rfl, hst⟩ ?_
    rintro _ _ w r35_ ⟨x389, x391, x392, f, y388, y390, rfl, rfl, e35_4, e35_5, e35_136, e35_137, e35_138, hst⟩ hM35 ho35 Q100035 n35 zz35
    refine sR fun _ k180 => yY (ylss (eh e35_138) (eh e35_137)) (wK k180 (seqQ fun Q181 k181 z181 => ?_))
    rcases iteS hM35 with ⟨c554, hM35⟩ | ⟨c554, hM35⟩
    ·refine cT e0 c554 (wp_skip (k181 _ _ (seqQ fun Q182 k182 z182 => blockQ fun _ qb183 => sR fun _ k184 => Ym (iV x392) (eh e35_138) ?_)))
     obtain ⟨x555, gx555, hM35⟩ := bs hM35
     refine yY (yIa SL_24 (eh e35_136) (eh e35_138) hst (rdI F0) gx555) ?_
     obtain ⟨h556, hst⟩ := iLs hst F0 gx555
     refine yY (yCt O_22 e0 hst F1 rfl) (Ya (iV x392) e0 (Ya h556.v e0 (wK k184 (sQ fun _ k185 => sR fun _ k186 => Ym h556.v e0 (yY (yLen SL_22 e0 hst (rdI F0)) (Ym (iV 0) rfl (wK k186 (blockQ fun Q187 qb187 => ?_))))))))
     obtain ⟨o44, go44, hM35⟩ := bs hM35
     have je44_0 : ∀ (x654 x656 : L2) (y653 y655 : List Hdr) (f : FV) (w : World), f 4 = (pB b10) → f 5 = h11.v → f 16 = iV x392 → f 136 = h111.v → f 137 = iV (x226.length : Int) → f 138 = iV x392 → St w0 (imm S1 h111.v x226 :: ros) (row 22 rH h233.v y653 :: fam 3 I1 y653 x654 :: row 3 I1 h108.v x109 :: row 22 rH h235.v y655 :: fam 3 I1 y655 x656 :: box b10 28 [h233.v, h108.v, h235.v] :: row 3 I1 h11.v x110 :: rs) w → (x654, x656) = o44 → Q187 (.exit 10) (fr 200 f) w := by
      intro x654 x656 y653 y655 f w eje44_0_4 eje44_0_5 eje44_0_16 eje44_0_136 eje44_0_137 eje44_0_138 hst ho
      subst ho
      refine qb187 _ _ _ (k185 _ _ (sR fun _ k200 => yY (yFb FL_28_2 (eh eje44_0_4)) (yY (lb_ h235.v O_24 e0 hst R5) (Ym (iV x392) (eh eje44_0_16) ?_))))
      obtain ⟨x657, gx657, hM35⟩ := bs hM35
      obtain ⟨h658, gh658⟩ := hst.famI R4 gx657
      refine yY (yIa SLH_24 e0 e0 hst rO3 gh658) (yY (yF1 O_22 e0 hst rO3 gh658 rfl) ?_)
      obtain ⟨r659, gr659, hM35⟩ := bs hM35
      have hgu := hst.guest1 (rdF (mtR (mtR (mtR (mtR mhR)))) gh658 gx657)
      refine Yc wn rfl (yCall FN_52 (a1 e0)) (dissect_weights_ok gr659 F0 hgu) ?_
      clear hgu
      rintro _ w ⟨rfl, hgu⟩
      replace hst := hst.back hgu
      clear hgu
      refine ⟨_, rfl, ?_⟩
      refine yY (ynot e0) (wK k200 ?_)
      rcases iteS hM35 with ⟨c660, hM35⟩ | ⟨c660, hM35⟩
      ·refine condF e0 (nF c660) (wp_skip (qb183 _ _ _ (k182 _ _ (wR (yY (yadd (eh eje44_0_138) rfl) (Ym (iV (wa .i64 x392 1)) e0 (wN ?_)))))))
       obtain rfl := someI hM35
       exact n35 _ _ _ rfl ⟨_, _, _, _, _, _, rfl, rfl, eje44_0_4, eje44_0_5, eje44_0_136, eje44_0_137, rfl, hst⟩
      ·refine condT e0 (nT (bfalse c660)) (sR fun _ k201 => yY (ybuild (us := [hnil.v, hnil.v, hnil.v]) [] SO_28 bp0 rfl) ?_)
       replace hst := hst.pk 6 [5, 0, 0, 0, 0, 0] rfl
       refine YT wn rfl (r_stbn (vals' := [hnil.v, hnil.v, hnil.v]) (us := [hnil.v, hnil.v, hnil.v]) hst ST_28 (eh eje44_0_4) e0 rfl rfl (one_of rfl) rfl) ?_
       intro w hst
       refine Ya hnil.v rfl (Ya (.bool false) rfl (wK k201 (wp_ret (qb183 _ _ _ (z182 _ _ _ rfl ?_)))))
       obtain rfl := someI hM35
       exact zz35 _ _ _ _ rfl rfl (je35_1 _ _ eje44_0_4 rfl rfl ((hst.pk 7 [0] rfl).facts (allT allI)) (ho35 _ rfl))
     refine loopQ (fun s a w => ∃ (x601 x603 : L2) (x604 : Int) (f : FV) (y600 y602 : List Hdr), (x601, x603, x604) = s ∧ a = fr 200 f ∧ f 4 = (pB b10) ∧ f 5 = h11.v ∧ f 16 = iV x392 ∧ f 136 = h111.v ∧ f 137 = iV (x226.length : Int) ∧ f 138 = iV x392 ∧ f 143 = h556.v ∧ f 144 = iV (x555.length : Int) ∧ f 145 = iV x604 ∧ St w0 (imm S1 h111.v x226 :: imm I1 h556.v x555 :: ros) (row 22 rH h233.v y600 :: fam 3 I1 y600 x601 :: row 3 I1 h108.v x109 :: row 22 rH h235.v y602 :: fam 3 I1 y602 x603 :: box b10 28 [h233.v, h108.v, h235.v] :: row 3 I1 h11.v x110 :: rs) w) go44 ⟨_, _, _, _, _, _, rfl, rfl, e35_4, e35_5, rfl, e35_136, e35_137, e35_138, rfl, rfl, rfl, (hst.facts (allC F2 (allC F0 (allT (allT (allT allI))))))⟩ ?_
     rintro _ _ w r44_ ⟨x601, x603, x604, f, y600, y602, rfl, rfl, e44_4, e44_5, e44_16, e44_136, e44_137, e44_138, e44_143, e44_144, e44_145, hst⟩ hM44 ho44 Q100044 n44 zz44
     refine sR fun _ k202 => yY (ylss (eh e44_145) (eh e44_144)) (wK k202 (seqQ fun Q203 k203 z203 => ?_))
     rcases iteS hM44 with ⟨c661, hM44⟩ | ⟨c661, hM44⟩
     ·refine cT e0 c661 (wp_skip (k203 _ _ (sQ fun _ k204 => blockQ fun Q205 qb205 => sR fun _ k206 => Ym (iV x604) (eh e44_145) ?_)))
      obtain ⟨x662, gx662, hM44⟩ := bs hM44
      refine yY (yIa SL_22 (eh e44_143) (eh e44_145) hst (rdI F1) gx662) (yY (yI O_3 e0 hst (rdI F1) gx662) (Ya (iV x604) e0 (Ya (iV x662) e0 (wK k206 (sR fun _ k207 => Ym (iV x392) (eh e44_16) (Ym (iV x604) e0 (yY (yneq e0 e0) (Ym (.bool (!(decide (x392 = x604)))) e0 ?_))))))))
      refine joinW 3 (fun f w => f 4 = (pB b10) ∧ f 5 = h11.v ∧ f 16 = iV x392 ∧ f 18 = iV x604 ∧ f 19 = iV x662 ∧ f 136 = h111.v ∧ f 137 = iV (x226.length : Int) ∧ f 138 = iV x392 ∧ f 143 = h556.v ∧ f 144 = iV (x555.length : Int) ∧ f 145 = iV x604 ∧ f 156 = .bool ((!(decide (x392 = x604))) && (decide ((0 : Int) < x662))) ∧ St w0 (imm S1 h111.v x226 :: imm I1 h556.v x555 :: ros) (row 22 rH h233.v y600 :: fam 3 I1 y600 x601 :: row 3 I1 h108.v x109 :: row 22 rH h235.v y602 :: fam 3 I1 y602 x603 :: box b10 28 [h233.v, h108.v, h235.v] :: row 3 I1 h11.v x110 :: rs) w) (fun j45 => ?_) ?_
      ·rcases Bool.eq_false_or_eq_true (!(decide (x392 = x604))) with c664 | c664
       ·exact yG c664 (m_ (iV x662) e0) (yG c664 (ygtr e0 rfl) (yY (pt_ (.bool (decide ((0 : Int) < x662))) e0 c664 e0) (j45 _ _ ⟨e44_4, e44_5, e44_16, rfl, rfl, e44_136, e44_137, e44_138, e44_143, e44_144, e44_145, (congrArg Value.bool (andT c664)), hst⟩)))
       ·exact gN c664 (gN c664 (yY (pf_ (.bool false) e0 c664 rfl) (j45 _ _ ⟨e44_4, e44_5, e44_16, rfl, rfl, e44_136, e44_137, e44_138, e44_143, e44_144, e44_145, (congrArg Value.bool (andF c664)), hst⟩)))
      rintro f w ⟨e663_4, e663_5, e663_16, e663_18, e663_19, e663_136, e663_137, e663_138, e663_143, e663_144, e663_145, e663_156, hst⟩
      refine wK k207 ?_
      have j47 : ∀ (x683 x685 : L2) (y682 y684 : List Hdr) (f : FV) (w : World), f 4 = (pB b10) → f 5 = h11.v → f 16 = iV x392 → f 136 = h111.v → f 137 = iV (x226.length : Int) → f 138 = iV x392 → f 143 = h556.v → f 144 = iV (x555.length : Int) → f 145 = iV x604 → St w0 (imm S1 h111.v x226 :: imm I1 h556.v x555 :: ros) (row 22 rH h233.v y682 :: fam 3 I1 y682 x683 :: row 3 I1 h108.v x109 :: row 22 rH h235.v y684 :: fam 3 I1 y684 x685 :: box b10 28 [h233.v, h108.v, h235.v] :: row 3 I1 h11.v x110 :: rs) w → dissect_coarsen_j47 x604 x683 x685 = some r44_ → Q205 .normal (fr 200 f) w := by
       intro x683 x685 y682 y684 f w ej47_4 ej47_5 ej47_16 ej47_136 ej47_137 ej47_138 ej47_143 ej47_144 ej47_145 hst hM
       refine qb205 _ _ _ (k204 _ _ (wR (yY (yadd (eh ej47_145) rfl) (Ym (iV (wa .i64 x604 1)) e0 (wN ?_)))))
       obtain rfl := someI hM
       exact n44 _ _ _ rfl ⟨_, _, _, _, _, _, rfl, rfl, ej47_4, ej47_5, ej47_16, ej47_136, ej47_137, ej47_138, ej47_143, ej47_144, rfl, hst⟩
      rcases iteS hM44 with ⟨c686, hM44⟩ | ⟨c686, hM44⟩
      ·refine condT (eh e663_156) c686 ?_
       obtain ⟨x687, gx687, hM44⟩ := bs hM44
       obtain ⟨x691, gx691, hM44⟩ := bs hM44
       obtain ⟨x692, gx692, hM44⟩ := bs hM44
       obtain ⟨x696, gx696, hM44⟩ := bs hM44
       obtain ⟨x697, gx697, hM44⟩ := bs hM44
       obtain ⟨x699, gx699, hM44⟩ := bs hM44
       refine joinN (n := 200) (fun f w => ∃ (y701 y702 : List Hdr), f 4 = (pB b10) ∧ f 5 = h11.v ∧ f 16 = iV x392 ∧ f 136 = h111.v ∧ f 137 = iV (x226.length : Int) ∧ f 138 = iV x392 ∧ f 143 = h556.v ∧ f 144 = iV (x555.length : Int) ∧ f 145 = iV x604 ∧ St w0 (imm S1 h111.v x226 :: imm I1 h556.v x555 :: ros) (row 22 rH h233.v y701 :: fam 3 I1 y701 x697 :: row 3 I1 h108.v x109 :: row 22 rH h235.v y702 :: fam 3 I1 y702 x699 :: box b10 28 [h233.v, h108.v, h235.v] :: row 3 I1 h11.v x110 :: rs) w) (fun j48 => ?_) ?_
       ·refine dR [0, 1, 3, 0, 0, 16, 0, 0, 128, 384, 0, 1920, 3968, 0, 8192, 32640, 0, 65536, 0, 458752, 983040, 0, 2097152, 8388480, 16777103, 33554319, 67108863, 134217727] [14, 15, 22, 23, 25, 27] 6 folM ?_
        replace hst := hst.drew
        refine Dn [0, 1, 2, 3, 4, 5, 6, 7, 8, 9, 10, 11, 12, 13, 16, 17, 18, 19, 20, 21] [] [14, 22] (yR rfl (yFb FL_28_0 (eh e663_4)) (yR rfl (yFb FL_26_0 e0) (yR rfl (lb_ h233.v O_24 e0 hst R5) (yR rfl (m_ (iV x392) (eh e663_16)) (yR rfl (yFb FL_28_2 (eh e663_4)) (yR rfl (lb_ h235.v O_24 e0 hst R5) (yR rfl (m_ (iV x392) (eh e663_16)) (yR rfl (yFb FL_28_0 (eh e663_4)) (yR rfl (yFb FL_26_0 e0) (yR rfl (lb_ h233.v O_24 e0 hst R5) (yR rfl (m_ (iV x392) (eh e663_16)) ?_)))))))))))
        obtain ⟨h688, gh688⟩ := hst.famI R1 gx687
        refine yR rfl (yIa SLH_24 e0 e0 hst rO0 gh688) (yR rfl (yF1 O_22 e0 hst rO0 gh688 rfl) (yR rfl (m_ (iV x604) (eh e663_18)) (yR rfl (yFb FL_28_2 (eh e663_4)) (yR rfl (lb_ h235.v O_24 e0 hst R5) (yR rfl (m_ (iV x392) (eh e663_16)) ?_)))))
        obtain ⟨h693, gh693⟩ := hst.famI R4 gx692
        refine yR rfl (yIa SLH_24 e0 e0 hst rO3 gh693) (yR rfl (yF1 O_22 e0 hst rO3 gh693 rfl) (yR rfl (m_ (iV x662) (eh e663_19)) (Rn QSn ?_)))
        refine Lc rfl ?_ (Lc1 rfl ?_)
        ·refine LH wn (rLt (n := 1) (l := [x604]) hst SL_22 [iV x604] (bp1 e0) rfl rfl (mks1 (cs := [iV x604]) rfl mkI mks0)) ?_
         intro h689 w hst
         refine Dn [] [0, 1, 2, 3, 4, 5, 6, 7, 8, 9, 10, 11, 12, 16, 17, 18, 19, 20, 21] [15, 22] (Rn (yS rfl (yFb FL_28_0 (eh e663_4)) (yS rfl (yFb FL_26_0 e0) (yS rfl (lb_ h233.v O_24 e0 hst R6) (yS rfl (m_ (iV x392) (eh e663_16)) (yS rfl (yFb FL_28_2 (eh e663_4)) (yS rfl (lb_ h235.v O_24 e0 hst R6) (yS rfl (m_ (iV x392) (eh e663_16)) (yS rfl (yFb FL_28_0 (eh e663_4)) (yS rfl (yFb FL_26_0 e0) (yS rfl (lb_ h233.v O_24 e0 hst R6) (yS rfl (m_ (iV x392) (eh e663_16)) (yS rfl (yIa SLH_24 e0 e0 hst rO1 gh688) (yS rfl (yF1 O_22 e0 hst rO1 gh688 rfl) (yS rfl (yFb FL_28_2 (eh e663_4)) (yS rfl (lb_ h235.v O_24 e0 hst R6) (yS rfl (m_ (iV x392) (eh e663_16)) (yS rfl (yIa SLH_24 e0 e0 hst rO4 gh693) (yS rfl (yF1 O_22 e0 hst rO4 gh693 rfl) (yS rfl (m_ (iV x662) (eh e663_19)) QSn))))))))))))))))))) ?_)
         refine Lc rfl ?_ (Lc1 rfl ?_)
         ·replace hst := hst.pk 3 [2, 0, 0] rfl
          replace hst := hst.foc gh688 gx687
          refine LH wn (rAp hst SL_22 e0 e0 rO2 gx691) ?_
          intro h690 w hst
          refine Dn [] [0, 1, 2, 3, 4, 5, 6, 16, 17, 18, 19, 20, 21] [22] (Rn (yS rfl (yFb FL_28_0 (eh e663_4)) (yS rfl (yFb FL_26_0 e0) (yS rfl (lb_ h233.v O_24 e0 hst R7) (yS rfl (m_ (iV x392) (eh e663_16)) (yS rfl (yFb FL_28_2 (eh e663_4)) (yS rfl (lb_ h235.v O_24 e0 hst R7) (yS rfl (m_ (iV x392) (eh e663_16)) (yS rfl (yFb FL_28_2 (eh e663_4)) (yS rfl (lb_ h235.v O_24 e0 hst R7) (yS rfl (m_ (iV x392) (eh e663_16)) (yS rfl (yIa SLH_24 e0 e0 hst rO5 gh693) (yS rfl (yF1 O_22 e0 hst rO5 gh693 rfl) (yS rfl (m_ (iV x662) (eh e663_19)) QSn))))))))))))) ?_)
          refine Lc1 rfl ?_
          refine LH wn (rLt (n := 1) (l := [x662]) hst SL_22 [iV x662] (bp1 e0) rfl rfl (mks1 (cs := [iV x662]) rfl mkI mks0)) ?_
          intro h694 w hst
          refine Dn [] [0, 1, 2, 3, 4, 5, 6, 16, 17, 18, 19, 20] [23] (Rn (yS rfl (yFb FL_28_0 (eh e663_4)) (yS rfl (yFb FL_26_0 e0) (yS rfl (lb_ h233.v O_24 e0 hst R8) (yS rfl (m_ (iV x392) (eh e663_16)) (yS rfl (yFb FL_28_2 (eh e663_4)) (yS rfl (lb_ h235.v O_24 e0 hst R8) (yS rfl (m_ (iV x392) (eh e663_16)) (yS rfl (yFb FL_28_2 (eh e663_4)) (yS rfl (lb_ h235.v O_24 e0 hst R8) (yS rfl (m_ (iV x392) (eh e663_16)) (yS rfl (yIa SLH_24 e0 e0 hst rO6 gh693) (yS rfl (yF1 O_22 e0 hst rO6 gh693 rfl) QSn)))))))))))) ?_)
          refine Lc1 rfl ?_
          replace hst := hst.pk 8 [7, 0, 0, 0, 0, 0, 0, 0] rfl
          replace hst := hst.foc gh693 gx692
          refine LH wn (rAp hst SL_22 e0 e0 rO2 gx696) ?_
          intro h695 w hst
          refine Dn [24] [0, 1, 2, 3, 4, 5, 6] [25] ?_
          obtain ⟨y698, gy698⟩ := setI_len (u := h690) gx697 (hst.famLx (mtR (mtR (mtR (mtR mhR)))))
          refine yR rfl (yIs SLH_24 e0 e0 hst rO6 gy698) (Rn (yS rfl (yFb FL_28_0 (eh e663_4)) (yS rfl (yFb FL_26_0 e0) (yS rfl (lb_ h233.v O_24 e0 hst R9) (yS rfl (m_ (iV x392) (eh e663_16)) (yS rfl (yFb FL_28_2 (eh e663_4)) (yS rfl (lb_ h235.v O_24 e0 hst R9) (yS rfl (m_ (iV x392) (eh e663_16)) QSn))))))) ?_)
          refine Lc1 rfl ?_
          replace hst := hst.pk 7 [6, 0, 0, 0, 0, 0, 0] rfl
          refine LT wn (r_sti (cs := [h690.v]) hst O_22 rfl e0 e0 rfl (mkF rfl) gy698) ?_
          intro w hst
          replace hst := hst.pk 6 [4, 4, 0, 0, 0, 0] rfl
          replace hst := hst.unfS gh688 gy698 gx697
          refine Dn [26] [4, 5, 6] [27] ?_
          obtain ⟨y700, gy700⟩ := setI_len (u := h695) gx699 (hst.famLx (mtR (mtR (mtR mhR))))
          refine yR rfl (yIs SLH_24 e0 e0 hst rO7 gy700) (Rn (yS rfl (yFb FL_28_2 (eh e663_4)) (yS rfl (lb_ h235.v O_24 e0 hst R8) (yS rfl (m_ (iV x392) (eh e663_16)) QSn))) ?_)
          refine Lc1 rfl ?_
          replace hst := hst.pk 8 [7, 0, 0, 0, 0, 0, 0, 0] rfl
          refine LT wn (r_sti (cs := [h695.v]) hst O_22 rfl e0 e0 rfl (mkF rfl) gy700) ?_
          intro w hst
          replace hst := hst.pk 5 [3, 3, 0, 0, 0] rfl
          replace hst := hst.unfS gh693 gy700 gx699
          exact Dz [] [] (Rn QSn (j48 _ _ ⟨_, _, e663_4, e663_5, e663_16, e663_136, e663_137, e663_138, e663_143, e663_144, e663_145, (hst.pk 9 [3, 2, 4, 1, 0, 2, 2] rfl)⟩))
         ·refine LH wn (rLt (n := 1) (l := [x662]) hst SL_22 [iV x662] (bp1 e0) rfl rfl (mks1 (cs := [iV x662]) rfl mkI mks0)) ?_
          intro h694 w hst
          refine Dn [] [0, 1, 2, 3, 4, 5, 6, 7, 8, 9, 10, 11, 12, 16, 17, 18, 19, 20] [15] (Rn (yS rfl (yFb FL_28_0 (eh e663_4)) (yS rfl (yFb FL_26_0 e0) (yS rfl (lb_ h233.v O_24 e0 hst R7) (yS rfl (m_ (iV x392) (eh e663_16)) (yS rfl (yFb FL_28_2 (eh e663_4)) (yS rfl (lb_ h235.v O_24 e0 hst R7) (yS rfl (m_ (iV x392) (eh e663_16)) (yS rfl (yFb FL_28_0 (eh e663_4)) (yS rfl (yFb FL_26_0 e0) (yS rfl (lb_ h233.v O_24 e0 hst R7) (yS rfl (m_ (iV x392) (eh e663_16)) (yS rfl (yIa SLH_24 e0 e0 hst rO2 gh688) (yS rfl (yF1 O_22 e0 hst rO2 gh688 rfl) (yS rfl (yFb FL_28_2 (eh e663_4)) (yS rfl (lb_ h235.v O_24 e0 hst R7) (yS rfl (m_ (iV x392) (eh e663_16)) (yS rfl (yIa SLH_24 e0 e0 hst rO5 gh693) (yS rfl (yF1 O_22 e0 hst rO5 gh693 rfl) QSn)))))))))))))))))) ?_)
          refine Lc1 rfl ?_
          replace hst := hst.pk 4 [3, 0, 0, 0] rfl
          replace hst := hst.foc gh688 gx687
          refine LH wn (rAp hst SL_22 e0 e0 rO3 gx691) ?_
          intro h690 w hst
          refine Dn [] [0, 1, 2, 3, 4, 5, 6, 16, 17, 18, 19, 20] [23] (Rn (yS rfl (yFb FL_28_0 (eh e663_4)) (yS rfl (yFb FL_26_0 e0) (yS rfl (lb_ h233.v O_24 e0 hst R8) (yS rfl (m_ (iV x392) (eh e663_16)) (yS rfl (yFb FL_28_2 (eh e663_4)) (yS rfl (lb_ h235.v O_24 e0 hst R8) (yS rfl (m_ (iV x392) (eh e663_16)) (yS rfl (yFb FL_28_2 (eh e663_4)) (yS rfl (lb_ h235.v O_24 e0 hst R8) (yS rfl (m_ (iV x392) (eh e663_16)) (yS rfl (yIa SLH_24 e0 e0 hst rO6 gh693) (yS rfl (yF1 O_22 e0 hst rO6 gh693 rfl) QSn)))))))))))) ?_)
          refine Lc1 rfl ?_
          replace hst := hst.pk 8 [7, 0, 0, 0, 0, 0, 0, 0] rfl
          replace hst := hst.foc gh693 gx692
          refine LH wn (rAp hst SL_22 e0 e0 rO4 gx696) ?_
          intro h695 w hst
          refine Dn [24] [0, 1, 2, 3, 4, 5, 6] [25] ?_
          obtain ⟨y698, gy698⟩ := setI_len (u := h690) gx697 (hst.famLx (mtR (mtR (mtR mhR))))
          refine yR rfl (yIs SLH_24 e0 e0 hst rO6 gy698) (Rn (yS rfl (yFb FL_28_0 (eh e663_4)) (yS rfl (yFb FL_26_0 e0) (yS rfl (lb_ h233.v O_24 e0 hst R9) (yS rfl (m_ (iV x392) (eh e663_16)) (yS rfl (yFb FL_28_2 (eh e663_4)) (yS rfl (lb_ h235.v O_24 e0 hst R9) (yS rfl (m_ (iV x392) (eh e663_16)) QSn))))))) ?_)
          refine Lc1 rfl ?_
          replace hst := hst.pk 7 [6, 0, 0, 0, 0, 0, 0] rfl
          refine LT wn (r_sti (cs := [h690.v]) hst O_22 rfl e0 e0 rfl (mkF rfl) gy698) ?_
          intro w hst
          replace hst := hst.pk 5 [3, 3, 0, 0, 0] rfl
          replace hst := hst.unfS gh688 gy698 gx697
          refine Dn [26] [4, 5, 6] [27] ?_
          obtain ⟨y700, gy700⟩ := setI_len (u := h695) gx699 (hst.famLx (mtR (mtR (mtR mhR))))
          refine yR rfl (yIs SLH_24 e0 e0 hst rO7 gy700) (Rn (yS rfl (yFb FL_28_2 (eh e663_4)) (yS rfl (lb_ h235.v O_24 e0 hst R8) (yS rfl (m_ (iV x392) (eh e663_16)) QSn))) ?_)
          refine Lc1 rfl ?_
          replace hst := hst.pk 8 [7, 0, 0, 0, 0, 0, 0, 0] rfl
          refine LT wn (r_sti (cs := [h695.v]) hst O_22 rfl e0 e0 rfl (mkF rfl) gy700) ?_
          intro w hst
          replace hst := hst.pk 5 [3, 3, 0, 0, 0] rfl
          replace hst := hst.unfS gh693 gy700 gx699
          exact Dz [] [] (Rn QSn (j48 _ _ ⟨_, _, e663_4, e663_5, e663_16, e663_136, e663_137, e663_138, e663_143, e663_144, e663_145, (hst.pk 9 [3, 2, 4, 1, 0, 2, 2] rfl)⟩))
        ·refine LH wn (rLt (n := 1) (l := [x662]) hst SL_22 [iV x662] (bp1 e0) rfl rfl (mks1 (cs := [iV x662]) rfl mkI mks0)) ?_
         intro h694 w hst
         refine Dn [] [0, 1, 2, 3, 4, 5, 6, 7, 8, 9, 10, 11, 12, 13, 16, 17, 18, 19, 20] [14] (Rn (yS rfl (yFb FL_28_0 (eh e663_4)) (yS rfl (yFb FL_26_0 e0) (yS rfl (lb_ h233.v O_24 e0 hst R6) (yS rfl (m_ (iV x392) (eh e663_16)) (yS rfl (yFb FL_28_2 (eh e663_4)) (yS rfl (lb_ h235.v O_24 e0 hst R6) (yS rfl (m_ (iV x392) (eh e663_16)) (yS rfl (yFb FL_28_0 (eh e663_4)) (yS rfl (yFb FL_26_0 e0) (yS rfl (lb_ h233.v O_24 e0 hst R6) (yS rfl (m_ (iV x392) (eh e663_16)) (yS rfl (yIa SLH_24 e0 e0 hst rO1 gh688) (yS rfl (yF1 O_22 e0 hst rO1 gh688 rfl) (yS rfl (m_ (iV x604) (eh e663_18)) (yS rfl (yFb FL_28_2 (eh e663_4)) (yS rfl (lb_ h235.v O_24 e0 hst R6) (yS rfl (m_ (iV x392) (eh e663_16)) (yS rfl (yIa SLH_24 e0 e0 hst rO4 gh693) (yS rfl (yF1 O_22 e0 hst rO4 gh693 rfl) QSn))))))))))))))))))) ?_)
         refine Lc1 rfl ?_
         refine LH wn (rLt (n := 1) (l := [x604]) hst SL_22 [iV x604] (bp1 e0) rfl rfl (mks1 (cs := [iV x604]) rfl mkI mks0)) ?_
         intro h689 w hst
         refine Dn [] [0, 1, 2, 3, 4, 5, 6, 7, 8, 9, 10, 11, 12, 16, 17, 18, 19, 20] [15] (Rn (yS rfl (yFb FL_28_0 (eh e663_4)) (yS rfl (yFb FL_26_0 e0) (yS rfl (lb_ h233.v O_24 e0 hst R7) (yS rfl (m_ (iV x392) (eh e663_16)) (yS rfl (yFb FL_28_2 (eh e663_4)) (yS rfl (lb_ h235.v O_24 e0 hst R7) (yS rfl (m_ (iV x392) (eh e663_16)) (yS rfl (yFb FL_28_0 (eh e663_4)) (yS rfl (yFb FL_26_0 e0) (yS rfl (lb_ h233.v O_24 e0 hst R7) (yS rfl (m_ (iV x392) (eh e663_16)) (yS rfl (yIa SLH_24 e0 e0 hst rO2 gh688) (yS rfl (yF1 O_22 e0 hst rO2 gh688 rfl) (yS rfl (yFb FL_28_2 (eh e663_4)) (yS rfl (lb_ h235.v O_24 e0 hst R7) (yS rfl (m_ (iV x392) (eh e663_16)) (yS rfl (yIa SLH_24 e0 e0 hst rO5 gh693) (yS rfl (yF1 O_22 e0 hst rO5 gh693 rfl) QSn)))))))))))))))))) ?_)
         refine Lc1 rfl ?_
         replace hst := hst.pk 4 [3, 0, 0, 0] rfl
         replace hst := hst.foc gh688 gx687
         refine LH wn (rAp hst SL_22 e0 e0 rO2 gx691) ?_
         intro h690 w hst
         refine Dn [] [0, 1, 2, 3, 4, 5, 6, 16, 17, 18, 19, 20] [23] (Rn (yS rfl (yFb FL_28_0 (eh e663_4)) (yS rfl (yFb FL_26_0 e0) (yS rfl (lb_ h233.v O_24 e0 hst R8) (yS rfl (m_ (iV x392) (eh e663_16)) (yS rfl (yFb FL_28_2 (eh e663_4)) (yS rfl (lb_ h235.v O_24 e0 hst R8) (yS rfl (m_ (iV x392) (eh e663_16)) (yS rfl (yFb FL_28_2 (eh e663_4)) (yS rfl (lb_ h235.v O_24 e0 hst R8) (yS rfl (m_ (iV x392) (eh e663_16)) (yS rfl (yIa SLH_24 e0 e0 hst rO6 gh693) (yS rfl (yF1 O_22 e0 hst rO6 gh693 rfl) QSn)))))))))))) ?_)
         refine Lc1 rfl ?_
         replace hst := hst.pk 8 [7, 0, 0, 0, 0, 0, 0, 0] rfl
         replace hst := hst.foc gh693 gx692
         refine LH wn (rAp hst SL_22 e0 e0 rO5 gx696) ?_
         intro h695 w hst
         refine Dn [24] [0, 1, 2, 3, 4, 5, 6] [25] ?_
         obtain ⟨y698, gy698⟩ := setI_len (u := h690) gx697 (hst.famLx (mtR (mtR (mtR mhR))))
         refine yR rfl (yIs SLH_24 e0 e0 hst rO6 gy698) (Rn (yS rfl (yFb FL_28_0 (eh e663_4)) (yS rfl (yFb FL_26_0 e0) (yS rfl (lb_ h233.v O_24 e0 hst R9) (yS rfl (m_ (iV x392) (eh e663_16)) (yS rfl (yFb FL_28_2 (eh e663_4)) (yS rfl (lb_ h235.v O_24 e0 hst R9) (yS rfl (m_ (iV x392) (eh e663_16)) QSn))))))) ?_)
         refine Lc1 rfl ?_
         replace hst := hst.pk 7 [6, 0, 0, 0, 0, 0, 0] rfl
         refine LT wn (r_sti (cs := [h690.v]) hst O_22 rfl e0 e0 rfl (mkF rfl) gy698) ?_
         intro w hst
         replace hst := hst.pk 5 [3, 3, 0, 0, 0] rfl
         replace hst := hst.unfS gh688 gy698 gx697
         refine Dn [26] [4, 5, 6] [27] ?_
         obtain ⟨y700, gy700⟩ := setI_len (u := h695) gx699 (hst.famLx (mtR (mtR (mtR mhR))))
         refine yR rfl (yIs SLH_24 e0 e0 hst rO7 gy700) (Rn (yS rfl (yFb FL_28_2 (eh e663_4)) (yS rfl (lb_ h235.v O_24 e0 hst R8) (yS rfl (m_ (iV x392) (eh e663_16)) QSn))) ?_)
         refine Lc1 rfl ?_
         replace hst := hst.pk 8 [7, 0, 0, 0, 0, 0, 0, 0] rfl
         refine LT wn (r_sti (cs := [h695.v]) hst O_22 rfl e0 e0 rfl (mkF rfl) gy700) ?_
         intro w hst
         replace hst := hst.pk 5 [3, 3, 0, 0, 0] rfl
         replace hst := hst.unfS gh693 gy700 gx699
         exact Dz [] [] (Rn QSn (j48 _ _ ⟨_, _, e663_4, e663_5, e663_16, e663_136, e663_137, e663_138, e663_143, e663_144, e663_145, (hst.pk 9 [3, 2, 4, 1, 0, 2, 2] rfl)⟩))
       rintro f w ⟨y701, y702, e703_4, e703_5, e703_16, e703_136, e703_137, e703_138, e703_143, e703_144, e703_145, hst⟩
       exact j47 _ _ _ _ _ _ e703_4 e703_5 e703_16 e703_136 e703_137 e703_138 e703_143 e703_144 e703_145 hst hM44
      ·exact condF (eh e663_156) (bfalse c686) (wp_skip (j47 _ _ _ _ _ _ e663_4 e663_5 e663_16 e663_136 e663_137 e663_138 e663_143 e663_144 e663_145 hst hM44))
     ·refine cF e0 c661 (wp_exit (z203 _ _ _ rfl ?_))
      obtain rfl := someI hM44
      exact zz44 _ _ _ _ rfl rfl (je44_0 _ _ _ _ _ _ e44_4 e44_5 e44_16 e44_136 e44_137 e44_138 (hst.facts (allC F0 (allT (allT allI)))) (ho44 _ rfl))
    ·refine cF e0 c554 (wp_exit (z181 _ _ _ rfl ?_))
     obtain rfl := someI hM35
     exact zz35 _ _ _ _ rfl rfl (je35_0 _ _ _ _ _ _ e35_4 e35_5 (hst.facts (allT allI)) (ho35 _ rfl))
   refine loopQ (fun s a w => ∃ (x178 : L2) (x179 : Int) (f : FV), (x178, x179) = s ∧ a = fr 200 f ∧ f 2 = (pB b9) ∧ f 4 = (pB b10) ∧ f 5 = h11.v ∧ f 9 = iV (x109.length : Int) ∧ f 10 = h111.v ∧ f 90 = h2.v ∧ f 91 = iV (x1.length : Int) ∧ f 92 = iV x179 ∧ St w0 ros (box b9 28 [h2.v, h4.v, h6.v] :: row 3 I1 h108.v x109 :: box b10 28 [hnil.v, h108.v, hnil.v] :: row 3 I1 h11.v x110 :: row 22 rH h111.v y132 :: fam 3 I1 y132 x178 :: rs) w) go7 ⟨_, _, _, rfl, rfl, eje4_0_2, eje4_0_4, eje4_0_5, eje4_0_9, eje4_0_10, rfl, rfl, rfl, hst⟩ ?_
   rintro _ _ w r7_ ⟨x178, x179, f, rfl, rfl, e7_2, e7_4, e7_5, e7_9, e7_10, e7_90, e7_91, e7_92, hst⟩ hM7 ho7 Q100007 n7 zz7
   refine sR fun _ k208 => yY (ylss (eh e7_92) (eh e7_91)) (wK k208 (seqQ fun Q209 k209 z209 => ?_))
   rcases iteS hM7 with ⟨c704, hM7⟩ | ⟨c704, hM7⟩
   ·refine cT e0 c704 (wp_skip (k209 _ _ (sQ fun _ k210 => blockQ fun _ qb211 => sR fun _ k212 => Ym (iV x179) (eh e7_92) ?_)))
    obtain ⟨x705, gx705, hM7⟩ := bs hM7
    refine yY (yIa SL_24 (eh e7_90) (eh e7_92) hst (rdI q1) gx705) ?_
    obtain ⟨h706, hst⟩ := iLs hst q1 gx705
    refine yY (yCt O_22 e0 hst F1 rfl) (Ya (iV x179) e0 (Ya h706.v e0 (wK k212 (sR fun _ k213 => Ym h706.v e0 (yY (yLen SL_22 e0 hst (rdI F0)) (Ym (iV 0) rfl (wK k213 (blockQ fun Q214 qb214 => ?_))))))))
    obtain ⟨o49, go49, hM7⟩ := bs hM7
    have je49_0 : ∀ (x735 : L2) (f : FV) (w : World), f 2 = (pB b9) → f 4 = (pB b10) → f 5 = h11.v → f 9 = iV (x109.length : Int) → f 10 = h111.v → f 90 = h2.v → f 91 = iV (x1.length : Int) → f 92 = iV x179 → St w0 ros (box b9 28 [h2.v, h4.v, h6.v] :: row 3 I1 h108.v x109 :: box b10 28 [hnil.v, h108.v, hnil.v] :: row 3 I1 h11.v x110 :: row 22 rH h111.v y132 :: fam 3 I1 y132 x735 :: rs) w → x735 = o49 → Q214 (.exit 6) (fr 200 f) w := by
     intro x735 f w eje49_0_2 eje49_0_4 eje49_0_5 eje49_0_9 eje49_0_10 eje49_0_90 eje49_0_91 eje49_0_92 hst ho
     subst ho
     refine qb214 _ _ _ (qb211 _ _ _ (k210 _ _ (wR (yY (yadd (eh eje49_0_92) rfl) (Ym (iV (wa .i64 x179 1)) e0 (wN ?_))))))
     obtain rfl := someI hM7
     exact n7 _ _ _ rfl ⟨_, _, _, rfl, rfl, eje49_0_2, eje49_0_4, eje49_0_5, eje49_0_9, eje49_0_10, eje49_0_90, eje49_0_91, rfl, hst⟩
    refine loopQ (fun s a w => ∃ (x719 : L2) (x720 : Int) (f : FV), (x719, x720) = s ∧ a = fr 200 f ∧ f 2 = (pB b9) ∧ f 4 = (pB b10) ∧ f 5 = h11.v ∧ f 9 = iV (x109.length : Int) ∧ f 10 = h111.v ∧ f 12 = iV x179 ∧ f 90 = h2.v ∧ f 91 = iV (x1.length : Int) ∧ f 92 = iV x179 ∧ f 97 = h706.v ∧ f 98 = iV (x705.length : Int) ∧ f 99 = iV x720 ∧ St w0 (imm I1 h706.v x705 :: ros) (box b9 28 [h2.v, h4.v, h6.v] :: row 3 I1 h108.v x109 :: box b10 28 [hnil.v, h108.v, hnil.v] :: row 3 I1 h11.v x110 :: row 22 rH h111.v y132 :: fam 3 I1 y132 x719 :: rs) w) go49 ⟨_, _, _, rfl, rfl, e7_2, e7_4, e7_5, e7_9, e7_10, rfl, e7_90, e7_91, e7_92, rfl, rfl, rfl, (hst.facts (allC F0 (allT (allT allI))))⟩ ?_
    rintro _ _ w r49_ ⟨x719, x720, f, rfl, rfl, e49_2, e49_4, e49_5, e49_9, e49_10, e49_12, e49_90, e49_91, e49_92, e49_97, e49_98, e49_99, hst⟩ hM49 ho49 Q100049 n49 zz49
    refine sR fun _ k225 => yY (ylss (eh e49_99) (eh e49_98)) (wK k225 (seqQ fun Q226 k226 z226 => ?_))
    rcases iteS hM49 with ⟨c736, hM49⟩ | ⟨c736, hM49⟩
    ·refine cT e0 c736 (wp_skip (k226 _ _ (sQ fun _ k227 => blockQ fun _ qb228 => sR fun _ k229 => Ym (iV x720) (eh e49_99) ?_)))
     obtain ⟨x737, gx737, hM49⟩ := bs hM49
     refine yY (yIa SL_22 (eh e49_97) (eh e49_99) hst (rdI F0) gx737) (yY (yI O_3 e0 hst (rdI F0) gx737) (Ya (iV x720) e0 (Ya (iV x737) e0 (wK k229 ?_))))
     obtain ⟨x738, gx738, hM49⟩ := bs hM49
     obtain ⟨x739, gx739, hM49⟩ := bs hM49
     obtain ⟨x741, gx741, hM49⟩ := bs hM49
     obtain ⟨x742, gx742, hM49⟩ := bs hM49
     obtain ⟨x743, gx743, hM49⟩ := bs hM49
     obtain ⟨x745, gx745, hM49⟩ := bs hM49
     obtain ⟨x746, gx746, hM49⟩ := bs hM49
     obtain ⟨x747, gx747, hM49⟩ := bs hM49
     refine dR [0, 0, 0, 6, 14, 31, 63, 0, 0, 384, 896, 2047, 4095, 0, 8192, 0, 57344, 122880, 0, 516096, 1040384, 2097151, 4194303, 8388607] [23] 1 folM ?_
     replace hst := hst.drew
     refine Dn [0, 1, 2, 3, 4, 5, 6, 7, 8, 9, 10, 11, 12, 13, 14, 15, 16, 17, 18, 19, 20, 21, 22] [] [23] (yR rfl (m_ h111.v (eh e49_10)) (yR rfl (m_ h11.v (eh e49_5)) (yR rfl (m_ (iV x179) (eh e49_12)) (yR rfl (yIa SL_22 e0 e0 hst rO3 gx738) (yR rfl (yI O_3 e0 hst rO3 gx738) ?_)))))
     obtain ⟨h740, gh740⟩ := hst.famI R5 gx739
     refine yR rfl (yIa SLH_24 e0 e0 hst rO4 gh740) (yR rfl (yF1 O_22 e0 hst rO4 gh740 rfl) (yR rfl (m_ h11.v (eh e49_5)) (yR rfl (m_ (iV x737) e0) (yR rfl (yIa SL_22 e0 e0 hst rO3 gx741) (yR rfl (yI O_3 e0 hst rO3 gx741) (yR rfl (yIa SL_22 e0 e0 hst (rdF R5 gh740 gx739) gx742) (yR rfl (yI O_3 e0 hst (rdF R5 gh740 gx739) gx742) (yR rfl (yFb FL_28_2 (eh e49_2)) (yR rfl (lb_ h6.v O_24 e0 hst R0) (yR rfl (m_ (iV x179) (eh e49_12)) (yR rfl (yIa SL_24 e0 e0 hst (rdI (mtF q3)) gx743) ?_)))))))))))
     obtain ⟨h744, hst⟩ := iLs hst (mtF q3) gx743
     refine yR rfl (yCt O_22 e0 hst F1 rfl) (yR rfl (m_ (iV x720) e0) (yR rfl (yIa SL_22 e0 e0 hst (rdI F0) gx745) (yR rfl (yI O_3 e0 hst (rdI F0) gx745) (yR rfl (yadd e0 e0) (yR rfl (yIs SL_22 e0 e0 hst (rdF R5 gh740 gx739) gx746) (Rn QSn ?_))))))
     refine Lc1 rfl ?_
     replace hst := hst.pk 6 [5, 0, 0, 0, 0, 0] rfl
     refine LT wn (r_sti (cs := [iV (wa .i64 x742 x745)]) (hst.foc gh740 gx739) O_3 rfl e0 e0 rfl mkI gx746) ?_
     intro w hst
     replace hst := hst.unfoc' gh740 gx747
     refine Dz [] [] (Rn QSn (qb228 _ _ _ (k227 _ _ (wR (yY (yadd (eh e49_99) rfl) (Ym (iV (wa .i64 x720 1)) e0 (wN ?_)))))))
     obtain rfl := someI hM49
     exact n49 _ _ _ rfl ⟨_, _, _, rfl, rfl, e49_2, e49_4, e49_5, e49_9, e49_10, e49_12, e49_90, e49_91, e49_92, e49_97, e49_98, rfl, ((hst.pk 6 [1, 1, 1, 1, 1, 0] rfl).facts (allC F2 (allT (allT (allT allI)))))⟩
    ·refine cF e0 c736 (wp_exit (z226 _ _ _ rfl ?_))
     obtain rfl := someI hM49
     exact zz49 _ _ _ _ rfl rfl (je49_0 _ _ _ e49_2 e49_4 e49_5 e49_9 e49_10 e49_90 e49_91 e49_92 (hst.facts (allT allI)) (ho49 _ rfl))
   ·refine cF e0 c704 (wp_exit (z209 _ _ _ rfl ?_))
    obtain rfl := someI hM7
    exact zz7 _ _ _ _ rfl rfl (je7_0 _ _ _ e7_4 e7_5 e7_9 e7_10 (hst.pk 6 [1, 1, 1, 1, 1] rfl) (ho7 _ rfl))
  refine loopQ (fun s a w => ∃ (x121 : L2) (x122 : Int) (f : FV) (y120 : List Hdr), (x121, x122) = s ∧ a = fr 200 f ∧ f 2 = (pB b9) ∧ f 4 = (pB b10) ∧ f 5 = h11.v ∧ f 9 = iV (x109.length : Int) ∧ f 10 = h111.v ∧ f 78 = iV (x113.length : Int) ∧ f 79 = iV x122 ∧ St w0 ros (box b9 28 [h2.v, h4.v, h6.v] :: row 3 I1 h108.v x109 :: box b10 28 [hnil.v, h108.v, hnil.v] :: row 3 I1 h11.v x110 :: row 22 rH h111.v y120 :: fam 3 I1 y120 x121 :: rs) w) go4 ⟨_, _, _, _, rfl, rfl, eje3_0_2, eje3_0_4, eje3_0_5, rfl, rfl, rfl, rfl, (hst.pk 6 [2, 2, 2, 2, 0, 0] rfl)⟩ ?_
  rintro _ _ w r4_ ⟨x121, x122, f, y120, rfl, rfl, e4_2, e4_4, e4_5, e4_9, e4_10, e4_78, e4_79, hst⟩ hM4 ho4 Q100004 n4 zz4
  refine sR fun _ k230 => yY (ylss (eh e4_79) (eh e4_78)) (wK k230 (seqQ fun Q231 k231 z231 => ?_))
  rcases iteS hM4 with ⟨c748, hM4⟩ | ⟨c748, hM4⟩
  ·refine cT e0 c748 (wp_skip (k231 _ _ (sQ fun _ k232 => blockQ fun _ qb233 => sR fun _ k234 => Ym (iV x122) (eh e4_79) (Ya (iV x122) e0 (wK k234 (wR (Ym h111.v (eh e4_10) (Ym (iV x122) e0 ?_))))))))
   refine Ym (iV (x109.length : Int)) (eh e4_9) ?_
   obtain ⟨x751, gx751, hM4⟩ := bs hM4
   refine YH wn rfl (rMk hst SL_22 e0 gx751) ?_
   intro h749 w hst
   obtain ⟨x752, gx752, hM4⟩ := bs hM4
   obtain ⟨y753, gy753⟩ := setI_len (u := h749) gx752 (hst.famL (mtR (mtR (mtR (mtR (mtR (mtR mhR)))))))
   refine yY (yIs SLH_24 e0 e0 hst rO5 gy753) ?_
   replace hst := hst.pk 6 [5, 0, 0, 0, 0, 0] rfl
   refine YT wn rfl (r_sti (cs := [h749.v]) hst O_22 rfl e0 e0 rfl (mkF rfl) gy753) ?_
   intro w hst
   replace hst := hst.pk 7 [1, 5, 0, 0, 0, 0, 0] rfl
   replace hst := hst.fput gy753 gx752
   refine wN (qb233 _ _ _ (k232 _ _ (wR (yY (yadd (eh e4_79) rfl) (Ym (iV (wa .i64 x122 1)) e0 (wN ?_))))))
   obtain rfl := someI hM4
   exact n4 _ _ _ rfl ⟨_, _, _, _, rfl, rfl, e4_2, e4_4, e4_5, e4_9, e4_10, e4_78, rfl, (hst.pk 6 [2, 2, 2, 2, 1, 0] rfl)⟩
  ·refine cF e0 c748 (wp_exit (z231 _ _ _ rfl ?_))
   obtain rfl := someI hM4
   exact zz4 _ _ _ _ rfl rfl (je4_0 _ _ _ _ e4_2 e4_4 e4_5 e4_9 e4_10 hst (ho4 _ rfl))
 replace hst := hst.rowNh 3 I1
 refine loopQ (fun s a w => ∃ (x58 x59 : LI) (x60 : Int) (f : FV) (h57 : Hdr), (x58, x59, x60) = s ∧ a = fr 200 f ∧ f 2 = (pB b9) ∧ f 4 = (pB b10) ∧ f 5 = h11.v ∧ f 23 = h8.v ∧ f 24 = iV (x7.length : Int) ∧ f 25 = iV x60 ∧ St w0 ros (box b9 28 [h2.v, h4.v, h6.v] :: row 3 I1 h57.v x58 :: box b10 28 [hnil.v, h57.v, hnil.v] :: row 3 I1 h11.v x59 :: rs) w) go3 ⟨_, _, _, _, _, rfl, rfl, rfl, rfl, rfl, rfl, rfl, rfl, (hst.pk 4 [3, 0, 1, 0] rfl)⟩ ?_
 rintro _ _ w r3_ ⟨x58, x59, x60, f, h57, rfl, rfl, e3_2, e3_4, e3_5, e3_23, e3_24, e3_25, hst⟩ hM3 ho3 Q100003 n3 zz3
 refine sR fun _ k235 => yY (ylss (eh e3_25) (eh e3_24)) (wK k235 (seqQ fun Q236 k236 z236 => ?_))
 rcases iteS hM3 with ⟨c754, hM3⟩ | ⟨c754, hM3⟩
 ·refine cT e0 c754 (wp_skip (k236 _ _ (sQ fun Q237 k237 => ?_)))
  have j50 : ∀ (x782 x783 : LI) (h781 : Hdr) (f : FV) (w : World), f 2 = (pB b9) → f 4 = (pB b10) → f 5 = h11.v → f 23 = h8.v → f 24 = iV (x7.length : Int) → f 25 = iV x60 → St w0 ros (box b9 28 [h2.v, h4.v, h6.v] :: row 3 I1 h781.v x782 :: box b10 28 [hnil.v, h781.v, hnil.v] :: row 3 I1 h11.v x783 :: rs) w → dissect_coarsen_j50 x60 x782 x783 = some r3_ → Q237 .normal (fr 200 f) w := by
   intro x782 x783 h781 f w ej50_2 ej50_4 ej50_5 ej50_23 ej50_24 ej50_25 hst hM
   refine k237 _ _ (wR (yY (yadd (eh ej50_25) rfl) (Ym (iV (wa .i64 x60 1)) e0 (wN ?_))))
   obtain rfl := someI hM
   exact n3 _ _ _ rfl ⟨_, _, _, _, _, rfl, rfl, ej50_2, ej50_4, ej50_5, ej50_23, ej50_24, rfl, hst⟩
  refine blockQ fun _ qb252 => sR fun _ k253 => Ym (iV x60) (eh e3_25) ?_
  obtain ⟨x784, gx784, hM3⟩ := bs hM3
  refine yY (yIa SL_22 (eh e3_23) (eh e3_25) hst (rdI q4) gx784) (yY (yI O_3 e0 hst (rdI q4) gx784) (Ya (iV x60) e0 (Ya (iV x784) e0 (wK k253 (seqQ fun Q254 k254 z254 => sR fun _ k255 => Ym (iV x784) e0 (Ym (iV x60) e0 (yY (ylss e0 e0) (wK k255 ?_))))))))
  rcases iteS hM3 with ⟨c785, hM3⟩ | ⟨c785, hM3⟩
  ·refine cT e0 c785 (sR fun _ k256 => Ym h11.v (eh e3_5) (Ym (iV x60) e0 (Ym h11.v (eh e3_5) (Ym (iV x784) e0 ?_))))
   obtain ⟨x786, gx786, hM3⟩ := bs hM3
   refine yY (yIa SL_22 e0 e0 hst rO3 gx786) (yY (yI O_3 e0 hst rO3 gx786) ?_)
   obtain ⟨x787, gx787, hM3⟩ := bs hM3
   refine yY (yIs SL_22 e0 e0 hst rO3 gx787) ?_
   replace hst := hst.pk 4 [3, 0, 0, 0] rfl
   refine YT wn rfl (r_sti (cs := [iV x786]) hst O_3 rfl e0 e0 rfl mkI gx787) ?_
   intro w hst
   refine wK k256 (sQ fun _ k257 => ?_)
   obtain ⟨x788, gx788, hM3⟩ := bs hM3
   obtain ⟨x789, gx789, hM3⟩ := bs hM3
   obtain ⟨x790, gx790, hM3⟩ := bs hM3
   obtain ⟨x791, gx791, hM3⟩ := bs hM3
   refine dR [0, 1, 0, 0, 12, 28, 63, 127, 0, 256, 0, 1792, 3840, 8191, 16383, 32767] [15] 1 folM ?_
   replace hst := hst.drew
   refine Dn [0, 1, 2, 3, 4, 5, 6, 7, 8, 9, 10, 11, 12, 13, 14] [] [15] (yR rfl (yFb FL_28_1 (eh e3_4)) (yR rfl (lb_ h57.v O_22 e0 hst R3) (yR rfl (m_ h11.v (eh e3_5)) (yR rfl (m_ (iV x60) e0) (yR rfl (yIa SL_22 e0 e0 hst rO0 gx788) (yR rfl (yI O_3 e0 hst rO0 gx788) (yR rfl (yIa SL_22 e0 e0 hst rO2 gx789) (yR rfl (yI O_3 e0 hst rO2 gx789) (yR rfl (yFb FL_28_1 (eh e3_2)) (yR rfl (lb_ h4.v O_22 e0 hst R1) (yR rfl (m_ (iV x60) e0) (yR rfl (yIa SL_22 e0 e0 hst (rdI q2) gx790) (yR rfl (yI O_3 e0 hst (rdI q2) gx790) ?_)))))))))))))
   refine yR rfl (yadd e0 e0) (yR rfl (yIs SL_22 e0 e0 hst rO2 gx791) (Rn QSn ?_))
   refine Lc1 rfl ?_
   replace hst := hst.pk 3 [2, 0, 0] rfl
   refine LT wn (r_sti (cs := [iV (wa .i64 x789 x790)]) hst O_3 rfl e0 e0 rfl mkI gx791) ?_
   intro w hst
   exact Dz [] [] (Rn QSn (k257 _ _ (wp_exit (z254 _ _ _ rfl (qb252 _ _ _ (j50 _ _ _ _ _ e3_2 e3_4 e3_5 e3_23 e3_24 e3_25 (hst.pk 4 [2, 0, 1, 0] rfl) hM3))))))
  ·refine cF e0 c785 (wp_skip (k254 _ _ (sR fun _ k258 => Ym h11.v (eh e3_5) (Ym (iV x60) e0 (yY (yFb FL_28_1 (eh e3_4)) (yY (lb_ h57.v O_22 e0 hst R2) (yY (yLen SL_22 e0 hst rO1) ?_)))))))
   obtain ⟨x792, gx792, hM3⟩ := bs hM3
   refine yY (yIs SL_22 e0 e0 hst rO3 gx792) ?_
   replace hst := hst.pk 4 [3, 0, 0, 0] rfl
   refine YT wn rfl (r_sti (cs := [iV (x58.length : Int)]) hst O_3 rfl e0 e0 rfl mkI gx792) ?_
   intro w hst
   refine wK k258 ?_
   obtain ⟨x793, gx793, hM3⟩ := bs hM3
   obtain ⟨x796, gx796, hM3⟩ := bs hM3
   refine dR [0, 1, 0, 4, 0, 28, 60, 124, 255, 511, 1023] [7, 8, 10] 3 folM ?_
   replace hst := hst.drew
   refine Dn [0, 1, 2, 3, 4, 5, 6] [] [7] (yR rfl (yFb FL_28_1 (eh e3_4)) (yR rfl (lb_ h57.v O_22 e0 hst R3) (yR rfl (yFb FL_28_1 (eh e3_2)) (yR rfl (lb_ h4.v O_22 e0 hst R1) (yR rfl (m_ (iV x60) e0) (yR rfl (yIa SL_22 e0 e0 hst (rdI q2) gx793) (yR rfl (yI O_3 e0 hst (rdI q2) gx793) (Rn QSn ?_))))))))
   refine Lc1 rfl ?_
   refine LH wn (rLt (n := 1) (l := [x793]) hst SL_22 [iV x793] (bp1 e0) rfl rfl (mks1 (cs := [iV x793]) rfl mkI mks0)) ?_
   intro h794 w hst
   refine Dn [] [0, 1] [8] (Rn (yS rfl (yFb FL_28_1 (eh e3_4)) (yS rfl (lb_ h57.v O_22 e0 hst R4) QSn)) ?_)
   refine Lc1 rfl ?_
   replace hst := hst.pk 4 [3, 0, 0, 0] rfl
   refine LH wn (rAp hst SL_22 e0 e0 rO1 gx796) ?_
   intro h795 w hst
   refine Dn [9] [] [10] (yR rfl (yFb FL_28_1 (eh e3_4)) (Rn QSn ?_))
   refine Lc1 rfl ?_
   replace hst := hst.pk 5 [4, 0, 0, 0, 0] rfl
   refine LT wn (r_stb1 (vals' := [hnil.v, h795.v, hnil.v]) hst O_22 e0 e0 rfl rfl rfl rfl) ?_
   intro w hst
   exact Dz [] [] (Rn QSn (qb252 _ _ _ (j50 _ _ _ _ _ e3_2 e3_4 e3_5 e3_23 e3_24 e3_25 (hst.pk 5 [4, 1, 0, 1] rfl) hM3)))
 ·refine cF e0 c754 (wp_exit (z236 _ _ _ rfl ?_))
  obtain rfl := someI hM3
  exact zz3 _ _ _ _ rfl rfl (je3_0 _ _ _ _ _ e3_2 e3_4 e3_5 hst (ho3 _ rfl))
end Go.Proofs.YthpeajepbffinaaGreat
