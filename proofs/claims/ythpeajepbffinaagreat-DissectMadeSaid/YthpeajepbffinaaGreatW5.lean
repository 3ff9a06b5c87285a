/- Walks: each function computes its model, printed. -/
import Derived.Test.YthpeajepbffinaaGreatW4
namespace Go.Proofs.YthpeajepbffinaaGreat
open Go Sx M
set_option maxRecDepth 100000
set_option maxHeartbeats 4000000
set_option linter.unusedVariables false
attribute [local irreducible] wpList Code.wp Calls DR QR QS LA LS St
variable {w0 : World} {ros : List Fact} {rs : List Res} {w : World}
theorem dissect_mates_ok {x1 : List Int} {h2 : Hdr} {out : Bool} (hM : dissect_mates x1 = some out) (q1 : imm (rI .i64) h2.v x1 ∈ ros) (hst : St w0 ros (rs) w) :
  Calls Tryz.prog 41 #[h2.v] w (fun e w => e = .returned (.bool out) ∧ St w0 (ros) (rs) w) := by
 refine enterQ Tryz.func41 rfl Tryz.ntmps41 rfl fun Q hQ => seqQ fun Q1 k1 z1 => wR (Y wn rfl (ya (v := .bool false) rfl) (wN (k1 _ _ (seqQ fun Q2 k2 z2 => seqQ fun Q3 k3 z3 => wR (Y wn rfl (ym (v := h2.v) (e0 rfl)) (Y wn rfl (yLen SL_22 (e0 rfl) hst (rdI q1)) (Y wn rfl (ym (v := iV 0) rfl) (wN (k3 _ _ ?_)))))))))
 refine blockQ fun Q4 qb4 => ?_
 obtain ⟨o5, go5, hM⟩ := bs hM
 have je5_0 : ∀ (f : Nat → Value) (w : World), St w0 (ros) (rs) w → .inl () = o5 → Q4 (.exit 0) (fr 29 f) w := by
  intro f w hst ho
  subst ho
  refine qb4 _ _ _ (k2 _ _ (seqQ fun Q19 k19 z19 => wR (Y wn rfl (ya (v := .bool true) rfl) (wN (k19 _ _ (wp_ret ?_))))))
  obtain rfl := someI hM
  exact hQ _ _ _ (fin1r Tryz.results41 ⟨rfl, rfl⟩ ⟨rfl, hst⟩)
 have je5_1 : ∀ (f : Nat → Value) (w : World), f 2 = .bool false → St w0 (ros) (rs) w → .inr () = o5 → Q4 .ret (fr 29 f) w := by
  intro f w eje5_1_2 hst ho
  subst ho
  refine qb4 _ _ _ (z2 _ _ _ rfl ?_)
  obtain rfl := someI hM
  exact hQ _ _ _ (fin1r Tryz.results41 ⟨rfl, eje5_1_2⟩ ⟨rfl, hst⟩)
 refine loopQ (fun s a w => ∃ (x13 : Int) (f : Nat → Value), x13 = s ∧ a = fr 29 f ∧ f 0 = h2.v ∧ f 5 = h2.v ∧ f 6 = iV (x1.length : Int) ∧ f 7 = iV x13 ∧ St w0 (ros) (rs) w) go5 ⟨_, _, rfl, rfl, rfl, rfl, rfl, rfl, hst⟩ ?_
 rintro _ _ w r5_ ⟨x13, f, rfl, rfl, e5_0, e5_5, e5_6, e5_7, hst⟩ hM5 ho5 Q100005 n5 zz5
 refine seqQ fun Q20 k20 z20 => wR (Y wn rfl (ylss (et rfl e5_7) (et rfl e5_6)) (wN (k20 _ _ (seqQ fun Q21 k21 z21 => ?_))))
 rcases iteS hM5 with ⟨c25, hM5⟩ | ⟨c25, hM5⟩
 ·refine condT (e0 rfl) (dT c25) (wp_skip (k21 _ _ (seqQ fun Q22 k22 z22 => blockQ fun Q23 qb23 => seqQ fun Q24 k24 z24 => wR (Y wn rfl (ym (v := iV x13) (et rfl e5_7)) ?_))))
  obtain ⟨x26, gx26, hM5⟩ := bs hM5
  refine Y wn rfl (yIa SL_22 (et rfl e5_5) (et rfl e5_7) hst (rdI q1) gx26) (Y wn rfl (yI O_3 (e0 rfl) hst (rdI q1) gx26) (Y wn rfl (ya (v := iV x13) (e0 rfl)) (Y wn rfl (ya (v := iV x26) (e0 rfl)) (wN (k24 _ _ (seqQ fun Q25 k25 z25 => wR (Y wn rfl (ym (v := iV x26) (e0 rfl)) (Y wn rfl (ylss (e0 rfl) rfl) (Y wn rfl (ym (v := .bool (decide (x26 < 0))) (e0 rfl)) ?_)))))))))
  refine joinW 5 (fun f w => f 0 = h2.v ∧ f 3 = iV x13 ∧ f 4 = iV x26 ∧ f 5 = h2.v ∧ f 6 = iV (x1.length : Int) ∧ f 7 = iV x13 ∧ f 19 = .bool ((decide (x26 < 0)) || (decide ((x1.length : Int) ≤ x26))) ∧ St w0 (ros) (rs) w) (fun j6 => ?_) ?_
  ·rcases Bool.eq_false_or_eq_true (decide (x26 < 0)) with c28 | c28
   ·exact Gn (wx rfl rfl rfl c28) rfl (Gn (wx rfl rfl rfl c28) rfl (Gn (wx rfl rfl rfl c28) rfl (Gn (wx rfl rfl rfl c28) rfl (Y wn rfl (ypt (v := .bool true) (e0 rfl) c28 rfl) (j6 _ _ ⟨e5_0, rfl, rfl, e5_5, e5_6, e5_7, (congrArg Value.bool (orT c28)), hst⟩)))))
   ·exact Y (wg rfl rfl rfl c28) rfl (ym (v := iV x26) (e0 rfl)) (Y (wg rfl rfl rfl c28) rfl (ym (v := h2.v) (et rfl e5_0)) (Y (wg rfl rfl rfl c28) rfl (yLen SL_22 (e0 rfl) hst (rdI q1)) (Y (wg rfl rfl rfl c28) rfl (ygeq (e0 rfl) (e0 rfl)) (Y wn rfl (ypf (v := .bool (decide ((x1.length : Int) ≤ x26))) (e0 rfl) c28 (e0 rfl)) (j6 _ _ ⟨e5_0, rfl, rfl, e5_5, e5_6, e5_7, (congrArg Value.bool (orF c28)), hst⟩)))))
  rintro f w ⟨e27_0, e27_3, e27_4, e27_5, e27_6, e27_7, e27_19, hst⟩
  refine Y wn rfl (ym (v := .bool ((decide (x26 < 0)) || (decide ((x1.length : Int) ≤ x26)))) (et rfl e27_19)) ?_
  obtain ⟨r30, gr30, hM5⟩ := bs hM5
  refine joinW 7 (fun f w => f 0 = h2.v ∧ f 5 = h2.v ∧ f 6 = iV (x1.length : Int) ∧ f 7 = iV x13 ∧ f 27 = .bool r30 ∧ St w0 (ros) (rs) w) (fun j7 => ?_) ?_
  ·rcases iteS gr30 with ⟨c32, gr30⟩ | ⟨c32, gr30⟩
   ·refine Gn (wx rfl rfl rfl c32) rfl (Gn (wx rfl rfl rfl c32) rfl (Gn (wx rfl rfl rfl c32) rfl (Gn (wx rfl rfl rfl c32) rfl (Gn (wx rfl rfl rfl c32) rfl (Gn (wx rfl rfl rfl c32) rfl (Y wn rfl (ypt (v := .bool true) (e0 rfl) c32 rfl) ?_))))))
    obtain rfl := someI gr30
    exact j7 _ _ ⟨e27_0, e27_5, e27_6, e27_7, rfl, hst⟩
   ·refine Y (wg rfl rfl rfl (bfalse c32)) rfl (ym (v := h2.v) (et rfl e27_0)) (Y (wg rfl rfl rfl (bfalse c32)) rfl (ym (v := iV x26) (et rfl e27_4)) ?_)
    obtain ⟨x33, gx33, gr30⟩ := bs gr30
    refine Y (wg rfl rfl rfl (bfalse c32)) rfl (yIa SL_22 (e0 rfl) (e0 rfl) hst (rdI q1) gx33) (Y (wg rfl rfl rfl (bfalse c32)) rfl (yI O_3 (e0 rfl) hst (rdI q1) gx33) (Y (wg rfl rfl rfl (bfalse c32)) rfl (ym (v := iV x13) (et rfl e27_3)) (Y (wg rfl rfl rfl (bfalse c32)) rfl (yneq (e0 rfl) (e0 rfl)) (Y wn rfl (ypf (v := .bool (!(decide (x33 = x13)))) (e0 rfl) (bfalse c32) (e0 rfl)) ?_))))
    obtain rfl := someI gr30
    exact j7 _ _ ⟨e27_0, e27_5, e27_6, e27_7, rfl, hst⟩
  rintro f w ⟨e31_0, e31_5, e31_6, e31_7, e31_27, hst⟩
  refine wN (k25 _ _ ?_)
  rcases iteS hM5 with ⟨c34, hM5⟩ | ⟨c34, hM5⟩
  ·refine condT (et rfl e31_27) c34 (seqQ fun Q26 k26 z26 => wR (Y wn rfl (ya (v := .bool false) rfl) (wN (k26 _ _ (wp_ret (qb23 _ _ _ (z22 _ _ _ rfl ?_)))))))
   obtain rfl := someI hM5
   exact zz5 _ _ _ _ rfl rfl (je5_1 _ _ rfl hst (ho5 _ rfl))
  ·refine condF (et rfl e31_27) (bfalse c34) (wp_skip (qb23 _ _ _ (k22 _ _ (wR (Y wn rfl (yadd (et rfl e31_7) rfl) (Y wn rfl (ym (v := iV (wa .i64 x13 1)) (e0 rfl)) (wN ?_)))))))
   obtain rfl := someI hM5
   exact n5 _ _ _ rfl ⟨_, _, rfl, rfl, e31_0, e31_5, e31_6, rfl, hst⟩
 ·refine condF (e0 rfl) (dF c25) (wp_exit (z21 _ _ _ rfl ?_))
  obtain rfl := someI hM5
  exact zz5 _ _ _ _ rfl rfl (je5_0 _ _ hst (ho5 _ rfl))

theorem dissect_Coarsen_ok {x1 : List (List Int)} {x3 : List Int} {x5 : List (List Int)} {x7 : List Int} {h2 : Hdr} {h4 : Hdr} {h6 : Hdr} {h8 : Hdr} {out : (List (List Int)) × (List Int) × (List (List Int)) × (List Int) × Int} (hM : dissect_Coarsen x1 x3 x5 x7 = some out) (q1 : imm (rS (rI .i64)) h2.v x1 ∈ ros) (q2 : imm (rI .i64) h4.v x3 ∈ ros) (q3 : imm (rS (rI .i64)) h6.v x5 ∈ ros) (q4 : imm (rI .i64) h8.v x7 ∈ ros) (hst : St w0 ros (rs) w) :
  Calls Tryz.prog 14 #[.agg #[h2.v, h4.v, h6.v], h8.v] w (fun e w => ∃ (h100001 : Hdr) (y100002 : List Hdr) (h100004 : Hdr) (h100006 : Hdr) (y100007 : List Hdr) (h100009 : Hdr), e = .returned (.tuple #[.agg #[h100001.v, h100004.v, h100006.v], h100009.v, iV out.2.2.2.2]) ∧ St w0 (imm (rI .i64) h100004.v out.2.1 :: ros) (row 22 rH h100001.v y100002 :: fam 3 (rI .i64) y100002 out.1 :: row 22 rH h100006.v y100007 :: fam 3 (rI .i64) y100007 out.2.2.1 :: row 3 (rI .i64) h100009.v out.2.2.2.1 :: rs) w) := by
 refine enterQ Tryz.func14 rfl Tryz.ntmps14 rfl fun Q hQ => seqQ fun Q1 k1 z1 => wR (YB wn rfl (r_box (vals := [h2.v, h4.v, h6.v]) hst (e0 rfl) rfl) ?_)
 intro b9 w hst
 refine YB wn rfl (rAl hst ZT_28) ?_
 intro b10 w hst
 refine Y wn rfl (ya (v := hnil.v) rfl) (Y wn rfl (ya (v := iV 0) rfl) (wN (k1 _ _ (seqQ fun Q2 k2 z2 => wR (Y wn rfl (yLbs (us := [h2.v, h4.v, h6.v]) ST_28 (e0 rfl) hst (mtR mhR) rfl rfl) ?_)))))
 obtain ⟨r11, gr11, hM⟩ := bs hM
 refine Yc wn rfl (yCall FN_23 (a1 (e0 rfl))) (dissect_CheckWeighted_ok (hM := gr11) (hst := hst) (q1 := q1) (q2 := q2) (q3 := q3)) ?_
 rintro _ w ⟨rfl, hst⟩
 refine ⟨_, rfl, ?_⟩
 refine Y wn rfl (ya (v := iV r11) (e0 rfl)) (wN (k2 _ _ (seqQ fun Q3 k3 z3 => blockQ fun Q4 qb4 => seqQ fun Q5 k5 z5 => wR (Y wn rfl (ym (v := iV r11) (e0 rfl)) (Y wn rfl (yneq (e0 rfl) rfl) (Y wn rfl (ya (v := .bool (!(decide (r11 = 0)))) (e0 rfl)) (wN (k5 _ _ ?_))))))))
 rcases iteS hM with ⟨c12, hM⟩ | ⟨c12, hM⟩
 ·refine condF (e0 rfl) (nF (dT c12)) (seqQ fun Q6 k6 z6 => wR (Y wn rfl (ym (v := h8.v) (e0 rfl)) (Y wn rfl (yLen SL_22 (e0 rfl) hst (rdI q4)) (Y wn rfl (yFb FL_28_1 (e0 rfl)) (Y wn rfl (yLb (u := h4.v) O_22 (e0 rfl) hst (mtR mhR) rfl) (Y wn rfl (yLen SL_22 (e0 rfl) hst (rdI q2)) (Y wn rfl (yneq (e0 rfl) (e0 rfl)) (Y wn rfl (ya (v := .bool (!(decide ((x7.length : Int) = (x3.length : Int))))) (e0 rfl)) (wN (k6 _ _ ?_))))))))))
  rcases iteS hM with ⟨c13, hM⟩ | ⟨c13, hM⟩
  ·refine condF (e0 rfl) (nF (dT c13)) (seqQ fun Q7 k7 z7 => wR (Y wn rfl (ym (v := h8.v) (e0 rfl)) ?_))
   obtain ⟨r14, gr14, hM⟩ := bs hM
   refine Yc wn rfl (yCall FN_41 (a1 (e0 rfl))) (dissect_mates_ok (hM := gr14) (hst := hst) (q1 := q4)) ?_
   rintro _ w ⟨rfl, hst⟩
   refine ⟨_, rfl, ?_⟩
   refine Y wn rfl (ynot (e0 rfl)) (Y wn rfl (ya (v := .bool (!(r14))) (e0 rfl)) (wN (k7 _ _ ?_)))
   rcases iteS hM with ⟨c15, hM⟩ | ⟨c15, hM⟩
   ·refine condF (e0 rfl) (nF c15) (wp_skip (qb4 _ _ _ (k3 _ _ (seqQ fun Q8 k8 z8 => wR (Y wn rfl (yLbs (us := [h2.v, h4.v, h6.v]) ST_28 (e0 rfl) hst (mtR mhR) rfl rfl) (Y wn rfl (ym (v := h8.v) (e0 rfl)) ?_))))))
    obtain ⟨r16, gr16, hM⟩ := bs hM
    refine Yc wn rfl (yCall FN_42 (a2 (e0 rfl) (e0 rfl))) (dissect_coarsen_ok (hM := gr16) (hst := hst) (q1 := q1) (q2 := q2) (q3 := q3) (q4 := q4)) ?_
    rintro _ w ⟨h17, y18, h19, h20, y21, h22, rfl, hst⟩
    refine ⟨_, rfl, ?_⟩
    refine Y wn rfl (ym (v := .tuple #[.agg #[h17.v, h19.v, h20.v], h22.v, .bool r16.2.2.2.2]) (e0 rfl)) (Y wn rfl (yx (v := .agg #[h17.v, h19.v, h20.v]) (e0 rfl) rfl) (Y wn rfl (yx (v := h22.v) (e0 rfl) rfl) (Y wn rfl (yx (v := .bool r16.2.2.2.2) (e0 rfl) rfl) ?_)))
    replace hst := hst.pk 6 [5, 0, 0, 0, 0, 0] rfl
    refine YT wn rfl (r_stbn (vals' := [h17.v, h19.v, h20.v]) (us := [h17.v, h19.v, h20.v]) hst ST_28 (e0 rfl) (e0 rfl) rfl rfl (one_of rfl) rfl) ?_
    intro w hst
    refine Y wn rfl (ya (v := h22.v) (e0 rfl)) (Y wn rfl (ya (v := .bool r16.2.2.2.2) (e0 rfl)) (wN (k8 _ _ (seqQ fun Q9 k9 z9 => seqQ fun Q10 k10 z10 => wR (Y wn rfl (ym (v := .bool r16.2.2.2.2) (e0 rfl)) (Y wn rfl (ynot (e0 rfl)) (wN (k10 _ _ ?_))))))))
    rcases iteS hM with ⟨c23, hM⟩ | ⟨c23, hM⟩
    ·refine condF (e0 rfl) (nF c23) (wp_skip (k9 _ _ (seqQ fun Q11 k11 z11 => wR (Y wn rfl (yLbs (us := [h17.v, h19.v, h20.v]) ST_28 (e0 rfl) hst mhR rfl rfl) (Y wn rfl (ym (v := h22.v) (e0 rfl)) (YT wn rfl (r_stbn (vals' := [h17.v, h19.v, h20.v]) (us := [h17.v, h19.v, h20.v]) hst ST_28 (e0 rfl) (e0 rfl) rfl rfl (one_of rfl) rfl) ?_))))))
     intro w hst
     refine Y wn rfl (ya (v := h22.v) (e0 rfl)) (Y wn rfl (ya (v := iV 0) rfl) (wN (k11 _ _ (wp_ret ?_))))
     obtain rfl := someI hM
     exact hQ _ _ _ (fin3r Tryz.results14 (rcs2 rfl rfl hst mhR ST_28 rfl) ⟨rfl, rfl⟩ ⟨rfl, rfl⟩ ⟨_, _, _, _, _, _, rfl, (hst.pk 7 [1, 1, 1, 1, 1] rfl)⟩)
    ·refine condT (e0 rfl) (nT (bfalse c23)) (seqQ fun Q12 k12 z12 => wR (Y wn rfl (ybuild (us := [hnil.v, hnil.v, hnil.v]) [] SO_28 bp0 rfl) (YT wn rfl (r_stbn (vals' := [hnil.v, hnil.v, hnil.v]) (us := [hnil.v, hnil.v, hnil.v]) hst ST_28 (e0 rfl) (e0 rfl) rfl rfl (one_of rfl) rfl) ?_)))
     intro w hst
     refine Y wn rfl (ya (v := hnil.v) rfl) (Y wn rfl (ya (v := iV 3) rfl) (wN (k12 _ _ (wp_ret (z9 _ _ _ rfl ?_)))))
     obtain rfl := someI hM
     replace hst := ((hst.rowNh 22 rH).fNew 3 (rI .i64)).pk 2 [1, 0] rfl
     replace hst := hst.immNh (rI .i64)
     replace hst := ((hst.rowNh 22 rH).fNew 3 (rI .i64)).pk 2 [1, 0] rfl
     replace hst := hst.rowNh 3 (rI .i64)
     exact hQ _ _ _ (fin3r Tryz.results14 (rcs2 rfl rfl hst (mtR (mtR (mtR (mtR (mtR mhR))))) ST_28 rfl) ⟨rfl, rfl⟩ ⟨rfl, rfl⟩ ⟨_, _, _, _, _, _, rfl, ((hst.pk 12 [3, 3, 1, 1, 0] rfl).facts (allC mhF (allT (allT allI))))⟩)
   ·refine condT (e0 rfl) (nT (bfalse c15)) (seqQ fun Q13 k13 z13 => wR (Y wn rfl (ybuild (us := [hnil.v, hnil.v, hnil.v]) [] SO_28 bp0 rfl) (YT wn rfl (r_stbn (vals' := [hnil.v, hnil.v, hnil.v]) (us := [hnil.v, hnil.v, hnil.v]) hst ST_28 (e0 rfl) (e0 rfl) rfl rfl (one_of rfl) rfl) ?_)))
    intro w hst
    refine Y wn rfl (ya (v := hnil.v) rfl) (Y wn rfl (ya (v := iV 130) rfl) (wN (k13 _ _ (wp_ret (qb4 _ _ _ (z3 _ _ _ rfl ?_))))))
    obtain rfl := someI hM
    replace hst := ((hst.rowNh 22 rH).fNew 3 (rI .i64)).pk 2 [1, 0] rfl
    replace hst := hst.immNh (rI .i64)
    replace hst := ((hst.rowNh 22 rH).fNew 3 (rI .i64)).pk 2 [1, 0] rfl
    replace hst := hst.rowNh 3 (rI .i64)
    exact hQ _ _ _ (fin3r Tryz.results14 (rcs2 rfl rfl hst (mtR (mtR (mtR (mtR (mtR mhR))))) ST_28 rfl) ⟨rfl, rfl⟩ ⟨rfl, rfl⟩ ⟨_, _, _, _, _, _, rfl, (hst.pk 7 [3, 3, 1, 1, 0] rfl)⟩)
  ·refine condT (e0 rfl) (nT (dF c13)) (seqQ fun Q14 k14 z14 => wR (Y wn rfl (ybuild (us := [hnil.v, hnil.v, hnil.v]) [] SO_28 bp0 rfl) (YT wn rfl (r_stbn (vals' := [hnil.v, hnil.v, hnil.v]) (us := [hnil.v, hnil.v, hnil.v]) hst ST_28 (e0 rfl) (e0 rfl) rfl rfl (one_of rfl) rfl) ?_)))
   intro w hst
   refine Y wn rfl (ya (v := hnil.v) rfl) (Y wn rfl (ya (v := iV 2) rfl) (wN (k14 _ _ (wp_ret (qb4 _ _ _ (z3 _ _ _ rfl ?_))))))
   obtain rfl := someI hM
   replace hst := ((hst.rowNh 22 rH).fNew 3 (rI .i64)).pk 2 [1, 0] rfl
   replace hst := hst.immNh (rI .i64)
   replace hst := ((hst.rowNh 22 rH).fNew 3 (rI .i64)).pk 2 [1, 0] rfl
   replace hst := hst.rowNh 3 (rI .i64)
   exact hQ _ _ _ (fin3r Tryz.results14 (rcs2 rfl rfl hst (mtR (mtR (mtR (mtR (mtR mhR))))) ST_28 rfl) ⟨rfl, rfl⟩ ⟨rfl, rfl⟩ ⟨_, _, _, _, _, _, rfl, (hst.pk 7 [3, 3, 1, 1, 0] rfl)⟩)
 ·refine condT (e0 rfl) (nT (dF c12)) (seqQ fun Q15 k15 z15 => wR (Y wn rfl (ybuild (us := [hnil.v, hnil.v, hnil.v]) [] SO_28 bp0 rfl) (Y wn rfl (ym (v := iV r11) (e0 rfl)) (YT wn rfl (r_stbn (vals' := [hnil.v, hnil.v, hnil.v]) (us := [hnil.v, hnil.v, hnil.v]) hst ST_28 (e0 rfl) (e0 rfl) rfl rfl (one_of rfl) rfl) ?_))))
  intro w hst
  refine Y wn rfl (ya (v := hnil.v) rfl) (Y wn rfl (ya (v := iV r11) (e0 rfl)) (wN (k15 _ _ (wp_ret (qb4 _ _ _ (z3 _ _ _ rfl ?_))))))
  obtain rfl := someI hM
  replace hst := ((hst.rowNh 22 rH).fNew 3 (rI .i64)).pk 2 [1, 0] rfl
  replace hst := hst.immNh (rI .i64)
  replace hst := ((hst.rowNh 22 rH).fNew 3 (rI .i64)).pk 2 [1, 0] rfl
  replace hst := hst.rowNh 3 (rI .i64)
  exact hQ _ _ _ (fin3r Tryz.results14 (rcs2 rfl rfl hst (mtR (mtR (mtR (mtR (mtR mhR))))) ST_28 rfl) ⟨rfl, rfl⟩ ⟨rfl, rfl⟩ ⟨_, _, _, _, _, _, rfl, (hst.pk 7 [3, 3, 1, 1, 0] rfl)⟩)

theorem sparseref18_Coarsen_ok {x1 : List (List Int)} {x3 : List Int} {x5 : List (List Int)} {x7 : List Int} {h2 : Hdr} {h4 : Hdr} {h6 : Hdr} {h8 : Hdr} {out : (List (List Int)) × (List Int) × (List (List Int)) × (List Int) × Int} (hM : sparseref18_Coarsen x1 x3 x5 x7 = some out) (q1 : imm (rS (rI .i64)) h2.v x1 ∈ ros) (q2 : imm (rI .i64) h4.v x3 ∈ ros) (q3 : imm (rS (rI .i64)) h6.v x5 ∈ ros) (q4 : imm (rI .i64) h8.v x7 ∈ ros) (hst : St w0 ros (rs) w) :
  Calls Tryz.prog 15 #[.agg #[h2.v, h4.v, h6.v], h8.v] w (fun e w => ∃ (h100001 : Hdr) (y100002 : List Hdr) (h100004 : Hdr) (h100006 : Hdr) (y100007 : List Hdr) (h100009 : Hdr), e = .returned (.tuple #[.agg #[h100001.v, h100004.v, h100006.v], h100009.v, iV out.2.2.2.2]) ∧ St w0 (ros) (row 22 rH h100001.v y100002 :: fam 3 (rI .i64) y100002 out.1 :: row 3 (rI .i64) h100004.v out.2.1 :: row 22 rH h100006.v y100007 :: fam 3 (rI .i64) y100007 out.2.2.1 :: row 3 (rI .i64) h100009.v out.2.2.2.1 :: rs) w) := by
 refine enterQ Tryz.func15 rfl Tryz.ntmps15 rfl fun Q hQ => seqQ fun Q1 k1 z1 => wR (YB wn rfl (r_box (vals := [h2.v, h4.v, h6.v]) hst (e0 rfl) rfl) ?_)
 intro b9 w hst
 refine YB wn rfl (rAl hst ZT_28) ?_
 intro b10 w hst
 refine Y wn rfl (ya (v := hnil.v) rfl) (Y wn rfl (ya (v := iV 0) rfl) (wN (k1 _ _ (seqQ fun Q2 k2 z2 => seqQ fun Q3 k3 z3 => wR (Y wn rfl (yLbs (us := [h2.v, h4.v, h6.v]) ST_28 (e0 rfl) hst (mtR mhR) rfl rfl) ?_)))))
 obtain ⟨r11, gr11, hM⟩ := bs hM
 refine Yc wn rfl (yCall FN_24 (a1 (e0 rfl))) (sparseref18_CheckWeighted_ok (hM := gr11) (hst := hst) (q1 := q1) (q2 := q2) (q3 := q3)) ?_
 rintro _ w ⟨rfl, hst⟩
 refine ⟨_, rfl, ?_⟩
 refine Y wn rfl (ya (v := iV r11) (e0 rfl)) (wN (k3 _ _ (seqQ fun Q4 k4 z4 => wR (Y wn rfl (ym (v := iV r11) (e0 rfl)) (Y wn rfl (yneq (e0 rfl) rfl) (wN (k4 _ _ ?_)))))))
 rcases iteS hM with ⟨c12, hM⟩ | ⟨c12, hM⟩
 ·refine condF (e0 rfl) (nF (dT c12)) (wp_skip (k2 _ _ (seqQ fun Q5 k5 z5 => wR (Y wn rfl (yFb FL_28_1 (e0 rfl)) (Y wn rfl (yLb (u := h4.v) O_22 (e0 rfl) hst (mtR mhR) rfl) (Y wn rfl (yLen SL_22 (e0 rfl) hst (rdI q2)) (Y wn rfl (ya (v := iV (x3.length : Int)) (e0 rfl)) (wN (k5 _ _ (seqQ fun Q6 k6 z6 => seqQ fun Q7 k7 z7 => wR ?_))))))))))
  refine Y wn rfl (ym (v := h8.v) (e0 rfl)) (Y wn rfl (yLen SL_22 (e0 rfl) hst (rdI q4)) (Y wn rfl (ym (v := iV (x3.length : Int)) (e0 rfl)) (Y wn rfl (yneq (e0 rfl) (e0 rfl)) (wN (k7 _ _ ?_)))))
  rcases iteS hM with ⟨c13, hM⟩ | ⟨c13, hM⟩
  ·refine condF (e0 rfl) (nF (dT c13)) (wp_skip (k6 _ _ (seqQ fun Q8 k8 z8 => seqQ fun Q9 k9 z9 => wR (Y wn rfl (ya (v := iV 0) rfl) (wN (k9 _ _ (blockQ fun Q10 qb10 => ?_)))))))
   obtain ⟨o5, go5, hM⟩ := bs hM
   have je5_0 : ∀ (f : Nat → Value) (w : World), f 1 = h8.v → f 2 = (pB b9) → f 4 = (pB b10) → f 8 = iV (x3.length : Int) → St w0 (ros) (box b9 28 [h2.v, h4.v, h6.v] :: box b10 28 [hnil.v, hnil.v, hnil.v] :: rs) w → .inl () = o5 → Q10 (.exit 0) (fr 266 f) w := by
    intro f w eje5_0_1 eje5_0_2 eje5_0_4 eje5_0_8 hst ho
    subst ho
    refine qb10 _ _ _ (k8 _ _ (seqQ fun Q23 k23 z23 => wR (Y wn rfl (ym (v := iV (x3.length : Int)) (et rfl eje5_0_8)) ?_)))
    obtain ⟨x48, gx48, hM⟩ := bs hM
    refine YH wn rfl (rMk hst SL_22 (e0 rfl) gx48) ?_
    intro h46 w hst
    refine Y wn rfl (ya (v := h46.v) (e0 rfl)) (wN (k23 _ _ (seqQ fun Q24 k24 z24 => wR (Y wn rfl (ybuild (us := [hnil.v, hnil.v, hnil.v]) [] SO_28 bp0 rfl) (YB wn rfl (rAl hst ZT_28) ?_)))))
    intro b49 w hst
    refine YT wn rfl (r_stbn (vals' := [hnil.v, hnil.v, hnil.v]) (us := [hnil.v, hnil.v, hnil.v]) hst ST_28 (e0 rfl) (e0 rfl) rfl rfl (one_of rfl) rfl) ?_
    intro w hst
    refine wN (k24 _ _ (seqQ fun Q25 k25 z25 => seqQ fun Q26 k26 z26 => wR (Y wn rfl (ya (v := iV 0) rfl) (wN (k26 _ _ (blockQ fun Q27 qb27 => ?_))))))
    obtain ⟨o8, go8, hM⟩ := bs hM
    have je8_0 : ∀ (x156 : List Int) (x158 : List Int) (h157 : Hdr) (f : Nat → Value) (w : World), f 2 = (pB b9) → f 4 = (pB b10) → f 8 = iV (x3.length : Int) → f 10 = h46.v → f 11 = (pB b49) → St w0 (ros) (box b9 28 [h2.v, h4.v, h6.v] :: box b10 28 [hnil.v, hnil.v, hnil.v] :: row 3 (rI .i64) h46.v x156 :: row 3 (rI .i64) h157.v x158 :: box b49 28 [hnil.v, h157.v, hnil.v] :: rs) w → (x156, x158) = o8 → Q27 (.exit 2) (fr 266 f) w := by
     intro x156 x158 h157 f w eje8_0_2 eje8_0_4 eje8_0_8 eje8_0_10 eje8_0_11 hst ho
     subst ho
     refine qb27 _ _ _ (k25 _ _ (seqQ fun Q70 k70 z70 => wR (Y wn rfl (yFb FL_28_1 (et rfl eje8_0_11)) (Y wn rfl (yLb (u := h157.v) O_22 (e0 rfl) hst (mtR (mtR (mtR (mtR mhR)))) rfl) (Y wn rfl (yLen SL_22 (e0 rfl) hst (rdO (mtR (mtR (mtR mhR))))) (Y wn rfl (ya (v := iV (x158.length : Int)) (e0 rfl)) (wN (k70 _ _ (seqQ fun Q71 k71 z71 => wR (Y wn rfl (ym (v := iV (x158.length : Int)) (e0 rfl)) ?_))))))))))
     obtain ⟨x161, gx161, hM⟩ := bs hM
     obtain ⟨m160, em160, gm160⟩ := mkL_rep gx161 hnil
     refine YH wn rfl (rMk hst SLH_24 (e0 rfl) gm160) ?_
     intro h159 w hst
     replace hst := (hst.fReps 3 (rI .i64) m160).pk 2 [1, 0] rfl
     rw [← em160] at hst
     refine Y wn rfl (ya (v := h159.v) (e0 rfl)) (wN (k71 _ _ (seqQ fun Q72 k72 z72 => seqQ fun Q73 k73 z73 => wR (Y wn rfl (ya (v := iV 0) rfl) (wN (k73 _ _ (blockQ fun Q74 qb74 => ?_)))))))
     obtain ⟨o9, go9, hM⟩ := bs hM
     have je9_0 : ∀ (x181 : List (List Int)) (y180 : List Hdr) (f : Nat → Value) (w : World), f 2 = (pB b9) → f 4 = (pB b10) → f 8 = iV (x3.length : Int) → f 10 = h46.v → f 11 = (pB b49) → f 13 = iV (x158.length : Int) → f 14 = h159.v → St w0 (ros) (box b9 28 [h2.v, h4.v, h6.v] :: box b10 28 [hnil.v, hnil.v, hnil.v] :: row 3 (rI .i64) h46.v x156 :: row 3 (rI .i64) h157.v x158 :: box b49 28 [hnil.v, h157.v, hnil.v] :: row 22 rH h159.v y180 :: fam 3 (rI .i64) y180 x181 :: rs) w → x181 = o9 → Q74 (.exit 4) (fr 266 f) w := by
      intro x181 y180 f w eje9_0_2 eje9_0_4 eje9_0_8 eje9_0_10 eje9_0_11 eje9_0_13 eje9_0_14 hst ho
      subst ho
      refine qb74 _ _ _ (k72 _ _ (seqQ fun Q83 k83 z83 => seqQ fun Q84 k84 z84 => wR (Y wn rfl (ya (v := iV 0) rfl) (wN (k84 _ _ (blockQ fun Q85 qb85 => ?_))))))
      obtain ⟨o12, go12, hM⟩ := bs hM
      have je12_0 : ∀ (x306 : List (List Int)) (f : Nat → Value) (w : World), f 4 = (pB b10) → f 10 = h46.v → f 11 = (pB b49) → f 13 = iV (x158.length : Int) → f 14 = h159.v → St w0 (ros) (box b10 28 [hnil.v, hnil.v, hnil.v] :: row 3 (rI .i64) h46.v x156 :: row 3 (rI .i64) h157.v x158 :: box b49 28 [hnil.v, h157.v, hnil.v] :: row 22 rH h159.v y180 :: fam 3 (rI .i64) y180 x306 :: rs) w → x306 = o12 → Q85 (.exit 6) (fr 266 f) w := by
       intro x306 f w eje12_0_4 eje12_0_10 eje12_0_11 eje12_0_13 eje12_0_14 hst ho
       subst ho
       refine qb85 _ _ _ (k83 _ _ (seqQ fun Q128 k128 z128 => seqQ fun Q129 k129 z129 => wR (Y wn rfl (ya (v := iV 0) rfl) (wN (k129 _ _ (blockQ fun Q130 qb130 => ?_))))))
       obtain ⟨o39, go39, hM⟩ := bs hM
       have je39_0 : ∀ (x821 : List (List Int)) (x824 : List (List Int)) (h819 : Hdr) (y820 : List Hdr) (h822 : Hdr) (y823 : List Hdr) (f : Nat → Value) (w : World), f 4 = (pB b10) → f 10 = h46.v → f 11 = (pB b49) → St w0 (ros) (box b10 28 [hnil.v, hnil.v, hnil.v] :: row 3 (rI .i64) h46.v x156 :: row 22 rH h819.v y820 :: fam 3 (rI .i64) y820 x821 :: row 3 (rI .i64) h157.v x158 :: row 22 rH h822.v y823 :: fam 3 (rI .i64) y823 x824 :: box b49 28 [h819.v, h157.v, h822.v] :: rs) w → .inl (x821, x824) = o39 → Q130 (.exit 10) (fr 266 f) w := by
        intro x821 x824 h819 y820 h822 y823 f w eje39_0_4 eje39_0_10 eje39_0_11 hst ho
        subst ho
        refine qb130 _ _ _ (k128 _ _ (seqQ fun Q299 k299 z299 => wR (Y wn rfl (yLbs (us := [h819.v, h157.v, h822.v]) ST_28 (et rfl eje39_0_11) hst (mtR (mtR (mtR (mtR (mtR (mtR (mtR mhR))))))) rfl rfl) (Y wn rfl (ym (v := h46.v) (et rfl eje39_0_10)) (YT wn rfl (r_stbn (vals' := [h819.v, h157.v, h822.v]) (us := [h819.v, h157.v, h822.v]) hst ST_28 (et rfl eje39_0_4) (e0 rfl) rfl rfl (one_of rfl) rfl) ?_)))))
        intro w hst
        refine Y wn rfl (ya (v := h46.v) (e0 rfl)) (Y wn rfl (ya (v := iV 0) rfl) (wN (k299 _ _ (wp_ret ?_))))
        obtain rfl := someI hM
        exact hQ _ _ _ (fin3r Tryz.results15 (rcs2 rfl eje39_0_4 hst mhR ST_28 rfl) ⟨rfl, rfl⟩ ⟨rfl, rfl⟩ ⟨_, _, _, _, _, _, rfl, (hst.pk 8 [2, 2, 2, 2, 2, 1] rfl)⟩)
       have je39_1 : ∀ (f : Nat → Value) (w : World), f 4 = (pB b10) → f 5 = hnil.v → f 6 = iV 3 → St w0 (ros) (box b10 28 [hnil.v, hnil.v, hnil.v] :: rs) w → .inr () = o39 → Q130 .ret (fr 266 f) w := by
        intro f w eje39_1_4 eje39_1_5 eje39_1_6 hst ho
        subst ho
        refine qb130 _ _ _ (z128 _ _ _ rfl ?_)
        obtain rfl := someI hM
        replace hst := ((hst.rowNh 22 rH).fNew 3 (rI .i64)).pk 2 [1, 0] rfl
        replace hst := hst.rowNh 3 (rI .i64)
        replace hst := ((hst.rowNh 22 rH).fNew 3 (rI .i64)).pk 2 [1, 0] rfl
        replace hst := hst.rowNh 3 (rI .i64)
        exact hQ _ _ _ (fin3r Tryz.results15 (rcs2 rfl eje39_1_4 hst (mtR (mtR (mtR (mtR (mtR (mtR mhR)))))) ST_28 rfl) ⟨rfl, eje39_1_5⟩ ⟨rfl, eje39_1_6⟩ ⟨_, _, _, _, _, _, rfl, (hst.pk 7 [4, 4, 3, 1, 1, 0] rfl)⟩)
       replace hst := ((hst.rowNh 22 rH).fNew 3 (rI .i64)).pk 2 [1, 0] rfl
       replace hst := ((hst.rowNh 22 rH).fNew 3 (rI .i64)).pk 2 [1, 0] rfl
       refine loopQ (fun s a w => ∃ (x558 : List (List Int)) (x561 : List (List Int)) (x562 : Int) (f : Nat → Value) (h556 : Hdr) (y557 : List Hdr) (h559 : Hdr) (y560 : List Hdr), (x558, x561, x562) = s ∧ a = fr 266 f ∧ f 4 = (pB b10) ∧ f 10 = h46.v ∧ f 11 = (pB b49) ∧ f 13 = iV (x158.length : Int) ∧ f 14 = h159.v ∧ f 20 = iV x562 ∧ St w0 (ros) (box b10 28 [hnil.v, hnil.v, hnil.v] :: row 3 (rI .i64) h46.v x156 :: row 22 rH h556.v y557 :: fam 3 (rI .i64) y557 x558 :: row 3 (rI .i64) h157.v x158 :: row 22 rH h559.v y560 :: fam 3 (rI .i64) y560 x561 :: box b49 28 [h556.v, h157.v, h559.v] :: row 22 rH h159.v y180 :: fam 3 (rI .i64) y180 x306 :: rs) w) go39 ⟨_, _, _, _, _, _, _, _, rfl, rfl, eje12_0_4, eje12_0_10, eje12_0_11, eje12_0_13, eje12_0_14, rfl, (hst.pk 10 [4, 4, 2, 2, 2, 0, 0, 0, 0, 0] rfl)⟩ ?_
       rintro _ _ w r39_ ⟨x558, x561, x562, f, h556, y557, h559, y560, rfl, rfl, e39_4, e39_10, e39_11, e39_13, e39_14, e39_20, hst⟩ hM39 ho39 Q100039 n39 zz39
       refine seqQ fun Q300 k300 z300 => seqQ fun Q301 k301 z301 => wR (Y wn rfl (ym (v := iV x562) (et rfl e39_20)) (Y wn rfl (ym (v := iV (x158.length : Int)) (et rfl e39_13)) (Y wn rfl (ylss (e0 rfl) (e0 rfl)) (wN (k301 _ _ ?_)))))
       rcases iteS hM39 with ⟨c825, hM39⟩ | ⟨c825, hM39⟩
       ·refine condT (e0 rfl) (dT c825) (wp_skip (k300 _ _ (seqQ fun Q302 k302 z302 => blockQ fun Q303 qb303 => seqQ fun Q304 k304 z304 => seqQ fun Q305 k305 z305 => wR (Y wn rfl (yFb FL_28_1 (et rfl e39_11)) (Y wn rfl (yLb (u := h157.v) O_22 (e0 rfl) hst (mtR (mtR (mtR (mtR (mtR (mtR (mtR mhR))))))) rfl) (Y wn rfl (ym (v := iV x562) (et rfl e39_20)) ?_))))))
        obtain ⟨x826, gx826, hM39⟩ := bs hM39
        refine Y wn rfl (yIa SL_22 (e0 rfl) (e0 rfl) hst (rdO (mtR (mtR (mtR (mtR mhR))))) gx826) (Y wn rfl (yI O_3 (e0 rfl) hst (rdO (mtR (mtR (mtR (mtR mhR))))) gx826) (Y wn rfl (ygtr (e0 rfl) rfl) (wN (k305 _ _ ?_))))
        rcases iteS hM39 with ⟨c827, hM39⟩ | ⟨c827, hM39⟩
        ·refine condT (e0 rfl) (dT c827) (seqQ fun Q306 k306 z306 => wR (Y wn rfl (ybuild (us := [hnil.v, hnil.v, hnil.v]) [] SO_28 bp0 rfl) (YT wn rfl (r_stbn (vals' := [hnil.v, hnil.v, hnil.v]) (us := [hnil.v, hnil.v, hnil.v]) hst ST_28 (et rfl e39_4) (e0 rfl) rfl rfl (one_of rfl) rfl) ?_)))
         intro w hst
         refine Y wn rfl (ya (v := hnil.v) rfl) (Y wn rfl (ya (v := iV 3) rfl) (wN (k306 _ _ (wp_ret (z304 _ _ _ rfl (qb303 _ _ _ (z302 _ _ _ rfl ?_)))))))
         obtain rfl := someI hM39
         exact zz39 _ _ _ _ rfl rfl (je39_1 _ _ e39_4 rfl rfl (hst.pk 10 [0] rfl) (ho39 _ rfl))
        ·refine condF (e0 rfl) (dF c827) (wp_skip (k304 _ _ (seqQ fun Q307 k307 z307 => wR (Y wn rfl (ya (v := hnil.v) rfl) (Y wn rfl (ya (v := hnil.v) rfl) (wN (k307 _ _ (seqQ fun Q308 k308 z308 => seqQ fun Q309 k309 z309 => wR (Y wn rfl (ya (v := iV 0) rfl) (wN ?_))))))))))
         refine k309 _ _ (blockQ fun Q310 qb310 => ?_)
         obtain ⟨o48, go48, hM39⟩ := bs hM39
         have je48_0 : ∀ (x987 : List Int) (x989 : List Int) (h986 : Hdr) (h988 : Hdr) (f : Nat → Value) (w : World), f 4 = (pB b10) → f 10 = h46.v → f 11 = (pB b49) → f 13 = iV (x158.length : Int) → f 14 = h159.v → f 20 = iV x562 → f 21 = h986.v → f 22 = h988.v → St w0 (ros) (box b10 28 [hnil.v, hnil.v, hnil.v] :: row 3 (rI .i64) h46.v x156 :: row 22 rH h556.v y557 :: fam 3 (rI .i64) y557 x558 :: row 3 (rI .i64) h157.v x158 :: row 22 rH h559.v y560 :: fam 3 (rI .i64) y560 x561 :: box b49 28 [h556.v, h157.v, h559.v] :: row 22 rH h159.v y180 :: fam 3 (rI .i64) y180 x306 :: row 3 (rI .i64) h986.v x987 :: row 3 (rI .i64) h988.v x989 :: rs) w → .inl (x987, x989) = o48 → Q310 (.exit 12) (fr 266 f) w := by
          intro x987 x989 h986 h988 f w eje48_0_4 eje48_0_10 eje48_0_11 eje48_0_13 eje48_0_14 eje48_0_20 eje48_0_21 eje48_0_22 hst ho
          subst ho
          refine qb310 _ _ _ (k308 _ _ (seqQ fun Q359 k359 z359 => wR (Y wn rfl (yFb FL_28_0 (et rfl eje48_0_11)) (Y wn rfl (yFb FL_26_0 (e0 rfl)) (Y wn rfl (yLb (u := h556.v) O_24 (e0 rfl) hst (mtR (mtR (mtR (mtR (mtR (mtR (mtR mhR))))))) rfl) (Y wn rfl (ym (v := h986.v) (et rfl eje48_0_21)) (YH wn rfl (rLt (n := 1) (l := [h986]) hst SLH_24 [h986.v] (bp1 (e0 rfl)) rfl rfl (mks1 rfl (mkF rfl) mks0)) ?_)))))))
          intro h990 w hst
          obtain ⟨x993, gx993, hM39⟩ := bs hM39
          replace hst := hst.pk 4 [3, 0, 0, 0] rfl
          obtain ⟨y994, ey994, gy994⟩ := app_rep gx993 (hst.famL (mtR (mtR (mtR (mtR mhR))))) (show [h986].length = [x987].length from rfl)
          refine YH wn rfl (rAp hst SLH_24 (e0 rfl) (e0 rfl) (rdO (mtR mhR)) gy994) ?_
          intro h992 w hst
          replace hst := hst.pk 12 [11, 4, 0, 0, 0, 0, 0, 0, 0, 0, 0, 0] rfl
          replace hst := hst.fPush
          rw [← ey994, ← (app_some gx993).1] at hst
          refine Y wn rfl (yFb FL_28_0 (et rfl eje48_0_11)) (Y wn rfl (yFb FL_26_0 (e0 rfl)) ?_)
          replace hst := hst.pk 9 [8, 0, 0, 0, 0, 0, 0, 0, 0] rfl
          refine YT wn rfl (r_stb1 (vals' := [h992.v, h157.v, h559.v]) hst O_24 (e0 rfl) (e0 rfl) rfl rfl rfl rfl) ?_
          intro w hst
          refine wN (k359 _ _ (wR (Y wn rfl (yFb FL_28_2 (et rfl eje48_0_11)) (Y wn rfl (yLb (u := h559.v) O_24 (e0 rfl) hst mhR rfl) (Y wn rfl (ym (v := h988.v) (et rfl eje48_0_22)) (YH wn rfl (rLt (n := 1) (l := [h988]) hst SLH_24 [h988.v] (bp1 (e0 rfl)) rfl rfl (mks1 rfl (mkF rfl) mks0)) ?_))))))
          intro h995 w hst
          obtain ⟨x998, gx998, hM39⟩ := bs hM39
          replace hst := hst.pk 9 [8, 0, 0, 0, 0, 0, 0, 0, 0] rfl
          obtain ⟨y999, ey999, gy999⟩ := app_rep gx998 (hst.famL (mtR (mtR (mtR (mtR (mtR (mtR (mtR (mtR (mtR mhR)))))))))) (show [h988].length = [x989].length from rfl)
          refine YH wn rfl (rAp hst SLH_24 (e0 rfl) (e0 rfl) (rdO (mtR mhR)) gy999) ?_
          intro h997 w hst
          replace hst := hst.pk 13 [12, 9, 0, 0, 0, 0, 0, 0, 0, 0, 0, 0, 0] rfl
          replace hst := hst.fPush
          rw [← ey999, ← (app_some gx998).1] at hst
          refine Y wn rfl (yFb FL_28_2 (et rfl eje48_0_11)) ?_
          replace hst := hst.pk 4 [3, 0, 0, 0] rfl
          refine YT wn rfl (r_stb1 (vals' := [h992.v, h157.v, h997.v]) hst O_24 (e0 rfl) (e0 rfl) rfl rfl rfl rfl) ?_
          intro w hst
          refine wN (qb303 _ _ _ (k302 _ _ (wR (Y wn rfl (ym (v := iV x562) (et rfl eje48_0_20)) (Y wn rfl (yadd (e0 rfl) rfl) (Y wn rfl (ya (v := iV (wa .i64 x562 1)) (e0 rfl)) (wN ?_)))))))
          obtain rfl := someI hM39
          exact n39 _ _ _ rfl ⟨_, _, _, _, _, _, _, _, rfl, rfl, eje48_0_4, eje48_0_10, eje48_0_11, eje48_0_13, eje48_0_14, rfl, (hst.pk 12 [7, 7, 5, 4, 5, 2, 1, 0, 2, 2] rfl)⟩
         have je48_1 : ∀ (f : Nat → Value) (w : World), f 4 = (pB b10) → f 5 = hnil.v → f 6 = iV 3 → St w0 (ros) (box b10 28 [hnil.v, hnil.v, hnil.v] :: rs) w → .inr () = o48 → Q310 .ret (fr 266 f) w := by
          intro f w eje48_1_4 eje48_1_5 eje48_1_6 hst ho
          subst ho
          refine qb310 _ _ _ (z308 _ _ _ rfl (qb303 _ _ _ (z302 _ _ _ rfl ?_)))
          obtain rfl := someI hM39
          exact zz39 _ _ _ _ rfl rfl (je39_1 _ _ eje48_1_4 eje48_1_5 eje48_1_6 hst (ho39 _ rfl))
         replace hst := hst.rowNh 3 (rI .i64)
         replace hst := hst.rowNh 3 (rI .i64)
         refine loopQ (fun s a w => ∃ (x903 : List Int) (x905 : List Int) (x906 : Int) (f : Nat → Value) (h902 : Hdr) (h904 : Hdr), (x903, x905, x906) = s ∧ a = fr 266 f ∧ f 4 = (pB b10) ∧ f 10 = h46.v ∧ f 11 = (pB b49) ∧ f 13 = iV (x158.length : Int) ∧ f 14 = h159.v ∧ f 20 = iV x562 ∧ f 21 = h902.v ∧ f 22 = h904.v ∧ f 23 = iV x906 ∧ St w0 (ros) (box b10 28 [hnil.v, hnil.v, hnil.v] :: row 3 (rI .i64) h46.v x156 :: row 22 rH h556.v y557 :: fam 3 (rI .i64) y557 x558 :: row 3 (rI .i64) h157.v x158 :: row 22 rH h559.v y560 :: fam 3 (rI .i64) y560 x561 :: box b49 28 [h556.v, h157.v, h559.v] :: row 22 rH h159.v y180 :: fam 3 (rI .i64) y180 x306 :: row 3 (rI .i64) h902.v x903 :: row 3 (rI .i64) h904.v x905 :: rs) w) go48 ⟨_, _, _, _, _, _, rfl, rfl, e39_4, e39_10, e39_11, e39_13, e39_14, e39_20, rfl, rfl, rfl, (hst.pk 12 [2, 2, 2, 2, 2, 2, 2, 2, 2, 2, 1, 0] rfl)⟩ ?_
         rintro _ _ w r48_ ⟨x903, x905, x906, f, h902, h904, rfl, rfl, e48_4, e48_10, e48_11, e48_13, e48_14, e48_20, e48_21, e48_22, e48_23, hst⟩ hM48 ho48 Q100048 n48 zz48
         refine seqQ fun Q360 k360 z360 => seqQ fun Q361 k361 z361 => wR (Y wn rfl (ym (v := iV x906) (et rfl e48_23)) (Y wn rfl (ym (v := iV (x158.length : Int)) (et rfl e48_13)) (Y wn rfl (ylss (e0 rfl) (e0 rfl)) (wN (k361 _ _ ?_)))))
         rcases iteS hM48 with ⟨c1000, hM48⟩ | ⟨c1000, hM48⟩
         ·refine condT (e0 rfl) (dT c1000) (wp_skip (k360 _ _ (seqQ fun Q362 k362 z362 => ?_)))
          have j51 : ∀ (x1048 : List Int) (x1050 : List Int) (h1047 : Hdr) (h1049 : Hdr) (f : Nat → Value) (w : World), f 4 = (pB b10) → f 10 = h46.v → f 11 = (pB b49) → f 13 = iV (x158.length : Int) → f 14 = h159.v → f 20 = iV x562 → f 21 = h1047.v → f 22 = h1049.v → f 23 = iV x906 → St w0 (ros) (box b10 28 [hnil.v, hnil.v, hnil.v] :: row 3 (rI .i64) h46.v x156 :: row 22 rH h556.v y557 :: fam 3 (rI .i64) y557 x558 :: row 3 (rI .i64) h157.v x158 :: row 22 rH h559.v y560 :: fam 3 (rI .i64) y560 x561 :: box b49 28 [h556.v, h157.v, h559.v] :: row 22 rH h159.v y180 :: fam 3 (rI .i64) y180 x306 :: row 3 (rI .i64) h1047.v x1048 :: row 3 (rI .i64) h1049.v x1050 :: rs) w → sparseref18_Coarsen_j51 x906 x1048 x1050 = some r48_ → Q362 .normal (fr 266 f) w := by
           intro x1048 x1050 h1047 h1049 f w ej51_4 ej51_10 ej51_11 ej51_13 ej51_14 ej51_20 ej51_21 ej51_22 ej51_23 hst hM
           refine k362 _ _ (wR (Y wn rfl (ym (v := iV x906) (et rfl ej51_23)) (Y wn rfl (yadd (e0 rfl) rfl) (Y wn rfl (ya (v := iV (wa .i64 x906 1)) (e0 rfl)) (wN ?_)))))
           obtain rfl := someI hM
           exact n48 _ _ _ rfl ⟨_, _, _, _, _, _, rfl, rfl, ej51_4, ej51_10, ej51_11, ej51_13, ej51_14, ej51_20, ej51_21, ej51_22, rfl, hst⟩
          refine blockQ fun Q377 qb377 => seqQ fun Q378 k378 z378 => seqQ fun Q379 k379 z379 => wR (Y wn rfl (ym (v := iV x562) (et rfl e48_20)) (Y wn rfl (ym (v := iV x906) (et rfl e48_23)) (Y wn rfl (yeql (e0 rfl) (e0 rfl)) (Y wn rfl (ym (v := .bool (decide (x562 = x906))) (e0 rfl)) ?_))))
          obtain ⟨r1054, gr1054, hM48⟩ := bs hM48
          refine joinW 9 (fun f w => f 4 = (pB b10) ∧ f 10 = h46.v ∧ f 11 = (pB b49) ∧ f 13 = iV (x158.length : Int) ∧ f 14 = h159.v ∧ f 20 = iV x562 ∧ f 21 = h902.v ∧ f 22 = h904.v ∧ f 23 = iV x906 ∧ f 226 = .bool r1054 ∧ St w0 (ros) (box b10 28 [hnil.v, hnil.v, hnil.v] :: row 3 (rI .i64) h46.v x156 :: row 22 rH h556.v y557 :: fam 3 (rI .i64) y557 x558 :: row 3 (rI .i64) h157.v x158 :: row 22 rH h559.v y560 :: fam 3 (rI .i64) y560 x561 :: box b49 28 [h556.v, h157.v, h559.v] :: row 22 rH h159.v y180 :: fam 3 (rI .i64) y180 x306 :: row 3 (rI .i64) h902.v x903 :: row 3 (rI .i64) h904.v x905 :: rs) w) (fun j52 => ?_) ?_
          ·rcases iteS gr1054 with ⟨c1056, gr1054⟩ | ⟨c1056, gr1054⟩
           ·refine Gn (wx rfl rfl rfl (dT c1056)) rfl (Gn (wx rfl rfl rfl (dT c1056)) rfl (Gn (wx rfl rfl rfl (dT c1056)) rfl (Gn (wx rfl rfl rfl (dT c1056)) rfl (Gn (wx rfl rfl rfl (dT c1056)) rfl (Gn (wx rfl rfl rfl (dT c1056)) rfl (Gn (wx rfl rfl rfl (dT c1056)) rfl (Gn (wx rfl rfl rfl (dT c1056)) rfl (Y wn rfl (ypt (v := .bool true) (e0 rfl) (dT c1056) rfl) ?_))))))))
            obtain rfl := someI gr1054
            exact j52 _ _ ⟨e48_4, e48_10, e48_11, e48_13, e48_14, e48_20, e48_21, e48_22, e48_23, rfl, hst⟩
           ·refine Y (wg rfl rfl rfl (dF c1056)) rfl (ym (v := h159.v) (et rfl e48_14)) (Y (wg rfl rfl rfl (dF c1056)) rfl (ym (v := iV x562) (et rfl e48_20)) ?_)
            obtain ⟨x1057, gx1057, gr1054⟩ := bs gr1054
            obtain ⟨h1058, gh1058⟩ := hst.famI (mtR (mtR (mtR (mtR (mtR (mtR (mtR (mtR (mtR mhR))))))))) gx1057
            refine Y (wg rfl rfl rfl (dF c1056)) rfl (yIa SLH_24 (e0 rfl) (e0 rfl) hst (rdO (mtR (mtR (mtR (mtR (mtR (mtR (mtR (mtR mhR))))))))) gh1058) (Y (wg rfl rfl rfl (dF c1056)) rfl (yF1 O_22 (e0 rfl) hst (rdO (mtR (mtR (mtR (mtR (mtR (mtR (mtR (mtR mhR))))))))) gh1058 rfl) (Y (wg rfl rfl rfl (dF c1056)) rfl (ym (v := iV x906) (et rfl e48_23)) ?_))
            obtain ⟨x1059, gx1059, gr1054⟩ := bs gr1054
            refine Y (wg rfl rfl rfl (dF c1056)) rfl (yIa SL_22 (e0 rfl) (e0 rfl) hst (rdF (mtR (mtR (mtR (mtR (mtR (mtR (mtR (mtR (mtR mhR))))))))) gh1058 gx1057) gx1059) (Y (wg rfl rfl rfl (dF c1056)) rfl (yI O_3 (e0 rfl) hst (rdF (mtR (mtR (mtR (mtR (mtR (mtR (mtR (mtR (mtR mhR))))))))) gh1058 gx1057) gx1059) (Y (wg rfl rfl rfl (dF c1056)) rfl (yeql (e0 rfl) rfl) (Y wn rfl (ypf (v := .bool (decide (x1059 = 0))) (e0 rfl) (dF c1056) (e0 rfl)) ?_)))
            obtain rfl := someI gr1054
            exact j52 _ _ ⟨e48_4, e48_10, e48_11, e48_13, e48_14, e48_20, e48_21, e48_22, e48_23, rfl, hst⟩
          rintro f w ⟨e1055_4, e1055_10, e1055_11, e1055_13, e1055_14, e1055_20, e1055_21, e1055_22, e1055_23, e1055_226, hst⟩
          refine wN (k379 _ _ ?_)
          rcases iteS hM48 with ⟨c1060, hM48⟩ | ⟨c1060, hM48⟩
          ·exact condT (et rfl e1055_226) c1060 (wp_exit (z378 _ _ _ rfl (qb377 _ _ _ (j51 _ _ _ _ _ _ e1055_4 e1055_10 e1055_11 e1055_13 e1055_14 e1055_20 e1055_21 e1055_22 e1055_23 hst hM48))))
          ·refine condF (et rfl e1055_226) (bfalse c1060) (wp_skip (k378 _ _ (seqQ fun Q380 k380 z380 => seqQ fun Q381 k381 z381 => wR (Y wn rfl (ym (v := h159.v) (et rfl e1055_14)) (Y wn rfl (ym (v := iV x562) (et rfl e1055_20)) ?_)))))
           obtain ⟨x1061, gx1061, hM48⟩ := bs hM48
           obtain ⟨h1062, gh1062⟩ := hst.famI (mtR (mtR (mtR (mtR (mtR (mtR (mtR (mtR (mtR mhR))))))))) gx1061
           refine Y wn rfl (yIa SLH_24 (e0 rfl) (e0 rfl) hst (rdO (mtR (mtR (mtR (mtR (mtR (mtR (mtR (mtR mhR))))))))) gh1062) (Y wn rfl (yF1 O_22 (e0 rfl) hst (rdO (mtR (mtR (mtR (mtR (mtR (mtR (mtR (mtR mhR))))))))) gh1062 rfl) (Y wn rfl (ym (v := iV x906) (et rfl e1055_23)) ?_))
           obtain ⟨x1063, gx1063, hM48⟩ := bs hM48
           refine Y wn rfl (yIa SL_22 (e0 rfl) (e0 rfl) hst (rdF (mtR (mtR (mtR (mtR (mtR (mtR (mtR (mtR (mtR mhR))))))))) gh1062 gx1061) gx1063) (Y wn rfl (yI O_3 (e0 rfl) hst (rdF (mtR (mtR (mtR (mtR (mtR (mtR (mtR (mtR (mtR mhR))))))))) gh1062 gx1061) gx1063) (Y wn rfl (ygtr (e0 rfl) rfl) (wN (k381 _ _ ?_))))
           rcases iteS hM48 with ⟨c1064, hM48⟩ | ⟨c1064, hM48⟩
           ·refine condT (e0 rfl) (dT c1064) (seqQ fun Q382 k382 z382 => wR (Y wn rfl (ybuild (us := [hnil.v, hnil.v, hnil.v]) [] SO_28 bp0 rfl) (YT wn rfl (r_stbn (vals' := [hnil.v, hnil.v, hnil.v]) (us := [hnil.v, hnil.v, hnil.v]) hst ST_28 (et rfl e1055_4) (e0 rfl) rfl rfl (one_of rfl) rfl) ?_)))
            intro w hst
            refine Y wn rfl (ya (v := hnil.v) rfl) (Y wn rfl (ya (v := iV 3) rfl) (wN (k382 _ _ (wp_ret (z380 _ _ _ rfl (qb377 _ _ _ (z362 _ _ _ rfl ?_)))))))
            obtain rfl := someI hM48
            exact zz48 _ _ _ _ rfl rfl (je48_1 _ _ e1055_4 rfl rfl (hst.pk 12 [0] rfl) (ho48 _ rfl))
           ·refine condF (e0 rfl) (dF c1064) (wp_skip (k380 _ _ (seqQ fun Q383 k383 z383 => wR (Y wn rfl (ym (v := h902.v) (et rfl e1055_21)) (Y wn rfl (ym (v := iV x906) (et rfl e1055_23)) (YH wn rfl (rLt (n := 1) (l := [x906]) hst SL_22 [iV x906] (bp1 (e0 rfl)) rfl rfl (mks1 (cs := [iV x906]) rfl mkI mks0)) ?_))))))
            intro h1065 w hst
            obtain ⟨x1067, gx1067, hM48⟩ := bs hM48
            replace hst := hst.pk 12 [11, 0, 0, 0, 0, 0, 0, 0, 0, 0, 0, 0] rfl
            refine YH wn rfl (rAp hst SL_22 (e0 rfl) (e0 rfl) (rdO (mtR mhR)) gx1067) ?_
            intro h1066 w hst
            refine Y wn rfl (ya (v := h1066.v) (e0 rfl)) (wN (k383 _ _ (wR (Y wn rfl (ym (v := h904.v) (et rfl e1055_22)) (Y wn rfl (ym (v := h159.v) (et rfl e1055_14)) (Y wn rfl (ym (v := iV x562) (et rfl e1055_20)) ?_))))))
            obtain ⟨x1068, gx1068, hM48⟩ := bs hM48
            obtain ⟨h1069, gh1069⟩ := hst.famI (mtR (mtR (mtR (mtR (mtR (mtR (mtR (mtR (mtR (mtR (mtR mhR))))))))))) gx1068
            refine Y wn rfl (yIa SLH_24 (e0 rfl) (e0 rfl) hst (rdO (mtR (mtR (mtR (mtR (mtR (mtR (mtR (mtR (mtR (mtR mhR))))))))))) gh1069) (Y wn rfl (yF1 O_22 (e0 rfl) hst (rdO (mtR (mtR (mtR (mtR (mtR (mtR (mtR (mtR (mtR (mtR mhR))))))))))) gh1069 rfl) (Y wn rfl (ym (v := iV x906) (et rfl e1055_23)) ?_))
            obtain ⟨x1070, gx1070, hM48⟩ := bs hM48
            refine Y wn rfl (yIa SL_22 (e0 rfl) (e0 rfl) hst (rdF (mtR (mtR (mtR (mtR (mtR (mtR (mtR (mtR (mtR (mtR (mtR mhR))))))))))) gh1069 gx1068) gx1070) (Y wn rfl (yI O_3 (e0 rfl) hst (rdF (mtR (mtR (mtR (mtR (mtR (mtR (mtR (mtR (mtR (mtR (mtR mhR))))))))))) gh1069 gx1068) gx1070) (YH wn rfl (rLt (n := 1) (l := [x1070]) hst SL_22 [iV x1070] (bp1 (e0 rfl)) rfl rfl (mks1 (cs := [iV x1070]) rfl mkI mks0)) ?_))
            intro h1071 w hst
            obtain ⟨x1073, gx1073, hM48⟩ := bs hM48
            replace hst := hst.pk 14 [13, 0, 0, 0, 0, 0, 0, 0, 0, 0, 0, 0, 0, 0] rfl
            refine YH wn rfl (rAp hst SL_22 (e0 rfl) (e0 rfl) (rdO (mtR mhR)) gx1073) ?_
            intro h1072 w hst
            exact Y wn rfl (ya (v := h1072.v) (e0 rfl)) (wN (qb377 _ _ _ (j51 _ _ _ _ _ _ e1055_4 e1055_10 e1055_11 e1055_13 e1055_14 e1055_20 rfl rfl e1055_23 (hst.pk 14 [4, 4, 4, 4, 4, 4, 4, 4, 4, 4, 2, 0] rfl) hM48)))
         ·refine condF (e0 rfl) (dF c1000) (wp_exit (z360 _ _ _ rfl ?_))
          obtain rfl := someI hM48
          exact zz48 _ _ _ _ rfl rfl (je48_0 _ _ _ _ _ _ e48_4 e48_10 e48_11 e48_13 e48_14 e48_20 e48_21 e48_22 hst (ho48 _ rfl))
       ·refine condF (e0 rfl) (dF c825) (wp_exit (z300 _ _ _ rfl ?_))
        obtain rfl := someI hM39
        exact zz39 _ _ _ _ rfl rfl (je39_0 _ _ _ _ _ _ _ _ e39_4 e39_10 e39_11 (hst.pk 10 [0, 0, 0, 0, 0, 0, 0, 0] rfl) (ho39 _ rfl))
      refine loopQ (fun s a w => ∃ (x242 : List (List Int)) (x243 : Int) (f : Nat → Value), (x242, x243) = s ∧ a = fr 266 f ∧ f 2 = (pB b9) ∧ f 4 = (pB b10) ∧ f 8 = iV (x3.length : Int) ∧ f 10 = h46.v ∧ f 11 = (pB b49) ∧ f 13 = iV (x158.length : Int) ∧ f 14 = h159.v ∧ f 16 = iV x243 ∧ St w0 (ros) (box b9 28 [h2.v, h4.v, h6.v] :: box b10 28 [hnil.v, hnil.v, hnil.v] :: row 3 (rI .i64) h46.v x156 :: row 3 (rI .i64) h157.v x158 :: box b49 28 [hnil.v, h157.v, hnil.v] :: row 22 rH h159.v y180 :: fam 3 (rI .i64) y180 x242 :: rs) w) go12 ⟨_, _, _, rfl, rfl, eje9_0_2, eje9_0_4, eje9_0_8, eje9_0_10, eje9_0_11, eje9_0_13, eje9_0_14, rfl, hst⟩ ?_
      rintro _ _ w r12_ ⟨x242, x243, f, rfl, rfl, e12_2, e12_4, e12_8, e12_10, e12_11, e12_13, e12_14, e12_16, hst⟩ hM12 ho12 Q100012 n12 zz12
      refine seqQ fun Q384 k384 z384 => seqQ fun Q385 k385 z385 => wR (Y wn rfl (ym (v := iV x243) (et rfl e12_16)) (Y wn rfl (ym (v := iV (x3.length : Int)) (et rfl e12_8)) (Y wn rfl (ylss (e0 rfl) (e0 rfl)) (wN (k385 _ _ ?_)))))
      rcases iteS hM12 with ⟨c1074, hM12⟩ | ⟨c1074, hM12⟩
      ·refine condT (e0 rfl) (dT c1074) (wp_skip (k384 _ _ (seqQ fun Q386 k386 z386 => blockQ fun Q387 qb387 => seqQ fun Q388 k388 z388 => wR (Y wn rfl (ya (v := iV 0) rfl) (wN (k388 _ _ (blockQ fun Q389 qb389 => ?_)))))))
       obtain ⟨o53, go53, hM12⟩ := bs hM12
       have je53_0 : ∀ (x1115 : List (List Int)) (f : Nat → Value) (w : World), f 2 = (pB b9) → f 4 = (pB b10) → f 8 = iV (x3.length : Int) → f 10 = h46.v → f 11 = (pB b49) → f 13 = iV (x158.length : Int) → f 14 = h159.v → f 16 = iV x243 → St w0 (ros) (box b9 28 [h2.v, h4.v, h6.v] :: box b10 28 [hnil.v, hnil.v, hnil.v] :: row 3 (rI .i64) h46.v x156 :: row 3 (rI .i64) h157.v x158 :: box b49 28 [hnil.v, h157.v, hnil.v] :: row 22 rH h159.v y180 :: fam 3 (rI .i64) y180 x1115 :: rs) w → x1115 = o53 → Q389 (.exit 8) (fr 266 f) w := by
        intro x1115 f w eje53_0_2 eje53_0_4 eje53_0_8 eje53_0_10 eje53_0_11 eje53_0_13 eje53_0_14 eje53_0_16 hst ho
        subst ho
        refine qb389 _ _ _ (qb387 _ _ _ (k386 _ _ (wR (Y wn rfl (ym (v := iV x243) (et rfl eje53_0_16)) (Y wn rfl (yadd (e0 rfl) rfl) (Y wn rfl (ya (v := iV (wa .i64 x243 1)) (e0 rfl)) (wN ?_)))))))
        obtain rfl := someI hM12
        exact n12 _ _ _ rfl ⟨_, _, _, rfl, rfl, eje53_0_2, eje53_0_4, eje53_0_8, eje53_0_10, eje53_0_11, eje53_0_13, eje53_0_14, rfl, hst⟩
       refine loopQ (fun s a w => ∃ (x1093 : List (List Int)) (x1094 : Int) (f : Nat → Value), (x1093, x1094) = s ∧ a = fr 266 f ∧ f 2 = (pB b9) ∧ f 4 = (pB b10) ∧ f 8 = iV (x3.length : Int) ∧ f 10 = h46.v ∧ f 11 = (pB b49) ∧ f 13 = iV (x158.length : Int) ∧ f 14 = h159.v ∧ f 16 = iV x243 ∧ f 17 = iV x1094 ∧ St w0 (ros) (box b9 28 [h2.v, h4.v, h6.v] :: box b10 28 [hnil.v, hnil.v, hnil.v] :: row 3 (rI .i64) h46.v x156 :: row 3 (rI .i64) h157.v x158 :: box b49 28 [hnil.v, h157.v, hnil.v] :: row 22 rH h159.v y180 :: fam 3 (rI .i64) y180 x1093 :: rs) w) go53 ⟨_, _, _, rfl, rfl, e12_2, e12_4, e12_8, e12_10, e12_11, e12_13, e12_14, e12_16, rfl, hst⟩ ?_
       rintro _ _ w r53_ ⟨x1093, x1094, f, rfl, rfl, e53_2, e53_4, e53_8, e53_10, e53_11, e53_13, e53_14, e53_16, e53_17, hst⟩ hM53 ho53 Q100053 n53 zz53
       refine seqQ fun Q400 k400 z400 => seqQ fun Q401 k401 z401 => wR (Y wn rfl (ym (v := iV x1094) (et rfl e53_17)) (Y wn rfl (yFb FL_28_2 (et rfl e53_2)) (Y wn rfl (yLb (u := h6.v) O_24 (e0 rfl) hst mhR rfl) (Y wn rfl (ym (v := iV x243) (et rfl e53_16)) ?_))))
       obtain ⟨x1116, gx1116, hM53⟩ := bs hM53
       refine Y wn rfl (yIa SL_24 (e0 rfl) (e0 rfl) hst (rdI q3) gx1116) ?_
       obtain ⟨h1117, hst⟩ := iLs hst q3 gx1116
       refine Y wn rfl (yCt O_22 (e0 rfl) hst (mtF mhF) rfl) (Y wn rfl (yLen SL_22 (e0 rfl) hst (rdI mhF)) (Y wn rfl (ylss (e0 rfl) (e0 rfl)) (wN (k401 _ _ ?_))))
       rcases iteS hM53 with ⟨c1118, hM53⟩ | ⟨c1118, hM53⟩
       ·refine condT (e0 rfl) (dT c1118) (wp_skip (k400 _ _ (seqQ fun Q402 k402 z402 => blockQ fun Q403 qb403 => seqQ fun Q404 k404 z404 => ?_)))
        obtain ⟨x1119, gx1119, hM53⟩ := bs hM53
        obtain ⟨x1120, gx1120, hM53⟩ := bs hM53
        obtain ⟨x1122, gx1122, hM53⟩ := bs hM53
        obtain ⟨x1123, gx1123, hM53⟩ := bs hM53
        refine wp_drawR [0, 0, 3, 7, 0, 0, 32, 96, 0, 480, 992, 0, 4064, 8160, 16368, 32752, 15, 131071] [16, 17] 2 folM (by kernel_rfl) (by kernel_rfl) (by kernel_rfl) ?_
        replace hst := hst.drew
        refine DRn (l1 := [0, 1, 2, 3, 4, 5, 6, 7, 8, 9, 10, 11, 12, 13, 14, 15]) (l2 := []) (lc := [16]) (by kernel_rfl) (by kernel_rfl) (by kernel_rfl) (Ry rfl rfl wn (ym (v := h46.v) (et rfl e53_10)) (Ry rfl rfl wn (ym (v := iV x243) (et rfl e53_16)) (Ry rfl rfl wn (yIa SL_22 (e0 rfl) (e0 rfl) hst (rdO (mtR (mtR mhR))) gx1119) (Ry rfl rfl wn (yI O_3 (e0 rfl) hst (rdO (mtR (mtR mhR))) gx1119) (Ry rfl rfl wn (ym (v := h46.v) (et rfl e53_10)) (Ry rfl rfl wn (yFb FL_28_0 (et rfl e53_2)) (Ry rfl rfl wn (yFb FL_26_0 (e0 rfl)) (Ry rfl rfl wn (yLb (u := h2.v) O_24 (e0 rfl) hst mhR rfl) (Ry rfl rfl wn (ym (v := iV x243) (et rfl e53_16)) (Ry rfl rfl wn (yIa SL_24 (e0 rfl) (e0 rfl) hst (rdI (mtF (mtF q1))) gx1120) ?_))))))))))
        obtain ⟨h1121, hst⟩ := iLs hst (mtF (mtF q1)) gx1120
        refine Ry rfl rfl wn (yCt O_22 (e0 rfl) hst (mtF mhF) rfl) (Ry rfl rfl wn (ym (v := iV x1094) (et rfl e53_17)) (Ry rfl rfl wn (yIa SL_22 (e0 rfl) (e0 rfl) hst (rdI mhF) gx1122) (Ry rfl rfl wn (yI O_3 (e0 rfl) hst (rdI mhF) gx1122) (Ry rfl rfl wn (yIa SL_22 (e0 rfl) (e0 rfl) hst (rdO (mtR (mtR mhR))) gx1123) (Ry rfl rfl wn (yI O_3 (e0 rfl) hst (rdO (mtR (mtR mhR))) gx1123) (Rn QSn ?_))))))
        refine Lc rfl ?_ LAn
        refine Ly wn (ya (v := iV x1119) (e0 rfl)) (DRn (l1 := []) (l2 := [4, 5, 6, 7, 8, 9, 10, 11, 12, 13, 14, 15]) (lc := [17]) (by kernel_rfl) (by kernel_rfl) (by kernel_rfl) (Rn (Sy rfl rfl wn (ym (v := h46.v) (et rfl e53_10)) rfl (Sy rfl rfl wn (yFb FL_28_0 (et rfl e53_2)) rfl (Sy rfl rfl wn (yFb FL_26_0 (e0 rfl)) rfl (Sy rfl rfl wn (yLb (u := h2.v) O_24 (e0 rfl) hst mhR rfl) rfl (Sy rfl rfl wn (ym (v := iV x243) (et rfl e53_16)) rfl (Sy rfl rfl wn (yIa SL_24 (e0 rfl) (e0 rfl) hst (rdI (mtF (mtF (mtF (mtF q1))))) gx1120) rfl (Sy rfl rfl wn (yCt O_22 (e0 rfl) hst (mtF mhF) rfl) rfl (Sy rfl rfl wn (ym (v := iV x1094) (et rfl e53_17)) rfl (Sy rfl rfl wn (yIa SL_22 (e0 rfl) (e0 rfl) hst (rdI mhF) gx1122) rfl (Sy rfl rfl wn (yI O_3 (e0 rfl) hst (rdI mhF) gx1122) rfl (Sy rfl rfl wn (yIa SL_22 (e0 rfl) (e0 rfl) hst (rdO (mtR (mtR mhR))) gx1123) rfl (Sy rfl rfl wn (yI O_3 (e0 rfl) hst (rdO (mtR (mtR mhR))) gx1123) rfl QSn)))))))))))) ?_))
        refine Lc rfl ?_ LAn
        refine Ly wn (ya (v := iV x1123) (e0 rfl)) (DRz (l1 := []) (l2 := []) (by kernel_rfl) (by kernel_rfl) (Rn QSn (k404 _ _ ?_)))
        obtain ⟨x1124, gx1124, hM53⟩ := bs hM53
        obtain ⟨x1126, gx1126, hM53⟩ := bs hM53
        obtain ⟨x1128, gx1128, hM53⟩ := bs hM53
        obtain ⟨x1129, gx1129, hM53⟩ := bs hM53
        obtain ⟨x1131, gx1131, hM53⟩ := bs hM53
        obtain ⟨x1132, gx1132, hM53⟩ := bs hM53
        obtain ⟨x1133, gx1133, hM53⟩ := bs hM53
        refine wp_drawR [0, 0, 3, 7, 0, 0, 0, 96, 224, 0, 992, 2016, 0, 4096, 0, 28672, 61440, 0, 258048, 520192, 1048544, 2097151, 4194303] [22] 1 folM (by kernel_rfl) (by kernel_rfl) (by kernel_rfl) ?_
        replace hst := hst.drew
        refine DRn (l1 := [0, 1, 2, 3, 4, 5, 6, 7, 8, 9, 10, 11, 12, 13, 14, 15, 16, 17, 18, 19, 20, 21]) (l2 := []) (lc := [22]) (by kernel_rfl) (by kernel_rfl) (by kernel_rfl) (Ry rfl rfl wn (ym (v := h159.v) (et rfl e53_14)) (Ry rfl rfl wn (ym (v := iV x1119) (e0 rfl)) ?_))
        obtain ⟨h1125, gh1125⟩ := hst.famI (mtR (mtR (mtR (mtR (mtR (mtR mhR)))))) gx1124
        refine Ry rfl rfl wn (yIa SLH_24 (e0 rfl) (e0 rfl) hst (rdO (mtR (mtR (mtR (mtR (mtR mhR)))))) gh1125) (Ry rfl rfl wn (yF1 O_22 (e0 rfl) hst (rdO (mtR (mtR (mtR (mtR (mtR mhR)))))) gh1125 rfl) (Ry rfl rfl wn (ym (v := iV x1123) (e0 rfl)) (Ry rfl rfl wn (ym (v := h159.v) (et rfl e53_14)) (Ry rfl rfl wn (ym (v := iV x1119) (e0 rfl)) ?_))))
        obtain ⟨h1127, gh1127⟩ := hst.famI (mtR (mtR (mtR (mtR (mtR (mtR mhR)))))) gx1126
        refine Ry rfl rfl wn (yIa SLH_24 (e0 rfl) (e0 rfl) hst (rdO (mtR (mtR (mtR (mtR (mtR mhR)))))) gh1127) (Ry rfl rfl wn (yF1 O_22 (e0 rfl) hst (rdO (mtR (mtR (mtR (mtR (mtR mhR)))))) gh1127 rfl) (Ry rfl rfl wn (ym (v := iV x1123) (e0 rfl)) (Ry rfl rfl wn (yIa SL_22 (e0 rfl) (e0 rfl) hst (rdF (mtR (mtR (mtR (mtR (mtR (mtR mhR)))))) gh1127 gx1126) gx1128) (Ry rfl rfl wn (yI O_3 (e0 rfl) hst (rdF (mtR (mtR (mtR (mtR (mtR (mtR mhR)))))) gh1127 gx1126) gx1128) (Ry rfl rfl wn (yFb FL_28_2 (et rfl e53_2)) (Ry rfl rfl wn (yLb (u := h6.v) O_24 (e0 rfl) hst mhR rfl) (Ry rfl rfl wn (ym (v := iV x243) (et rfl e53_16)) (Ry rfl rfl wn (yIa SL_24 (e0 rfl) (e0 rfl) hst (rdI (mtF (mtF (mtF (mtF q3))))) gx1129) ?_))))))))
        obtain ⟨h1130, hst⟩ := iLs hst (mtF (mtF (mtF (mtF q3)))) gx1129
        refine Ry rfl rfl wn (yCt O_22 (e0 rfl) hst (mtF mhF) rfl) (Ry rfl rfl wn (ym (v := iV x1094) (et rfl e53_17)) (Ry rfl rfl wn (yIa SL_22 (e0 rfl) (e0 rfl) hst (rdI mhF) gx1131) (Ry rfl rfl wn (yI O_3 (e0 rfl) hst (rdI mhF) gx1131) (Ry rfl rfl wn (yadd (e0 rfl) (e0 rfl)) (Ry rfl rfl wn (yIs SL_22 (e0 rfl) (e0 rfl) hst (rdF (mtR (mtR (mtR (mtR (mtR (mtR mhR)))))) gh1125 gx1124) gx1132) (Rn QSn ?_))))))
        refine Lc rfl ?_ LAn
        replace hst := hst.pk 7 [6, 0, 0, 0, 0, 0, 0] rfl
        refine LT wn (r_sti (cs := [iV (wa .i64 x1128 x1131)]) (hst.foc gh1125 gx1124) O_3 rfl (e0 rfl) (e0 rfl) rfl mkI gx1132) ?_
        intro w hst
        replace hst := hst.unfoc' gh1125 gx1133
        refine DRz (l1 := []) (l2 := []) (by kernel_rfl) (by kernel_rfl) (Rn QSn (qb403 _ _ _ (k402 _ _ (wR (Y wn rfl (ym (v := iV x1094) (et rfl e53_17)) (Y wn rfl (yadd (e0 rfl) rfl) (Y wn rfl (ya (v := iV (wa .i64 x1094 1)) (e0 rfl)) (wN ?_))))))))
        obtain rfl := someI hM53
        exact n53 _ _ _ rfl ⟨_, _, _, rfl, rfl, e53_2, e53_4, e53_8, e53_10, e53_11, e53_13, e53_14, e53_16, rfl, ((hst.pk 7 [1, 1, 1, 1, 1, 1, 0] rfl).facts (allT (allT (allT (allT (allT (allT allI)))))))⟩
       ·refine condF (e0 rfl) (dF c1118) (wp_exit (z400 _ _ _ rfl ?_))
        obtain rfl := someI hM53
        exact zz53 _ _ _ _ rfl rfl (je53_0 _ _ _ e53_2 e53_4 e53_8 e53_10 e53_11 e53_13 e53_14 e53_16 (hst.facts (allT (allT allI))) (ho53 _ rfl))
      ·refine condF (e0 rfl) (dF c1074) (wp_exit (z384 _ _ _ rfl ?_))
       obtain rfl := someI hM12
       exact zz12 _ _ _ _ rfl rfl (je12_0 _ _ _ e12_4 e12_10 e12_11 e12_13 e12_14 (hst.pk 7 [1, 1, 1, 1, 1, 1] rfl) (ho12 _ rfl))
     refine loopQ (fun s a w => ∃ (x169 : List (List Int)) (x170 : Int) (f : Nat → Value) (y168 : List Hdr), (x169, x170) = s ∧ a = fr 266 f ∧ f 2 = (pB b9) ∧ f 4 = (pB b10) ∧ f 8 = iV (x3.length : Int) ∧ f 10 = h46.v ∧ f 11 = (pB b49) ∧ f 13 = iV (x158.length : Int) ∧ f 14 = h159.v ∧ f 15 = iV x170 ∧ St w0 (ros) (box b9 28 [h2.v, h4.v, h6.v] :: box b10 28 [hnil.v, hnil.v, hnil.v] :: row 3 (rI .i64) h46.v x156 :: row 3 (rI .i64) h157.v x158 :: box b49 28 [hnil.v, h157.v, hnil.v] :: row 22 rH h159.v y168 :: fam 3 (rI .i64) y168 x169 :: rs) w) go9 ⟨_, _, _, _, rfl, rfl, eje8_0_2, eje8_0_4, eje8_0_8, eje8_0_10, eje8_0_11, rfl, rfl, rfl, (hst.pk 7 [2, 2, 2, 2, 2, 0, 0] rfl)⟩ ?_
     rintro _ _ w r9_ ⟨x169, x170, f, y168, rfl, rfl, e9_2, e9_4, e9_8, e9_10, e9_11, e9_13, e9_14, e9_15, hst⟩ hM9 ho9 Q100009 n9 zz9
     refine seqQ fun Q405 k405 z405 => seqQ fun Q406 k406 z406 => wR (Y wn rfl (ym (v := iV x170) (et rfl e9_15)) (Y wn rfl (ym (v := iV (x158.length : Int)) (et rfl e9_13)) (Y wn rfl (ylss (e0 rfl) (e0 rfl)) (wN (k406 _ _ ?_)))))
     rcases iteS hM9 with ⟨c1134, hM9⟩ | ⟨c1134, hM9⟩
     ·refine condT (e0 rfl) (dT c1134) (wp_skip (k405 _ _ (seqQ fun Q407 k407 z407 => blockQ fun Q408 qb408 => wR (Y wn rfl (ym (v := h159.v) (et rfl e9_14)) (Y wn rfl (ym (v := iV x170) (et rfl e9_15)) (Y wn rfl (ym (v := iV (x158.length : Int)) (et rfl e9_13)) ?_))))))
      obtain ⟨x1137, gx1137, hM9⟩ := bs hM9
      refine YH wn rfl (rMk hst SL_22 (e0 rfl) gx1137) ?_
      intro h1135 w hst
      obtain ⟨x1138, gx1138, hM9⟩ := bs hM9
      obtain ⟨y1139, gy1139⟩ := setI_len (u := h1135) gx1138 (hst.famL (mtR (mtR (mtR (mtR (mtR (mtR (mtR mhR))))))))
      refine Y wn rfl (yIs SLH_24 (e0 rfl) (e0 rfl) hst (rdO (mtR (mtR (mtR (mtR (mtR (mtR mhR))))))) gy1139) ?_
      replace hst := hst.pk 7 [6, 0, 0, 0, 0, 0, 0] rfl
      refine YT wn rfl (r_sti (cs := [h1135.v]) hst O_22 rfl (e0 rfl) (e0 rfl) rfl (mkF rfl) gy1139) ?_
      intro w hst
      replace hst := hst.pk 8 [1, 6, 0, 0, 0, 0, 0, 0] rfl
      replace hst := hst.fput gy1139 gx1138
      refine wN (qb408 _ _ _ (k407 _ _ (wR (Y wn rfl (ym (v := iV x170) (et rfl e9_15)) (Y wn rfl (yadd (e0 rfl) rfl) (Y wn rfl (ya (v := iV (wa .i64 x170 1)) (e0 rfl)) (wN ?_)))))))
      obtain rfl := someI hM9
      exact n9 _ _ _ rfl ⟨_, _, _, _, rfl, rfl, e9_2, e9_4, e9_8, e9_10, e9_11, e9_13, e9_14, rfl, (hst.pk 7 [2, 2, 2, 2, 2, 1, 0] rfl)⟩
     ·refine condF (e0 rfl) (dF c1134) (wp_exit (z405 _ _ _ rfl ?_))
      obtain rfl := someI hM9
      exact zz9 _ _ _ _ rfl rfl (je9_0 _ _ _ _ e9_2 e9_4 e9_8 e9_10 e9_11 e9_13 e9_14 hst (ho9 _ rfl))
    replace hst := hst.rowNh 3 (rI .i64)
    refine loopQ (fun s a w => ∃ (x99 : List Int) (x101 : List Int) (x102 : Int) (f : Nat → Value) (h100 : Hdr), (x99, x101, x102) = s ∧ a = fr 266 f ∧ f 1 = h8.v ∧ f 2 = (pB b9) ∧ f 4 = (pB b10) ∧ f 8 = iV (x3.length : Int) ∧ f 10 = h46.v ∧ f 11 = (pB b49) ∧ f 12 = iV x102 ∧ St w0 (ros) (box b9 28 [h2.v, h4.v, h6.v] :: box b10 28 [hnil.v, hnil.v, hnil.v] :: row 3 (rI .i64) h46.v x99 :: row 3 (rI .i64) h100.v x101 :: box b49 28 [hnil.v, h100.v, hnil.v] :: rs) w) go8 ⟨_, _, _, _, _, rfl, rfl, eje5_0_1, eje5_0_2, eje5_0_4, eje5_0_8, rfl, rfl, rfl, (hst.pk 5 [3, 3, 2, 0, 0] rfl)⟩ ?_
    rintro _ _ w r8_ ⟨x99, x101, x102, f, h100, rfl, rfl, e8_1, e8_2, e8_4, e8_8, e8_10, e8_11, e8_12, hst⟩ hM8 ho8 Q100008 n8 zz8
    refine seqQ fun Q409 k409 z409 => seqQ fun Q410 k410 z410 => wR (Y wn rfl (ym (v := iV x102) (et rfl e8_12)) (Y wn rfl (ym (v := iV (x3.length : Int)) (et rfl e8_8)) (Y wn rfl (ylss (e0 rfl) (e0 rfl)) (wN (k410 _ _ ?_)))))
    rcases iteS hM8 with ⟨c1140, hM8⟩ | ⟨c1140, hM8⟩
    ·refine condT (e0 rfl) (dT c1140) (wp_skip (k409 _ _ (seqQ fun Q411 k411 z411 => ?_)))
     have j54 : ∀ (x1171 : List Int) (x1173 : List Int) (h1172 : Hdr) (f : Nat → Value) (w : World), f 1 = h8.v → f 2 = (pB b9) → f 4 = (pB b10) → f 8 = iV (x3.length : Int) → f 10 = h46.v → f 11 = (pB b49) → f 12 = iV x102 → St w0 (ros) (box b9 28 [h2.v, h4.v, h6.v] :: box b10 28 [hnil.v, hnil.v, hnil.v] :: row 3 (rI .i64) h46.v x1171 :: row 3 (rI .i64) h1172.v x1173 :: box b49 28 [hnil.v, h1172.v, hnil.v] :: rs) w → sparseref18_Coarsen_j54 x102 x1171 x1173 = some r8_ → Q411 .normal (fr 266 f) w := by
      intro x1171 x1173 h1172 f w ej54_1 ej54_2 ej54_4 ej54_8 ej54_10 ej54_11 ej54_12 hst hM
      refine k411 _ _ (wR (Y wn rfl (ym (v := iV x102) (et rfl ej54_12)) (Y wn rfl (yadd (e0 rfl) rfl) (Y wn rfl (ya (v := iV (wa .i64 x102 1)) (e0 rfl)) (wN ?_)))))
      obtain rfl := someI hM
      exact n8 _ _ _ rfl ⟨_, _, _, _, _, rfl, rfl, ej54_1, ej54_2, ej54_4, ej54_8, ej54_10, ej54_11, rfl, hst⟩
     refine blockQ fun Q424 qb424 => seqQ fun Q425 k425 z425 => seqQ fun Q426 k426 z426 => wR (Y wn rfl (ym (v := h8.v) (et rfl e8_1)) (Y wn rfl (ym (v := iV x102) (et rfl e8_12)) ?_))
     obtain ⟨x1174, gx1174, hM8⟩ := bs hM8
     refine Y wn rfl (yIa SL_22 (e0 rfl) (e0 rfl) hst (rdI q4) gx1174) (Y wn rfl (yI O_3 (e0 rfl) hst (rdI q4) gx1174) (Y wn rfl (ym (v := iV x102) (et rfl e8_12)) (Y wn rfl (ylss (e0 rfl) (e0 rfl)) (wN (k426 _ _ ?_)))))
     rcases iteS hM8 with ⟨c1175, hM8⟩ | ⟨c1175, hM8⟩
     ·refine condT (e0 rfl) (dT c1175) (seqQ fun Q427 k427 z427 => wR (Y wn rfl (ym (v := h46.v) (et rfl e8_10)) (Y wn rfl (ym (v := iV x102) (et rfl e8_12)) (Y wn rfl (ym (v := h46.v) (et rfl e8_10)) (Y wn rfl (ym (v := h8.v) (et rfl e8_1)) (Y wn rfl (ym (v := iV x102) (et rfl e8_12)) ?_))))))
      obtain ⟨x1176, gx1176, hM8⟩ := bs hM8
      refine Y wn rfl (yIa SL_22 (e0 rfl) (e0 rfl) hst (rdI q4) gx1176) (Y wn rfl (yI O_3 (e0 rfl) hst (rdI q4) gx1176) ?_)
      obtain ⟨x1177, gx1177, hM8⟩ := bs hM8
      refine Y wn rfl (yIa SL_22 (e0 rfl) (e0 rfl) hst (rdO (mtR (mtR mhR))) gx1177) (Y wn rfl (yI O_3 (e0 rfl) hst (rdO (mtR (mtR mhR))) gx1177) ?_)
      obtain ⟨x1178, gx1178, hM8⟩ := bs hM8
      refine Y wn rfl (yIs SL_22 (e0 rfl) (e0 rfl) hst (rdO (mtR (mtR mhR))) gx1178) ?_
      replace hst := hst.pk 3 [2, 0, 0] rfl
      refine YT wn rfl (r_sti (cs := [iV x1177]) hst O_3 rfl (e0 rfl) (e0 rfl) rfl mkI gx1178) ?_
      intro w hst
      refine wN (k427 _ _ (seqQ fun Q428 k428 z428 => ?_))
      obtain ⟨x1179, gx1179, hM8⟩ := bs hM8
      obtain ⟨x1180, gx1180, hM8⟩ := bs hM8
      obtain ⟨x1181, gx1181, hM8⟩ := bs hM8
      obtain ⟨x1182, gx1182, hM8⟩ := bs hM8
      obtain ⟨x1183, gx1183, hM8⟩ := bs hM8
      refine wp_drawR [0, 1, 0, 0, 12, 28, 0, 64, 0, 0, 768, 1792, 4032, 8128, 0, 16384, 0, 114688, 245760, 524224, 1048575, 2097151] [21] 1 folM (by kernel_rfl) (by kernel_rfl) (by kernel_rfl) ?_
      replace hst := hst.drew
      refine DRn (l1 := [0, 1, 2, 3, 4, 5, 6, 7, 8, 9, 10, 11, 12, 13, 14, 15, 16, 17, 18, 19, 20]) (l2 := []) (lc := [21]) (by kernel_rfl) (by kernel_rfl) (by kernel_rfl) (Ry rfl rfl wn (yFb FL_28_1 (et rfl e8_11)) (Ry rfl rfl wn (yLb (u := h100.v) O_22 (e0 rfl) hst (mtR (mtR (mtR (mtR mhR)))) rfl) (Ry rfl rfl wn (ym (v := h46.v) (et rfl e8_10)) (Ry rfl rfl wn (ym (v := iV x102) (et rfl e8_12)) (Ry rfl rfl wn (yIa SL_22 (e0 rfl) (e0 rfl) hst (rdO mhR) gx1179) (Ry rfl rfl wn (yI O_3 (e0 rfl) hst (rdO mhR) gx1179) (Ry rfl rfl wn (yFb FL_28_1 (et rfl e8_11)) (Ry rfl rfl wn (yLb (u := h100.v) O_22 (e0 rfl) hst (mtR (mtR (mtR (mtR mhR)))) rfl) (Ry rfl rfl wn (ym (v := h46.v) (et rfl e8_10)) (Ry rfl rfl wn (ym (v := iV x102) (et rfl e8_12)) (Ry rfl rfl wn (yIa SL_22 (e0 rfl) (e0 rfl) hst (rdO mhR) gx1180) (Ry rfl rfl wn (yI O_3 (e0 rfl) hst (rdO mhR) gx1180) (Ry rfl rfl wn (yIa SL_22 (e0 rfl) (e0 rfl) hst (rdO (mtR (mtR (mtR mhR)))) gx1181) ?_)))))))))))))
      refine Ry rfl rfl wn (yI O_3 (e0 rfl) hst (rdO (mtR (mtR (mtR mhR)))) gx1181) (Ry rfl rfl wn (yFb FL_28_1 (et rfl e8_2)) (Ry rfl rfl wn (yLb (u := h4.v) O_22 (e0 rfl) hst (mtR mhR) rfl) (Ry rfl rfl wn (ym (v := iV x102) (et rfl e8_12)) (Ry rfl rfl wn (yIa SL_22 (e0 rfl) (e0 rfl) hst (rdI q2) gx1182) (Ry rfl rfl wn (yI O_3 (e0 rfl) hst (rdI q2) gx1182) (Ry rfl rfl wn (yadd (e0 rfl) (e0 rfl)) (Ry rfl rfl wn (yIs SL_22 (e0 rfl) (e0 rfl) hst (rdO (mtR (mtR (mtR mhR)))) gx1183) (Rn QSn ?_))))))))
      refine Lc rfl ?_ LAn
      replace hst := hst.pk 4 [3, 0, 0, 0] rfl
      refine LT wn (r_sti (cs := [iV (wa .i64 x1181 x1182)]) hst O_3 rfl (e0 rfl) (e0 rfl) rfl mkI gx1183) ?_
      intro w hst
      exact DRz (l1 := []) (l2 := []) (by kernel_rfl) (by kernel_rfl) (Rn QSn (k428 _ _ (wp_exit (z425 _ _ _ rfl (qb424 _ _ _ (j54 _ _ _ _ _ e8_1 e8_2 e8_4 e8_8 e8_10 e8_11 e8_12 (hst.pk 5 [2, 2, 1, 0, 0] rfl) hM8))))))
     ·refine condF (e0 rfl) (dF c1175) (wp_skip (k425 _ _ (seqQ fun Q429 k429 z429 => wR (Y wn rfl (ym (v := h46.v) (et rfl e8_10)) (Y wn rfl (ym (v := iV x102) (et rfl e8_12)) (Y wn rfl (yFb FL_28_1 (et rfl e8_11)) (Y wn rfl (yLb (u := h100.v) O_22 (e0 rfl) hst (mtR (mtR (mtR (mtR mhR)))) rfl) (Y wn rfl (yLen SL_22 (e0 rfl) hst (rdO (mtR (mtR (mtR mhR))))) ?_))))))))
      obtain ⟨x1184, gx1184, hM8⟩ := bs hM8
      refine Y wn rfl (yIs SL_22 (e0 rfl) (e0 rfl) hst (rdO (mtR (mtR mhR))) gx1184) ?_
      replace hst := hst.pk 3 [2, 0, 0] rfl
      refine YT wn rfl (r_sti (cs := [iV (x101.length : Int)]) hst O_3 rfl (e0 rfl) (e0 rfl) rfl mkI gx1184) ?_
      intro w hst
      refine wN (k429 _ _ ?_)
      obtain ⟨x1185, gx1185, hM8⟩ := bs hM8
      obtain ⟨x1188, gx1188, hM8⟩ := bs hM8
      refine wp_drawR [0, 1, 0, 4, 0, 28, 60, 124, 255, 511, 1023] [7, 8, 10] 3 folM (by kernel_rfl) (by kernel_rfl) (by kernel_rfl) ?_
      replace hst := hst.drew
      refine DRn (l1 := [0, 1, 2, 3, 4, 5, 6]) (l2 := []) (lc := [7]) (by kernel_rfl) (by kernel_rfl) (by kernel_rfl) (Ry rfl rfl wn (yFb FL_28_1 (et rfl e8_11)) (Ry rfl rfl wn (yLb (u := h100.v) O_22 (e0 rfl) hst (mtR (mtR (mtR (mtR mhR)))) rfl) (Ry rfl rfl wn (yFb FL_28_1 (et rfl e8_2)) (Ry rfl rfl wn (yLb (u := h4.v) O_22 (e0 rfl) hst (mtR mhR) rfl) (Ry rfl rfl wn (ym (v := iV x102) (et rfl e8_12)) (Ry rfl rfl wn (yIa SL_22 (e0 rfl) (e0 rfl) hst (rdI q2) gx1185) (Ry rfl rfl wn (yI O_3 (e0 rfl) hst (rdI q2) gx1185) (Rn QSn ?_))))))))
      refine Lc rfl ?_ LAn
      refine LH wn (rLt (n := 1) (l := [x1185]) hst SL_22 [iV x1185] (bp1 (e0 rfl)) rfl rfl (mks1 (cs := [iV x1185]) rfl mkI mks0)) ?_
      intro h1186 w hst
      refine DRn (l1 := []) (l2 := [0, 1]) (lc := [8]) (by kernel_rfl) (by kernel_rfl) (by kernel_rfl) (Rn (Sy rfl rfl wn (yFb FL_28_1 (et rfl e8_11)) rfl (Sy rfl rfl wn (yLb (u := h100.v) O_22 (e0 rfl) hst (mtR (mtR (mtR (mtR (mtR mhR))))) rfl) rfl QSn)) ?_)
      refine Lc rfl ?_ LAn
      replace hst := hst.pk 5 [4, 0, 0, 0, 0] rfl
      refine LH wn (rAp hst SL_22 (e0 rfl) (e0 rfl) (rdO (mtR mhR)) gx1188) ?_
      intro h1187 w hst
      refine DRn (l1 := [9]) (l2 := []) (lc := [10]) (by kernel_rfl) (by kernel_rfl) (by kernel_rfl) (Ry rfl rfl wn (yFb FL_28_1 (et rfl e8_11)) (Rn QSn ?_))
      refine Lc rfl ?_ LAn
      replace hst := hst.pk 6 [5, 0, 0, 0, 0, 0] rfl
      refine LT wn (r_stb1 (vals' := [hnil.v, h1187.v, hnil.v]) hst O_22 (e0 rfl) (e0 rfl) rfl rfl rfl rfl) ?_
      intro w hst
      exact DRz (l1 := []) (l2 := []) (by kernel_rfl) (by kernel_rfl) (Rn QSn (qb424 _ _ _ (j54 _ _ _ _ _ e8_1 e8_2 e8_4 e8_8 e8_10 e8_11 e8_12 (hst.pk 6 [4, 4, 3, 1, 0] rfl) hM8)))
    ·refine condF (e0 rfl) (dF c1140) (wp_exit (z409 _ _ _ rfl ?_))
     obtain rfl := someI hM8
     exact zz8 _ _ _ _ rfl rfl (je8_0 _ _ _ _ _ e8_2 e8_4 e8_8 e8_10 e8_11 hst (ho8 _ rfl))
   have je5_1 : ∀ (f : Nat → Value) (w : World), f 4 = (pB b10) → f 5 = hnil.v → f 6 = iV 130 → St w0 (ros) (box b10 28 [hnil.v, hnil.v, hnil.v] :: rs) w → .inr () = o5 → Q10 .ret (fr 266 f) w := by
    intro f w eje5_1_4 eje5_1_5 eje5_1_6 hst ho
    subst ho
    refine qb10 _ _ _ (z8 _ _ _ rfl ?_)
    obtain rfl := someI hM
    replace hst := ((hst.rowNh 22 rH).fNew 3 (rI .i64)).pk 2 [1, 0] rfl
    replace hst := hst.rowNh 3 (rI .i64)
    replace hst := ((hst.rowNh 22 rH).fNew 3 (rI .i64)).pk 2 [1, 0] rfl
    replace hst := hst.rowNh 3 (rI .i64)
    exact hQ _ _ _ (fin3r Tryz.results15 (rcs2 rfl eje5_1_4 hst (mtR (mtR (mtR (mtR (mtR (mtR mhR)))))) ST_28 rfl) ⟨rfl, eje5_1_5⟩ ⟨rfl, eje5_1_6⟩ ⟨_, _, _, _, _, _, rfl, (hst.pk 7 [4, 4, 3, 1, 1, 0] rfl)⟩)
   refine loopQ (fun s a w => ∃ (x29 : Int) (f : Nat → Value), x29 = s ∧ a = fr 266 f ∧ f 1 = h8.v ∧ f 2 = (pB b9) ∧ f 4 = (pB b10) ∧ f 8 = iV (x3.length : Int) ∧ f 9 = iV x29 ∧ St w0 (ros) (box b9 28 [h2.v, h4.v, h6.v] :: box b10 28 [hnil.v, hnil.v, hnil.v] :: rs) w) go5 ⟨_, _, rfl, rfl, rfl, rfl, rfl, rfl, rfl, (hst.pk 2 [1, 0] rfl)⟩ ?_
   rintro _ _ w r5_ ⟨x29, f, rfl, rfl, e5_1, e5_2, e5_4, e5_8, e5_9, hst⟩ hM5 ho5 Q100005 n5 zz5
   refine seqQ fun Q430 k430 z430 => seqQ fun Q431 k431 z431 => wR (Y wn rfl (ym (v := iV x29) (et rfl e5_9)) (Y wn rfl (ym (v := iV (x3.length : Int)) (et rfl e5_8)) (Y wn rfl (ylss (e0 rfl) (e0 rfl)) (wN (k431 _ _ ?_)))))
   rcases iteS hM5 with ⟨c1189, hM5⟩ | ⟨c1189, hM5⟩
   ·refine condT (e0 rfl) (dT c1189) (wp_skip (k430 _ _ (seqQ fun Q432 k432 z432 => blockQ fun Q433 qb433 => seqQ fun Q434 k434 z434 => wR (Y wn rfl (ym (v := h8.v) (et rfl e5_1)) (Y wn rfl (ym (v := iV x29) (et rfl e5_9)) ?_)))))
    obtain ⟨x1190, gx1190, hM5⟩ := bs hM5
    refine Y wn rfl (yIa SL_22 (e0 rfl) (e0 rfl) hst (rdI q4) gx1190) (Y wn rfl (yI O_3 (e0 rfl) hst (rdI q4) gx1190) (Y wn rfl (ylss (e0 rfl) rfl) (Y wn rfl (ym (v := .bool (decide (x1190 < 0))) (e0 rfl)) ?_)))
    obtain ⟨r1192, gr1192, hM5⟩ := bs hM5
    refine joinW 7 (fun f w => f 1 = h8.v ∧ f 2 = (pB b9) ∧ f 4 = (pB b10) ∧ f 8 = iV (x3.length : Int) ∧ f 9 = iV x29 ∧ f 55 = .bool r1192 ∧ St w0 (ros) (box b9 28 [h2.v, h4.v, h6.v] :: box b10 28 [hnil.v, hnil.v, hnil.v] :: rs) w) (fun j55 => ?_) ?_
    ·rcases iteS gr1192 with ⟨c1194, gr1192⟩ | ⟨c1194, gr1192⟩
     ·refine Gn (wx rfl rfl rfl (dT c1194)) rfl (Gn (wx rfl rfl rfl (dT c1194)) rfl (Gn (wx rfl rfl rfl (dT c1194)) rfl (Gn (wx rfl rfl rfl (dT c1194)) rfl (Gn (wx rfl rfl rfl (dT c1194)) rfl (Gn (wx rfl rfl rfl (dT c1194)) rfl (Y wn rfl (ypt (v := .bool true) (e0 rfl) (dT c1194) rfl) ?_))))))
      obtain rfl := someI gr1192
      exact j55 _ _ ⟨e5_1, e5_2, e5_4, e5_8, e5_9, rfl, hst⟩
     ·refine Y (wg rfl rfl rfl (dF c1194)) rfl (ym (v := h8.v) (et rfl e5_1)) (Y (wg rfl rfl rfl (dF c1194)) rfl (ym (v := iV x29) (et rfl e5_9)) ?_)
      obtain ⟨x1195, gx1195, gr1192⟩ := bs gr1192
      refine Y (wg rfl rfl rfl (dF c1194)) rfl (yIa SL_22 (e0 rfl) (e0 rfl) hst (rdI q4) gx1195) (Y (wg rfl rfl rfl (dF c1194)) rfl (yI O_3 (e0 rfl) hst (rdI q4) gx1195) (Y (wg rfl rfl rfl (dF c1194)) rfl (ym (v := iV (x3.length : Int)) (et rfl e5_8)) (Y (wg rfl rfl rfl (dF c1194)) rfl (ygeq (e0 rfl) (e0 rfl)) (Y wn rfl (ypf (v := .bool (decide ((x3.length : Int) ≤ x1195))) (e0 rfl) (dF c1194) (e0 rfl)) ?_))))
      obtain rfl := someI gr1192
      exact j55 _ _ ⟨e5_1, e5_2, e5_4, e5_8, e5_9, rfl, hst⟩
    rintro f w ⟨e1193_1, e1193_2, e1193_4, e1193_8, e1193_9, e1193_55, hst⟩
    refine Y wn rfl (ym (v := .bool r1192) (et rfl e1193_55)) ?_
    obtain ⟨r1198, gr1198, hM5⟩ := bs hM5
    refine joinW 10 (fun f w => f 1 = h8.v ∧ f 2 = (pB b9) ∧ f 4 = (pB b10) ∧ f 8 = iV (x3.length : Int) ∧ f 9 = iV x29 ∧ f 66 = .bool r1198 ∧ St w0 (ros) (box b9 28 [h2.v, h4.v, h6.v] :: box b10 28 [hnil.v, hnil.v, hnil.v] :: rs) w) (fun j56 => ?_) ?_
    ·rcases iteS gr1198 with ⟨c1200, gr1198⟩ | ⟨c1200, gr1198⟩
     ·refine Gn (wx rfl rfl rfl c1200) rfl (Gn (wx rfl rfl rfl c1200) rfl (Gn (wx rfl rfl rfl c1200) rfl (Gn (wx rfl rfl rfl c1200) rfl (Gn (wx rfl rfl rfl c1200) rfl (Gn (wx rfl rfl rfl c1200) rfl (Gn (wx rfl rfl rfl c1200) rfl (Gn (wx rfl rfl rfl c1200) rfl (Gn (wx rfl rfl rfl c1200) rfl (Y wn rfl (ypt (v := .bool true) (e0 rfl) c1200 rfl) ?_)))))))))
      obtain rfl := someI gr1198
      exact j56 _ _ ⟨e1193_1, e1193_2, e1193_4, e1193_8, e1193_9, rfl, hst⟩
     ·refine Y (wg rfl rfl rfl (bfalse c1200)) rfl (ym (v := h8.v) (et rfl e1193_1)) (Y (wg rfl rfl rfl (bfalse c1200)) rfl (ym (v := h8.v) (et rfl e1193_1)) (Y (wg rfl rfl rfl (bfalse c1200)) rfl (ym (v := iV x29) (et rfl e1193_9)) ?_))
      obtain ⟨x1201, gx1201, gr1198⟩ := bs gr1198
      refine Y (wg rfl rfl rfl (bfalse c1200)) rfl (yIa SL_22 (e0 rfl) (e0 rfl) hst (rdI q4) gx1201) (Y (wg rfl rfl rfl (bfalse c1200)) rfl (yI O_3 (e0 rfl) hst (rdI q4) gx1201) ?_)
      obtain ⟨x1202, gx1202, gr1198⟩ := bs gr1198
      refine Y (wg rfl rfl rfl (bfalse c1200)) rfl (yIa SL_22 (e0 rfl) (e0 rfl) hst (rdI q4) gx1202) (Y (wg rfl rfl rfl (bfalse c1200)) rfl (yI O_3 (e0 rfl) hst (rdI q4) gx1202) (Y (wg rfl rfl rfl (bfalse c1200)) rfl (ym (v := iV x29) (et rfl e1193_9)) (Y (wg rfl rfl rfl (bfalse c1200)) rfl (yneq (e0 rfl) (e0 rfl)) (Y wn rfl (ypf (v := .bool (!(decide (x1202 = x29)))) (e0 rfl) (bfalse c1200) (e0 rfl)) ?_))))
      obtain rfl := someI gr1198
      exact j56 _ _ ⟨e1193_1, e1193_2, e1193_4, e1193_8, e1193_9, rfl, hst⟩
    rintro f w ⟨e1199_1, e1199_2, e1199_4, e1199_8, e1199_9, e1199_66, hst⟩
    refine wN (k434 _ _ ?_)
    rcases iteS hM5 with ⟨c1203, hM5⟩ | ⟨c1203, hM5⟩
    ·refine condT (et rfl e1199_66) c1203 (seqQ fun Q435 k435 z435 => wR (Y wn rfl (ybuild (us := [hnil.v, hnil.v, hnil.v]) [] SO_28 bp0 rfl) ?_))
     replace hst := hst.pk 2 [1, 0] rfl
     refine YT wn rfl (r_stbn (vals' := [hnil.v, hnil.v, hnil.v]) (us := [hnil.v, hnil.v, hnil.v]) hst ST_28 (et rfl e1199_4) (e0 rfl) rfl rfl (one_of rfl) rfl) ?_
     intro w hst
     refine Y wn rfl (ya (v := hnil.v) rfl) (Y wn rfl (ya (v := iV 130) rfl) (wN (k435 _ _ (wp_ret (qb433 _ _ _ (z432 _ _ _ rfl ?_))))))
     obtain rfl := someI hM5
     exact zz5 _ _ _ _ rfl rfl (je5_1 _ _ e1199_4 rfl rfl (hst.pk 2 [0] rfl) (ho5 _ rfl))
    ·refine condF (et rfl e1199_66) (bfalse c1203) (wp_skip (qb433 _ _ _ (k432 _ _ (wR (Y wn rfl (ym (v := iV x29) (et rfl e1199_9)) (Y wn rfl (yadd (e0 rfl) rfl) (Y wn rfl (ya (v := iV (wa .i64 x29 1)) (e0 rfl)) (wN ?_))))))))
     obtain rfl := someI hM5
     exact n5 _ _ _ rfl ⟨_, _, rfl, rfl, e1199_1, e1199_2, e1199_4, e1199_8, rfl, hst⟩
   ·refine condF (e0 rfl) (dF c1189) (wp_exit (z430 _ _ _ rfl ?_))
    obtain rfl := someI hM5
    exact zz5 _ _ _ _ rfl rfl (je5_0 _ _ e5_1 e5_2 e5_4 e5_8 hst (ho5 _ rfl))
  ·refine condT (e0 rfl) (nT (dF c13)) (seqQ fun Q436 k436 z436 => wR (Y wn rfl (ybuild (us := [hnil.v, hnil.v, hnil.v]) [] SO_28 bp0 rfl) (YT wn rfl (r_stbn (vals' := [hnil.v, hnil.v, hnil.v]) (us := [hnil.v, hnil.v, hnil.v]) hst ST_28 (e0 rfl) (e0 rfl) rfl rfl (one_of rfl) rfl) ?_)))
   intro w hst
   refine Y wn rfl (ya (v := hnil.v) rfl) (Y wn rfl (ya (v := iV 2) rfl) (wN (k436 _ _ (wp_ret (z6 _ _ _ rfl ?_)))))
   obtain rfl := someI hM
   replace hst := ((hst.rowNh 22 rH).fNew 3 (rI .i64)).pk 2 [1, 0] rfl
   replace hst := hst.rowNh 3 (rI .i64)
   replace hst := ((hst.rowNh 22 rH).fNew 3 (rI .i64)).pk 2 [1, 0] rfl
   replace hst := hst.rowNh 3 (rI .i64)
   exact hQ _ _ _ (fin3r Tryz.results15 (rcs2 rfl rfl hst (mtR (mtR (mtR (mtR (mtR (mtR mhR)))))) ST_28 rfl) ⟨rfl, rfl⟩ ⟨rfl, rfl⟩ ⟨_, _, _, _, _, _, rfl, (hst.pk 8 [4, 4, 3, 1, 1, 0] rfl)⟩)
 ·refine condT (e0 rfl) (nT (dF c12)) (seqQ fun Q437 k437 z437 => wR (Y wn rfl (ybuild (us := [hnil.v, hnil.v, hnil.v]) [] SO_28 bp0 rfl) (Y wn rfl (ym (v := iV r11) (e0 rfl)) (YT wn rfl (r_stbn (vals' := [hnil.v, hnil.v, hnil.v]) (us := [hnil.v, hnil.v, hnil.v]) hst ST_28 (e0 rfl) (e0 rfl) rfl rfl (one_of rfl) rfl) ?_))))
  intro w hst
  refine Y wn rfl (ya (v := hnil.v) rfl) (Y wn rfl (ya (v := iV r11) (e0 rfl)) (wN (k437 _ _ (wp_ret (z2 _ _ _ rfl ?_)))))
  obtain rfl := someI hM
  replace hst := ((hst.rowNh 22 rH).fNew 3 (rI .i64)).pk 2 [1, 0] rfl
  replace hst := hst.rowNh 3 (rI .i64)
  replace hst := ((hst.rowNh 22 rH).fNew 3 (rI .i64)).pk 2 [1, 0] rfl
  replace hst := hst.rowNh 3 (rI .i64)
  exact hQ _ _ _ (fin3r Tryz.results15 (rcs2 rfl rfl hst (mtR (mtR (mtR (mtR (mtR (mtR mhR)))))) ST_28 rfl) ⟨rfl, rfl⟩ ⟨rfl, rfl⟩ ⟨_, _, _, _, _, _, rfl, (hst.pk 8 [4, 4, 3, 1, 1, 0] rfl)⟩)

theorem dissect_Bisect_ok {x1 : List (List Int)} {x3 : List Int} {x5 : List (List Int)} {h2 : Hdr} {h4 : Hdr} {h6 : Hdr} {out : (List Int) × Int} (hM : dissect_Bisect x1 x3 x5 = some out) (q1 : imm (rS (rI .i64)) h2.v x1 ∈ ros) (q2 : imm (rI .i64) h4.v x3 ∈ ros) (q3 : imm (rS (rI .i64)) h6.v x5 ∈ ros) (hst : St w0 ros (rs) w) :
  Calls Tryz.prog 16 #[.agg #[h2.v, h4.v, h6.v]] w (fun e w => ∃ (h100001 : Hdr), e = .returned (.tuple #[h100001.v, iV out.2]) ∧ St w0 (ros) (row 3 (rI .i64) h100001.v out.1 :: rs) w) := by
 refine enterQ Tryz.func16 rfl Tryz.ntmps16 rfl fun Q hQ => seqQ fun Q1 k1 z1 => wR (YB wn rfl (r_box (vals := [h2.v, h4.v, h6.v]) hst (e0 rfl) rfl) ?_)
 intro b7 w hst
 refine Y wn rfl (ya (v := hnil.v) rfl) (Y wn rfl (ya (v := iV 0) rfl) (wN (k1 _ _ (seqQ fun Q2 k2 z2 => wR (Y wn rfl (yLbs (us := [h2.v, h4.v, h6.v]) ST_28 (e0 rfl) hst mhR rfl rfl) ?_)))))
 obtain ⟨r8, gr8, hM⟩ := bs hM
 refine Yc wn rfl (yCall FN_23 (a1 (e0 rfl))) (dissect_CheckWeighted_ok (hM := gr8) (hst := hst) (q1 := q1) (q2 := q2) (q3 := q3)) ?_
 rintro _ w ⟨rfl, hst⟩
 refine ⟨_, rfl, ?_⟩
 refine Y wn rfl (ya (v := iV r8) (e0 rfl)) (wN (k2 _ _ (seqQ fun Q3 k3 z3 => seqQ fun Q4 k4 z4 => wR (Y wn rfl (ym (v := iV r8) (e0 rfl)) (Y wn rfl (yneq (e0 rfl) rfl) (wN (k4 _ _ ?_)))))))
 rcases iteS hM with ⟨c9, hM⟩ | ⟨c9, hM⟩
 ·refine condF (e0 rfl) (nF (dT c9)) (wp_skip (k3 _ _ (seqQ fun Q5 k5 z5 => wR (Y wn rfl (yLbs (us := [h2.v, h4.v, h6.v]) ST_28 (e0 rfl) hst mhR rfl rfl) ?_))))
  obtain ⟨r10, gr10, hM⟩ := bs hM
  refine Yc wn rfl (yCall FN_43 (a1 (e0 rfl))) (dissect_bisect_ok (hM := gr10) (hst := hst) (q1 := q1) (q2 := q2) (q3 := q3)) ?_
  rintro _ w ⟨h11, rfl, hst⟩
  refine ⟨_, rfl, ?_⟩
  refine Y wn rfl (ym (v := .tuple #[h11.v, .bool r10.2]) (e0 rfl)) (Y wn rfl (yx (v := h11.v) (e0 rfl) rfl) (Y wn rfl (yx (v := .bool r10.2) (e0 rfl) rfl) (Y wn rfl (ya (v := h11.v) (e0 rfl)) (Y wn rfl (ya (v := .bool r10.2) (e0 rfl)) (wN (k5 _ _ (seqQ fun Q6 k6 z6 => seqQ fun Q7 k7 z7 => wR (Y wn rfl (ym (v := .bool r10.2) (e0 rfl)) (Y wn rfl (ynot (e0 rfl)) (wN (k7 _ _ ?_)))))))))))
  rcases iteS hM with ⟨c12, hM⟩ | ⟨c12, hM⟩
  ·refine condF (e0 rfl) (nF c12) (wp_skip (k6 _ _ (seqQ fun Q8 k8 z8 => wR (Y wn rfl (ym (v := h11.v) (e0 rfl)) (Y wn rfl (ya (v := h11.v) (e0 rfl)) (Y wn rfl (ya (v := iV 0) rfl) (wN (k8 _ _ (wp_ret ?_)))))))))
   obtain rfl := someI hM
   exact hQ _ _ _ (fin2r Tryz.results16 ⟨rfl, rfl⟩ ⟨rfl, rfl⟩ ⟨_, rfl, (hst.pk 2 [0] rfl)⟩)
  ·refine condT (e0 rfl) (nT (bfalse c12)) (seqQ fun Q9 k9 z9 => wR (Y wn rfl (ya (v := hnil.v) rfl) (Y wn rfl (ya (v := iV 3) rfl) (wN (k9 _ _ (wp_ret (z6 _ _ _ rfl ?_)))))))
   obtain rfl := someI hM
   replace hst := hst.rowNh 3 (rI .i64)
   exact hQ _ _ _ (fin2r Tryz.results16 ⟨rfl, rfl⟩ ⟨rfl, rfl⟩ ⟨_, rfl, (hst.pk 3 [0] rfl)⟩)
 ·refine condT (e0 rfl) (nT (dF c9)) (seqQ fun Q10 k10 z10 => wR (Y wn rfl (ym (v := iV r8) (e0 rfl)) (Y wn rfl (ya (v := hnil.v) rfl) (Y wn rfl (ya (v := iV r8) (e0 rfl)) (wN (k10 _ _ (wp_ret (z3 _ _ _ rfl ?_))))))))
  obtain rfl := someI hM
  replace hst := hst.rowNh 3 (rI .i64)
  exact hQ _ _ _ (fin2r Tryz.results16 ⟨rfl, rfl⟩ ⟨rfl, rfl⟩ ⟨_, rfl, (hst.pk 2 [0] rfl)⟩)

theorem sparseref18_Total_ok {x1 : List (List Int)} {x3 : List Int} {x5 : List (List Int)} {h2 : Hdr} {h4 : Hdr} {h6 : Hdr} {out : Int} (hM : sparseref18_Total x1 x3 x5 = some out) (q1 : imm (rS (rI .i64)) h2.v x1 ∈ ros) (q2 : imm (rI .i64) h4.v x3 ∈ ros) (q3 : imm (rS (rI .i64)) h6.v x5 ∈ ros) (hst : St w0 ros (rs) w) :
  Calls Tryz.prog 75 #[.agg #[h2.v, h4.v, h6.v]] w (fun e w => e = .returned (iV out) ∧ St w0 (ros) (rs) w) := by
 refine enterQ Tryz.func75 rfl Tryz.ntmps75 rfl fun Q hQ => seqQ fun Q1 k1 z1 => wR (YB wn rfl (r_box (vals := [h2.v, h4.v, h6.v]) hst (e0 rfl) rfl) ?_)
 intro b7 w hst
 refine Y wn rfl (ya (v := iV 0) rfl) (wN (k1 _ _ (seqQ fun Q2 k2 z2 => wR (Y wn rfl (ya (v := iV 0) rfl) (wN (k2 _ _ (seqQ fun Q3 k3 z3 => seqQ fun Q4 k4 z4 => wR (Y wn rfl (ya (v := iV 0) rfl) (wN (k4 _ _ ?_))))))))))
 refine blockQ fun Q5 qb5 => ?_
 obtain ⟨o1, go1, hM⟩ := bs hM
 have je1_0 : ∀ (x16 : Int) (f : Nat → Value) (w : World), f 3 = iV x16 → St w0 (ros) (rs) w → x16 = o1 → Q5 (.exit 0) (fr 20 f) w := by
  intro x16 f w eje1_0_3 hst ho
  subst ho
  refine qb5 _ _ _ (k3 _ _ (seqQ fun Q14 k14 z14 => wR (Y wn rfl (ym (v := iV x16) (et rfl eje1_0_3)) (Y wn rfl (ya (v := iV x16) (e0 rfl)) (wN (k14 _ _ (wp_ret ?_)))))))
  obtain rfl := someI hM
  exact hQ _ _ _ (fin1r Tryz.results75 ⟨rfl, rfl⟩ ⟨rfl, hst⟩)
 refine loopQ (fun s a w => ∃ (x10 : Int) (x11 : Int) (f : Nat → Value), (x10, x11) = s ∧ a = fr 20 f ∧ f 1 = (pB b7) ∧ f 3 = iV x10 ∧ f 4 = iV x11 ∧ St w0 (ros) (box b7 28 [h2.v, h4.v, h6.v] :: rs) w) go1 ⟨_, _, _, rfl, rfl, rfl, rfl, rfl, hst⟩ ?_
 rintro _ _ w r1_ ⟨x10, x11, f, rfl, rfl, e1_1, e1_3, e1_4, hst⟩ hM1 ho1 Q100001 n1 zz1
 refine seqQ fun Q15 k15 z15 => seqQ fun Q16 k16 z16 => wR (Y wn rfl (ym (v := iV x11) (et rfl e1_4)) (Y wn rfl (yFb FL_28_1 (et rfl e1_1)) (Y wn rfl (yLb (u := h4.v) O_22 (e0 rfl) hst mhR rfl) (Y wn rfl (yLen SL_22 (e0 rfl) hst (rdI q2)) (Y wn rfl (ylss (e0 rfl) (e0 rfl)) (wN (k16 _ _ ?_)))))))
 rcases iteS hM1 with ⟨c17, hM1⟩ | ⟨c17, hM1⟩
 ·refine condT (e0 rfl) (dT c17) (wp_skip (k15 _ _ (seqQ fun Q17 k17 z17 => blockQ fun Q18 qb18 => wR (Y wn rfl (ym (v := iV x10) (et rfl e1_3)) (Y wn rfl (yFb FL_28_1 (et rfl e1_1)) (Y wn rfl (yLb (u := h4.v) O_22 (e0 rfl) hst mhR rfl) (Y wn rfl (ym (v := iV x11) (et rfl e1_4)) ?_)))))))
  obtain ⟨x18, gx18, hM1⟩ := bs hM1
  refine Y wn rfl (yIa SL_22 (e0 rfl) (e0 rfl) hst (rdI q2) gx18) (Y wn rfl (yI O_3 (e0 rfl) hst (rdI q2) gx18) (Y wn rfl (yadd (e0 rfl) (e0 rfl)) (Y wn rfl (ya (v := iV (wa .i64 x10 x18)) (e0 rfl)) (wN (qb18 _ _ _ (k17 _ _ (wR (Y wn rfl (ym (v := iV x11) (et rfl e1_4)) (Y wn rfl (yadd (e0 rfl) rfl) (Y wn rfl (ya (v := iV (wa .i64 x11 1)) (e0 rfl)) (wN ?_)))))))))))
  obtain rfl := someI hM1
  exact n1 _ _ _ rfl ⟨_, _, _, rfl, rfl, e1_1, rfl, rfl, hst⟩
 ·refine condF (e0 rfl) (dF c17) (wp_exit (z15 _ _ _ rfl ?_))
  obtain rfl := someI hM1
  exact zz1 _ _ _ _ rfl rfl (je1_0 _ _ _ e1_3 (hst.pk 1 [] rfl) (ho1 _ rfl))

theorem sparseref12_Levels_ok {x1 : List (List Int)} {x3 : Int} {h2 : Hdr} {out : (List (List Int))} (hM : sparseref12_Levels x1 x3 = some out) (q1 : imm (rS (rI .i64)) h2.v x1 ∈ ros) (hst : St w0 ros (rs) w) :
  Calls Tryz.prog 78 #[.agg #[h2.v], iV x3] w (fun e w => ∃ (h100001 : Hdr), e = .returned (h100001.v) ∧ St w0 (ros) (row 22 (rS (rI .i64)) h100001.v out :: rs) w) := by
 refine enterQ Tryz.func78 rfl Tryz.ntmps78 rfl fun Q hQ => seqQ fun Q1 k1 z1 => wR (YB wn rfl (r_box (vals := [h2.v]) hst (e0 rfl) rfl) ?_)
 intro b4 w hst
 refine Y wn rfl (ya (v := hnil.v) rfl) (wN (k1 _ _ (seqQ fun Q2 k2 z2 => wR (Y wn rfl (yFb FL_26_0 (e0 rfl)) (Y wn rfl (yLb (u := h2.v) O_24 (e0 rfl) hst mhR rfl) (Y wn rfl (yLen SL_24 (e0 rfl) hst (rdI q1)) (Y wn rfl (ya (v := iV (x1.length : Int)) (e0 rfl)) (wN (k2 _ _ (seqQ fun Q3 k3 z3 => seqQ fun Q4 k4 z4 => wR ?_))))))))))
 refine Y wn rfl (yLbs (us := [h2.v]) ST_26 (e0 rfl) hst mhR rfl rfl) ?_
 obtain ⟨r5, gr5, hM⟩ := bs hM
 refine Yc wn rfl (yCall FN_54 (a1 (e0 rfl))) (sparseref12_Check_ok (hM := gr5) (hst := hst) (q1 := q1)) ?_
 rintro _ w ⟨rfl, hst⟩
 refine ⟨_, rfl, ?_⟩
 refine Y wn rfl (yneq (e0 rfl) rfl) (Y wn rfl (ym (v := .bool (!(decide (r5 = 0)))) (e0 rfl)) ?_)
 refine joinW 3 (fun f w => f 1 = iV x3 ∧ f 2 = (pB b4) ∧ f 5 = iV (x1.length : Int) ∧ f 24 = .bool ((!(decide (r5 = 0))) || (decide (x3 < 0))) ∧ St w0 (ros) (box b4 26 [h2.v] :: rs) w) (fun j1 => ?_) ?_
 ·rcases Bool.eq_false_or_eq_true (!(decide (r5 = 0))) with c7 | c7
  ·exact Gn (wx rfl rfl rfl c7) rfl (Gn (wx rfl rfl rfl c7) rfl (Y wn rfl (ypt (v := .bool true) (e0 rfl) c7 rfl) (j1 _ _ ⟨rfl, rfl, rfl, (congrArg Value.bool (orT c7)), hst⟩)))
  ·exact Y (wg rfl rfl rfl c7) rfl (ym (v := iV x3) (e0 rfl)) (Y (wg rfl rfl rfl c7) rfl (ylss (e0 rfl) rfl) (Y wn rfl (ypf (v := .bool (decide (x3 < 0))) (e0 rfl) c7 (e0 rfl)) (j1 _ _ ⟨rfl, rfl, rfl, (congrArg Value.bool (orF c7)), hst⟩)))
 rintro f w ⟨e6_1, e6_2, e6_5, e6_24, hst⟩
 refine Y wn rfl (ym (v := .bool ((!(decide (r5 = 0))) || (decide (x3 < 0)))) (et rfl e6_24)) ?_
 refine joinW 4 (fun f w => f 1 = iV x3 ∧ f 2 = (pB b4) ∧ f 5 = iV (x1.length : Int) ∧ f 29 = .bool (((!(decide (r5 = 0))) || (decide (x3 < 0))) || (decide ((x1.length : Int) ≤ x3))) ∧ St w0 (ros) (box b4 26 [h2.v] :: rs) w) (fun j2 => ?_) ?_
 ·rcases Bool.eq_false_or_eq_true (((!(decide (r5 = 0))) || (decide (x3 < 0)))) with c9 | c9
  ·exact Gn (wx rfl rfl rfl c9) rfl (Gn (wx rfl rfl rfl c9) rfl (Gn (wx rfl rfl rfl c9) rfl (Y wn rfl (ypt (v := .bool true) (e0 rfl) c9 rfl) (j2 _ _ ⟨e6_1, e6_2, e6_5, (congrArg Value.bool (orT c9)), hst⟩))))
  ·exact Y (wg rfl rfl rfl c9) rfl (ym (v := iV x3) (et rfl e6_1)) (Y (wg rfl rfl rfl c9) rfl (ym (v := iV (x1.length : Int)) (et rfl e6_5)) (Y (wg rfl rfl rfl c9) rfl (ygeq (e0 rfl) (e0 rfl)) (Y wn rfl (ypf (v := .bool (decide ((x1.length : Int) ≤ x3))) (e0 rfl) c9 (e0 rfl)) (j2 _ _ ⟨e6_1, e6_2, e6_5, (congrArg Value.bool (orF c9)), hst⟩))))
 rintro f w ⟨e8_1, e8_2, e8_5, e8_29, hst⟩
 refine wN (k4 _ _ ?_)
 rcases iteS hM with ⟨c10, hM⟩ | ⟨c10, hM⟩
 ·refine condT (et rfl e8_29) c10 (seqQ fun Q5 k5 z5 => wR (Y wn rfl (ya (v := hnil.v) rfl) (wN (k5 _ _ (wp_ret (z3 _ _ _ rfl ?_))))))
  obtain rfl := someI hM
  replace hst := hst.rowNh 22 (rS (rI .i64))
  exact hQ _ _ _ (fin1r Tryz.results78 ⟨rfl, rfl⟩ ⟨_, rfl, (hst.pk 2 [0] rfl)⟩)
 ·refine condF (et rfl e8_29) (bfalse c10) (wp_skip (k3 _ _ (seqQ fun Q6 k6 z6 => wR (Y wn rfl (ym (v := iV (x1.length : Int)) (et rfl e8_5)) ?_))))
  obtain ⟨x13, gx13, hM⟩ := bs hM
  refine YH wn rfl (rMk hst SL_93 (e0 rfl) gx13) ?_
  intro h11 w hst
  refine Y wn rfl (ya (v := h11.v) (e0 rfl)) (wN (k6 _ _ (seqQ fun Q7 k7 z7 => wR (Y wn rfl (ym (v := h11.v) (e0 rfl)) (Y wn rfl (ym (v := iV x3) (et rfl e8_1)) ?_)))))
  obtain ⟨x14, gx14, hM⟩ := bs hM
  refine Y wn rfl (yIs SL_93 (e0 rfl) (e0 rfl) hst (rdO mhR) gx14) (YT wn rfl (r_sti (cs := [.bool true]) hst O_4 rfl (e0 rfl) rfl rfl mkB gx14) ?_)
  intro w hst
  refine wN (k7 _ _ (seqQ fun Q8 k8 z8 => wR (Y wn rfl (ym (v := iV x3) (et rfl e8_1)) (YH wn rfl (rLt (n := 1) (l := [x3]) hst SL_22 [iV x3] (bp1 (e0 rfl)) rfl rfl (mks1 (cs := [iV x3]) rfl mkI mks0)) ?_))))
  intro h15 w hst
  refine Y wn rfl (ya (v := h15.v) (e0 rfl)) (wN (k8 _ _ (seqQ fun Q9 k9 z9 => wR (Y wn rfl (ya (v := hnil.v) rfl) (wN (k9 _ _ (seqQ fun Q10 k10 z10 => blockQ fun Q11 qb11 => ?_)))))))
  obtain ⟨o73, go73, hM⟩ := bs hM
  have je73_0 : ∀ (x391 : List (List Int)) (h390 : Hdr) (f : Nat → Value) (w : World), f 8 = h390.v → St w0 (ros) (row 22 (rS (rI .i64)) h390.v x391 :: rs) w → x391 = o73 → Q11 (.exit 0) (fr 107 f) w := by
   intro x391 h390 f w eje73_0_8 hst ho
   subst ho
   refine qb11 _ _ _ (k10 _ _ (seqQ fun Q192 k192 z192 => wR (Y wn rfl (ym (v := h390.v) (et rfl eje73_0_8)) (Y wn rfl (ya (v := h390.v) (e0 rfl)) (wN (k192 _ _ (wp_ret ?_)))))))
   obtain rfl := someI hM
   exact hQ _ _ _ (fin1r Tryz.results78 ⟨rfl, rfl⟩ ⟨_, rfl, hst⟩)
  replace hst := hst.rowNh 22 (rS (rI .i64))
  refine loopQ (fun s a w => ∃ (x198 : List Bool) (x200 : List Int) (x202 : List (List Int)) (f : Nat → Value) (h199 : Hdr) (h201 : Hdr), (x198, x200, x202) = s ∧ a = fr 107 f ∧ f 2 = (pB b4) ∧ f 5 = iV (x1.length : Int) ∧ f 6 = h11.v ∧ f 7 = h199.v ∧ f 8 = h201.v ∧ St w0 (ros) (box b4 26 [h2.v] :: row 4 rB h11.v x198 :: row 3 (rI .i64) h199.v x200 :: row 22 (rS (rI .i64)) h201.v x202 :: rs) w) go73 ⟨_, _, _, _, _, _, rfl, rfl, e8_2, e8_5, rfl, rfl, rfl, (hst.pk 4 [3, 2, 1, 0] rfl)⟩ ?_
  rintro _ _ w r73_ ⟨x198, x200, x202, f, h199, h201, rfl, rfl, e73_2, e73_5, e73_6, e73_7, e73_8, hst⟩ hM73 ho73 Q100073 n73 zz73
  refine seqQ fun Q193 k193 z193 => seqQ fun Q194 k194 z194 => wR (Y wn rfl (ym (v := h199.v) (et rfl e73_7)) (Y wn rfl (yLen SL_22 (e0 rfl) hst (rdO (mtR (mtR mhR)))) (Y wn rfl (ygtr (e0 rfl) rfl) (wN (k194 _ _ ?_)))))
  rcases iteS hM73 with ⟨c392, hM73⟩ | ⟨c392, hM73⟩
  ·refine condT (e0 rfl) (dT c392) (wp_skip (k193 _ _ (blockQ fun Q195 qb195 => seqQ fun Q196 k196 z196 => wR (Y wn rfl (ym (v := h201.v) (et rfl e73_8)) (Y wn rfl (ym (v := h199.v) (et rfl e73_7)) ?_)))))
   replace hst := hst.pk 3 [2, 0, 0] rfl
   replace hst := hst.fz
   refine YH wn rfl (rLt (n := 1) (l := [x200]) hst SL_24 [h199.v] (bp1 (e0 rfl)) rfl rfl (mks1 (cs := [h199.v]) rfl (mkS mhF) mks0)) ?_
   intro h393 w hst
   obtain ⟨x395, gx395, hM73⟩ := bs hM73
   replace hst := hst.pk 4 [3, 0, 0, 0] rfl
   refine YH wn rfl (rAp hst SL_24 (e0 rfl) (e0 rfl) (rdO (mtR mhR)) gx395) ?_
   intro h394 w hst
   refine Y wn rfl (ya (v := h394.v) (e0 rfl)) (wN (k196 _ _ (seqQ fun Q197 k197 z197 => wR (Y wn rfl (ym (v := iV (x1.length : Int)) (et rfl e73_5)) ?_))))
   obtain ⟨x398, gx398, hM73⟩ := bs hM73
   refine YH wn rfl (rMk hst SL_93 (e0 rfl) gx398) ?_
   intro h396 w hst
   refine Y wn rfl (ya (v := h396.v) (e0 rfl)) (wN (k197 _ _ (seqQ fun Q198 k198 z198 => seqQ fun Q199 k199 z199 => wR (Y wn rfl (ya (v := iV 0) rfl) (wN (k199 _ _ (blockQ fun Q200 qb200 => ?_)))))))
   obtain ⟨o94, go94, hM73⟩ := bs hM73
   have je94_0 : ∀ (x481 : List Bool) (f : Nat → Value) (w : World), f 2 = (pB b4) → f 5 = iV (x1.length : Int) → f 6 = h11.v → f 8 = h394.v → f 9 = h396.v → St w0 (ros) (box b4 26 [h2.v] :: row 4 rB h11.v x198 :: row 22 (rS (rI .i64)) h394.v x395 :: row 4 rB h396.v x481 :: rs) w → x481 = o94 → Q200 (.exit 2) (fr 107 f) w := by
    intro x481 f w eje94_0_2 eje94_0_5 eje94_0_6 eje94_0_8 eje94_0_9 hst ho
    subst ho
    refine qb200 _ _ _ (k198 _ _ (seqQ fun Q239 k239 z239 => wR (Y wn rfl (ya (v := hnil.v) rfl) (wN (k239 _ _ (seqQ fun Q240 k240 z240 => seqQ fun Q241 k241 z241 => wR (Y wn rfl (ya (v := iV 0) rfl) (wN (k241 _ _ (blockQ fun Q242 qb242 => ?_))))))))))
    obtain ⟨o97, go97, hM73⟩ := bs hM73
    have je97_0 : ∀ (x518 : List Bool) (x520 : List Int) (h519 : Hdr) (f : Nat → Value) (w : World), f 2 = (pB b4) → f 5 = iV (x1.length : Int) → f 6 = h11.v → f 8 = h394.v → f 13 = h519.v → St w0 (ros) (box b4 26 [h2.v] :: row 4 rB h11.v x518 :: row 22 (rS (rI .i64)) h394.v x395 :: row 3 (rI .i64) h519.v x520 :: rs) w → (x518, x520) = o97 → Q242 (.exit 6) (fr 107 f) w := by
     intro x518 x520 h519 f w eje97_0_2 eje97_0_5 eje97_0_6 eje97_0_8 eje97_0_13 hst ho
     subst ho
     refine qb242 _ _ _ (k240 _ _ (wR (Y wn rfl (ym (v := h519.v) (et rfl eje97_0_13)) (Y wn rfl (ya (v := h519.v) (e0 rfl)) (wN (qb195 _ _ _ ?_))))))
     obtain rfl := someI hM73
     exact n73 _ _ _ rfl ⟨_, _, _, _, _, _, rfl, rfl, eje97_0_2, eje97_0_5, eje97_0_6, rfl, eje97_0_8, (hst.pk 4 [0, 0, 1, 0] rfl)⟩
    replace hst := hst.rowNh 3 (rI .i64)
    refine loopQ (fun s a w => ∃ (x496 : List Bool) (x498 : List Int) (x499 : Int) (f : Nat → Value) (h497 : Hdr), (x496, x498, x499) = s ∧ a = fr 107 f ∧ f 2 = (pB b4) ∧ f 5 = iV (x1.length : Int) ∧ f 6 = h11.v ∧ f 8 = h394.v ∧ f 9 = h396.v ∧ f 13 = h497.v ∧ f 14 = iV x499 ∧ St w0 (ros) (box b4 26 [h2.v] :: row 4 rB h11.v x496 :: row 22 (rS (rI .i64)) h394.v x395 :: row 4 rB h396.v x481 :: row 3 (rI .i64) h497.v x498 :: rs) w) go97 ⟨_, _, _, _, _, rfl, rfl, eje94_0_2, eje94_0_5, eje94_0_6, eje94_0_8, eje94_0_9, rfl, rfl, (hst.pk 5 [1, 1, 1, 1, 0] rfl)⟩ ?_
    rintro _ _ w r97_ ⟨x496, x498, x499, f, h497, rfl, rfl, e97_2, e97_5, e97_6, e97_8, e97_9, e97_13, e97_14, hst⟩ hM97 ho97 Q100097 n97 zz97
    refine seqQ fun Q257 k257 z257 => seqQ fun Q258 k258 z258 => wR (Y wn rfl (ym (v := iV x499) (et rfl e97_14)) (Y wn rfl (ym (v := iV (x1.length : Int)) (et rfl e97_5)) (Y wn rfl (ylss (e0 rfl) (e0 rfl)) (wN (k258 _ _ ?_)))))
    rcases iteS hM97 with ⟨c521, hM97⟩ | ⟨c521, hM97⟩
    ·refine condT (e0 rfl) (dT c521) (wp_skip (k257 _ _ (seqQ fun Q259 k259 z259 => blockQ fun Q260 qb260 => seqQ fun Q261 k261 z261 => wR (Y wn rfl (ym (v := h396.v) (et rfl e97_9)) (Y wn rfl (ym (v := iV x499) (et rfl e97_14)) ?_)))))
     obtain ⟨x522, gx522, hM97⟩ := bs hM97
     refine Y wn rfl (yIa SL_93 (e0 rfl) (e0 rfl) hst (rdO (mtR (mtR (mtR mhR)))) gx522) (Y wn rfl (yB O_4 (e0 rfl) hst (rdO (mtR (mtR (mtR mhR)))) gx522) (wN (k261 _ _ ?_)))
     have j98 : ∀ (x527 : List Bool) (x529 : List Int) (h528 : Hdr) (f : Nat → Value) (w : World), f 2 = (pB b4) → f 5 = iV (x1.length : Int) → f 6 = h11.v → f 8 = h394.v → f 9 = h396.v → f 13 = h528.v → f 14 = iV x499 → St w0 (ros) (box b4 26 [h2.v] :: row 4 rB h11.v x527 :: row 22 (rS (rI .i64)) h394.v x395 :: row 4 rB h396.v x481 :: row 3 (rI .i64) h528.v x529 :: rs) w → sparseref12_Levels_j98 x499 x527 x529 = some r97_ → Q260 .normal (fr 107 f) w := by
      intro x527 x529 h528 f w ej98_2 ej98_5 ej98_6 ej98_8 ej98_9 ej98_13 ej98_14 hst hM
      refine qb260 _ _ _ (k259 _ _ (wR (Y wn rfl (ym (v := iV x499) (et rfl ej98_14)) (Y wn rfl (yadd (e0 rfl) rfl) (Y wn rfl (ya (v := iV (wa .i64 x499 1)) (e0 rfl)) (wN ?_))))))
      obtain rfl := someI hM
      exact n97 _ _ _ rfl ⟨_, _, _, _, _, rfl, rfl, ej98_2, ej98_5, ej98_6, ej98_8, ej98_9, ej98_13, rfl, hst⟩
     rcases iteS hM97 with ⟨c530, hM97⟩ | ⟨c530, hM97⟩
     ·refine condT (e0 rfl) c530 (seqQ fun Q263 k263 z263 => wR (Y wn rfl (ym (v := h497.v) (et rfl e97_13)) (Y wn rfl (ym (v := iV x499) (et rfl e97_14)) (YH wn rfl (rLt (n := 1) (l := [x499]) hst SL_22 [iV x499] (bp1 (e0 rfl)) rfl rfl (mks1 (cs := [iV x499]) rfl mkI mks0)) ?_))))
      intro h531 w hst
      obtain ⟨x533, gx533, hM97⟩ := bs hM97
      replace hst := hst.pk 6 [5, 0, 0, 0, 0, 0] rfl
      refine YH wn rfl (rAp hst SL_22 (e0 rfl) (e0 rfl) (rdO (mtR mhR)) gx533) ?_
      intro h532 w hst
      refine Y wn rfl (ya (v := h532.v) (e0 rfl)) (wN (k263 _ _ (wR (Y wn rfl (ym (v := h11.v) (et rfl e97_6)) (Y wn rfl (ym (v := iV x499) (et rfl e97_14)) ?_)))))
      obtain ⟨x534, gx534, hM97⟩ := bs hM97
      refine Y wn rfl (yIs SL_93 (e0 rfl) (e0 rfl) hst (rdO (mtR (mtR (mtR mhR)))) gx534) ?_
      replace hst := hst.pk 4 [3, 0, 0, 0] rfl
      refine YT wn rfl (r_sti (cs := [.bool true]) hst O_4 rfl (e0 rfl) rfl rfl mkB gx534) ?_
      intro w hst
      exact wN (j98 _ _ _ _ _ e97_2 e97_5 e97_6 e97_8 e97_9 rfl e97_14 (hst.pk 6 [3, 0, 2, 2, 0] rfl) hM97)
     ·exact condF (e0 rfl) (bfalse c530) (wp_skip (j98 _ _ _ _ _ e97_2 e97_5 e97_6 e97_8 e97_9 e97_13 e97_14 hst hM97))
    ·refine condF (e0 rfl) (dF c521) (wp_exit (z257 _ _ _ rfl ?_))
     obtain rfl := someI hM97
     exact zz97 _ _ _ _ rfl rfl (je97_0 _ _ _ _ _ e97_2 e97_5 e97_6 e97_8 e97_13 (hst.pk 5 [0, 0, 0, 1] rfl) (ho97 _ rfl))
   refine loopQ (fun s a w => ∃ (x438 : List Bool) (x439 : Int) (f : Nat → Value), (x438, x439) = s ∧ a = fr 107 f ∧ f 2 = (pB b4) ∧ f 5 = iV (x1.length : Int) ∧ f 6 = h11.v ∧ f 7 = h199.v ∧ f 8 = h394.v ∧ f 9 = h396.v ∧ f 10 = iV x439 ∧ St w0 (imm (rI .i64) h199.v x200 :: ros) (box b4 26 [h2.v] :: row 4 rB h11.v x198 :: row 22 (rS (rI .i64)) h394.v x395 :: row 4 rB h396.v x438 :: rs) w) go94 ⟨_, _, _, rfl, rfl, e73_2, e73_5, e73_6, e73_7, rfl, rfl, rfl, (hst.pk 5 [3, 3, 1, 0] rfl)⟩ ?_
   rintro _ _ w r94_ ⟨x438, x439, f, rfl, rfl, e94_2, e94_5, e94_6, e94_7, e94_8, e94_9, e94_10, hst⟩ hM94 ho94 Q100094 n94 zz94
   refine seqQ fun Q264 k264 z264 => seqQ fun Q265 k265 z265 => wR (Y wn rfl (ym (v := iV x439) (et rfl e94_10)) (Y wn rfl (ym (v := h199.v) (et rfl e94_7)) (Y wn rfl (yLen SL_22 (e0 rfl) hst (rdI mhF)) (Y wn rfl (ylss (e0 rfl) (e0 rfl)) (wN (k265 _ _ ?_))))))
   rcases iteS hM94 with ⟨c535, hM94⟩ | ⟨c535, hM94⟩
   ·refine condT (e0 rfl) (dT c535) (wp_skip (k264 _ _ (seqQ fun Q266 k266 z266 => blockQ fun Q267 qb267 => seqQ fun Q268 k268 z268 => ?_)))
    obtain ⟨x536, gx536, hM94⟩ := bs hM94
    obtain ⟨x537, gx537, hM94⟩ := bs hM94
    refine wp_drawR [0, 1, 0, 0, 12, 28, 63, 127, 255] [8] 1 folM (by kernel_rfl) (by kernel_rfl) (by kernel_rfl) ?_
    replace hst := hst.drew
    refine DRn (l1 := [0, 1, 2, 3, 4, 5, 6, 7]) (l2 := []) (lc := [8]) (by kernel_rfl) (by kernel_rfl) (by kernel_rfl) (Ry rfl rfl wn (yFb FL_26_0 (et rfl e94_2)) (Ry rfl rfl wn (yLb (u := h2.v) O_24 (e0 rfl) hst mhR rfl) (Ry rfl rfl wn (ym (v := h199.v) (et rfl e94_7)) (Ry rfl rfl wn (ym (v := iV x439) (et rfl e94_10)) (Ry rfl rfl wn (yIa SL_22 (e0 rfl) (e0 rfl) hst (rdI mhF) gx536) (Ry rfl rfl wn (yI O_3 (e0 rfl) hst (rdI mhF) gx536) (Ry rfl rfl wn (yIa SL_24 (e0 rfl) (e0 rfl) hst (rdI (mtF q1)) gx537) ?_)))))))
    obtain ⟨h538, hst⟩ := iLs hst (mtF q1) gx537
    refine Ry rfl rfl wn (yCt O_22 (e0 rfl) hst (mtF mhF) rfl) (Rn QSn ?_)
    refine Lc rfl ?_ LAn
    refine Ly wn (ya (v := h538.v) (e0 rfl)) (DRz (l1 := []) (l2 := []) (by kernel_rfl) (by kernel_rfl) (Rn QSn (k268 _ _ (seqQ fun Q269 k269 z269 => wR (Y wn rfl (ya (v := iV 0) rfl) (wN (k269 _ _ (blockQ fun Q270 qb270 => ?_))))))))
    obtain ⟨o105, go105, hM94⟩ := bs hM94
    have je105_0 : ∀ (x563 : List Bool) (f : Nat → Value) (w : World), f 2 = (pB b4) → f 5 = iV (x1.length : Int) → f 6 = h11.v → f 7 = h199.v → f 8 = h394.v → f 9 = h396.v → f 10 = iV x439 → St w0 (imm (rI .i64) h199.v x200 :: ros) (box b4 26 [h2.v] :: row 4 rB h11.v x198 :: row 22 (rS (rI .i64)) h394.v x395 :: row 4 rB h396.v x563 :: rs) w → x563 = o105 → Q270 (.exit 4) (fr 107 f) w := by
     intro x563 f w eje105_0_2 eje105_0_5 eje105_0_6 eje105_0_7 eje105_0_8 eje105_0_9 eje105_0_10 hst ho
     subst ho
     refine qb270 _ _ _ (qb267 _ _ _ (k266 _ _ (wR (Y wn rfl (ym (v := iV x439) (et rfl eje105_0_10)) (Y wn rfl (yadd (e0 rfl) rfl) (Y wn rfl (ya (v := iV (wa .i64 x439 1)) (e0 rfl)) (wN ?_)))))))
     obtain rfl := someI hM94
     exact n94 _ _ _ rfl ⟨_, _, _, rfl, rfl, eje105_0_2, eje105_0_5, eje105_0_6, eje105_0_7, eje105_0_8, eje105_0_9, rfl, hst⟩
    refine loopQ (fun s a w => ∃ (x549 : List Bool) (x550 : Int) (f : Nat → Value), (x549, x550) = s ∧ a = fr 107 f ∧ f 2 = (pB b4) ∧ f 5 = iV (x1.length : Int) ∧ f 6 = h11.v ∧ f 7 = h199.v ∧ f 8 = h394.v ∧ f 9 = h396.v ∧ f 10 = iV x439 ∧ f 11 = h538.v ∧ f 12 = iV x550 ∧ St w0 (imm (rI .i64) h199.v x200 :: imm (rI .i64) h538.v x537 :: ros) (box b4 26 [h2.v] :: row 4 rB h11.v x198 :: row 22 (rS (rI .i64)) h394.v x395 :: row 4 rB h396.v x549 :: rs) w) go105 ⟨_, _, _, rfl, rfl, e94_2, e94_5, e94_6, e94_7, e94_8, e94_9, e94_10, rfl, rfl, (hst.facts (allC (mtF (mtF mhF)) (allC mhF (allT (allT (allT allI))))))⟩ ?_
    rintro _ _ w r105_ ⟨x549, x550, f, rfl, rfl, e105_2, e105_5, e105_6, e105_7, e105_8, e105_9, e105_10, e105_11, e105_12, hst⟩ hM105 ho105 Q100105 n105 zz105
    refine seqQ fun Q279 k279 z279 => seqQ fun Q280 k280 z280 => wR (Y wn rfl (ym (v := iV x550) (et rfl e105_12)) (Y wn rfl (ym (v := h538.v) (et rfl e105_11)) (Y wn rfl (yLen SL_22 (e0 rfl) hst (rdI (mtF mhF))) (Y wn rfl (ylss (e0 rfl) (e0 rfl)) (wN (k280 _ _ ?_))))))
    rcases iteS hM105 with ⟨c564, hM105⟩ | ⟨c564, hM105⟩
    ·refine condT (e0 rfl) (dT c564) (wp_skip (k279 _ _ (seqQ fun Q281 k281 z281 => blockQ fun Q282 qb282 => ?_)))
     obtain ⟨x565, gx565, hM105⟩ := bs hM105
     obtain ⟨x566, gx566, hM105⟩ := bs hM105
     obtain ⟨x567, gx567, hM105⟩ := bs hM105
     obtain ⟨r568, gr568, hM105⟩ := bs hM105
     obtain ⟨x569, gx569, hM105⟩ := bs hM105
     refine joinN (n := 107) (fun f w => f 2 = (pB b4) ∧ f 5 = iV (x1.length : Int) ∧ f 6 = h11.v ∧ f 7 = h199.v ∧ f 8 = h394.v ∧ f 9 = h396.v ∧ f 10 = iV x439 ∧ f 11 = h538.v ∧ f 12 = iV x550 ∧ St w0 (imm (rI .i64) h199.v x200 :: imm (rI .i64) h538.v x537 :: ros) (box b4 26 [h2.v] :: row 4 rB h11.v x198 :: row 22 (rS (rI .i64)) h394.v x395 :: row 4 rB h396.v x569 :: rs) w) (fun j106 => ?_) ?_
     ·rcases iteS gr568 with ⟨c571, gr568⟩ | ⟨c571, gr568⟩
      ·have hr107 := someI gr568
       refine wp_drawR [0, 0, 0, 6, 14, 0, 0, 0, 192, 448, 992, 2016, 4064, 8160, 8160, 8160, 57312, 122848, 262112, 524256, 1048544, 2097120, 4194303, 8388607] [23] 1 folM (by kernel_rfl) (by kernel_rfl) (by kernel_rfl) ?_
       replace hst := hst.drew
       refine DRn (l1 := [0, 1, 2, 3, 4, 5, 6, 7, 8, 9, 10, 11, 12, 13, 14, 15, 16, 17, 18, 19, 20, 21, 22]) (l2 := []) (lc := [23]) (by kernel_rfl) (by kernel_rfl) (by kernel_rfl) (Ry rfl rfl wn (ym (v := h396.v) (et rfl e105_9)) (Ry rfl rfl wn (ym (v := h538.v) (et rfl e105_11)) (Ry rfl rfl wn (ym (v := iV x550) (et rfl e105_12)) (Ry rfl rfl wn (yIa SL_22 (e0 rfl) (e0 rfl) hst (rdI (mtF mhF)) gx565) (Ry rfl rfl wn (yI O_3 (e0 rfl) hst (rdI (mtF mhF)) gx565) (Ry rfl rfl wn (ym (v := h396.v) (et rfl e105_9)) (Ry rfl rfl wn (ym (v := h538.v) (et rfl e105_11)) (Ry rfl rfl wn (ym (v := iV x550) (et rfl e105_12)) (Ry rfl rfl wn (yIa SL_22 (e0 rfl) (e0 rfl) hst (rdI (mtF mhF)) gx566) (Ry rfl rfl wn (yI O_3 (e0 rfl) hst (rdI (mtF mhF)) gx566) (Ry rfl rfl wn (yIa SL_93 (e0 rfl) (e0 rfl) hst (rdO (mtR (mtR (mtR mhR)))) gx567) (Ry rfl rfl wn (yB O_4 (e0 rfl) hst (rdO (mtR (mtR (mtR mhR)))) gx567) (Ry rfl rfl wn (ym (v := .bool x567) (e0 rfl)) ?_)))))))))))))
       refine Rx rfl rfl (wx rfl rfl rfl c571) (Rx rfl rfl (wx rfl rfl rfl c571) (Rx rfl rfl (wx rfl rfl rfl c571) (Rx rfl rfl (wx rfl rfl rfl c571) (Rx rfl rfl (wx rfl rfl rfl c571) (Rx rfl rfl (wx rfl rfl rfl c571) (Rx rfl rfl (wx rfl rfl rfl c571) (Rx rfl rfl (wx rfl rfl rfl c571) (Ry rfl rfl wn (ypt (v := .bool r568) (e0 rfl) c571 (eqv hr107 rfl)) (Ry rfl rfl wn (yIs SL_93 (e0 rfl) (e0 rfl) hst (rdO (mtR (mtR (mtR mhR)))) gx569) (Rn QSn ?_))))))))))
       refine Lc rfl ?_ LAn
       replace hst := hst.pk 4 [3, 0, 0, 0] rfl
       refine LT wn (r_sti (cs := [.bool r568]) hst O_4 rfl (e0 rfl) (e0 rfl) rfl mkB gx569) ?_
       intro w hst
       exact DRz (l1 := []) (l2 := []) (by kernel_rfl) (by kernel_rfl) (Rn QSn (j106 _ _ ⟨e105_2, e105_5, e105_6, e105_7, e105_8, e105_9, e105_10, e105_11, e105_12, (hst.pk 4 [1, 1, 1, 0] rfl)⟩))
      ·obtain ⟨x572, gx572, gr568⟩ := bs gr568
       obtain ⟨x573, gx573, gr568⟩ := bs gr568
       have hr108 := someI gr568
       refine wp_drawR [0, 0, 0, 6, 14, 0, 0, 0, 192, 448, 992, 2016, 4064, 8160, 8160, 8160, 57312, 122848, 262112, 524256, 1048544, 2097120, 4194303, 8388607] [23] 1 folM (by kernel_rfl) (by kernel_rfl) (by kernel_rfl) ?_
       replace hst := hst.drew
       refine DRn (l1 := [0, 1, 2, 3, 4, 5, 6, 7, 8, 9, 10, 11, 12, 13, 14, 15, 16, 17, 18, 19, 20, 21, 22]) (l2 := []) (lc := [23]) (by kernel_rfl) (by kernel_rfl) (by kernel_rfl) (Ry rfl rfl wn (ym (v := h396.v) (et rfl e105_9)) (Ry rfl rfl wn (ym (v := h538.v) (et rfl e105_11)) (Ry rfl rfl wn (ym (v := iV x550) (et rfl e105_12)) (Ry rfl rfl wn (yIa SL_22 (e0 rfl) (e0 rfl) hst (rdI (mtF mhF)) gx565) (Ry rfl rfl wn (yI O_3 (e0 rfl) hst (rdI (mtF mhF)) gx565) (Ry rfl rfl wn (ym (v := h396.v) (et rfl e105_9)) (Ry rfl rfl wn (ym (v := h538.v) (et rfl e105_11)) (Ry rfl rfl wn (ym (v := iV x550) (et rfl e105_12)) (Ry rfl rfl wn (yIa SL_22 (e0 rfl) (e0 rfl) hst (rdI (mtF mhF)) gx566) (Ry rfl rfl wn (yI O_3 (e0 rfl) hst (rdI (mtF mhF)) gx566) (Ry rfl rfl wn (yIa SL_93 (e0 rfl) (e0 rfl) hst (rdO (mtR (mtR (mtR mhR)))) gx567) (Ry rfl rfl wn (yB O_4 (e0 rfl) hst (rdO (mtR (mtR (mtR mhR)))) gx567) (Ry rfl rfl wn (ym (v := .bool x567) (e0 rfl)) ?_)))))))))))))
       refine Ry rfl rfl (wg rfl rfl rfl (bfalse c571)) (ym (v := h11.v) (et rfl e105_6)) (Ry rfl rfl (wg rfl rfl rfl (bfalse c571)) (ym (v := h538.v) (et rfl e105_11)) (Ry rfl rfl (wg rfl rfl rfl (bfalse c571)) (ym (v := iV x550) (et rfl e105_12)) (Ry rfl rfl (wg rfl rfl rfl (bfalse c571)) (yIa SL_22 (e0 rfl) (e0 rfl) hst (rdI (mtF mhF)) gx572) (Ry rfl rfl (wg rfl rfl rfl (bfalse c571)) (yI O_3 (e0 rfl) hst (rdI (mtF mhF)) gx572) (Ry rfl rfl (wg rfl rfl rfl (bfalse c571)) (yIa SL_93 (e0 rfl) (e0 rfl) hst (rdO (mtR mhR)) gx573) (Ry rfl rfl (wg rfl rfl rfl (bfalse c571)) (yB O_4 (e0 rfl) hst (rdO (mtR mhR)) gx573) (Ry rfl rfl (wg rfl rfl rfl (bfalse c571)) (ynot (e0 rfl)) (Ry rfl rfl wn (ypf (v := .bool r568) (e0 rfl) (bfalse c571) (eqv hr108 (e0 rfl))) (Ry rfl rfl wn (yIs SL_93 (e0 rfl) (e0 rfl) hst (rdO (mtR (mtR (mtR mhR)))) gx569) (Rn QSn ?_))))))))))
       refine Lc rfl ?_ LAn
       replace hst := hst.pk 4 [3, 0, 0, 0] rfl
       refine LT wn (r_sti (cs := [.bool r568]) hst O_4 rfl (e0 rfl) (e0 rfl) rfl mkB gx569) ?_
       intro w hst
       exact DRz (l1 := []) (l2 := []) (by kernel_rfl) (by kernel_rfl) (Rn QSn (j106 _ _ ⟨e105_2, e105_5, e105_6, e105_7, e105_8, e105_9, e105_10, e105_11, e105_12, (hst.pk 4 [1, 1, 1, 0] rfl)⟩))
     rintro f w ⟨e570_2, e570_5, e570_6, e570_7, e570_8, e570_9, e570_10, e570_11, e570_12, hst⟩
     refine qb282 _ _ _ (k281 _ _ (wR (Y wn rfl (ym (v := iV x550) (et rfl e570_12)) (Y wn rfl (yadd (e0 rfl) rfl) (Y wn rfl (ya (v := iV (wa .i64 x550 1)) (e0 rfl)) (wN ?_))))))
     obtain rfl := someI hM105
     exact n105 _ _ _ rfl ⟨_, _, _, rfl, rfl, e570_2, e570_5, e570_6, e570_7, e570_8, e570_9, e570_10, e570_11, rfl, hst⟩
    ·refine condF (e0 rfl) (dF c564) (wp_exit (z279 _ _ _ rfl ?_))
     obtain rfl := someI hM105
     exact zz105 _ _ _ _ rfl rfl (je105_0 _ _ _ e105_2 e105_5 e105_6 e105_7 e105_8 e105_9 e105_10 (hst.facts (allC mhF (allT (allT allI)))) (ho105 _ rfl))
   ·refine condF (e0 rfl) (dF c535) (wp_exit (z264 _ _ _ rfl ?_))
    obtain rfl := someI hM94
    exact zz94 _ _ _ _ rfl rfl (je94_0 _ _ _ e94_2 e94_5 e94_6 e94_8 e94_9 (hst.facts (allT allI)) (ho94 _ rfl))
  ·refine condF (e0 rfl) (dF c392) (wp_exit (z193 _ _ _ rfl ?_))
   obtain rfl := someI hM73
   exact zz73 _ _ _ _ rfl rfl (je73_0 _ _ _ _ e73_8 (hst.pk 4 [3] rfl) (ho73 _ rfl))

theorem sparseref12_Components_ok {x1 : List (List Int)} {h2 : Hdr} {out : (List (List Int))} (hM : sparseref12_Components x1 = some out) (q1 : imm (rS (rI .i64)) h2.v x1 ∈ ros) (hst : St w0 ros (rs) w) :
  Calls Tryz.prog 77 #[.agg #[h2.v]] w (fun e w => ∃ (h100001 : Hdr), e = .returned (h100001.v) ∧ St w0 (ros) (row 22 (rS (rI .i64)) h100001.v out :: rs) w) := by
 refine enterQ Tryz.func77 rfl Tryz.ntmps77 rfl fun Q hQ => seqQ fun Q1 k1 z1 => wR (YB wn rfl (r_box (vals := [h2.v]) hst (e0 rfl) rfl) ?_)
 intro b3 w hst
 refine Y wn rfl (ya (v := hnil.v) rfl) (wN (k1 _ _ (seqQ fun Q2 k2 z2 => seqQ fun Q3 k3 z3 => wR (Y wn rfl (yLbs (us := [h2.v]) ST_26 (e0 rfl) hst mhR rfl rfl) ?_))))
 obtain ⟨r4, gr4, hM⟩ := bs hM
 refine Yc wn rfl (yCall FN_54 (a1 (e0 rfl))) (sparseref12_Check_ok (hM := gr4) (hst := hst) (q1 := q1)) ?_
 rintro _ w ⟨rfl, hst⟩
 refine ⟨_, rfl, ?_⟩
 refine Y wn rfl (yneq (e0 rfl) rfl) (wN (k3 _ _ ?_))
 rcases iteS hM with ⟨c5, hM⟩ | ⟨c5, hM⟩
 ·refine condF (e0 rfl) (nF (dT c5)) (wp_skip (k2 _ _ (seqQ fun Q4 k4 z4 => wR (Y wn rfl (yFb FL_26_0 (e0 rfl)) (Y wn rfl (yLb (u := h2.v) O_24 (e0 rfl) hst mhR rfl) (Y wn rfl (yLen SL_24 (e0 rfl) hst (rdI q1)) (Y wn rfl (ya (v := iV (x1.length : Int)) (e0 rfl)) (wN (k4 _ _ (seqQ fun Q5 k5 z5 => wR (Y wn rfl (ym (v := iV (x1.length : Int)) (e0 rfl)) ?_)))))))))))
  obtain ⟨x8, gx8, hM⟩ := bs hM
  refine YH wn rfl (rMk hst SL_93 (e0 rfl) gx8) ?_
  intro h6 w hst
  refine Y wn rfl (ya (v := h6.v) (e0 rfl)) (wN (k5 _ _ (seqQ fun Q6 k6 z6 => wR (Y wn rfl (ya (v := hnil.v) rfl) (wN (k6 _ _ (seqQ fun Q7 k7 z7 => seqQ fun Q8 k8 z8 => wR (Y wn rfl (ya (v := iV 0) rfl) (wN (k8 _ _ ?_))))))))))
  refine blockQ fun Q9 qb9 => ?_
  obtain ⟨o51, go51, hM⟩ := bs hM
  have je51_0 : ∀ (x920 : List (List Int)) (h919 : Hdr) (f : Nat → Value) (w : World), f 5 = h919.v → St w0 (ros) (row 22 (rS (rI .i64)) h919.v x920 :: rs) w → x920 = o51 → Q9 (.exit 0) (fr 80 f) w := by
   intro x920 h919 f w eje51_0_5 hst ho
   subst ho
   refine qb9 _ _ _ (k7 _ _ (seqQ fun Q538 k538 z538 => wR (Y wn rfl (ym (v := h919.v) (et rfl eje51_0_5)) (Y wn rfl (ya (v := h919.v) (e0 rfl)) (wN (k538 _ _ (wp_ret ?_)))))))
   obtain rfl := someI hM
   exact hQ _ _ _ (fin1r Tryz.results77 ⟨rfl, rfl⟩ ⟨_, rfl, hst⟩)
  replace hst := hst.rowNh 22 (rS (rI .i64))
  refine loopQ (fun s a w => ∃ (x460 : List Bool) (x462 : List (List Int)) (x463 : Int) (f : Nat → Value) (h461 : Hdr), (x460, x462, x463) = s ∧ a = fr 80 f ∧ f 1 = (pB b3) ∧ f 3 = iV (x1.length : Int) ∧ f 4 = h6.v ∧ f 5 = h461.v ∧ f 6 = iV x463 ∧ St w0 (ros) (box b3 26 [h2.v] :: row 4 rB h6.v x460 :: row 22 (rS (rI .i64)) h461.v x462 :: rs) w) go51 ⟨_, _, _, _, _, rfl, rfl, rfl, rfl, rfl, rfl, rfl, (hst.pk 3 [2, 1, 0] rfl)⟩ ?_
  rintro _ _ w r51_ ⟨x460, x462, x463, f, h461, rfl, rfl, e51_1, e51_3, e51_4, e51_5, e51_6, hst⟩ hM51 ho51 Q100051 n51 zz51
  refine seqQ fun Q539 k539 z539 => seqQ fun Q540 k540 z540 => wR (Y wn rfl (ym (v := iV x463) (et rfl e51_6)) (Y wn rfl (ym (v := iV (x1.length : Int)) (et rfl e51_3)) (Y wn rfl (ylss (e0 rfl) (e0 rfl)) (wN (k540 _ _ ?_)))))
  rcases iteS hM51 with ⟨c921, hM51⟩ | ⟨c921, hM51⟩
  ·refine condT (e0 rfl) (dT c921) (wp_skip (k539 _ _ (seqQ fun Q541 k541 z541 => ?_)))
   have j68 : ∀ (x1220 : List Bool) (x1222 : List (List Int)) (h1221 : Hdr) (f : Nat → Value) (w : World), f 1 = (pB b3) → f 3 = iV (x1.length : Int) → f 4 = h6.v → f 5 = h1221.v → f 6 = iV x463 → St w0 (ros) (box b3 26 [h2.v] :: row 4 rB h6.v x1220 :: row 22 (rS (rI .i64)) h1221.v x1222 :: rs) w → sparseref12_Components_j68 x463 x1220 x1222 = some r51_ → Q541 .normal (fr 80 f) w := by
    intro x1220 x1222 h1221 f w ej68_1 ej68_3 ej68_4 ej68_5 ej68_6 hst hM
    refine k541 _ _ (wR (Y wn rfl (ym (v := iV x463) (et rfl ej68_6)) (Y wn rfl (yadd (e0 rfl) rfl) (Y wn rfl (ya (v := iV (wa .i64 x463 1)) (e0 rfl)) (wN ?_)))))
    obtain rfl := someI hM
    exact n51 _ _ _ rfl ⟨_, _, _, _, _, rfl, rfl, ej68_1, ej68_3, ej68_4, ej68_5, rfl, hst⟩
   refine blockQ fun Q716 qb716 => seqQ fun Q717 k717 z717 => seqQ fun Q718 k718 z718 => wR (Y wn rfl (ym (v := h6.v) (et rfl e51_4)) (Y wn rfl (ym (v := iV x463) (et rfl e51_6)) ?_))
   obtain ⟨x1223, gx1223, hM51⟩ := bs hM51
   refine Y wn rfl (yIa SL_93 (e0 rfl) (e0 rfl) hst (rdO (mtR mhR)) gx1223) (Y wn rfl (yB O_4 (e0 rfl) hst (rdO (mtR mhR)) gx1223) (wN (k718 _ _ ?_)))
   rcases iteS hM51 with ⟨c1224, hM51⟩ | ⟨c1224, hM51⟩
   ·exact condT (e0 rfl) c1224 (wp_exit (z717 _ _ _ rfl (qb716 _ _ _ (j68 _ _ _ _ _ e51_1 e51_3 e51_4 e51_5 e51_6 hst hM51))))
   ·refine condF (e0 rfl) (bfalse c1224) (wp_skip (k717 _ _ (seqQ fun Q719 k719 z719 => wR (Y wn rfl (yLbs (us := [h2.v]) ST_26 (et rfl e51_1) hst mhR rfl rfl) (Y wn rfl (ym (v := iV x463) (et rfl e51_6)) ?_)))))
    obtain ⟨r1225, gr1225, hM51⟩ := bs hM51
    refine Yc wn rfl (yCall FN_78 (a2 (e0 rfl) (e0 rfl))) (sparseref12_Levels_ok (hM := gr1225) (hst := hst) (q1 := q1)) ?_
    rintro _ w ⟨h1226, rfl, hst⟩
    refine ⟨_, rfl, ?_⟩
    refine Y wn rfl (ya (v := h1226.v) (e0 rfl)) (wN (k719 _ _ (seqQ fun Q720 k720 z720 => wR (Y wn rfl (ym (v := iV (x1.length : Int)) (et rfl e51_3)) ?_))))
    obtain ⟨x1229, gx1229, hM51⟩ := bs hM51
    refine YH wn rfl (rMk hst SL_93 (e0 rfl) gx1229) ?_
    intro h1227 w hst
    refine Y wn rfl (ya (v := h1227.v) (e0 rfl)) (wN (k720 _ _ (seqQ fun Q721 k721 z721 => seqQ fun Q722 k722 z722 => wR (Y wn rfl (ya (v := iV 0) rfl) (wN (k722 _ _ (blockQ fun Q723 qb723 => ?_)))))))
    obtain ⟨o71, go71, hM51⟩ := bs hM51
    have je71_0 : ∀ (x1288 : List Bool) (f : Nat → Value) (w : World), f 1 = (pB b3) → f 3 = iV (x1.length : Int) → f 4 = h6.v → f 5 = h461.v → f 6 = iV x463 → f 8 = h1227.v → St w0 (ros) (box b3 26 [h2.v] :: row 4 rB h6.v x460 :: row 22 (rS (rI .i64)) h461.v x462 :: row 4 rB h1227.v x1288 :: rs) w → x1288 = o71 → Q723 (.exit 2) (fr 80 f) w := by
     intro x1288 f w eje71_0_1 eje71_0_3 eje71_0_4 eje71_0_5 eje71_0_6 eje71_0_8 hst ho
     subst ho
     refine qb723 _ _ _ (k721 _ _ (seqQ fun Q760 k760 z760 => wR (Y wn rfl (ya (v := hnil.v) rfl) (wN (k760 _ _ (seqQ fun Q761 k761 z761 => seqQ fun Q762 k762 z762 => wR (Y wn rfl (ya (v := iV 0) rfl) (wN (k762 _ _ (blockQ fun Q763 qb763 => ?_))))))))))
     obtain ⟨o74, go74, hM51⟩ := bs hM51
     have je74_0 : ∀ (x1325 : List Bool) (x1327 : List Int) (h1326 : Hdr) (f : Nat → Value) (w : World), f 1 = (pB b3) → f 3 = iV (x1.length : Int) → f 4 = h6.v → f 5 = h461.v → f 6 = iV x463 → f 11 = h1326.v → St w0 (ros) (box b3 26 [h2.v] :: row 4 rB h6.v x1325 :: row 22 (rS (rI .i64)) h461.v x462 :: row 3 (rI .i64) h1326.v x1327 :: rs) w → (x1325, x1327) = o74 → Q763 (.exit 6) (fr 80 f) w := by
      intro x1325 x1327 h1326 f w eje74_0_1 eje74_0_3 eje74_0_4 eje74_0_5 eje74_0_6 eje74_0_11 hst ho
      subst ho
      refine qb763 _ _ _ (k761 _ _ (wR (Y wn rfl (ym (v := h461.v) (et rfl eje74_0_5)) (Y wn rfl (ym (v := h1326.v) (et rfl eje74_0_11)) ?_))))
      replace hst := hst.pk 4 [3, 0, 0, 0] rfl
      replace hst := hst.fz
      refine YH wn rfl (rLt (n := 1) (l := [x1327]) hst SL_24 [h1326.v] (bp1 (e0 rfl)) rfl rfl (mks1 (cs := [h1326.v]) rfl (mkS mhF) mks0)) ?_
      intro h1328 w hst
      obtain ⟨x1330, gx1330, hM51⟩ := bs hM51
      replace hst := hst.pk 4 [3, 0, 0, 0] rfl
      refine YH wn rfl (rAp hst SL_24 (e0 rfl) (e0 rfl) (rdO (mtR mhR)) gx1330) ?_
      intro h1329 w hst
      exact Y wn rfl (ya (v := h1329.v) (e0 rfl)) (wN (qb716 _ _ _ (j68 _ _ _ _ _ eje74_0_1 eje74_0_3 eje74_0_4 rfl eje74_0_6 ((hst.pk 4 [2, 2, 0] rfl).facts (allT allI)) hM51)))
     replace hst := hst.rowNh 3 (rI .i64)
     refine loopQ (fun s a w => ∃ (x1303 : List Bool) (x1305 : List Int) (x1306 : Int) (f : Nat → Value) (h1304 : Hdr), (x1303, x1305, x1306) = s ∧ a = fr 80 f ∧ f 1 = (pB b3) ∧ f 3 = iV (x1.length : Int) ∧ f 4 = h6.v ∧ f 5 = h461.v ∧ f 6 = iV x463 ∧ f 8 = h1227.v ∧ f 11 = h1304.v ∧ f 12 = iV x1306 ∧ St w0 (ros) (box b3 26 [h2.v] :: row 4 rB h6.v x1303 :: row 22 (rS (rI .i64)) h461.v x462 :: row 4 rB h1227.v x1288 :: row 3 (rI .i64) h1304.v x1305 :: rs) w) go74 ⟨_, _, _, _, _, rfl, rfl, eje71_0_1, eje71_0_3, eje71_0_4, eje71_0_5, eje71_0_6, eje71_0_8, rfl, rfl, (hst.pk 5 [1, 1, 1, 1, 0] rfl)⟩ ?_
     rintro _ _ w r74_ ⟨x1303, x1305, x1306, f, h1304, rfl, rfl, e74_1, e74_3, e74_4, e74_5, e74_6, e74_8, e74_11, e74_12, hst⟩ hM74 ho74 Q100074 n74 zz74
     refine seqQ fun Q778 k778 z778 => seqQ fun Q779 k779 z779 => wR (Y wn rfl (ym (v := iV x1306) (et rfl e74_12)) (Y wn rfl (ym (v := iV (x1.length : Int)) (et rfl e74_3)) (Y wn rfl (ylss (e0 rfl) (e0 rfl)) (wN (k779 _ _ ?_)))))
     rcases iteS hM74 with ⟨c1331, hM74⟩ | ⟨c1331, hM74⟩
     ·refine condT (e0 rfl) (dT c1331) (wp_skip (k778 _ _ (seqQ fun Q780 k780 z780 => blockQ fun Q781 qb781 => seqQ fun Q782 k782 z782 => wR (Y wn rfl (ym (v := h1227.v) (et rfl e74_8)) (Y wn rfl (ym (v := iV x1306) (et rfl e74_12)) ?_)))))
      obtain ⟨x1332, gx1332, hM74⟩ := bs hM74
      refine Y wn rfl (yIa SL_93 (e0 rfl) (e0 rfl) hst (rdO (mtR (mtR (mtR mhR)))) gx1332) (Y wn rfl (yB O_4 (e0 rfl) hst (rdO (mtR (mtR (mtR mhR)))) gx1332) (wN (k782 _ _ ?_)))
      have j75 : ∀ (x1337 : List Bool) (x1339 : List Int) (h1338 : Hdr) (f : Nat → Value) (w : World), f 1 = (pB b3) → f 3 = iV (x1.length : Int) → f 4 = h6.v → f 5 = h461.v → f 6 = iV x463 → f 8 = h1227.v → f 11 = h1338.v → f 12 = iV x1306 → St w0 (ros) (box b3 26 [h2.v] :: row 4 rB h6.v x1337 :: row 22 (rS (rI .i64)) h461.v x462 :: row 4 rB h1227.v x1288 :: row 3 (rI .i64) h1338.v x1339 :: rs) w → sparseref12_Components_j75 x1306 x1337 x1339 = some r74_ → Q781 .normal (fr 80 f) w := by
       intro x1337 x1339 h1338 f w ej75_1 ej75_3 ej75_4 ej75_5 ej75_6 ej75_8 ej75_11 ej75_12 hst hM
       refine qb781 _ _ _ (k780 _ _ (wR (Y wn rfl (ym (v := iV x1306) (et rfl ej75_12)) (Y wn rfl (yadd (e0 rfl) rfl) (Y wn rfl (ya (v := iV (wa .i64 x1306 1)) (e0 rfl)) (wN ?_))))))
       obtain rfl := someI hM
       exact n74 _ _ _ rfl ⟨_, _, _, _, _, rfl, rfl, ej75_1, ej75_3, ej75_4, ej75_5, ej75_6, ej75_8, ej75_11, rfl, hst⟩
      rcases iteS hM74 with ⟨c1340, hM74⟩ | ⟨c1340, hM74⟩
      ·refine condT (e0 rfl) c1340 (seqQ fun Q784 k784 z784 => wR (Y wn rfl (ym (v := h1304.v) (et rfl e74_11)) (Y wn rfl (ym (v := iV x1306) (et rfl e74_12)) (YH wn rfl (rLt (n := 1) (l := [x1306]) hst SL_22 [iV x1306] (bp1 (e0 rfl)) rfl rfl (mks1 (cs := [iV x1306]) rfl mkI mks0)) ?_))))
       intro h1341 w hst
       obtain ⟨x1343, gx1343, hM74⟩ := bs hM74
       replace hst := hst.pk 6 [5, 0, 0, 0, 0, 0] rfl
       refine YH wn rfl (rAp hst SL_22 (e0 rfl) (e0 rfl) (rdO (mtR mhR)) gx1343) ?_
       intro h1342 w hst
       refine Y wn rfl (ya (v := h1342.v) (e0 rfl)) (wN (k784 _ _ (wR (Y wn rfl (ym (v := h6.v) (et rfl e74_4)) (Y wn rfl (ym (v := iV x1306) (et rfl e74_12)) ?_)))))
       obtain ⟨x1344, gx1344, hM74⟩ := bs hM74
       refine Y wn rfl (yIs SL_93 (e0 rfl) (e0 rfl) hst (rdO (mtR (mtR (mtR mhR)))) gx1344) ?_
       replace hst := hst.pk 4 [3, 0, 0, 0] rfl
       refine YT wn rfl (r_sti (cs := [.bool true]) hst O_4 rfl (e0 rfl) rfl rfl mkB gx1344) ?_
       intro w hst
       exact wN (j75 _ _ _ _ _ e74_1 e74_3 e74_4 e74_5 e74_6 e74_8 rfl e74_12 (hst.pk 6 [3, 0, 2, 2, 0] rfl) hM74)
      ·exact condF (e0 rfl) (bfalse c1340) (wp_skip (j75 _ _ _ _ _ e74_1 e74_3 e74_4 e74_5 e74_6 e74_8 e74_11 e74_12 hst hM74))
     ·refine condF (e0 rfl) (dF c1331) (wp_exit (z778 _ _ _ rfl ?_))
      obtain rfl := someI hM74
      exact zz74 _ _ _ _ rfl rfl (je74_0 _ _ _ _ _ e74_1 e74_3 e74_4 e74_5 e74_6 e74_11 (hst.pk 5 [0, 0, 0, 1] rfl) (ho74 _ rfl))
    refine loopQ (fun s a w => ∃ (x1257 : List Bool) (x1258 : Int) (f : Nat → Value), (x1257, x1258) = s ∧ a = fr 80 f ∧ f 1 = (pB b3) ∧ f 3 = iV (x1.length : Int) ∧ f 4 = h6.v ∧ f 5 = h461.v ∧ f 6 = iV x463 ∧ f 7 = h1226.v ∧ f 8 = h1227.v ∧ f 9 = iV x1258 ∧ St w0 (ros) (box b3 26 [h2.v] :: row 4 rB h6.v x460 :: row 22 (rS (rI .i64)) h461.v x462 :: row 22 (rS (rI .i64)) h1226.v r1225 :: row 4 rB h1227.v x1257 :: rs) w) go71 ⟨_, _, _, rfl, rfl, e51_1, e51_3, e51_4, e51_5, e51_6, rfl, rfl, rfl, (hst.pk 5 [2, 2, 2, 1, 0] rfl)⟩ ?_
    rintro _ _ w r71_ ⟨x1257, x1258, f, rfl, rfl, e71_1, e71_3, e71_4, e71_5, e71_6, e71_7, e71_8, e71_9, hst⟩ hM71 ho71 Q100071 n71 zz71
    refine seqQ fun Q785 k785 z785 => seqQ fun Q786 k786 z786 => wR (Y wn rfl (ym (v := iV x1258) (et rfl e71_9)) (Y wn rfl (ym (v := h1226.v) (et rfl e71_7)) (Y wn rfl (yLen SL_24 (e0 rfl) hst (rdO (mtR (mtR (mtR mhR))))) (Y wn rfl (ylss (e0 rfl) (e0 rfl)) (wN (k786 _ _ ?_))))))
    rcases iteS hM71 with ⟨c1345, hM71⟩ | ⟨c1345, hM71⟩
    ·refine condT (e0 rfl) (dT c1345) (wp_skip (k785 _ _ (seqQ fun Q787 k787 z787 => blockQ fun Q788 qb788 => seqQ fun Q789 k789 z789 => wR (Y wn rfl (ya (v := iV 0) rfl) (wN (k789 _ _ (blockQ fun Q790 qb790 => ?_)))))))
     obtain ⟨o76, go76, hM71⟩ := bs hM71
     have je76_0 : ∀ (x1364 : List Bool) (f : Nat → Value) (w : World), f 1 = (pB b3) → f 3 = iV (x1.length : Int) → f 4 = h6.v → f 5 = h461.v → f 6 = iV x463 → f 7 = h1226.v → f 8 = h1227.v → f 9 = iV x1258 → St w0 (ros) (box b3 26 [h2.v] :: row 4 rB h6.v x460 :: row 22 (rS (rI .i64)) h461.v x462 :: row 22 (rS (rI .i64)) h1226.v r1225 :: row 4 rB h1227.v x1364 :: rs) w → x1364 = o76 → Q790 (.exit 4) (fr 80 f) w := by
      intro x1364 f w eje76_0_1 eje76_0_3 eje76_0_4 eje76_0_5 eje76_0_6 eje76_0_7 eje76_0_8 eje76_0_9 hst ho
      subst ho
      refine qb790 _ _ _ (qb788 _ _ _ (k787 _ _ (wR (Y wn rfl (ym (v := iV x1258) (et rfl eje76_0_9)) (Y wn rfl (yadd (e0 rfl) rfl) (Y wn rfl (ya (v := iV (wa .i64 x1258 1)) (e0 rfl)) (wN ?_)))))))
      obtain rfl := someI hM71
      exact n71 _ _ _ rfl ⟨_, _, _, rfl, rfl, eje76_0_1, eje76_0_3, eje76_0_4, eje76_0_5, eje76_0_6, eje76_0_7, eje76_0_8, rfl, hst⟩
     refine loopQ (fun s a w => ∃ (x1353 : List Bool) (x1354 : Int) (f : Nat → Value), (x1353, x1354) = s ∧ a = fr 80 f ∧ f 1 = (pB b3) ∧ f 3 = iV (x1.length : Int) ∧ f 4 = h6.v ∧ f 5 = h461.v ∧ f 6 = iV x463 ∧ f 7 = h1226.v ∧ f 8 = h1227.v ∧ f 9 = iV x1258 ∧ f 10 = iV x1354 ∧ St w0 (ros) (box b3 26 [h2.v] :: row 4 rB h6.v x460 :: row 22 (rS (rI .i64)) h461.v x462 :: row 22 (rS (rI .i64)) h1226.v r1225 :: row 4 rB h1227.v x1353 :: rs) w) go76 ⟨_, _, _, rfl, rfl, e71_1, e71_3, e71_4, e71_5, e71_6, e71_7, e71_8, e71_9, rfl, hst⟩ ?_
     rintro _ _ w r76_ ⟨x1353, x1354, f, rfl, rfl, e76_1, e76_3, e76_4, e76_5, e76_6, e76_7, e76_8, e76_9, e76_10, hst⟩ hM76 ho76 Q100076 n76 zz76
     refine seqQ fun Q799 k799 z799 => seqQ fun Q800 k800 z800 => wR (Y wn rfl (ym (v := iV x1354) (et rfl e76_10)) (Y wn rfl (ym (v := h1226.v) (et rfl e76_7)) (Y wn rfl (ym (v := iV x1258) (et rfl e76_9)) ?_)))
     obtain ⟨x1365, gx1365, hM76⟩ := bs hM76
     refine Y wn rfl (yIa SL_24 (e0 rfl) (e0 rfl) hst (rdO (mtR (mtR (mtR mhR)))) gx1365) ?_
     obtain ⟨h1366, ch1366, hst⟩ := rLs hst (rdO (mtR (mtR (mtR mhR)))) gx1365
     refine Y wn rfl (yCe O_22 (e0 rfl) ch1366 rfl) (Y wn rfl (yLen SL_22 (e0 rfl) hst (rdI mhF)) (Y wn rfl (ylss (e0 rfl) (e0 rfl)) (wN (k800 _ _ ?_))))
     rcases iteS hM76 with ⟨c1367, hM76⟩ | ⟨c1367, hM76⟩
     ·refine condT (e0 rfl) (dT c1367) (wp_skip (k799 _ _ (seqQ fun Q801 k801 z801 => blockQ fun Q802 qb802 => wR (Y wn rfl (ym (v := h1227.v) (et rfl e76_8)) (Y wn rfl (ym (v := h1226.v) (et rfl e76_7)) (Y wn rfl (ym (v := iV x1258) (et rfl e76_9)) ?_))))))
      obtain ⟨x1368, gx1368, hM76⟩ := bs hM76
      refine Y wn rfl (yIa SL_24 (e0 rfl) (e0 rfl) hst (rdO (mtR (mtR (mtR mhR)))) gx1368) ?_
      obtain ⟨h1369, ch1369, hst⟩ := rLs hst (rdO (mtR (mtR (mtR mhR)))) gx1368
      refine Y wn rfl (yCe O_22 (e0 rfl) ch1369 rfl) (Y wn rfl (ym (v := iV x1354) (et rfl e76_10)) ?_)
      obtain ⟨x1370, gx1370, hM76⟩ := bs hM76
      refine Y wn rfl (yIa SL_22 (e0 rfl) (e0 rfl) hst (rdI mhF) gx1370) (Y wn rfl (yI O_3 (e0 rfl) hst (rdI mhF) gx1370) ?_)
      obtain ⟨x1371, gx1371, hM76⟩ := bs hM76
      refine Y wn rfl (yIs SL_93 (e0 rfl) (e0 rfl) hst (rdO (mtR (mtR (mtR (mtR mhR))))) gx1371) ?_
      replace hst := hst.pk 5 [4, 0, 0, 0, 0] rfl
      refine YT wn rfl (r_sti (cs := [.bool true]) hst O_4 rfl (e0 rfl) rfl rfl mkB gx1371) ?_
      intro w hst
      refine wN (qb802 _ _ _ (k801 _ _ (wR (Y wn rfl (ym (v := iV x1354) (et rfl e76_10)) (Y wn rfl (yadd (e0 rfl) rfl) (Y wn rfl (ya (v := iV (wa .i64 x1354 1)) (e0 rfl)) (wN ?_)))))))
      obtain rfl := someI hM76
      exact n76 _ _ _ rfl ⟨_, _, _, rfl, rfl, e76_1, e76_3, e76_4, e76_5, e76_6, e76_7, e76_8, e76_9, rfl, ((hst.pk 5 [1, 1, 1, 1, 0] rfl).facts (allT (allT allI)))⟩
     ·refine condF (e0 rfl) (dF c1367) (wp_exit (z799 _ _ _ rfl ?_))
      obtain rfl := someI hM76
      exact zz76 _ _ _ _ rfl rfl (je76_0 _ _ _ e76_1 e76_3 e76_4 e76_5 e76_6 e76_7 e76_8 e76_9 (hst.facts (allT allI)) (ho76 _ rfl))
    ·refine condF (e0 rfl) (dF c1345) (wp_exit (z785 _ _ _ rfl ?_))
     obtain rfl := someI hM71
     exact zz71 _ _ _ _ rfl rfl (je71_0 _ _ _ e71_1 e71_3 e71_4 e71_5 e71_6 e71_8 (hst.pk 5 [0, 0, 0, 1] rfl) (ho71 _ rfl))
  ·refine condF (e0 rfl) (dF c921) (wp_exit (z539 _ _ _ rfl ?_))
   obtain rfl := someI hM51
   exact zz51 _ _ _ _ rfl rfl (je51_0 _ _ _ _ e51_5 (hst.pk 3 [2] rfl) (ho51 _ rfl))
 ·refine condT (e0 rfl) (nT (dF c5)) (seqQ fun Q803 k803 z803 => wR (Y wn rfl (ya (v := hnil.v) rfl) (wN (k803 _ _ (wp_ret (z2 _ _ _ rfl ?_))))))
  obtain rfl := someI hM
  replace hst := hst.rowNh 22 (rS (rI .i64))
  exact hQ _ _ _ (fin1r Tryz.results77 ⟨rfl, rfl⟩ ⟨_, rfl, (hst.pk 2 [0] rfl)⟩)

theorem sparseref12_Peripheral_ok {x1 : List (List Int)} {x3 : Int} {h2 : Hdr} {out : Int} (hM : sparseref12_Peripheral x1 x3 = some out) (q1 : imm (rS (rI .i64)) h2.v x1 ∈ ros) (hst : St w0 ros (rs) w) :
  Calls Tryz.prog 79 #[.agg #[h2.v], iV x3] w (fun e w => e = .returned (iV out) ∧ St w0 (ros) (rs) w) := by
 refine enterQ Tryz.func79 rfl Tryz.ntmps79 rfl fun Q hQ => seqQ fun Q1 k1 z1 => wR (YB wn rfl (r_box (vals := [h2.v]) hst (e0 rfl) rfl) ?_)
 intro b4 w hst
 refine Y wn rfl (ya (v := iV 0) rfl) (wN (k1 _ _ (seqQ fun Q2 k2 z2 => seqQ fun Q3 k3 z3 => wR (Y wn rfl (yLbs (us := [h2.v]) ST_26 (e0 rfl) hst mhR rfl rfl) ?_))))
 obtain ⟨r5, gr5, hM⟩ := bs hM
 refine Yc wn rfl (yCall FN_54 (a1 (e0 rfl))) (sparseref12_Check_ok (hM := gr5) (hst := hst) (q1 := q1)) ?_
 rintro _ w ⟨rfl, hst⟩
 refine ⟨_, rfl, ?_⟩
 refine Y wn rfl (yneq (e0 rfl) rfl) (Y wn rfl (ym (v := .bool (!(decide (r5 = 0)))) (e0 rfl)) ?_)
 refine joinW 3 (fun f w => f 1 = iV x3 ∧ f 2 = (pB b4) ∧ f 15 = .bool ((!(decide (r5 = 0))) || (decide (x3 < 0))) ∧ St w0 (ros) (box b4 26 [h2.v] :: rs) w) (fun j1 => ?_) ?_
 ·rcases Bool.eq_false_or_eq_true (!(decide (r5 = 0))) with c7 | c7
  ·exact Gn (wx rfl rfl rfl c7) rfl (Gn (wx rfl rfl rfl c7) rfl (Y wn rfl (ypt (v := .bool true) (e0 rfl) c7 rfl) (j1 _ _ ⟨rfl, rfl, (congrArg Value.bool (orT c7)), hst⟩)))
  ·exact Y (wg rfl rfl rfl c7) rfl (ym (v := iV x3) (e0 rfl)) (Y (wg rfl rfl rfl c7) rfl (ylss (e0 rfl) rfl) (Y wn rfl (ypf (v := .bool (decide (x3 < 0))) (e0 rfl) c7 (e0 rfl)) (j1 _ _ ⟨rfl, rfl, (congrArg Value.bool (orF c7)), hst⟩)))
 rintro f w ⟨e6_1, e6_2, e6_15, hst⟩
 refine Y wn rfl (ym (v := .bool ((!(decide (r5 = 0))) || (decide (x3 < 0)))) (et rfl e6_15)) ?_
 refine joinW 6 (fun f w => f 1 = iV x3 ∧ f 2 = (pB b4) ∧ f 22 = .bool (((!(decide (r5 = 0))) || (decide (x3 < 0))) || (decide ((x1.length : Int) ≤ x3))) ∧ St w0 (ros) (box b4 26 [h2.v] :: rs) w) (fun j2 => ?_) ?_
 ·rcases Bool.eq_false_or_eq_true (((!(decide (r5 = 0))) || (decide (x3 < 0)))) with c9 | c9
  ·exact Gn (wx rfl rfl rfl c9) rfl (Gn (wx rfl rfl rfl c9) rfl (Gn (wx rfl rfl rfl c9) rfl (Gn (wx rfl rfl rfl c9) rfl (Gn (wx rfl rfl rfl c9) rfl (Y wn rfl (ypt (v := .bool true) (e0 rfl) c9 rfl) (j2 _ _ ⟨e6_1, e6_2, (congrArg Value.bool (orT c9)), hst⟩))))))
  ·exact Y (wg rfl rfl rfl c9) rfl (ym (v := iV x3) (et rfl e6_1)) (Y (wg rfl rfl rfl c9) rfl (yFb FL_26_0 (et rfl e6_2)) (Y (wg rfl rfl rfl c9) rfl (yLb (u := h2.v) O_24 (e0 rfl) hst mhR rfl) (Y (wg rfl rfl rfl c9) rfl (yLen SL_24 (e0 rfl) hst (rdI q1)) (Y (wg rfl rfl rfl c9) rfl (ygeq (e0 rfl) (e0 rfl)) (Y wn rfl (ypf (v := .bool (decide ((x1.length : Int) ≤ x3))) (e0 rfl) c9 (e0 rfl)) (j2 _ _ ⟨e6_1, e6_2, (congrArg Value.bool (orF c9)), hst⟩))))))
 rintro f w ⟨e8_1, e8_2, e8_22, hst⟩
 refine wN (k3 _ _ ?_)
 rcases iteS hM with ⟨c10, hM⟩ | ⟨c10, hM⟩
 ·refine condT (et rfl e8_22) c10 (seqQ fun Q4 k4 z4 => wR (Y wn rfl (ya (v := iV (-1)) rfl) (wN (k4 _ _ (wp_ret (z2 _ _ _ rfl ?_))))))
  obtain rfl := someI hM
  exact hQ _ _ _ (fin1r Tryz.results79 ⟨rfl, rfl⟩ ⟨rfl, (hst.pk 1 [] rfl)⟩)
 ·refine condF (et rfl e8_22) (bfalse c10) (wp_skip (k2 _ _ (blockQ fun Q5 qb5 => ?_)))
  obtain ⟨o11, go11, hM⟩ := bs hM
  have je11_0 : ∀ (x99 : Int) (f : Nat → Value) (w : World), f 4 = iV x99 → St w0 (ros) (rs) w → x99 = o11 → Q5 .ret (fr 70 f) w := by
   intro x99 f w eje11_0_4 hst ho
   subst ho
   refine qb5 _ _ _ ?_
   obtain rfl := someI hM
   exact hQ _ _ _ (fin1r Tryz.results79 ⟨rfl, eje11_0_4⟩ ⟨rfl, hst⟩)
  refine loopQ (fun s a w => ∃ (x54 : Int) (f : Nat → Value), x54 = s ∧ a = fr 70 f ∧ f 1 = iV x54 ∧ f 2 = (pB b4) ∧ St w0 (ros) (box b4 26 [h2.v] :: rs) w) go11 ⟨_, _, rfl, rfl, e8_1, e8_2, hst⟩ ?_
  rintro _ _ w r11_ ⟨x54, f, rfl, rfl, e11_1, e11_2, hst⟩ hM11 ho11 Q100011 n11 zz11
  refine blockQ fun Q56 qb56 => seqQ fun Q57 k57 z57 => wR (Y wn rfl (yLbs (us := [h2.v]) ST_26 (et rfl e11_2) hst mhR rfl rfl) (Y wn rfl (ym (v := iV x54) (et rfl e11_1)) ?_))
  obtain ⟨r100, gr100, hM11⟩ := bs hM11
  refine Yc wn rfl (yCall FN_78 (a2 (e0 rfl) (e0 rfl))) (sparseref12_Levels_ok (hM := gr100) (hst := hst) (q1 := q1)) ?_
  rintro _ w ⟨h101, rfl, hst⟩
  refine ⟨_, rfl, ?_⟩
  refine Y wn rfl (ya (v := h101.v) (e0 rfl)) (wN (k57 _ _ (seqQ fun Q58 k58 z58 => wR (Y wn rfl (ym (v := h101.v) (e0 rfl)) (Y wn rfl (ym (v := h101.v) (e0 rfl)) (Y wn rfl (yLen SL_24 (e0 rfl) hst (rdO mhR)) (Y wn rfl (ysub (e0 rfl) rfl) ?_)))))))
  obtain ⟨x102, gx102, hM11⟩ := bs hM11
  refine Y wn rfl (yIa SL_24 (e0 rfl) (e0 rfl) hst (rdO mhR) gx102) ?_
  obtain ⟨h103, ch103, hst⟩ := rLs hst (rdO mhR) gx102
  refine Y wn rfl (yCe O_22 (e0 rfl) ch103 rfl) (Y wn rfl (ya (v := h103.v) (e0 rfl)) (wN (k58 _ _ (seqQ fun Q59 k59 z59 => wR (Y wn rfl (ym (v := h103.v) (e0 rfl)) ?_)))))
  obtain ⟨x104, gx104, hM11⟩ := bs hM11
  refine Y wn rfl (yIa SL_22 (e0 rfl) rfl hst (rdI mhF) gx104) (Y wn rfl (yI O_3 (e0 rfl) hst (rdI mhF) gx104) (Y wn rfl (ya (v := iV x104) (e0 rfl)) (wN (k59 _ _ (seqQ fun Q60 k60 z60 => seqQ fun Q61 k61 z61 => wR (Y wn rfl (ya (v := iV 1) rfl) (wN (k61 _ _ (blockQ fun Q62 qb62 => ?_)))))))))
  obtain ⟨o14, go14, hM11⟩ := bs hM11
  have je14_0 : ∀ (x129 : Int) (f : Nat → Value) (w : World), f 1 = iV x54 → f 2 = (pB b4) → f 5 = h101.v → f 7 = iV x129 → St w0 (ros) (box b4 26 [h2.v] :: row 22 (rS (rI .i64)) h101.v r100 :: rs) w → x129 = o14 → Q62 (.exit 2) (fr 70 f) w := by
   intro x129 f w eje14_0_1 eje14_0_2 eje14_0_5 eje14_0_7 hst ho
   subst ho
   refine qb62 _ _ _ (k60 _ _ (seqQ fun Q73 k73 z73 => seqQ fun Q74 k74 z74 => wR (Y wn rfl (yLbs (us := [h2.v]) ST_26 (et rfl eje14_0_2) hst mhR rfl rfl) (Y wn rfl (ym (v := iV x129) (et rfl eje14_0_7)) ?_))))
   obtain ⟨r130, gr130, hM11⟩ := bs hM11
   refine Yc wn rfl (yCall FN_78 (a2 (e0 rfl) (e0 rfl))) (sparseref12_Levels_ok (hM := gr130) (hst := hst) (q1 := q1)) ?_
   rintro _ w ⟨h131, rfl, hst⟩
   refine ⟨_, rfl, ?_⟩
   refine Y wn rfl (yLen SL_24 (e0 rfl) hst (rdO mhR)) (Y wn rfl (ym (v := h101.v) (et rfl eje14_0_5)) (Y wn rfl (yLen SL_24 (e0 rfl) hst (rdO (mtR (mtR mhR)))) (Y wn rfl (yleq (e0 rfl) (e0 rfl)) (wN (k74 _ _ ?_)))))
   rcases iteS hM11 with ⟨c132, hM11⟩ | ⟨c132, hM11⟩
   ·refine condT (e0 rfl) (dT c132) (seqQ fun Q75 k75 z75 => wR (Y wn rfl (ym (v := iV x54) (et rfl eje14_0_1)) (Y wn rfl (ya (v := iV x54) (e0 rfl)) (wN (k75 _ _ (wp_ret (z73 _ _ _ rfl (qb56 _ _ _ ?_))))))))
    obtain rfl := someI hM11
    exact zz11 _ _ _ _ rfl rfl (je11_0 _ _ _ rfl (hst.pk 3 [] rfl) (ho11 _ rfl))
   ·refine condF (e0 rfl) (dF c132) (wp_skip (k73 _ _ (wR (Y wn rfl (ym (v := iV x129) (et rfl eje14_0_7)) (Y wn rfl (ya (v := iV x129) (e0 rfl)) (wN (qb56 _ _ _ ?_)))))))
    obtain rfl := someI hM11
    exact n11 _ _ _ rfl ⟨_, _, rfl, rfl, rfl, eje14_0_2, (hst.pk 3 [1] rfl)⟩
  refine loopQ (fun s a w => ∃ (x115 : Int) (x116 : Int) (f : Nat → Value), (x115, x116) = s ∧ a = fr 70 f ∧ f 1 = iV x54 ∧ f 2 = (pB b4) ∧ f 5 = h101.v ∧ f 6 = h103.v ∧ f 7 = iV x115 ∧ f 8 = iV x116 ∧ St w0 (imm (rI .i64) h103.v x102 :: ros) (box b4 26 [h2.v] :: row 22 (rS (rI .i64)) h101.v r100 :: rs) w) go14 ⟨_, _, _, rfl, rfl, e11_1, e11_2, rfl, rfl, rfl, rfl, (hst.pk 2 [1, 0] rfl)⟩ ?_
  rintro _ _ w r14_ ⟨x115, x116, f, rfl, rfl, e14_1, e14_2, e14_5, e14_6, e14_7, e14_8, hst⟩ hM14 ho14 Q100014 n14 zz14
  refine seqQ fun Q76 k76 z76 => seqQ fun Q77 k77 z77 => wR (Y wn rfl (ym (v := iV x116) (et rfl e14_8)) (Y wn rfl (ym (v := h103.v) (et rfl e14_6)) (Y wn rfl (yLen SL_22 (e0 rfl) hst (rdI mhF)) (Y wn rfl (ylss (e0 rfl) (e0 rfl)) (wN (k77 _ _ ?_))))))
  rcases iteS hM14 with ⟨c133, hM14⟩ | ⟨c133, hM14⟩
  ·refine condT (e0 rfl) (dT c133) (wp_skip (k76 _ _ (seqQ fun Q78 k78 z78 => blockQ fun Q79 qb79 => seqQ fun Q80 k80 z80 => ?_)))
   obtain ⟨x134, gx134, hM14⟩ := bs hM14
   obtain ⟨x135, gx135, hM14⟩ := bs hM14
   obtain ⟨x137, gx137, hM14⟩ := bs hM14
   refine wp_drawR [0, 1, 0, 0, 12, 28, 63, 127, 255, 0, 512, 0, 3584, 7680, 15872, 32767] [] 0 folM (by kernel_rfl) (by kernel_rfl) (by kernel_rfl) ?_
   replace hst := hst.drew
   refine DRz (l1 := [0, 1, 2, 3, 4, 5, 6, 7, 8, 9, 10, 11, 12, 13, 14, 15]) (l2 := []) (by kernel_rfl) (by kernel_rfl) (Ry rfl rfl wn (yFb FL_26_0 (et rfl e14_2)) (Ry rfl rfl wn (yLb (u := h2.v) O_24 (e0 rfl) hst mhR rfl) (Ry rfl rfl wn (ym (v := h103.v) (et rfl e14_6)) (Ry rfl rfl wn (ym (v := iV x116) (et rfl e14_8)) (Ry rfl rfl wn (yIa SL_22 (e0 rfl) (e0 rfl) hst (rdI mhF) gx134) (Ry rfl rfl wn (yI O_3 (e0 rfl) hst (rdI mhF) gx134) (Ry rfl rfl wn (yIa SL_24 (e0 rfl) (e0 rfl) hst (rdI (mtF q1)) gx135) ?_)))))))
   obtain ⟨h136, hst⟩ := iLs hst (mtF q1) gx135
   refine Ry rfl rfl wn (yCt O_22 (e0 rfl) hst (mtF mhF) rfl) (Ry rfl rfl wn (yLen SL_22 (e0 rfl) hst (rdI mhF)) (Ry rfl rfl wn (yFb FL_26_0 (et rfl e14_2)) (Ry rfl rfl wn (yLb (u := h2.v) O_24 (e0 rfl) hst mhR rfl) (Ry rfl rfl wn (ym (v := iV x115) (et rfl e14_7)) (Ry rfl rfl wn (yIa SL_24 (e0 rfl) (e0 rfl) hst (rdI (mtF (mtF (mtF q1)))) gx137) ?_)))))
   obtain ⟨h138, hst⟩ := iLs hst (mtF (mtF (mtF q1))) gx137
   refine Ry rfl rfl wn (yCt O_22 (e0 rfl) hst (mtF mhF) rfl) (Ry rfl rfl wn (yLen SL_22 (e0 rfl) hst (rdI mhF)) (Ry rfl rfl wn (ylss (e0 rfl) (e0 rfl)) (Rn QSn (k80 _ _ ?_))))
   have j15 : ∀ (x140 : Int) (f : Nat → Value) (w : World), f 1 = iV x54 → f 2 = (pB b4) → f 5 = h101.v → f 6 = h103.v → f 7 = iV x140 → f 8 = iV x116 → St w0 (imm (rI .i64) h103.v x102 :: ros) (box b4 26 [h2.v] :: row 22 (rS (rI .i64)) h101.v r100 :: rs) w → sparseref12_Peripheral_j15 x116 x140 = some r14_ → Q79 .normal (fr 70 f) w := by
    intro x140 f w ej15_1 ej15_2 ej15_5 ej15_6 ej15_7 ej15_8 hst hM
    refine qb79 _ _ _ (k78 _ _ (wR (Y wn rfl (ym (v := iV x116) (et rfl ej15_8)) (Y wn rfl (yadd (e0 rfl) rfl) (Y wn rfl (ya (v := iV (wa .i64 x116 1)) (e0 rfl)) (wN ?_))))))
    obtain rfl := someI hM
    exact n14 _ _ _ rfl ⟨_, _, _, rfl, rfl, ej15_1, ej15_2, ej15_5, ej15_6, ej15_7, rfl, hst⟩
   rcases iteS hM14 with ⟨c141, hM14⟩ | ⟨c141, hM14⟩
   ·refine condT (e0 rfl) (dT c141) (wR (Y wn rfl (ym (v := h103.v) (et rfl e14_6)) (Y wn rfl (ym (v := iV x116) (et rfl e14_8)) ?_)))
    obtain ⟨x142, gx142, hM14⟩ := bs hM14
    exact Y wn rfl (yIa SL_22 (e0 rfl) (e0 rfl) hst (rdI (mtF (mtF (mtF (mtF mhF))))) gx142) (Y wn rfl (yI O_3 (e0 rfl) hst (rdI (mtF (mtF (mtF (mtF mhF))))) gx142) (Y wn rfl (ya (v := iV x142) (e0 rfl)) (wN (j15 _ _ _ e14_1 e14_2 e14_5 e14_6 rfl e14_8 (hst.facts (allC (mtF (mtF (mtF (mtF mhF)))) (allT (allT (allT (allT (allT allI))))))) hM14))))
   ·exact condF (e0 rfl) (dF c141) (wp_skip (j15 _ _ _ e14_1 e14_2 e14_5 e14_6 e14_7 e14_8 (hst.facts (allC (mtF (mtF (mtF (mtF mhF)))) (allT (allT (allT (allT (allT allI))))))) hM14))
  ·refine condF (e0 rfl) (dF c133) (wp_exit (z76 _ _ _ rfl ?_))
   obtain rfl := someI hM14
   exact zz14 _ _ _ _ rfl rfl (je14_0 _ _ _ e14_1 e14_2 e14_5 e14_7 (hst.facts (allT allI)) (ho14 _ rfl))

theorem sparseref18_Grow_ok {x1 : List (List Int)} {x3 : List Int} {x5 : List (List Int)} {h2 : Hdr} {h4 : Hdr} {h6 : Hdr} {out : (List Int)} (hM : sparseref18_Grow x1 x3 x5 = some out) (q1 : imm (rS (rI .i64)) h2.v x1 ∈ ros) (q2 : imm (rI .i64) h4.v x3 ∈ ros) (q3 : imm (rS (rI .i64)) h6.v x5 ∈ ros) (hst : St w0 ros (rs) w) :
  Calls Tryz.prog 45 #[.agg #[h2.v, h4.v, h6.v]] w (fun e w => ∃ (h100001 : Hdr), e = .returned (h100001.v) ∧ St w0 (ros) (row 3 (rI .i64) h100001.v out :: rs) w) := by
 refine enterQ Tryz.func45 rfl Tryz.ntmps45 rfl fun Q hQ => seqQ fun Q1 k1 z1 => wR (YB wn rfl (r_box (vals := [h2.v, h4.v, h6.v]) hst (e0 rfl) rfl) ?_)
 intro b7 w hst
 refine Y wn rfl (ya (v := hnil.v) rfl) (wN (k1 _ _ (seqQ fun Q2 k2 z2 => wR (Y wn rfl (yFb FL_28_1 (e0 rfl)) (Y wn rfl (yLb (u := h4.v) O_22 (e0 rfl) hst mhR rfl) (Y wn rfl (yLen SL_22 (e0 rfl) hst (rdI q2)) ?_))))))
 obtain ⟨x10, gx10, hM⟩ := bs hM
 refine YH wn rfl (rMk hst SL_22 (e0 rfl) gx10) ?_
 intro h8 w hst
 refine Y wn rfl (ya (v := h8.v) (e0 rfl)) (wN (k2 _ _ (seqQ fun Q3 k3 z3 => seqQ fun Q4 k4 z4 => wR (Y wn rfl (ya (v := iV 0) rfl) (wN (k4 _ _ (blockQ fun Q5 qb5 => ?_)))))))
 obtain ⟨o1, go1, hM⟩ := bs hM
 have je1_0 : ∀ (x19 : List Int) (f : Nat → Value) (w : World), f 1 = (pB b7) → f 3 = h8.v → St w0 (ros) (box b7 28 [h2.v, h4.v, h6.v] :: row 3 (rI .i64) h8.v x19 :: rs) w → x19 = o1 → Q5 (.exit 0) (fr 91 f) w := by
  intro x19 f w eje1_0_1 eje1_0_3 hst ho
  subst ho
  refine qb5 _ _ _ (k3 _ _ (seqQ fun Q14 k14 z14 => wR (Y wn rfl (yLbs (us := [h2.v, h4.v, h6.v]) ST_28 (et rfl eje1_0_1) hst mhR rfl rfl) ?_)))
  obtain ⟨r20, gr20, hM⟩ := bs hM
  refine Yc wn rfl (yCall FN_75 (a1 (e0 rfl))) (sparseref18_Total_ok (hM := gr20) (hst := hst) (q1 := q1) (q2 := q2) (q3 := q3)) ?_
  rintro _ w ⟨rfl, hst⟩
  refine ⟨_, rfl, ?_⟩
  refine Y wn rfl (ya (v := iV r20) (e0 rfl)) (Y wn rfl (ya (v := iV 0) rfl) (wN (k14 _ _ (seqQ fun Q15 k15 z15 => wR (Y wn rfl (yFb FL_28_0 (et rfl eje1_0_1)) (Y wn rfl (yLbs (us := [h2.v]) ST_26 (e0 rfl) hst mhR rfl rfl) ?_))))))
  obtain ⟨r21, gr21, hM⟩ := bs hM
  refine Yc wn rfl (yCall FN_77 (a1 (e0 rfl))) (sparseref12_Components_ok (hM := gr21) (hst := hst) (q1 := q1)) ?_
  rintro _ w ⟨h22, rfl, hst⟩
  refine ⟨_, rfl, ?_⟩
  refine Y wn rfl (ya (v := h22.v) (e0 rfl)) (wN (k15 _ _ (seqQ fun Q16 k16 z16 => seqQ fun Q17 k17 z17 => wR (Y wn rfl (ya (v := iV 0) rfl) (wN (k17 _ _ (blockQ fun Q18 qb18 => ?_)))))))
  obtain ⟨o10, go10, hM⟩ := bs hM
  have je10_0 : ∀ (x337 : List Int) (f : Nat → Value) (w : World), f 3 = h8.v → St w0 (ros) (row 3 (rI .i64) h8.v x337 :: rs) w → .inl x337 = o10 → Q18 (.exit 2) (fr 91 f) w := by
   intro x337 f w eje10_0_3 hst ho
   subst ho
   refine qb18 _ _ _ (k16 _ _ (seqQ fun Q213 k213 z213 => wR (Y wn rfl (ym (v := h8.v) (et rfl eje10_0_3)) (Y wn rfl (ya (v := h8.v) (e0 rfl)) (wN (k213 _ _ (wp_ret ?_)))))))
   obtain rfl := someI hM
   exact hQ _ _ _ (fin1r Tryz.results45 ⟨rfl, rfl⟩ ⟨_, rfl, hst⟩)
  have je10_1 : ∀ (x338 : List Int) (f : Nat → Value) (w : World), f 2 = h8.v → St w0 (ros) (row 3 (rI .i64) h8.v x338 :: rs) w → .inr x338 = o10 → Q18 .ret (fr 91 f) w := by
   intro x338 f w eje10_1_2 hst ho
   subst ho
   refine qb18 _ _ _ (z16 _ _ _ rfl ?_)
   obtain rfl := someI hM
   exact hQ _ _ _ (fin1r Tryz.results45 ⟨rfl, eje10_1_2⟩ ⟨_, rfl, hst⟩)
  refine loopQ (fun s a w => ∃ (x177 : List Int) (x178 : Int) (x179 : Int) (f : Nat → Value), (x177, x178, x179) = s ∧ a = fr 91 f ∧ f 1 = (pB b7) ∧ f 3 = h8.v ∧ f 5 = iV r20 ∧ f 6 = iV x178 ∧ f 7 = h22.v ∧ f 8 = iV x179 ∧ St w0 (ros) (box b7 28 [h2.v, h4.v, h6.v] :: row 3 (rI .i64) h8.v x177 :: row 22 (rS (rI .i64)) h22.v r21 :: rs) w) go10 ⟨_, _, _, _, rfl, rfl, eje1_0_1, eje1_0_3, rfl, rfl, rfl, rfl, (hst.pk 3 [1, 1, 0] rfl)⟩ ?_
  rintro _ _ w r10_ ⟨x177, x178, x179, f, rfl, rfl, e10_1, e10_3, e10_5, e10_6, e10_7, e10_8, hst⟩ hM10 ho10 Q100010 n10 zz10
  refine seqQ fun Q214 k214 z214 => seqQ fun Q215 k215 z215 => wR (Y wn rfl (ym (v := iV x179) (et rfl e10_8)) (Y wn rfl (ym (v := h22.v) (et rfl e10_7)) (Y wn rfl (yLen SL_24 (e0 rfl) hst (rdO (mtR (mtR mhR)))) (Y wn rfl (ylss (e0 rfl) (e0 rfl)) (wN (k215 _ _ ?_))))))
  rcases iteS hM10 with ⟨c339, hM10⟩ | ⟨c339, hM10⟩
  ·refine condT (e0 rfl) (dT c339) (wp_skip (k214 _ _ (seqQ fun Q216 k216 z216 => blockQ fun Q217 qb217 => seqQ fun Q218 k218 z218 => ?_)))
   obtain ⟨x340, gx340, hM10⟩ := bs hM10
   obtain ⟨x342, gx342, hM10⟩ := bs hM10
   obtain ⟨r343, gr343, hM10⟩ := bs hM10
   obtain ⟨r344, gr344, hM10⟩ := bs hM10
   refine wp_drawR [0, 1, 0, 4, 0, 0, 48, 112, 240, 496, 1020, 2047, 4095] [10, 11, 12] 3 folM (by kernel_rfl) (by kernel_rfl) (by kernel_rfl) ?_
   replace hst := hst.drew
   refine DRn (l1 := [0, 1, 2, 3, 4, 5, 6, 7, 8, 9]) (l2 := []) (lc := [10]) (by kernel_rfl) (by kernel_rfl) (by kernel_rfl) (Ry rfl rfl wn (yFb FL_28_0 (et rfl e10_1)) (Ry rfl rfl wn (yLbs (us := [h2.v]) ST_26 (e0 rfl) hst mhR rfl rfl) (Ry rfl rfl wn (yFb FL_28_0 (et rfl e10_1)) (Ry rfl rfl wn (yLbs (us := [h2.v]) ST_26 (e0 rfl) hst mhR rfl rfl) (Ry rfl rfl wn (ym (v := h22.v) (et rfl e10_7)) (Ry rfl rfl wn (ym (v := iV x179) (et rfl e10_8)) (Ry rfl rfl wn (yIa SL_24 (e0 rfl) (e0 rfl) hst (rdO (mtR (mtR mhR))) gx340) ?_)))))))
   obtain ⟨h341, ch341, hst⟩ := rLs hst (rdO (mtR (mtR mhR))) gx340
   refine Ry rfl rfl wn (yCe O_22 (e0 rfl) ch341 rfl) (Ry rfl rfl wn (yIa SL_22 (e0 rfl) rfl hst (rdI mhF) gx342) (Ry rfl rfl wn (yI O_3 (e0 rfl) hst (rdI mhF) gx342) (Rn QSn ?_)))
   refine Lc rfl ?_ LAn
   refine Lk wn (yCall FN_79 (a2 (e0 rfl) (e0 rfl))) (sparseref12_Peripheral_ok (hM := gr343) (hst := hst) (q1 := (mtF q1))) ?_
   rintro _ w ⟨rfl, hst⟩
   refine ⟨_, rfl, ?_⟩
   refine DRn (l1 := []) (l2 := [0, 1]) (lc := [11]) (by kernel_rfl) (by kernel_rfl) (by kernel_rfl) (Rn (Sy rfl rfl wn (yFb FL_28_0 (et rfl e10_1)) rfl (Sy rfl rfl wn (yLbs (us := [h2.v]) ST_26 (e0 rfl) hst mhR rfl rfl) rfl QSn)) ?_)
   refine Lc rfl ?_ LAn
   refine Lk wn (yCall FN_78 (a2 (e0 rfl) (e0 rfl))) (sparseref12_Levels_ok (hM := gr344) (hst := hst) (q1 := (mtF q1))) ?_
   rintro _ w ⟨h345, rfl, hst⟩
   refine ⟨_, rfl, ?_⟩
   refine DRn (l1 := []) (l2 := []) (lc := [12]) (by kernel_rfl) (by kernel_rfl) (by kernel_rfl) (Rn QSn ?_)
   refine Lc rfl ?_ LAn
   refine Ly wn (ya (v := h345.v) (e0 rfl)) (DRz (l1 := []) (l2 := []) (by kernel_rfl) (by kernel_rfl) (Rn QSn (k218 _ _ (seqQ fun Q219 k219 z219 => wR (Y wn rfl (ya (v := iV 0) rfl) (wN (k219 _ _ (blockQ fun Q220 qb220 => ?_))))))))
   obtain ⟨o13, go13, hM10⟩ := bs hM10
   have je13_0 : ∀ (x444 : List Int) (x445 : Int) (f : Nat → Value) (w : World), f 1 = (pB b7) → f 3 = h8.v → f 5 = iV r20 → f 6 = iV x445 → f 7 = h22.v → f 8 = iV x179 → St w0 (ros) (box b7 28 [h2.v, h4.v, h6.v] :: row 3 (rI .i64) h8.v x444 :: row 22 (rS (rI .i64)) h22.v r21 :: rs) w → .inl (x444, x445) = o13 → Q220 (.exit 4) (fr 91 f) w := by
    intro x444 x445 f w eje13_0_1 eje13_0_3 eje13_0_5 eje13_0_6 eje13_0_7 eje13_0_8 hst ho
    subst ho
    refine qb220 _ _ _ (qb217 _ _ _ (k216 _ _ (wR (Y wn rfl (ym (v := iV x179) (et rfl eje13_0_8)) (Y wn rfl (yadd (e0 rfl) rfl) (Y wn rfl (ya (v := iV (wa .i64 x179 1)) (e0 rfl)) (wN ?_)))))))
    obtain rfl := someI hM10
    exact n10 _ _ _ rfl ⟨_, _, _, _, rfl, rfl, eje13_0_1, eje13_0_3, eje13_0_5, eje13_0_6, eje13_0_7, rfl, hst⟩
   have je13_1 : ∀ (x446 : List Int) (f : Nat → Value) (w : World), f 2 = h8.v → St w0 (ros) (row 3 (rI .i64) h8.v x446 :: rs) w → .inr x446 = o13 → Q220 .ret (fr 91 f) w := by
    intro x446 f w eje13_1_2 hst ho
    subst ho
    refine qb220 _ _ _ (qb217 _ _ _ (z216 _ _ _ rfl ?_))
    obtain rfl := someI hM10
    exact zz10 _ _ _ _ rfl rfl (je10_1 _ _ _ eje13_1_2 hst (ho10 _ rfl))
   refine loopQ (fun s a w => ∃ (x392 : List Int) (x393 : Int) (x394 : Int) (f : Nat → Value), (x392, x393, x394) = s ∧ a = fr 91 f ∧ f 1 = (pB b7) ∧ f 3 = h8.v ∧ f 5 = iV r20 ∧ f 6 = iV x393 ∧ f 7 = h22.v ∧ f 8 = iV x179 ∧ f 9 = h345.v ∧ f 10 = iV x394 ∧ St w0 (ros) (box b7 28 [h2.v, h4.v, h6.v] :: row 3 (rI .i64) h8.v x392 :: row 22 (rS (rI .i64)) h22.v r21 :: row 22 (rS (rI .i64)) h345.v r344 :: rs) w) go13 ⟨_, _, _, _, rfl, rfl, e10_1, e10_3, e10_5, e10_6, e10_7, e10_8, rfl, rfl, ((hst.pk 4 [1, 1, 1, 0] rfl).facts (allT allI))⟩ ?_
   rintro _ _ w r13_ ⟨x392, x393, x394, f, rfl, rfl, e13_1, e13_3, e13_5, e13_6, e13_7, e13_8, e13_9, e13_10, hst⟩ hM13 ho13 Q100013 n13 zz13
   refine seqQ fun Q281 k281 z281 => seqQ fun Q282 k282 z282 => wR (Y wn rfl (ym (v := iV x394) (et rfl e13_10)) (Y wn rfl (ym (v := h345.v) (et rfl e13_9)) (Y wn rfl (yLen SL_24 (e0 rfl) hst (rdO (mtR (mtR (mtR mhR))))) (Y wn rfl (ylss (e0 rfl) (e0 rfl)) (wN (k282 _ _ ?_))))))
   rcases iteS hM13 with ⟨c447, hM13⟩ | ⟨c447, hM13⟩
   ·refine condT (e0 rfl) (dT c447) (wp_skip (k281 _ _ (seqQ fun Q283 k283 z283 => blockQ fun Q284 qb284 => seqQ fun Q285 k285 z285 => wR (Y wn rfl (ya (v := iV 0) rfl) (wN (k285 _ _ (blockQ fun Q286 qb286 => ?_)))))))
    obtain ⟨o14, go14, hM13⟩ := bs hM13
    have je14_0 : ∀ (x478 : List Int) (x479 : Int) (f : Nat → Value) (w : World), f 1 = (pB b7) → f 3 = h8.v → f 5 = iV r20 → f 6 = iV x479 → f 7 = h22.v → f 8 = iV x179 → f 9 = h345.v → f 10 = iV x394 → St w0 (ros) (box b7 28 [h2.v, h4.v, h6.v] :: row 3 (rI .i64) h8.v x478 :: row 22 (rS (rI .i64)) h22.v r21 :: row 22 (rS (rI .i64)) h345.v r344 :: rs) w → .inl (x478, x479) = o14 → Q286 (.exit 6) (fr 91 f) w := by
     intro x478 x479 f w eje14_0_1 eje14_0_3 eje14_0_5 eje14_0_6 eje14_0_7 eje14_0_8 eje14_0_9 eje14_0_10 hst ho
     subst ho
     refine qb286 _ _ _ (qb284 _ _ _ (k283 _ _ (wR (Y wn rfl (ym (v := iV x394) (et rfl eje14_0_10)) (Y wn rfl (yadd (e0 rfl) rfl) (Y wn rfl (ya (v := iV (wa .i64 x394 1)) (e0 rfl)) (wN ?_)))))))
     obtain rfl := someI hM13
     exact n13 _ _ _ rfl ⟨_, _, _, _, rfl, rfl, eje14_0_1, eje14_0_3, eje14_0_5, eje14_0_6, eje14_0_7, eje14_0_8, eje14_0_9, rfl, hst⟩
    have je14_1 : ∀ (x480 : List Int) (f : Nat → Value) (w : World), f 2 = h8.v → St w0 (ros) (row 3 (rI .i64) h8.v x480 :: rs) w → .inr x480 = o14 → Q286 .ret (fr 91 f) w := by
     intro x480 f w eje14_1_2 hst ho
     subst ho
     refine qb286 _ _ _ (qb284 _ _ _ (z283 _ _ _ rfl ?_))
     obtain rfl := someI hM13
     exact zz13 _ _ _ _ rfl rfl (je13_1 _ _ _ eje14_1_2 hst (ho13 _ rfl))
    refine loopQ (fun s a w => ∃ (x460 : List Int) (x461 : Int) (x462 : Int) (f : Nat → Value), (x460, x461, x462) = s ∧ a = fr 91 f ∧ f 1 = (pB b7) ∧ f 3 = h8.v ∧ f 5 = iV r20 ∧ f 6 = iV x461 ∧ f 7 = h22.v ∧ f 8 = iV x179 ∧ f 9 = h345.v ∧ f 10 = iV x394 ∧ f 11 = iV x462 ∧ St w0 (ros) (box b7 28 [h2.v, h4.v, h6.v] :: row 3 (rI .i64) h8.v x460 :: row 22 (rS (rI .i64)) h22.v r21 :: row 22 (rS (rI .i64)) h345.v r344 :: rs) w) go14 ⟨_, _, _, _, rfl, rfl, e13_1, e13_3, e13_5, e13_6, e13_7, e13_8, e13_9, e13_10, rfl, hst⟩ ?_
    rintro _ _ w r14_ ⟨x460, x461, x462, f, rfl, rfl, e14_1, e14_3, e14_5, e14_6, e14_7, e14_8, e14_9, e14_10, e14_11, hst⟩ hM14 ho14 Q100014 n14 zz14
    refine seqQ fun Q303 k303 z303 => seqQ fun Q304 k304 z304 => wR (Y wn rfl (ym (v := iV x462) (et rfl e14_11)) (Y wn rfl (ym (v := h345.v) (et rfl e14_9)) (Y wn rfl (ym (v := iV x394) (et rfl e14_10)) ?_)))
    obtain ⟨x481, gx481, hM14⟩ := bs hM14
    refine Y wn rfl (yIa SL_24 (e0 rfl) (e0 rfl) hst (rdO (mtR (mtR (mtR mhR)))) gx481) ?_
    obtain ⟨h482, ch482, hst⟩ := rLs hst (rdO (mtR (mtR (mtR mhR)))) gx481
    refine Y wn rfl (yCe O_22 (e0 rfl) ch482 rfl) (Y wn rfl (yLen SL_22 (e0 rfl) hst (rdI mhF)) (Y wn rfl (ylss (e0 rfl) (e0 rfl)) (wN (k304 _ _ ?_))))
    rcases iteS hM14 with ⟨c483, hM14⟩ | ⟨c483, hM14⟩
    ·refine condT (e0 rfl) (dT c483) (wp_skip (k303 _ _ (seqQ fun Q305 k305 z305 => blockQ fun Q306 qb306 => seqQ fun Q307 k307 z307 => seqQ fun Q308 k308 z308 => wR (Y wn rfl (ym (v := iV x461) (et rfl e14_6)) (Y wn rfl (ymul rfl (e0 rfl)) (Y wn rfl (ym (v := iV r20) (et rfl e14_5)) (Y wn rfl (ygeq (e0 rfl) (e0 rfl)) (wN (k308 _ _ ?_)))))))))
     rcases iteS hM14 with ⟨c484, hM14⟩ | ⟨c484, hM14⟩
     ·refine condT (e0 rfl) (dT c484) (seqQ fun Q309 k309 z309 => wR (Y wn rfl (ym (v := h8.v) (et rfl e14_3)) (Y wn rfl (ya (v := h8.v) (e0 rfl)) (wN (k309 _ _ (wp_ret (z307 _ _ _ rfl (qb306 _ _ _ (z305 _ _ _ rfl ?_)))))))))
      obtain rfl := someI hM14
      exact zz14 _ _ _ _ rfl rfl (je14_1 _ _ _ rfl ((hst.pk 4 [1] rfl).facts (allT allI)) (ho14 _ rfl))
     ·refine condF (e0 rfl) (dF c484) (wp_skip (k307 _ _ (seqQ fun Q310 k310 z310 => wR (Y wn rfl (ym (v := h8.v) (et rfl e14_3)) (Y wn rfl (ym (v := h345.v) (et rfl e14_9)) (Y wn rfl (ym (v := iV x394) (et rfl e14_10)) ?_))))))
      obtain ⟨x485, gx485, hM14⟩ := bs hM14
      refine Y wn rfl (yIa SL_24 (e0 rfl) (e0 rfl) hst (rdO (mtR (mtR (mtR mhR)))) gx485) ?_
      obtain ⟨h486, ch486, hst⟩ := rLs hst (rdO (mtR (mtR (mtR mhR)))) gx485
      refine Y wn rfl (yCe O_22 (e0 rfl) ch486 rfl) (Y wn rfl (ym (v := iV x462) (et rfl e14_11)) ?_)
      obtain ⟨x487, gx487, hM14⟩ := bs hM14
      refine Y wn rfl (yIa SL_22 (e0 rfl) (e0 rfl) hst (rdI mhF) gx487) (Y wn rfl (yI O_3 (e0 rfl) hst (rdI mhF) gx487) ?_)
      obtain ⟨x488, gx488, hM14⟩ := bs hM14
      refine Y wn rfl (yIs SL_22 (e0 rfl) (e0 rfl) hst (rdO (mtR mhR)) gx488) ?_
      replace hst := hst.pk 2 [1, 0] rfl
      refine YT wn rfl (r_sti (cs := [iV 0]) hst O_3 rfl (e0 rfl) rfl rfl mkI gx488) ?_
      intro w hst
      refine wN (k310 _ _ ?_)
      obtain ⟨x489, gx489, hM14⟩ := bs hM14
      obtain ⟨x491, gx491, hM14⟩ := bs hM14
      obtain ⟨x492, gx492, hM14⟩ := bs hM14
      refine wp_drawR [0, 0, 2, 0, 0, 24, 56, 0, 248, 504, 1022, 2046, 4095, 8191] [13] 1 folM (by kernel_rfl) (by kernel_rfl) (by kernel_rfl) ?_
      replace hst := hst.drew
      refine DRn (l1 := [0, 1, 2, 3, 4, 5, 6, 7, 8, 9, 10, 11, 12]) (l2 := []) (lc := [13]) (by kernel_rfl) (by kernel_rfl) (by kernel_rfl) (Ry rfl rfl wn (ym (v := iV x461) (et rfl e14_6)) (Ry rfl rfl wn (yFb FL_28_1 (et rfl e14_1)) (Ry rfl rfl wn (yLb (u := h4.v) O_22 (e0 rfl) hst (mtR mhR) rfl) (Ry rfl rfl wn (ym (v := h345.v) (et rfl e14_9)) (Ry rfl rfl wn (ym (v := iV x394) (et rfl e14_10)) (Ry rfl rfl wn (yIa SL_24 (e0 rfl) (e0 rfl) hst (rdO (mtR (mtR (mtR mhR)))) gx489) ?_))))))
      obtain ⟨h490, ch490, hst⟩ := rLs hst (rdO (mtR (mtR (mtR mhR)))) gx489
      refine Ry rfl rfl wn (yCe O_22 (e0 rfl) ch490 rfl) (Ry rfl rfl wn (ym (v := iV x462) (et rfl e14_11)) (Ry rfl rfl wn (yIa SL_22 (e0 rfl) (e0 rfl) hst (rdI mhF) gx491) (Ry rfl rfl wn (yI O_3 (e0 rfl) hst (rdI mhF) gx491) (Ry rfl rfl wn (yIa SL_22 (e0 rfl) (e0 rfl) hst (rdI (mtF (mtF (mtF q2)))) gx492) (Ry rfl rfl wn (yI O_3 (e0 rfl) hst (rdI (mtF (mtF (mtF q2)))) gx492) (Ry rfl rfl wn (yadd (e0 rfl) (e0 rfl)) (Rn QSn ?_)))))))
      refine Lc rfl ?_ LAn
      refine Ly wn (ya (v := iV (wa .i64 x461 x492)) (e0 rfl)) (DRz (l1 := []) (l2 := []) (by kernel_rfl) (by kernel_rfl) (Rn QSn (qb306 _ _ _ (k305 _ _ (wR (Y wn rfl (ym (v := iV x462) (et rfl e14_11)) (Y wn rfl (yadd (e0 rfl) rfl) (Y wn rfl (ya (v := iV (wa .i64 x462 1)) (e0 rfl)) (wN ?_)))))))))
      obtain rfl := someI hM14
      exact n14 _ _ _ rfl ⟨_, _, _, _, rfl, rfl, e14_1, e14_3, e14_5, rfl, e14_7, e14_8, e14_9, e14_10, rfl, ((hst.pk 4 [1, 0, 0, 0] rfl).facts (allT (allT (allT allI))))⟩
    ·refine condF (e0 rfl) (dF c483) (wp_exit (z303 _ _ _ rfl ?_))
     obtain rfl := someI hM14
     exact zz14 _ _ _ _ rfl rfl (je14_0 _ _ _ _ e14_1 e14_3 e14_5 e14_6 e14_7 e14_8 e14_9 e14_10 (hst.facts (allT allI)) (ho14 _ rfl))
   ·refine condF (e0 rfl) (dF c447) (wp_exit (z281 _ _ _ rfl ?_))
    obtain rfl := someI hM13
    exact zz13 _ _ _ _ rfl rfl (je13_0 _ _ _ _ e13_1 e13_3 e13_5 e13_6 e13_7 e13_8 (hst.pk 4 [0, 0, 0] rfl) (ho13 _ rfl))
  ·refine condF (e0 rfl) (dF c339) (wp_exit (z214 _ _ _ rfl ?_))
   obtain rfl := someI hM10
   exact zz10 _ _ _ _ rfl rfl (je10_0 _ _ _ e10_3 (hst.pk 3 [1] rfl) (ho10 _ rfl))
 refine loopQ (fun s a w => ∃ (x13 : List Int) (x14 : Int) (f : Nat → Value), (x13, x14) = s ∧ a = fr 91 f ∧ f 1 = (pB b7) ∧ f 3 = h8.v ∧ f 4 = iV x14 ∧ St w0 (ros) (box b7 28 [h2.v, h4.v, h6.v] :: row 3 (rI .i64) h8.v x13 :: rs) w) go1 ⟨_, _, _, rfl, rfl, rfl, rfl, rfl, (hst.pk 2 [1, 0] rfl)⟩ ?_
 rintro _ _ w r1_ ⟨x13, x14, f, rfl, rfl, e1_1, e1_3, e1_4, hst⟩ hM1 ho1 Q100001 n1 zz1
 refine seqQ fun Q311 k311 z311 => seqQ fun Q312 k312 z312 => wR (Y wn rfl (ym (v := iV x14) (et rfl e1_4)) (Y wn rfl (ym (v := h8.v) (et rfl e1_3)) (Y wn rfl (yLen SL_22 (e0 rfl) hst (rdO (mtR mhR))) (Y wn rfl (ylss (e0 rfl) (e0 rfl)) (wN (k312 _ _ ?_))))))
 rcases iteS hM1 with ⟨c493, hM1⟩ | ⟨c493, hM1⟩
 ·refine condT (e0 rfl) (dT c493) (wp_skip (k311 _ _ (seqQ fun Q313 k313 z313 => blockQ fun Q314 qb314 => wR (Y wn rfl (ym (v := h8.v) (et rfl e1_3)) (Y wn rfl (ym (v := iV x14) (et rfl e1_4)) ?_)))))
  obtain ⟨x494, gx494, hM1⟩ := bs hM1
  refine Y wn rfl (yIs SL_22 (e0 rfl) (e0 rfl) hst (rdO (mtR mhR)) gx494) ?_
  replace hst := hst.pk 2 [1, 0] rfl
  refine YT wn rfl (r_sti (cs := [iV 1]) hst O_3 rfl (e0 rfl) rfl rfl mkI gx494) ?_
  intro w hst
  refine wN (qb314 _ _ _ (k313 _ _ (wR (Y wn rfl (ym (v := iV x14) (et rfl e1_4)) (Y wn rfl (yadd (e0 rfl) rfl) (Y wn rfl (ya (v := iV (wa .i64 x14 1)) (e0 rfl)) (wN ?_)))))))
  obtain rfl := someI hM1
  exact n1 _ _ _ rfl ⟨_, _, _, rfl, rfl, e1_1, e1_3, rfl, (hst.pk 2 [1, 0] rfl)⟩
 ·refine condF (e0 rfl) (dF c493) (wp_exit (z311 _ _ _ rfl ?_))
  obtain rfl := someI hM1
  exact zz1 _ _ _ _ rfl rfl (je1_0 _ _ _ e1_1 e1_3 hst (ho1 _ rfl))

theorem sparsekit_TwinInts_ok {x1 : List Int} {h2 : Hdr} {out : (List Int)} (hM : sparsekit_TwinInts x1 = some out) (q1 : imm (rI .i64) h2.v x1 ∈ ros) (hst : St w0 ros (rs) w) :
  Calls Tryz.prog 47 #[h2.v] w (fun e w => ∃ (h100001 : Hdr), e = .returned (h100001.v) ∧ St w0 (ros) (row 3 (rI .i64) h100001.v out :: rs) w) := by
 refine enterQ Tryz.func47 rfl Tryz.ntmps47 rfl fun Q hQ => seqQ fun Q1 k1 z1 => wR (Y wn rfl (ya (v := hnil.v) rfl) (wN (k1 _ _ (seqQ fun Q2 k2 z2 => wR (Y wn rfl (ya (v := hnil.v) rfl) (wN (k2 _ _ (seqQ fun Q3 k3 z3 => seqQ fun Q4 k4 z4 => wR ?_))))))))
 refine Y wn rfl (ya (v := iV 0) rfl) (wN (k4 _ _ (blockQ fun Q5 qb5 => ?_)))
 obtain ⟨o1, go1, hM⟩ := bs hM
 have je1_0 : ∀ (x20 : List Int) (h19 : Hdr) (f : Nat → Value) (w : World), f 3 = h19.v → St w0 (ros) (row 3 (rI .i64) h19.v x20 :: rs) w → x20 = o1 → Q5 (.exit 0) (fr 19 f) w := by
  intro x20 h19 f w eje1_0_3 hst ho
  subst ho
  refine qb5 _ _ _ (k3 _ _ (seqQ fun Q14 k14 z14 => wR (Y wn rfl (ym (v := h19.v) (et rfl eje1_0_3)) (Y wn rfl (ya (v := h19.v) (e0 rfl)) (wN (k14 _ _ (wp_ret ?_)))))))
  obtain rfl := someI hM
  exact hQ _ _ _ (fin1r Tryz.results47 ⟨rfl, rfl⟩ ⟨_, rfl, hst⟩)
 replace hst := hst.rowNh 3 (rI .i64)
 refine loopQ (fun s a w => ∃ (x9 : List Int) (x10 : Int) (f : Nat → Value) (h8 : Hdr), (x9, x10) = s ∧ a = fr 19 f ∧ f 0 = h2.v ∧ f 3 = h8.v ∧ f 4 = iV x10 ∧ St w0 (ros) (row 3 (rI .i64) h8.v x9 :: rs) w) go1 ⟨_, _, _, _, rfl, rfl, rfl, rfl, rfl, hst⟩ ?_
 rintro _ _ w r1_ ⟨x9, x10, f, h8, rfl, rfl, e1_0, e1_3, e1_4, hst⟩ hM1 ho1 Q100001 n1 zz1
 refine seqQ fun Q15 k15 z15 => seqQ fun Q16 k16 z16 => wR (Y wn rfl (ym (v := iV x10) (et rfl e1_4)) (Y wn rfl (ym (v := h2.v) (et rfl e1_0)) (Y wn rfl (yLen SL_22 (e0 rfl) hst (rdI q1)) (Y wn rfl (ylss (e0 rfl) (e0 rfl)) (wN (k16 _ _ ?_))))))
 rcases iteS hM1 with ⟨c21, hM1⟩ | ⟨c21, hM1⟩
 ·refine condT (e0 rfl) (dT c21) (wp_skip (k15 _ _ (seqQ fun Q17 k17 z17 => blockQ fun Q18 qb18 => wR (Y wn rfl (ym (v := h8.v) (et rfl e1_3)) (Y wn rfl (ym (v := h2.v) (et rfl e1_0)) (Y wn rfl (ym (v := iV x10) (et rfl e1_4)) ?_))))))
  obtain ⟨x22, gx22, hM1⟩ := bs hM1
  refine Y wn rfl (yIa SL_22 (e0 rfl) (e0 rfl) hst (rdI q1) gx22) (Y wn rfl (yI O_3 (e0 rfl) hst (rdI q1) gx22) (YH wn rfl (rLt (n := 1) (l := [x22]) hst SL_22 [iV x22] (bp1 (e0 rfl)) rfl rfl (mks1 (cs := [iV x22]) rfl mkI mks0)) ?_))
  intro h23 w hst
  obtain ⟨x25, gx25, hM1⟩ := bs hM1
  replace hst := hst.pk 2 [1, 0] rfl
  refine YH wn rfl (rAp hst SL_22 (e0 rfl) (e0 rfl) (rdO (mtR mhR)) gx25) ?_
  intro h24 w hst
  refine Y wn rfl (ya (v := h24.v) (e0 rfl)) (wN (qb18 _ _ _ (k17 _ _ (wR (Y wn rfl (ym (v := iV x10) (et rfl e1_4)) (Y wn rfl (yadd (e0 rfl) rfl) (Y wn rfl (ya (v := iV (wa .i64 x10 1)) (e0 rfl)) (wN ?_))))))))
  obtain rfl := someI hM1
  exact n1 _ _ _ rfl ⟨_, _, _, _, rfl, rfl, e1_0, rfl, rfl, (hst.pk 2 [0] rfl)⟩
 ·refine condF (e0 rfl) (dF c21) (wp_exit (z15 _ _ _ rfl ?_))
  obtain rfl := someI hM1
  exact zz1 _ _ _ _ rfl rfl (je1_0 _ _ _ _ e1_3 hst (ho1 _ rfl))

theorem sparseref18_weightOf_ok {x1 : List (List Int)} {x3 : List Int} {x5 : List (List Int)} {x7 : List Int} {x9 : Int} {h2 : Hdr} {h4 : Hdr} {h6 : Hdr} {h8 : Hdr} {out : Int} (hM : sparseref18_weightOf x1 x3 x5 x7 x9 = some out) (q1 : imm (rS (rI .i64)) h2.v x1 ∈ ros) (q2 : imm (rI .i64) h4.v x3 ∈ ros) (q3 : imm (rS (rI .i64)) h6.v x5 ∈ ros) (q4 : imm (rI .i64) h8.v x7 ∈ ros) (hst : St w0 ros (rs) w) :
  Calls Tryz.prog 76 #[.agg #[h2.v, h4.v, h6.v], h8.v, iV x9] w (fun e w => e = .returned (iV out) ∧ St w0 (ros) (rs) w) := by
 refine enterQ Tryz.func76 rfl Tryz.ntmps76 rfl fun Q hQ => seqQ fun Q1 k1 z1 => wR (YB wn rfl (r_box (vals := [h2.v, h4.v, h6.v]) hst (e0 rfl) rfl) ?_)
 intro b10 w hst
 refine Y wn rfl (ya (v := iV 0) rfl) (wN (k1 _ _ (seqQ fun Q2 k2 z2 => wR (Y wn rfl (ya (v := iV 0) rfl) (wN (k2 _ _ (seqQ fun Q3 k3 z3 => seqQ fun Q4 k4 z4 => wR (Y wn rfl (ya (v := iV 0) rfl) (wN (k4 _ _ ?_))))))))))
 refine blockQ fun Q5 qb5 => ?_
 obtain ⟨o3, go3, hM⟩ := bs hM
 have je3_0 : ∀ (x27 : Int) (f : Nat → Value) (w : World), f 7 = iV x27 → St w0 (ros) (rs) w → x27 = o3 → Q5 (.exit 0) (fr 29 f) w := by
  intro x27 f w eje3_0_7 hst ho
  subst ho
  refine qb5 _ _ _ (k3 _ _ (seqQ fun Q16 k16 z16 => wR (Y wn rfl (ym (v := iV x27) (et rfl eje3_0_7)) (Y wn rfl (ya (v := iV x27) (e0 rfl)) (wN (k16 _ _ (wp_ret ?_)))))))
  obtain rfl := someI hM
  exact hQ _ _ _ (fin1r Tryz.results76 ⟨rfl, rfl⟩ ⟨rfl, hst⟩)
 refine loopQ (fun s a w => ∃ (x17 : Int) (x18 : Int) (f : Nat → Value), (x17, x18) = s ∧ a = fr 29 f ∧ f 1 = h8.v ∧ f 2 = iV x9 ∧ f 3 = (pB b10) ∧ f 7 = iV x17 ∧ f 8 = iV x18 ∧ St w0 (ros) (box b10 28 [h2.v, h4.v, h6.v] :: rs) w) go3 ⟨_, _, _, rfl, rfl, rfl, rfl, rfl, rfl, rfl, hst⟩ ?_
 rintro _ _ w r3_ ⟨x17, x18, f, rfl, rfl, e3_1, e3_2, e3_3, e3_7, e3_8, hst⟩ hM3 ho3 Q100003 n3 zz3
 refine seqQ fun Q17 k17 z17 => seqQ fun Q18 k18 z18 => wR (Y wn rfl (ym (v := iV x18) (et rfl e3_8)) (Y wn rfl (ym (v := h8.v) (et rfl e3_1)) (Y wn rfl (yLen SL_22 (e0 rfl) hst (rdI q4)) (Y wn rfl (ylss (e0 rfl) (e0 rfl)) (wN (k18 _ _ ?_))))))
 rcases iteS hM3 with ⟨c28, hM3⟩ | ⟨c28, hM3⟩
 ·refine condT (e0 rfl) (dT c28) (wp_skip (k17 _ _ (seqQ fun Q19 k19 z19 => blockQ fun Q20 qb20 => seqQ fun Q21 k21 z21 => wR (Y wn rfl (ym (v := h8.v) (et rfl e3_1)) (Y wn rfl (ym (v := iV x18) (et rfl e3_8)) ?_)))))
  obtain ⟨x29, gx29, hM3⟩ := bs hM3
  refine Y wn rfl (yIa SL_22 (e0 rfl) (e0 rfl) hst (rdI q4) gx29) (Y wn rfl (yI O_3 (e0 rfl) hst (rdI q4) gx29) (Y wn rfl (ym (v := iV x9) (et rfl e3_2)) (Y wn rfl (yeql (e0 rfl) (e0 rfl)) (wN (k21 _ _ ?_)))))
  have j4 : ∀ (x31 : Int) (f : Nat → Value) (w : World), f 1 = h8.v → f 2 = iV x9 → f 3 = (pB b10) → f 7 = iV x31 → f 8 = iV x18 → St w0 (ros) (box b10 28 [h2.v, h4.v, h6.v] :: rs) w → sparseref18_weightOf_j4 x18 x31 = some r3_ → Q20 .normal (fr 29 f) w := by
   intro x31 f w ej4_1 ej4_2 ej4_3 ej4_7 ej4_8 hst hM
   refine qb20 _ _ _ (k19 _ _ (wR (Y wn rfl (ym (v := iV x18) (et rfl ej4_8)) (Y wn rfl (yadd (e0 rfl) rfl) (Y wn rfl (ya (v := iV (wa .i64 x18 1)) (e0 rfl)) (wN ?_))))))
   obtain rfl := someI hM
   exact n3 _ _ _ rfl ⟨_, _, _, rfl, rfl, ej4_1, ej4_2, ej4_3, ej4_7, rfl, hst⟩
  rcases iteS hM3 with ⟨c32, hM3⟩ | ⟨c32, hM3⟩
  ·refine condT (e0 rfl) (dT c32) (wR (Y wn rfl (ym (v := iV x17) (et rfl e3_7)) (Y wn rfl (yFb FL_28_1 (et rfl e3_3)) (Y wn rfl (yLb (u := h4.v) O_22 (e0 rfl) hst mhR rfl) (Y wn rfl (ym (v := iV x18) (et rfl e3_8)) ?_)))))
   obtain ⟨x33, gx33, hM3⟩ := bs hM3
   exact Y wn rfl (yIa SL_22 (e0 rfl) (e0 rfl) hst (rdI q2) gx33) (Y wn rfl (yI O_3 (e0 rfl) hst (rdI q2) gx33) (Y wn rfl (yadd (e0 rfl) (e0 rfl)) (Y wn rfl (ya (v := iV (wa .i64 x17 x33)) (e0 rfl)) (wN (j4 _ _ _ e3_1 e3_2 e3_3 rfl e3_8 hst hM3)))))
  ·exact condF (e0 rfl) (dF c32) (wp_skip (j4 _ _ _ e3_1 e3_2 e3_3 e3_7 e3_8 hst hM3))
 ·refine condF (e0 rfl) (dF c28) (wp_exit (z17 _ _ _ rfl ?_))
  obtain rfl := someI hM3
  exact zz3 _ _ _ _ rfl rfl (je3_0 _ _ _ e3_7 (hst.pk 1 [] rfl) (ho3 _ rfl))

theorem sparseref18_Refine_ok {x1 : List (List Int)} {x3 : List Int} {x5 : List (List Int)} {x7 : List Int} {h2 : Hdr} {h4 : Hdr} {h6 : Hdr} {h8 : Hdr} {out : (List Int)} (hM : sparseref18_Refine x1 x3 x5 x7 = some out) (q1 : imm (rS (rI .i64)) h2.v x1 ∈ ros) (q2 : imm (rI .i64) h4.v x3 ∈ ros) (q3 : imm (rS (rI .i64)) h6.v x5 ∈ ros) (q4 : imm (rI .i64) h8.v x7 ∈ ros) (hst : St w0 ros (rs) w) :
  Calls Tryz.prog 44 #[.agg #[h2.v, h4.v, h6.v], h8.v] w (fun e w => ∃ (h100001 : Hdr), e = .returned (h100001.v) ∧ St w0 (ros) (row 3 (rI .i64) h100001.v out :: rs) w) := by
 refine enterQ Tryz.func44 rfl Tryz.ntmps44 rfl fun Q hQ => seqQ fun Q1 k1 z1 => wR (YB wn rfl (r_box (vals := [h2.v, h4.v, h6.v]) hst (e0 rfl) rfl) ?_)
 intro b9 w hst
 refine Y wn rfl (ya (v := hnil.v) rfl) (wN (k1 _ _ (seqQ fun Q2 k2 z2 => wR (Y wn rfl (ym (v := h8.v) (e0 rfl)) ?_))))
 obtain ⟨r10, gr10, hM⟩ := bs hM
 refine Yc wn rfl (yCall FN_47 (a1 (e0 rfl))) (sparsekit_TwinInts_ok (hM := gr10) (hst := hst) (q1 := q4)) ?_
 rintro _ w ⟨h11, rfl, hst⟩
 refine ⟨_, rfl, ?_⟩
 refine Y wn rfl (ya (v := h11.v) (e0 rfl)) (wN (k2 _ _ (seqQ fun Q3 k3 z3 => wR (Y wn rfl (yLbs (us := [h2.v, h4.v, h6.v]) ST_28 (e0 rfl) hst (mtR mhR) rfl rfl) ?_))))
 obtain ⟨r12, gr12, hM⟩ := bs hM
 refine Yc wn rfl (yCall FN_75 (a1 (e0 rfl))) (sparseref18_Total_ok (hM := gr12) (hst := hst) (q1 := q1) (q2 := q2) (q3 := q3)) ?_
 rintro _ w ⟨rfl, hst⟩
 refine ⟨_, rfl, ?_⟩
 refine Y wn rfl (ya (v := iV r12) (e0 rfl)) (wN (k3 _ _ (seqQ fun Q4 k4 z4 => seqQ fun Q5 k5 z5 => wR (Y wn rfl (ya (v := iV 0) rfl) (wN (k5 _ _ (blockQ fun Q682 qb682 => ?_)))))))
 obtain ⟨o337, go337, hM⟩ := bs hM
 have je337_0 : ∀ (x3717 : List Int) (f : Nat → Value) (w : World), f 5 = h11.v → St w0 (ros) (row 3 (rI .i64) h11.v x3717 :: rs) w → x3717 = o337 → Q682 (.exit 0) (fr 106 f) w := by
  intro x3717 f w eje337_0_5 hst ho
  subst ho
  refine qb682 _ _ _ (k4 _ _ (seqQ fun Q1133 k1133 z1133 => wR (Y wn rfl (ym (v := h11.v) (et rfl eje337_0_5)) (Y wn rfl (ya (v := h11.v) (e0 rfl)) (wN (k1133 _ _ (wp_ret ?_)))))))
  obtain rfl := someI hM
  exact hQ _ _ _ (fin1r Tryz.results44 ⟨rfl, rfl⟩ ⟨_, rfl, hst⟩)
 refine loopQ (fun s a w => ∃ (x2974 : List Int) (x2975 : Int) (f : Nat → Value), (x2974, x2975) = s ∧ a = fr 106 f ∧ f 2 = (pB b9) ∧ f 5 = h11.v ∧ f 6 = iV r12 ∧ f 7 = iV x2975 ∧ St w0 (ros) (box b9 28 [h2.v, h4.v, h6.v] :: row 3 (rI .i64) h11.v x2974 :: rs) w) go337 ⟨_, _, _, rfl, rfl, rfl, rfl, rfl, rfl, (hst.pk 2 [1, 0] rfl)⟩ ?_
 rintro _ _ w r337_ ⟨x2974, x2975, f, rfl, rfl, e337_2, e337_5, e337_6, e337_7, hst⟩ hM337 ho337 Q100337 n337 zz337
 refine seqQ fun Q1134 k1134 z1134 => seqQ fun Q1135 k1135 z1135 => wR (Y wn rfl (ym (v := iV x2975) (et rfl e337_7)) (Y wn rfl (ylss (e0 rfl) rfl) (wN (k1135 _ _ ?_))))
 rcases iteS hM337 with ⟨c3718, hM337⟩ | ⟨c3718, hM337⟩
 ·refine condT (e0 rfl) (dT c3718) (wp_skip (k1134 _ _ (seqQ fun Q1136 k1136 z1136 => blockQ fun Q1137 qb1137 => seqQ fun Q1138 k1138 z1138 => wR (Y wn rfl (ya (v := .bool false) rfl) (wN (k1138 _ _ (seqQ fun Q1139 k1139 z1139 => seqQ fun Q1140 k1140 z1140 => wR (Y wn rfl (ya (v := iV 0) rfl) ?_))))))))
  refine wN (k1140 _ _ (blockQ fun Q1141 qb1141 => ?_))
  obtain ⟨o382, go382, hM337⟩ := bs hM337
  have je382_0 : ∀ (x4211 : List Int) (x4212 : Bool) (f : Nat → Value) (w : World), f 2 = (pB b9) → f 5 = h11.v → f 6 = iV r12 → f 7 = iV x2975 → f 8 = .bool x4212 → St w0 (ros) (box b9 28 [h2.v, h4.v, h6.v] :: row 3 (rI .i64) h11.v x4211 :: rs) w → (x4211, x4212) = o382 → Q1141 (.exit 2) (fr 106 f) w := by
   intro x4211 x4212 f w eje382_0_2 eje382_0_5 eje382_0_6 eje382_0_7 eje382_0_8 hst ho
   subst ho
   refine qb1141 _ _ _ (k1139 _ _ (seqQ fun Q1286 k1286 z1286 => wR (Y wn rfl (ym (v := .bool x4212) (et rfl eje382_0_8)) (Y wn rfl (ynot (e0 rfl)) (wN (k1286 _ _ ?_))))))
   rcases iteS hM337 with ⟨c4213, hM337⟩ | ⟨c4213, hM337⟩
   ·refine condF (e0 rfl) (nF c4213) (wp_skip (qb1137 _ _ _ (k1136 _ _ (wR (Y wn rfl (ym (v := iV x2975) (et rfl eje382_0_7)) (Y wn rfl (yadd (e0 rfl) rfl) (Y wn rfl (ya (v := iV (wa .i64 x2975 1)) (e0 rfl)) (wN ?_))))))))
    obtain rfl := someI hM337
    exact n337 _ _ _ rfl ⟨_, _, _, rfl, rfl, eje382_0_2, eje382_0_5, eje382_0_6, rfl, hst⟩
   ·refine condT (e0 rfl) (nT (bfalse c4213)) (wp_exit (qb1137 _ _ _ (z1136 _ _ _ rfl ?_)))
    obtain rfl := someI hM337
    exact zz337 _ _ _ _ rfl rfl (je337_0 _ _ _ eje382_0_5 (hst.pk 2 [1] rfl) (ho337 _ rfl))
  refine loopQ (fun s a w => ∃ (x3962 : List Int) (x3963 : Bool) (x3964 : Int) (f : Nat → Value), (x3962, x3963, x3964) = s ∧ a = fr 106 f ∧ f 2 = (pB b9) ∧ f 5 = h11.v ∧ f 6 = iV r12 ∧ f 7 = iV x2975 ∧ f 8 = .bool x3963 ∧ f 9 = iV x3964 ∧ St w0 (ros) (box b9 28 [h2.v, h4.v, h6.v] :: row 3 (rI .i64) h11.v x3962 :: rs) w) go382 ⟨_, _, _, _, rfl, rfl, e337_2, e337_5, e337_6, e337_7, rfl, rfl, hst⟩ ?_
  rintro _ _ w r382_ ⟨x3962, x3963, x3964, f, rfl, rfl, e382_2, e382_5, e382_6, e382_7, e382_8, e382_9, hst⟩ hM382 ho382 Q100382 n382 zz382
  refine seqQ fun Q1287 k1287 z1287 => seqQ fun Q1288 k1288 z1288 => wR (Y wn rfl (ym (v := iV x3964) (et rfl e382_9)) (Y wn rfl (ym (v := h11.v) (et rfl e382_5)) (Y wn rfl (yLen SL_22 (e0 rfl) hst (rdO (mtR mhR))) (Y wn rfl (ylss (e0 rfl) (e0 rfl)) (wN (k1288 _ _ ?_))))))
  rcases iteS hM382 with ⟨c4214, hM382⟩ | ⟨c4214, hM382⟩
  ·refine condT (e0 rfl) (dT c4214) (wp_skip (k1287 _ _ (seqQ fun Q1289 k1289 z1289 => ?_)))
   have j397 : ∀ (x4375 : List Int) (x4376 : Bool) (f : Nat → Value) (w : World), f 2 = (pB b9) → f 5 = h11.v → f 6 = iV r12 → f 7 = iV x2975 → f 8 = .bool x4376 → f 9 = iV x3964 → St w0 (ros) (box b9 28 [h2.v, h4.v, h6.v] :: row 3 (rI .i64) h11.v x4375 :: rs) w → sparseref18_Refine_j397 x3964 x4375 x4376 = some r382_ → Q1289 .normal (fr 106 f) w := by
    intro x4375 x4376 f w ej397_2 ej397_5 ej397_6 ej397_7 ej397_8 ej397_9 hst hM
    refine k1289 _ _ (wR (Y wn rfl (ym (v := iV x3964) (et rfl ej397_9)) (Y wn rfl (yadd (e0 rfl) rfl) (Y wn rfl (ya (v := iV (wa .i64 x3964 1)) (e0 rfl)) (wN ?_)))))
    obtain rfl := someI hM
    exact n382 _ _ _ rfl ⟨_, _, _, _, rfl, rfl, ej397_2, ej397_5, ej397_6, ej397_7, ej397_8, rfl, hst⟩
   refine blockQ fun Q1336 qb1336 => seqQ fun Q1337 k1337 z1337 => wR (Y wn rfl (ya (v := iV 0) rfl) (wN (k1337 _ _ (seqQ fun Q1338 k1338 z1338 => seqQ fun Q1339 k1339 z1339 => wR (Y wn rfl (ya (v := iV 0) rfl) (wN (k1339 _ _ (blockQ fun Q1340 qb1340 => ?_))))))))
   obtain ⟨o400, go400, hM382⟩ := bs hM382
   have je400_0 : ∀ (x4425 : Int) (f : Nat → Value) (w : World), f 2 = (pB b9) → f 5 = h11.v → f 6 = iV r12 → f 7 = iV x2975 → f 8 = .bool x3963 → f 9 = iV x3964 → f 10 = iV x4425 → St w0 (ros) (box b9 28 [h2.v, h4.v, h6.v] :: row 3 (rI .i64) h11.v x3962 :: rs) w → x4425 = o400 → Q1340 (.exit 4) (fr 106 f) w := by
    intro x4425 f w eje400_0_2 eje400_0_5 eje400_0_6 eje400_0_7 eje400_0_8 eje400_0_9 eje400_0_10 hst ho
    subst ho
    refine qb1340 _ _ _ (k1338 _ _ (seqQ fun Q1351 k1351 z1351 => seqQ fun Q1352 k1352 z1352 => ?_))
    obtain ⟨r4426, gr4426, hM382⟩ := bs hM382
    refine joinN (n := 106) (fun f w => f 2 = (pB b9) ∧ f 5 = h11.v ∧ f 6 = iV r12 ∧ f 7 = iV x2975 ∧ f 8 = .bool x3963 ∧ f 9 = iV x3964 ∧ f 94 = .bool r4426 ∧ St w0 (ros) (box b9 28 [h2.v, h4.v, h6.v] :: row 3 (rI .i64) h11.v x3962 :: rs) w) (fun j401 => ?_) ?_
    ·rcases iteS gr4426 with ⟨c4428, gr4426⟩ | ⟨c4428, gr4426⟩
     ·have hr402 := someI gr4426
      refine wp_drawR [0, 1, 3, 7, 7, 7, 7, 103, 231, 487, 1023, 7, 2055, 7, 14343, 30727, 65535, 131071, 7, 262151, 1048575, 2097151] [10] 1 folM (by kernel_rfl) (by kernel_rfl) (by kernel_rfl) ?_
      replace hst := hst.drew
      refine DRn (l1 := [0, 1, 2, 3, 4, 5, 6, 7, 8, 9, 11, 12, 13, 14, 15, 18, 19]) (l2 := []) (lc := [10]) (by kernel_rfl) (by kernel_rfl) (by kernel_rfl) (Ry rfl rfl wn (ym (v := iV x4425) (et rfl eje400_0_10)) (Ry rfl rfl wn (yleq (e0 rfl) rfl) (Ry rfl rfl wn (ym (v := .bool (decide (x4425 ≤ 0))) (e0 rfl)) (Rx rfl rfl (wx rfl rfl rfl (dT c4428)) (Rx rfl rfl (wx rfl rfl rfl (dT c4428)) (Rx rfl rfl (wx rfl rfl rfl (dT c4428)) (Rx rfl rfl (wx rfl rfl rfl (dT c4428)) (Rx rfl rfl (wx rfl rfl rfl (dT c4428)) (Rx rfl rfl (wx rfl rfl rfl (dT c4428)) (Rx rfl rfl (wx rfl rfl rfl (dT c4428)) (Rx rfl rfl (wx rfl rfl rfl (dT c4428)) (Rx rfl rfl (wx rfl rfl rfl (dT c4428)) (Rx rfl rfl (wx rfl rfl rfl (dT c4428)) ?_)))))))))))))
      refine Rx rfl rfl (wx rfl rfl rfl (dT c4428)) (Rx rfl rfl (wx rfl rfl rfl (dT c4428)) (Rx rfl rfl (wx rfl rfl rfl (dT c4428)) (Rx rfl rfl (wx rfl rfl rfl (dT c4428)) (Rn QSn ?_))))
      refine Lc rfl ?_ LAn
      exact Lx (wx rfl rfl rfl (dT c4428)) (DRz (l1 := [16, 17, 20, 21]) (l2 := [11, 12, 13, 14, 15, 18, 19]) (by kernel_rfl) (by kernel_rfl) (Rx rfl rfl (wx rfl rfl rfl (dT c4428)) (Rx rfl rfl (wx rfl rfl rfl (dT c4428)) (Rx rfl rfl (wx rfl rfl rfl (dT c4428)) (Ry rfl rfl wn (ypt (v := .bool r4426) (e0 rfl) (dT c4428) (eqv hr402 rfl)) (Rn (Sx_ rfl rfl (wx rfl rfl rfl (dT c4428)) rfl (Sx_ rfl rfl (wx rfl rfl rfl (dT c4428)) rfl (Sx_ rfl rfl (wx rfl rfl rfl (dT c4428)) rfl (Sx_ rfl rfl (wx rfl rfl rfl (dT c4428)) rfl (Sx_ rfl rfl (wx rfl rfl rfl (dT c4428)) rfl (Sx_ rfl rfl (wx rfl rfl rfl (dT c4428)) rfl (Sx_ rfl rfl (wx rfl rfl rfl (dT c4428)) rfl QSn))))))) (j401 _ _ ⟨eje400_0_2, eje400_0_5, eje400_0_6, eje400_0_7, eje400_0_8, eje400_0_9, rfl, hst⟩)))))))
     ·obtain ⟨x4429, gx4429, gr4426⟩ := bs gr4426
      obtain ⟨r4430, gr4430, gr4426⟩ := bs gr4426
      obtain ⟨x4431, gx4431, gr4426⟩ := bs gr4426
      have hr403 := someI gr4426
      refine wp_drawR [0, 1, 3, 7, 7, 7, 7, 103, 231, 487, 1023, 7, 2055, 7, 14343, 30727, 65535, 131071, 7, 262151, 1048575, 2097151] [10] 1 folM (by kernel_rfl) (by kernel_rfl) (by kernel_rfl) ?_
      replace hst := hst.drew
      refine DRn (l1 := [0, 1, 2, 3, 4, 5, 6, 7, 8, 9, 11, 12, 13, 14, 15, 18, 19]) (l2 := []) (lc := [10]) (by kernel_rfl) (by kernel_rfl) (by kernel_rfl) (Ry rfl rfl wn (ym (v := iV x4425) (et rfl eje400_0_10)) (Ry rfl rfl wn (yleq (e0 rfl) rfl) (Ry rfl rfl wn (ym (v := .bool (decide (x4425 ≤ 0))) (e0 rfl)) (Ry rfl rfl (wg rfl rfl rfl (dF c4428)) (yLbs (us := [h2.v, h4.v, h6.v]) ST_28 (et rfl eje400_0_2) hst mhR rfl rfl) (Ry rfl rfl (wg rfl rfl rfl (dF c4428)) (ym (v := h11.v) (et rfl eje400_0_5)) (Ry rfl rfl (wg rfl rfl rfl (dF c4428)) (ym (v := h11.v) (et rfl eje400_0_5)) (Ry rfl rfl (wg rfl rfl rfl (dF c4428)) (ym (v := iV x3964) (et rfl eje400_0_9)) (Ry rfl rfl (wg rfl rfl rfl (dF c4428)) (yIa SL_22 (e0 rfl) (e0 rfl) hst (rdO (mtR mhR)) gx4429) (Ry rfl rfl (wg rfl rfl rfl (dF c4428)) (yI O_3 (e0 rfl) hst (rdO (mtR mhR)) gx4429) (Ry rfl rfl (wg rfl rfl rfl (dF c4428)) (ysub rfl (e0 rfl)) (Ry rfl rfl (wg rfl rfl rfl (dF c4428)) (yFb FL_28_1 (et rfl eje400_0_2)) (Ry rfl rfl (wg rfl rfl rfl (dF c4428)) (yLb (u := h4.v) O_22 (e0 rfl) hst mhR rfl) (Ry rfl rfl (wg rfl rfl rfl (dF c4428)) (ym (v := iV x3964) (et rfl eje400_0_9)) ?_)))))))))))))
      refine Ry rfl rfl (wg rfl rfl rfl (dF c4428)) (yIa SL_22 (e0 rfl) (e0 rfl) hst (rdI q2) gx4431) (Ry rfl rfl (wg rfl rfl rfl (dF c4428)) (yI O_3 (e0 rfl) hst (rdI q2) gx4431) (Ry rfl rfl (wg rfl rfl rfl (dF c4428)) (ym (v := iV r12) (et rfl eje400_0_6)) (Ry rfl rfl (wg rfl rfl rfl (dF c4428)) (ymul rfl (e0 rfl)) (Rn QSn ?_))))
      refine Lc rfl ?_ LAn
      have hkp := hst
      replace hst := hst.pk 2 [1, 0] rfl
      replace hst := hst.fz
      have hgu := hst.guest0
      replace hst := hkp
      clear hkp
      refine Lk (wg rfl rfl rfl (dF c4428)) (yCall FN_76 (a3 (e0 rfl) (e0 rfl) (e0 rfl))) (sparseref18_weightOf_ok (hM := gr4430) (hst := hgu) (q1 := (mtF q1)) (q2 := (mtF q2)) (q3 := (mtF q3)) (q4 := mhF)) ?_
      clear hgu
      rintro _ w ⟨rfl, hgu⟩
      replace hst := hst.back hgu
      clear hgu
      refine ⟨_, rfl, ?_⟩
      exact DRz (l1 := [16, 17, 20, 21]) (l2 := [11, 12, 13, 14, 15, 18, 19]) (by kernel_rfl) (by kernel_rfl) (Ry rfl rfl (wg rfl rfl rfl (dF c4428)) (yadd (e0 rfl) (e0 rfl)) (Ry rfl rfl (wg rfl rfl rfl (dF c4428)) (ymul rfl (e0 rfl)) (Ry rfl rfl (wg rfl rfl rfl (dF c4428)) (ygtr (e0 rfl) (e0 rfl)) (Ry rfl rfl wn (ypf (v := .bool r4426) (e0 rfl) (dF c4428) (eqv hr403 (e0 rfl))) (Rn (Sy rfl rfl (wg rfl rfl rfl (dF c4428)) (yFb FL_28_1 (et rfl eje400_0_2)) rfl (Sy rfl rfl (wg rfl rfl rfl (dF c4428)) (yLb (u := h4.v) O_22 (e0 rfl) hst mhR rfl) rfl (Sy rfl rfl (wg rfl rfl rfl (dF c4428)) (ym (v := iV x3964) (et rfl eje400_0_9)) rfl (Sy rfl rfl (wg rfl rfl rfl (dF c4428)) (yIa SL_22 (e0 rfl) (e0 rfl) hst (rdI q2) gx4431) rfl (Sy rfl rfl (wg rfl rfl rfl (dF c4428)) (yI O_3 (e0 rfl) hst (rdI q2) gx4431) rfl (Sy rfl rfl (wg rfl rfl rfl (dF c4428)) (ym (v := iV r12) (et rfl eje400_0_6)) rfl (Sy rfl rfl (wg rfl rfl rfl (dF c4428)) (ymul rfl (e0 rfl)) rfl QSn))))))) (j401 _ _ ⟨eje400_0_2, eje400_0_5, eje400_0_6, eje400_0_7, eje400_0_8, eje400_0_9, rfl, hst⟩))))))
    rintro f w ⟨e4427_2, e4427_5, e4427_6, e4427_7, e4427_8, e4427_9, e4427_94, hst⟩
    refine k1352 _ _ ?_
    rcases iteS hM382 with ⟨c4432, hM382⟩ | ⟨c4432, hM382⟩
    ·exact condT (et rfl e4427_94) c4432 (wp_exit (z1351 _ _ _ rfl (qb1336 _ _ _ (j397 _ _ _ _ e4427_2 e4427_5 e4427_6 e4427_7 e4427_8 e4427_9 hst hM382))))
    ·refine condF (et rfl e4427_94) (bfalse c4432) (wp_skip (k1351 _ _ (seqQ fun Q1353 k1353 z1353 => wR (Y wn rfl (ym (v := h11.v) (et rfl e4427_5)) (Y wn rfl (ym (v := iV x3964) (et rfl e4427_9)) (Y wn rfl (ym (v := h11.v) (et rfl e4427_5)) (Y wn rfl (ym (v := iV x3964) (et rfl e4427_9)) ?_)))))))
     obtain ⟨x4433, gx4433, hM382⟩ := bs hM382
     refine Y wn rfl (yIa SL_22 (e0 rfl) (e0 rfl) hst (rdO (mtR mhR)) gx4433) (Y wn rfl (yI O_3 (e0 rfl) hst (rdO (mtR mhR)) gx4433) (Y wn rfl (ysub rfl (e0 rfl)) ?_))
     obtain ⟨x4434, gx4434, hM382⟩ := bs hM382
     refine Y wn rfl (yIs SL_22 (e0 rfl) (e0 rfl) hst (rdO (mtR mhR)) gx4434) ?_
     replace hst := hst.pk 2 [1, 0] rfl
     refine YT wn rfl (r_sti (cs := [iV (ws .i64 1 x4433)]) hst O_3 rfl (e0 rfl) (e0 rfl) rfl mkI gx4434) ?_
     intro w hst
     exact wN (k1353 _ _ (wR (Y wn rfl (ya (v := .bool true) rfl) (wN (qb1336 _ _ _ (j397 _ _ _ _ e4427_2 e4427_5 e4427_6 e4427_7 rfl e4427_9 (hst.pk 2 [1, 0] rfl) hM382))))))
   refine loopQ (fun s a w => ∃ (x4399 : Int) (x4400 : Int) (f : Nat → Value), (x4399, x4400) = s ∧ a = fr 106 f ∧ f 2 = (pB b9) ∧ f 5 = h11.v ∧ f 6 = iV r12 ∧ f 7 = iV x2975 ∧ f 8 = .bool x3963 ∧ f 9 = iV x3964 ∧ f 10 = iV x4399 ∧ f 11 = iV x4400 ∧ St w0 (ros) (box b9 28 [h2.v, h4.v, h6.v] :: row 3 (rI .i64) h11.v x3962 :: rs) w) go400 ⟨_, _, _, rfl, rfl, e382_2, e382_5, e382_6, e382_7, e382_8, e382_9, rfl, rfl, hst⟩ ?_
   rintro _ _ w r400_ ⟨x4399, x4400, f, rfl, rfl, e400_2, e400_5, e400_6, e400_7, e400_8, e400_9, e400_10, e400_11, hst⟩ hM400 ho400 Q100400 n400 zz400
   refine seqQ fun Q1354 k1354 z1354 => seqQ fun Q1355 k1355 z1355 => wR (Y wn rfl (ym (v := iV x4400) (et rfl e400_11)) (Y wn rfl (yFb FL_28_2 (et rfl e400_2)) (Y wn rfl (yLb (u := h6.v) O_24 (e0 rfl) hst mhR rfl) (Y wn rfl (ym (v := iV x3964) (et rfl e400_9)) ?_))))
   obtain ⟨x4435, gx4435, hM400⟩ := bs hM400
   refine Y wn rfl (yIa SL_24 (e0 rfl) (e0 rfl) hst (rdI q3) gx4435) ?_
   obtain ⟨h4436, hst⟩ := iLs hst q3 gx4435
   refine Y wn rfl (yCt O_22 (e0 rfl) hst (mtF mhF) rfl) (Y wn rfl (yLen SL_22 (e0 rfl) hst (rdI mhF)) (Y wn rfl (ylss (e0 rfl) (e0 rfl)) (wN (k1355 _ _ ?_))))
   rcases iteS hM400 with ⟨c4437, hM400⟩ | ⟨c4437, hM400⟩
   ·refine condT (e0 rfl) (dT c4437) (wp_skip (k1354 _ _ (seqQ fun Q1356 k1356 z1356 => blockQ fun Q1357 qb1357 => seqQ fun Q1358 k1358 z1358 => ?_)))
    obtain ⟨x4438, gx4438, hM400⟩ := bs hM400
    obtain ⟨x4440, gx4440, hM400⟩ := bs hM400
    obtain ⟨x4441, gx4441, hM400⟩ := bs hM400
    obtain ⟨x4442, gx4442, hM400⟩ := bs hM400
    refine wp_drawR [0, 0, 2, 6, 0, 30, 62, 0, 254, 510, 1023, 2047, 0, 0, 12288, 28672, 65535] [] 0 folM (by kernel_rfl) (by kernel_rfl) (by kernel_rfl) ?_
    replace hst := hst.drew
    refine DRz (l1 := [0, 1, 2, 3, 4, 5, 6, 7, 8, 9, 10, 11, 12, 13, 14, 15, 16]) (l2 := []) (by kernel_rfl) (by kernel_rfl) (Ry rfl rfl wn (ym (v := h11.v) (et rfl e400_5)) (Ry rfl rfl wn (yFb FL_28_0 (et rfl e400_2)) (Ry rfl rfl wn (yFb FL_26_0 (e0 rfl)) (Ry rfl rfl wn (yLb (u := h2.v) O_24 (e0 rfl) hst mhR rfl) (Ry rfl rfl wn (ym (v := iV x3964) (et rfl e400_9)) (Ry rfl rfl wn (yIa SL_24 (e0 rfl) (e0 rfl) hst (rdI (mtF (mtF q1))) gx4438) ?_))))))
    obtain ⟨h4439, hst⟩ := iLs hst (mtF (mtF q1)) gx4438
    refine Ry rfl rfl wn (yCt O_22 (e0 rfl) hst (mtF mhF) rfl) (Ry rfl rfl wn (ym (v := iV x4400) (et rfl e400_11)) (Ry rfl rfl wn (yIa SL_22 (e0 rfl) (e0 rfl) hst (rdI mhF) gx4440) (Ry rfl rfl wn (yI O_3 (e0 rfl) hst (rdI mhF) gx4440) (Ry rfl rfl wn (yIa SL_22 (e0 rfl) (e0 rfl) hst (rdO (mtR mhR)) gx4441) (Ry rfl rfl wn (yI O_3 (e0 rfl) hst (rdO (mtR mhR)) gx4441) (Ry rfl rfl wn (ym (v := h11.v) (et rfl e400_5)) (Ry rfl rfl wn (ym (v := iV x3964) (et rfl e400_9)) (Ry rfl rfl wn (yIa SL_22 (e0 rfl) (e0 rfl) hst (rdO (mtR mhR)) gx4442) (Ry rfl rfl wn (yI O_3 (e0 rfl) hst (rdO (mtR mhR)) gx4442) (Ry rfl rfl wn (yeql (e0 rfl) (e0 rfl)) (Rn QSn (k1358 _ _ ?_))))))))))))
    have j404 : ∀ (x4449 : Int) (f : Nat → Value) (w : World), f 2 = (pB b9) → f 5 = h11.v → f 6 = iV r12 → f 7 = iV x2975 → f 8 = .bool x3963 → f 9 = iV x3964 → f 10 = iV x4449 → f 11 = iV x4400 → St w0 (ros) (box b9 28 [h2.v, h4.v, h6.v] :: row 3 (rI .i64) h11.v x3962 :: rs) w → sparseref18_Refine_j404 x4400 x4449 = some r400_ → Q1357 .normal (fr 106 f) w := by
     intro x4449 f w ej404_2 ej404_5 ej404_6 ej404_7 ej404_8 ej404_9 ej404_10 ej404_11 hst hM
     refine qb1357 _ _ _ (k1356 _ _ (wR (Y wn rfl (ym (v := iV x4400) (et rfl ej404_11)) (Y wn rfl (yadd (e0 rfl) rfl) (Y wn rfl (ya (v := iV (wa .i64 x4400 1)) (e0 rfl)) (wN ?_))))))
     obtain rfl := someI hM
     exact n400 _ _ _ rfl ⟨_, _, _, rfl, rfl, ej404_2, ej404_5, ej404_6, ej404_7, ej404_8, ej404_9, ej404_10, rfl, hst⟩
    rcases iteS hM400 with ⟨c4450, hM400⟩ | ⟨c4450, hM400⟩
    ·refine condT (e0 rfl) (dT c4450) (wR (Y wn rfl (ym (v := iV x4399) (et rfl e400_10)) (Y wn rfl (yFb FL_28_2 (et rfl e400_2)) (Y wn rfl (yLb (u := h6.v) O_24 (e0 rfl) hst mhR rfl) (Y wn rfl (ym (v := iV x3964) (et rfl e400_9)) ?_)))))
     obtain ⟨x4451, gx4451, hM400⟩ := bs hM400
     refine Y wn rfl (yIa SL_24 (e0 rfl) (e0 rfl) hst (rdI (mtF (mtF (mtF (mtF q3))))) gx4451) ?_
     obtain ⟨h4452, hst⟩ := iLs hst (mtF (mtF (mtF (mtF q3)))) gx4451
     refine Y wn rfl (yCt O_22 (e0 rfl) hst (mtF mhF) rfl) (Y wn rfl (ym (v := iV x4400) (et rfl e400_11)) ?_)
     obtain ⟨x4453, gx4453, hM400⟩ := bs hM400
     exact Y wn rfl (yIa SL_22 (e0 rfl) (e0 rfl) hst (rdI mhF) gx4453) (Y wn rfl (yI O_3 (e0 rfl) hst (rdI mhF) gx4453) (Y wn rfl (ysub (e0 rfl) (e0 rfl)) (Y wn rfl (ya (v := iV (ws .i64 x4399 x4453)) (e0 rfl)) (wN (j404 _ _ _ e400_2 e400_5 e400_6 e400_7 e400_8 e400_9 rfl e400_11 (hst.facts (allT (allT (allT (allT (allT (allT allI))))))) hM400)))))
    ·refine condF (e0 rfl) (dF c4450) (wR (Y wn rfl (ym (v := iV x4399) (et rfl e400_10)) (Y wn rfl (yFb FL_28_2 (et rfl e400_2)) (Y wn rfl (yLb (u := h6.v) O_24 (e0 rfl) hst mhR rfl) (Y wn rfl (ym (v := iV x3964) (et rfl e400_9)) ?_)))))
     obtain ⟨x4454, gx4454, hM400⟩ := bs hM400
     refine Y wn rfl (yIa SL_24 (e0 rfl) (e0 rfl) hst (rdI (mtF (mtF (mtF (mtF q3))))) gx4454) ?_
     obtain ⟨h4455, hst⟩ := iLs hst (mtF (mtF (mtF (mtF q3)))) gx4454
     refine Y wn rfl (yCt O_22 (e0 rfl) hst (mtF mhF) rfl) (Y wn rfl (ym (v := iV x4400) (et rfl e400_11)) ?_)
     obtain ⟨x4456, gx4456, hM400⟩ := bs hM400
     exact Y wn rfl (yIa SL_22 (e0 rfl) (e0 rfl) hst (rdI mhF) gx4456) (Y wn rfl (yI O_3 (e0 rfl) hst (rdI mhF) gx4456) (Y wn rfl (yadd (e0 rfl) (e0 rfl)) (Y wn rfl (ya (v := iV (wa .i64 x4399 x4456)) (e0 rfl)) (wN (j404 _ _ _ e400_2 e400_5 e400_6 e400_7 e400_8 e400_9 rfl e400_11 (hst.facts (allT (allT (allT (allT (allT (allT allI))))))) hM400)))))
   ·refine condF (e0 rfl) (dF c4437) (wp_exit (z1354 _ _ _ rfl ?_))
    obtain rfl := someI hM400
    exact zz400 _ _ _ _ rfl rfl (je400_0 _ _ _ e400_2 e400_5 e400_6 e400_7 e400_8 e400_9 e400_10 (hst.facts (allT (allT allI))) (ho400 _ rfl))
  ·refine condF (e0 rfl) (dF c4214) (wp_exit (z1287 _ _ _ rfl ?_))
   obtain rfl := someI hM382
   exact zz382 _ _ _ _ rfl rfl (je382_0 _ _ _ _ e382_2 e382_5 e382_6 e382_7 e382_8 hst (ho382 _ rfl))
 ·refine condF (e0 rfl) (dF c3718) (wp_exit (z1134 _ _ _ rfl ?_))
  obtain rfl := someI hM337
  exact zz337 _ _ _ _ rfl rfl (je337_0 _ _ _ e337_5 (hst.pk 2 [1] rfl) (ho337 _ rfl))

theorem sparseref18_Bisect_step {rec : (List (List Int)) → (List Int) → (List (List Int)) → Option ((List Int) × Int)} (hrec : ∀ {w0 : World} {ros : List Fact} {rs : List Res} {w : World} {x1 : List (List Int)} {x3 : List Int} {x5 : List (List Int)} {h2 : Hdr} {h4 : Hdr} {h6 : Hdr} {out : (List Int) × Int} (hM : rec x1 x3 x5 = some out) (q1 : imm (rS (rI .i64)) h2.v x1 ∈ ros) (q2 : imm (rI .i64) h4.v x3 ∈ ros) (q3 : imm (rS (rI .i64)) h6.v x5 ∈ ros) (hst : St w0 ros (rs) w), Calls Tryz.prog 17 #[.agg #[h2.v, h4.v, h6.v]] w (fun e w => ∃ (h100001 : Hdr), e = .returned (.tuple #[h100001.v, iV out.2]) ∧ St w0 (ros) (row 3 (rI .i64) h100001.v out.1 :: rs) w)) {w0 : World} {ros : List Fact} {rs : List Res} {w : World} {x1 : List (List Int)} {x3 : List Int} {x5 : List (List Int)} {h2 : Hdr} {h4 : Hdr} {h6 : Hdr} {out : (List Int) × Int} (hM : sparseref18_Bisect_body rec x1 x3 x5 = some out) (q1 : imm (rS (rI .i64)) h2.v x1 ∈ ros) (q2 : imm (rI .i64) h4.v x3 ∈ ros) (q3 : imm (rS (rI .i64)) h6.v x5 ∈ ros) (hst : St w0 ros (rs) w) :
  Calls Tryz.prog 17 #[.agg #[h2.v, h4.v, h6.v]] w (fun e w => ∃ (h100001 : Hdr), e = .returned (.tuple #[h100001.v, iV out.2]) ∧ St w0 (ros) (row 3 (rI .i64) h100001.v out.1 :: rs) w) := by
 refine enterQ Tryz.func17 rfl Tryz.ntmps17 rfl fun Q hQ => seqQ fun Q1 k1 z1 => wR (YB wn rfl (r_box (vals := [h2.v, h4.v, h6.v]) hst (e0 rfl) rfl) ?_)
 intro b7 w hst
 refine Y wn rfl (ya (v := hnil.v) rfl) (Y wn rfl (ya (v := iV 0) rfl) (wN (k1 _ _ (seqQ fun Q2 k2 z2 => wR (Y wn rfl (yLbs (us := [h2.v, h4.v, h6.v]) ST_28 (e0 rfl) hst mhR rfl rfl) ?_)))))
 obtain ⟨r8, gr8, hM⟩ := bs hM
 refine Yc wn rfl (yCall FN_12 (a1 (e0 rfl))) (sparseref18_Match_ok (hM := gr8) (hst := hst) (q1 := q1) (q2 := q2) (q3 := q3)) ?_
 rintro _ w ⟨h9, rfl, hst⟩
 refine ⟨_, rfl, ?_⟩
 refine Y wn rfl (ym (v := .tuple #[h9.v, iV r8.2]) (e0 rfl)) (Y wn rfl (yx (v := h9.v) (e0 rfl) rfl) (Y wn rfl (yx (v := iV r8.2) (e0 rfl) rfl) (Y wn rfl (ya (v := h9.v) (e0 rfl)) (Y wn rfl (ya (v := iV r8.2) (e0 rfl)) (wN (k2 _ _ (seqQ fun Q3 k3 z3 => seqQ fun Q4 k4 z4 => wR (Y wn rfl (ym (v := iV r8.2) (e0 rfl)) (Y wn rfl (yneq (e0 rfl) rfl) (wN (k4 _ _ ?_)))))))))))
 rcases iteS hM with ⟨c10, hM⟩ | ⟨c10, hM⟩
 ·refine condF (e0 rfl) (nF (dT c10)) (wp_skip (k3 _ _ (seqQ fun Q5 k5 z5 => wR (Y wn rfl (yFb FL_28_1 (e0 rfl)) (Y wn rfl (yLb (u := h4.v) O_22 (e0 rfl) hst (mtR mhR) rfl) (Y wn rfl (yLen SL_22 (e0 rfl) hst (rdI q2)) (Y wn rfl (ya (v := iV (x3.length : Int)) (e0 rfl)) (wN (k5 _ _ (seqQ fun Q6 k6 z6 => seqQ fun Q7 k7 z7 => wR ?_))))))))))
  refine Y wn rfl (ym (v := iV (x3.length : Int)) (e0 rfl)) (Y wn rfl (yleq (e0 rfl) rfl) (wN (k7 _ _ ?_)))
  rcases iteS hM with ⟨c11, hM⟩ | ⟨c11, hM⟩
  ·refine condT (e0 rfl) (dT c11) (seqQ fun Q8 k8 z8 => ?_)
   obtain ⟨r12, gr12, hM⟩ := bs hM
   obtain ⟨r14, gr14, hM⟩ := bs hM
   refine wp_drawR [0, 0, 2, 7, 15, 31] [2, 3, 4, 5] 4 folM (by kernel_rfl) (by kernel_rfl) (by kernel_rfl) ?_
   replace hst := hst.drew
   refine DRn (l1 := [0, 1]) (l2 := []) (lc := [2]) (by kernel_rfl) (by kernel_rfl) (by kernel_rfl) (Ry rfl rfl wn (yLbs (us := [h2.v, h4.v, h6.v]) ST_28 (e0 rfl) hst (mtR mhR) rfl rfl) (Ry rfl rfl wn (yLbs (us := [h2.v, h4.v, h6.v]) ST_28 (e0 rfl) hst (mtR mhR) rfl rfl) (Rn QSn ?_)))
   refine Lc rfl ?_ LAn
   refine Lk wn (yCall FN_45 (a1 (e0 rfl))) (sparseref18_Grow_ok (hM := gr12) (hst := hst) (q1 := q1) (q2 := q2) (q3 := q3)) ?_
   rintro _ w ⟨h13, rfl, hst⟩
   refine ⟨_, rfl, ?_⟩
   refine DRn (l1 := []) (l2 := [0]) (lc := [3]) (by kernel_rfl) (by kernel_rfl) (by kernel_rfl) (Rn (Sy rfl rfl wn (yLbs (us := [h2.v, h4.v, h6.v]) ST_28 (e0 rfl) hst (mtR (mtR mhR)) rfl rfl) rfl QSn) ?_)
   refine Lc rfl ?_ LAn
   replace hst := hst.fz
   refine Lk wn (yCall FN_44 (a2 (e0 rfl) (e0 rfl))) (sparseref18_Refine_ok (hM := gr14) (hst := hst) (q1 := (mtF q1)) (q2 := (mtF q2)) (q3 := (mtF q3)) (q4 := mhF)) ?_
   rintro _ w ⟨h15, rfl, hst⟩
   refine ⟨_, rfl, ?_⟩
   refine DRn (l1 := []) (l2 := []) (lc := [4]) (by kernel_rfl) (by kernel_rfl) (by kernel_rfl) (Rn QSn ?_)
   refine Lc rfl ?_ LAn
   refine Ly wn (ya (v := h15.v) (e0 rfl)) (DRn (l1 := []) (l2 := []) (lc := [5]) (by kernel_rfl) (by kernel_rfl) (by kernel_rfl) (Rn QSn ?_))
   refine Lc rfl ?_ LAn
   refine Ly wn (ya (v := iV 0) rfl) (DRz (l1 := []) (l2 := []) (by kernel_rfl) (by kernel_rfl) (Rn QSn (k8 _ _ (wp_ret (z6 _ _ _ rfl ?_)))))
   obtain rfl := someI hM
   exact hQ _ _ _ (fin2r Tryz.results17 ⟨rfl, rfl⟩ ⟨rfl, rfl⟩ ⟨_, rfl, ((hst.pk 3 [0] rfl).facts (allT allI))⟩)
  ·refine condF (e0 rfl) (dF c11) (wp_skip (k6 _ _ (seqQ fun Q9 k9 z9 => wR (Y wn rfl (yLbs (us := [h2.v, h4.v, h6.v]) ST_28 (e0 rfl) hst (mtR mhR) rfl rfl) (Y wn rfl (ym (v := h9.v) (e0 rfl)) ?_)))))
   obtain ⟨r16, gr16, hM⟩ := bs hM
   replace hst := hst.fz
   refine Yc wn rfl (yCall FN_15 (a2 (e0 rfl) (e0 rfl))) (sparseref18_Coarsen_ok (hM := gr16) (hst := hst) (q1 := (mtF q1)) (q2 := (mtF q2)) (q3 := (mtF q3)) (q4 := mhF)) ?_
   rintro _ w ⟨h17, y18, h19, h20, y21, h22, rfl, hst⟩
   refine ⟨_, rfl, ?_⟩
   refine Y wn rfl (ym (v := .tuple #[.agg #[h17.v, h19.v, h20.v], h22.v, iV r16.2.2.2.2]) (e0 rfl)) (Y wn rfl (yx (v := .agg #[h17.v, h19.v, h20.v]) (e0 rfl) rfl) (Y wn rfl (yx (v := h22.v) (e0 rfl) rfl) (Y wn rfl (yx (v := iV r16.2.2.2.2) (e0 rfl) rfl) (YB wn rfl (rAl hst ZT_28) ?_))))
   intro b23 w hst
   refine YT wn rfl (r_stbn (vals' := [h17.v, h19.v, h20.v]) (us := [h17.v, h19.v, h20.v]) hst ST_28 (e0 rfl) (e0 rfl) rfl rfl (one_of rfl) rfl) ?_
   intro w hst
   refine Y wn rfl (ya (v := h22.v) (e0 rfl)) (Y wn rfl (ya (v := iV r16.2.2.2.2) (e0 rfl)) (wN (k9 _ _ (seqQ fun Q10 k10 z10 => seqQ fun Q11 k11 z11 => wR (Y wn rfl (ym (v := iV r16.2.2.2.2) (e0 rfl)) (Y wn rfl (yneq (e0 rfl) rfl) (wN (k11 _ _ ?_))))))))
   rcases iteS hM with ⟨c24, hM⟩ | ⟨c24, hM⟩
   ·refine condF (e0 rfl) (nF (dT c24)) (wp_skip (k10 _ _ (seqQ fun Q12 k12 z12 => seqQ fun Q13 k13 z13 => wR (Y wn rfl (yFb FL_28_1 (e0 rfl)) (Y wn rfl (yLb (u := h19.v) O_22 (e0 rfl) hst mhR rfl) (Y wn rfl (yLen SL_22 (e0 rfl) hst (rdO (mtR (mtR (mtR mhR))))) (Y wn rfl (ym (v := iV (x3.length : Int)) (e0 rfl)) (Y wn rfl (yeql (e0 rfl) (e0 rfl)) (wN (k13 _ _ ?_))))))))))
    rcases iteS hM with ⟨c25, hM⟩ | ⟨c25, hM⟩
    ·refine condT (e0 rfl) (dT c25) (seqQ fun Q14 k14 z14 => ?_)
     obtain ⟨r26, gr26, hM⟩ := bs hM
     obtain ⟨r28, gr28, hM⟩ := bs hM
     refine wp_drawR [0, 0, 2, 7, 15, 31] [2, 3, 4, 5] 4 folM (by kernel_rfl) (by kernel_rfl) (by kernel_rfl) ?_
     replace hst := hst.drew
     refine DRn (l1 := [0, 1]) (l2 := []) (lc := [2]) (by kernel_rfl) (by kernel_rfl) (by kernel_rfl) (Ry rfl rfl wn (yLbs (us := [h2.v, h4.v, h6.v]) ST_28 (e0 rfl) hst (mtR (mtR (mtR (mtR (mtR (mtR (mtR mhR))))))) rfl rfl) (Ry rfl rfl wn (yLbs (us := [h2.v, h4.v, h6.v]) ST_28 (e0 rfl) hst (mtR (mtR (mtR (mtR (mtR (mtR (mtR mhR))))))) rfl rfl) (Rn QSn ?_)))
     refine Lc rfl ?_ LAn
     refine Lk wn (yCall FN_45 (a1 (e0 rfl))) (sparseref18_Grow_ok (hM := gr26) (hst := hst) (q1 := (mtF q1)) (q2 := (mtF q2)) (q3 := (mtF q3))) ?_
     rintro _ w ⟨h27, rfl, hst⟩
     refine ⟨_, rfl, ?_⟩
     refine DRn (l1 := []) (l2 := [0]) (lc := [3]) (by kernel_rfl) (by kernel_rfl) (by kernel_rfl) (Rn (Sy rfl rfl wn (yLbs (us := [h2.v, h4.v, h6.v]) ST_28 (e0 rfl) hst (mtR (mtR (mtR (mtR (mtR (mtR (mtR (mtR mhR)))))))) rfl rfl) rfl QSn) ?_)
     refine Lc rfl ?_ LAn
     replace hst := hst.fz
     refine Lk wn (yCall FN_44 (a2 (e0 rfl) (e0 rfl))) (sparseref18_Refine_ok (hM := gr28) (hst := hst) (q1 := (mtF (mtF q1))) (q2 := (mtF (mtF q2))) (q3 := (mtF (mtF q3))) (q4 := mhF)) ?_
     rintro _ w ⟨h29, rfl, hst⟩
     refine ⟨_, rfl, ?_⟩
     refine DRn (l1 := []) (l2 := []) (lc := [4]) (by kernel_rfl) (by kernel_rfl) (by kernel_rfl) (Rn QSn ?_)
     refine Lc rfl ?_ LAn
     refine Ly wn (ya (v := h29.v) (e0 rfl)) (DRn (l1 := []) (l2 := []) (lc := [5]) (by kernel_rfl) (by kernel_rfl) (by kernel_rfl) (Rn QSn ?_))
     refine Lc rfl ?_ LAn
     refine Ly wn (ya (v := iV 0) rfl) (DRz (l1 := []) (l2 := []) (by kernel_rfl) (by kernel_rfl) (Rn QSn (k14 _ _ (wp_ret (z12 _ _ _ rfl ?_)))))
     obtain rfl := someI hM
     exact hQ _ _ _ (fin2r Tryz.results17 ⟨rfl, rfl⟩ ⟨rfl, rfl⟩ ⟨_, rfl, ((hst.pk 9 [0] rfl).facts (allT (allT allI)))⟩)
    ·refine condF (e0 rfl) (dF c25) (wp_skip (k12 _ _ (seqQ fun Q15 k15 z15 => wR (Y wn rfl (yLbs (us := [h17.v, h19.v, h20.v]) ST_28 (e0 rfl) hst mhR rfl rfl) ?_))))
     obtain ⟨r30, gr30, hM⟩ := bs hM
     replace hst := hst.pk 3 [1, 1, 0] rfl
     replace hst := hst.ffz
     replace hst := hst.pk 2 [1, 0] rfl
     replace hst := hst.fz
     replace hst := hst.pk 3 [1, 1, 0] rfl
     replace hst := hst.ffz
     refine Yc wn rfl (yCall FN_17 (a1 (e0 rfl))) (hrec (hM := gr30) (hst := hst) (q1 := (mtF (mtF mhF))) (q2 := (mtF mhF)) (q3 := mhF)) ?_
     rintro _ w ⟨h31, rfl, hst⟩
     refine ⟨_, rfl, ?_⟩
     refine Y wn rfl (ym (v := .tuple #[h31.v, iV r30.2]) (e0 rfl)) (Y wn rfl (yx (v := h31.v) (e0 rfl) rfl) (Y wn rfl (yx (v := iV r30.2) (e0 rfl) rfl) (Y wn rfl (ya (v := h31.v) (e0 rfl)) (Y wn rfl (ya (v := iV r30.2) (e0 rfl)) (wN (k15 _ _ (seqQ fun Q16 k16 z16 => seqQ fun Q17 k17 z17 => wR (Y wn rfl (ym (v := iV r30.2) (e0 rfl)) (Y wn rfl (yneq (e0 rfl) rfl) (wN (k17 _ _ ?_)))))))))))
     rcases iteS hM with ⟨c32, hM⟩ | ⟨c32, hM⟩
     ·refine condF (e0 rfl) (nF (dT c32)) (wp_skip (k16 _ _ (seqQ fun Q18 k18 z18 => wR (Y wn rfl (ym (v := iV (x3.length : Int)) (e0 rfl)) ?_))))
      obtain ⟨x35, gx35, hM⟩ := bs hM
      refine YH wn rfl (rMk hst SL_22 (e0 rfl) gx35) ?_
      intro h33 w hst
      refine Y wn rfl (ya (v := h33.v) (e0 rfl)) (wN (k18 _ _ (seqQ fun Q19 k19 z19 => seqQ fun Q20 k20 z20 => wR (Y wn rfl (ya (v := iV 0) rfl) (wN (k20 _ _ (blockQ fun Q21 qb21 => ?_)))))))
      obtain ⟨o1, go1, hM⟩ := bs hM
      have je1_0 : ∀ (x48 : List Int) (f : Nat → Value) (w : World), f 1 = (pB b7) → f 10 = h33.v → St w0 (ros) (box b7 28 [h2.v, h4.v, h6.v] :: row 3 (rI .i64) h33.v x48 :: rs) w → x48 = o1 → Q21 (.exit 0) (fr 76 f) w := by
       intro x48 f w eje1_0_1 eje1_0_10 hst ho
       subst ho
       refine qb21 _ _ _ (k19 _ _ (seqQ fun Q30 k30 z30 => wR (Y wn rfl (yLbs (us := [h2.v, h4.v, h6.v]) ST_28 (et rfl eje1_0_1) hst mhR rfl rfl) (Y wn rfl (ym (v := h33.v) (et rfl eje1_0_10)) ?_))))
       obtain ⟨r49, gr49, hM⟩ := bs hM
       replace hst := hst.pk 2 [1, 0] rfl
       replace hst := hst.fz
       refine Yc wn rfl (yCall FN_44 (a2 (e0 rfl) (e0 rfl))) (sparseref18_Refine_ok (hM := gr49) (hst := hst) (q1 := (mtF q1)) (q2 := (mtF q2)) (q3 := (mtF q3)) (q4 := mhF)) ?_
       rintro _ w ⟨h50, rfl, hst⟩
       refine ⟨_, rfl, ?_⟩
       refine Y wn rfl (ya (v := h50.v) (e0 rfl)) (Y wn rfl (ya (v := iV 0) rfl) (wN (k30 _ _ (wp_ret ?_))))
       obtain rfl := someI hM
       exact hQ _ _ _ (fin2r Tryz.results17 ⟨rfl, rfl⟩ ⟨rfl, rfl⟩ ⟨_, rfl, ((hst.pk 2 [0] rfl).facts (allT allI))⟩)
      refine loopQ (fun s a w => ∃ (x40 : List Int) (x41 : Int) (f : Nat → Value), (x40, x41) = s ∧ a = fr 76 f ∧ f 1 = (pB b7) ∧ f 6 = iV (x3.length : Int) ∧ f 8 = h22.v ∧ f 9 = h31.v ∧ f 10 = h33.v ∧ f 11 = iV x41 ∧ St w0 (ros) (box b7 28 [h2.v, h4.v, h6.v] :: row 3 (rI .i64) h22.v r16.2.2.2.1 :: row 3 (rI .i64) h31.v r30.1 :: row 3 (rI .i64) h33.v x40 :: rs) w) go1 ⟨_, _, _, rfl, rfl, rfl, rfl, rfl, rfl, rfl, rfl, ((hst.pk 5 [4, 3, 1, 0] rfl).facts (allT (allT (allT (allT allI)))))⟩ ?_
      rintro _ _ w r1_ ⟨x40, x41, f, rfl, rfl, e1_1, e1_6, e1_8, e1_9, e1_10, e1_11, hst⟩ hM1 ho1 Q100001 n1 zz1
      refine seqQ fun Q31 k31 z31 => seqQ fun Q32 k32 z32 => wR (Y wn rfl (ym (v := iV x41) (et rfl e1_11)) (Y wn rfl (ym (v := iV (x3.length : Int)) (et rfl e1_6)) (Y wn rfl (ylss (e0 rfl) (e0 rfl)) (wN (k32 _ _ ?_)))))
      rcases iteS hM1 with ⟨c51, hM1⟩ | ⟨c51, hM1⟩
      ·refine condT (e0 rfl) (dT c51) (wp_skip (k31 _ _ (seqQ fun Q33 k33 z33 => blockQ fun Q34 qb34 => wR (Y wn rfl (ym (v := h33.v) (et rfl e1_10)) (Y wn rfl (ym (v := iV x41) (et rfl e1_11)) (Y wn rfl (ym (v := h31.v) (et rfl e1_9)) (Y wn rfl (ym (v := h22.v) (et rfl e1_8)) (Y wn rfl (ym (v := iV x41) (et rfl e1_11)) ?_))))))))
       obtain ⟨x52, gx52, hM1⟩ := bs hM1
       refine Y wn rfl (yIa SL_22 (e0 rfl) (e0 rfl) hst (rdO (mtR mhR)) gx52) (Y wn rfl (yI O_3 (e0 rfl) hst (rdO (mtR mhR)) gx52) ?_)
       obtain ⟨x53, gx53, hM1⟩ := bs hM1
       refine Y wn rfl (yIa SL_22 (e0 rfl) (e0 rfl) hst (rdO (mtR (mtR mhR))) gx53) (Y wn rfl (yI O_3 (e0 rfl) hst (rdO (mtR (mtR mhR))) gx53) ?_)
       obtain ⟨x54, gx54, hM1⟩ := bs hM1
       refine Y wn rfl (yIs SL_22 (e0 rfl) (e0 rfl) hst (rdO (mtR (mtR (mtR mhR)))) gx54) ?_
       replace hst := hst.pk 4 [3, 0, 0, 0] rfl
       refine YT wn rfl (r_sti (cs := [iV x53]) hst O_3 rfl (e0 rfl) (e0 rfl) rfl mkI gx54) ?_
       intro w hst
       refine wN (qb34 _ _ _ (k33 _ _ (wR (Y wn rfl (ym (v := iV x41) (et rfl e1_11)) (Y wn rfl (yadd (e0 rfl) rfl) (Y wn rfl (ya (v := iV (wa .i64 x41 1)) (e0 rfl)) (wN ?_)))))))
       obtain rfl := someI hM1
       exact n1 _ _ _ rfl ⟨_, _, _, rfl, rfl, e1_1, e1_6, e1_8, e1_9, e1_10, rfl, (hst.pk 4 [1, 1, 1, 0] rfl)⟩
      ·refine condF (e0 rfl) (dF c51) (wp_exit (z31 _ _ _ rfl ?_))
       obtain rfl := someI hM1
       exact zz1 _ _ _ _ rfl rfl (je1_0 _ _ _ e1_1 e1_10 (hst.pk 4 [0, 2] rfl) (ho1 _ rfl))
     ·refine condT (e0 rfl) (nT (dF c32)) (seqQ fun Q35 k35 z35 => wR (Y wn rfl (ym (v := iV r30.2) (e0 rfl)) (Y wn rfl (ya (v := hnil.v) rfl) (Y wn rfl (ya (v := iV r30.2) (e0 rfl)) (wN (k35 _ _ (wp_ret (z16 _ _ _ rfl ?_))))))))
      obtain rfl := someI hM
      replace hst := hst.rowNh 3 (rI .i64)
      exact hQ _ _ _ (fin2r Tryz.results17 ⟨rfl, rfl⟩ ⟨rfl, rfl⟩ ⟨_, rfl, ((hst.pk 5 [0] rfl).facts (allT (allT (allT (allT allI)))))⟩)
   ·refine condT (e0 rfl) (nT (dF c24)) (seqQ fun Q36 k36 z36 => wR (Y wn rfl (ym (v := iV r16.2.2.2.2) (e0 rfl)) (Y wn rfl (ya (v := hnil.v) rfl) (Y wn rfl (ya (v := iV r16.2.2.2.2) (e0 rfl)) (wN (k36 _ _ (wp_ret (z10 _ _ _ rfl ?_))))))))
    obtain rfl := someI hM
    replace hst := hst.rowNh 3 (rI .i64)
    exact hQ _ _ _ (fin2r Tryz.results17 ⟨rfl, rfl⟩ ⟨rfl, rfl⟩ ⟨_, rfl, ((hst.pk 9 [0] rfl).facts (allT allI))⟩)
 ·refine condT (e0 rfl) (nT (dF c10)) (seqQ fun Q37 k37 z37 => wR (Y wn rfl (ym (v := iV r8.2) (e0 rfl)) (Y wn rfl (ya (v := hnil.v) rfl) (Y wn rfl (ya (v := iV r8.2) (e0 rfl)) (wN (k37 _ _ (wp_ret (z3 _ _ _ rfl ?_))))))))
  obtain rfl := someI hM
  replace hst := hst.rowNh 3 (rI .i64)
  exact hQ _ _ _ (fin2r Tryz.results17 ⟨rfl, rfl⟩ ⟨rfl, rfl⟩ ⟨_, rfl, (hst.pk 3 [0] rfl)⟩)
theorem sparseref18_Bisect_ok_n (n : Nat) : ∀ {w0 : World} {ros : List Fact} {rs : List Res} {w : World} {x1 : List (List Int)} {x3 : List Int} {x5 : List (List Int)} {h2 : Hdr} {h4 : Hdr} {h6 : Hdr} {out : (List Int) × Int} (hM : sparseref18_Bisect n x1 x3 x5 = some out) (q1 : imm (rS (rI .i64)) h2.v x1 ∈ ros) (q2 : imm (rI .i64) h4.v x3 ∈ ros) (q3 : imm (rS (rI .i64)) h6.v x5 ∈ ros) (hst : St w0 ros (rs) w),
  Calls Tryz.prog 17 #[.agg #[h2.v, h4.v, h6.v]] w (fun e w => ∃ (h100001 : Hdr), e = .returned (.tuple #[h100001.v, iV out.2]) ∧ St w0 (ros) (row 3 (rI .i64) h100001.v out.1 :: rs) w) := by
 induction n with
 | zero => intro _ _ _ _ _ _ _ _ _ _ out hM; cases hM
 | succ n ih => exact fun hM q1 q2 q3 hst => sparseref18_Bisect_step (rec := sparseref18_Bisect n) ih (hM := hM) (q1 := q1) (q2 := q2) (q3 := q3) (hst := hst)
theorem sparseref18_Bisect_ok {x1 : List (List Int)} {x3 : List Int} {x5 : List (List Int)} {h2 : Hdr} {h4 : Hdr} {h6 : Hdr} {out : (List Int) × Int} (hM : sparseref18_Bisect FUEL x1 x3 x5 = some out) (q1 : imm (rS (rI .i64)) h2.v x1 ∈ ros) (q2 : imm (rI .i64) h4.v x3 ∈ ros) (q3 : imm (rS (rI .i64)) h6.v x5 ∈ ros) (hst : St w0 ros (rs) w) :
  Calls Tryz.prog 17 #[.agg #[h2.v, h4.v, h6.v]] w (fun e w => ∃ (h100001 : Hdr), e = .returned (.tuple #[h100001.v, iV out.2]) ∧ St w0 (ros) (row 3 (rI .i64) h100001.v out.1 :: rs) w) := sparseref18_Bisect_ok_n FUEL (hM := hM) (q1 := q1) (q2 := q2) (q3 := q3) (hst := hst)

theorem sparsekit_Lists_ok {x1 : List (List Int)} {x3 : List (List Int)} {h2 : Hdr} {h4 : Hdr} {out : Bool} (hM : sparsekit_Lists x1 x3 = some out) (q1 : imm (rS (rI .i64)) h2.v x1 ∈ ros) (q2 : imm (rS (rI .i64)) h4.v x3 ∈ ros) (hst : St w0 ros (rs) w) :
  Calls Tryz.prog 46 #[h2.v, h4.v] w (fun e w => e = .returned (.bool out) ∧ St w0 (ros) (rs) w) := by
 refine enterQ Tryz.func46 rfl Tryz.ntmps46 rfl fun Q hQ => seqQ fun Q1 k1 z1 => wR (Y wn rfl (ya (v := .bool false) rfl) (wN (k1 _ _ (seqQ fun Q2 k2 z2 => seqQ fun Q3 k3 z3 => wR (Y wn rfl (ym (v := h2.v) (e0 rfl)) (Y wn rfl (yLen SL_24 (e0 rfl) hst (rdI q1)) (Y wn rfl (ym (v := h4.v) (e0 rfl)) (Y wn rfl (yLen SL_24 (e0 rfl) hst (rdI q2)) (Y wn rfl (yneq (e0 rfl) (e0 rfl)) ?_)))))))))
 refine wN (k3 _ _ ?_)
 rcases iteS hM with ⟨c5, hM⟩ | ⟨c5, hM⟩
 ·refine condF (e0 rfl) (nF (dT c5)) (wp_skip (k2 _ _ (seqQ fun Q4 k4 z4 => seqQ fun Q5 k5 z5 => wR (Y wn rfl (ya (v := iV 0) rfl) (wN (k5 _ _ (blockQ fun Q6 qb6 => ?_)))))))
  obtain ⟨o1, go1, hM⟩ := bs hM
  have je1_0 : ∀ (f : Nat → Value) (w : World), St w0 (ros) (rs) w → .inl () = o1 → Q6 (.exit 0) (fr 27 f) w := by
   intro f w hst ho
   subst ho
   refine qb6 _ _ _ (k4 _ _ (seqQ fun Q19 k19 z19 => wR (Y wn rfl (ya (v := .bool true) rfl) (wN (k19 _ _ (wp_ret ?_))))))
   obtain rfl := someI hM
   exact hQ _ _ _ (fin1r Tryz.results46 ⟨rfl, rfl⟩ ⟨rfl, hst⟩)
  have je1_1 : ∀ (f : Nat → Value) (w : World), f 4 = .bool false → St w0 (ros) (rs) w → .inr () = o1 → Q6 .ret (fr 27 f) w := by
   intro f w eje1_1_4 hst ho
   subst ho
   refine qb6 _ _ _ (z4 _ _ _ rfl ?_)
   obtain rfl := someI hM
   exact hQ _ _ _ (fin1r Tryz.results46 ⟨rfl, eje1_1_4⟩ ⟨rfl, hst⟩)
  refine loopQ (fun s a w => ∃ (x13 : Int) (f : Nat → Value), x13 = s ∧ a = fr 27 f ∧ f 0 = h2.v ∧ f 1 = h4.v ∧ f 5 = iV x13 ∧ St w0 (ros) (rs) w) go1 ⟨_, _, rfl, rfl, rfl, rfl, rfl, hst⟩ ?_
  rintro _ _ w r1_ ⟨x13, f, rfl, rfl, e1_0, e1_1, e1_5, hst⟩ hM1 ho1 Q100001 n1 zz1
  refine seqQ fun Q20 k20 z20 => seqQ fun Q21 k21 z21 => wR (Y wn rfl (ym (v := iV x13) (et rfl e1_5)) (Y wn rfl (ym (v := h2.v) (et rfl e1_0)) (Y wn rfl (yLen SL_24 (e0 rfl) hst (rdI q1)) (Y wn rfl (ylss (e0 rfl) (e0 rfl)) (wN (k21 _ _ ?_))))))
  rcases iteS hM1 with ⟨c22, hM1⟩ | ⟨c22, hM1⟩
  ·refine condT (e0 rfl) (dT c22) (wp_skip (k20 _ _ (seqQ fun Q22 k22 z22 => blockQ fun Q23 qb23 => seqQ fun Q24 k24 z24 => ?_)))
   obtain ⟨x23, gx23, hM1⟩ := bs hM1
   obtain ⟨x25, gx25, hM1⟩ := bs hM1
   obtain ⟨r27, gr27, hM1⟩ := bs hM1
   refine wp_drawR [0, 0, 3, 7, 0, 0, 48, 112, 255, 511] [8] 1 folM (by kernel_rfl) (by kernel_rfl) (by kernel_rfl) ?_
   replace hst := hst.drew
   refine DRn (l1 := [0, 1, 2, 3, 4, 5, 6, 7]) (l2 := []) (lc := [8]) (by kernel_rfl) (by kernel_rfl) (by kernel_rfl) (Ry rfl rfl wn (ym (v := h2.v) (et rfl e1_0)) (Ry rfl rfl wn (ym (v := iV x13) (et rfl e1_5)) (Ry rfl rfl wn (yIa SL_24 (e0 rfl) (e0 rfl) hst (rdI q1) gx23) ?_)))
   obtain ⟨h24, hst⟩ := iLs hst q1 gx23
   refine Ry rfl rfl wn (yCt O_22 (e0 rfl) hst (mtF mhF) rfl) (Ry rfl rfl wn (ym (v := h4.v) (et rfl e1_1)) (Ry rfl rfl wn (ym (v := iV x13) (et rfl e1_5)) (Ry rfl rfl wn (yIa SL_24 (e0 rfl) (e0 rfl) hst (rdI (mtF (mtF q2))) gx25) ?_)))
   obtain ⟨h26, hst⟩ := iLs hst (mtF (mtF q2)) gx25
   refine Ry rfl rfl wn (yCt O_22 (e0 rfl) hst (mtF mhF) rfl) (Rn QSn ?_)
   refine Lc rfl ?_ LAn
   refine Lk wn (yCall FN_13 (a2 (e0 rfl) (e0 rfl))) (sparsekit_Ints_ok (hM := gr27) (hst := hst) (q1 := (mtF (mtF mhF))) (q2 := mhF)) ?_
   rintro _ w ⟨rfl, hst⟩
   refine ⟨_, rfl, ?_⟩
   refine DRz (l1 := [9]) (l2 := []) (by kernel_rfl) (by kernel_rfl) (Ry rfl rfl wn (ynot (e0 rfl)) (Rn QSn (k24 _ _ ?_)))
   rcases iteS hM1 with ⟨c28, hM1⟩ | ⟨c28, hM1⟩
   ·refine condF (e0 rfl) (nF c28) (wp_skip (qb23 _ _ _ (k22 _ _ (wR (Y wn rfl (ym (v := iV x13) (et rfl e1_5)) (Y wn rfl (yadd (e0 rfl) rfl) (Y wn rfl (ya (v := iV (wa .i64 x13 1)) (e0 rfl)) (wN ?_))))))))
    obtain rfl := someI hM1
    exact n1 _ _ _ rfl ⟨_, _, rfl, rfl, e1_0, e1_1, rfl, (hst.facts (allT (allT (allT (allT allI)))))⟩
   ·refine condT (e0 rfl) (nT (bfalse c28)) (seqQ fun Q25 k25 z25 => wR (Y wn rfl (ya (v := .bool false) rfl) (wN (k25 _ _ (wp_ret (qb23 _ _ _ (z22 _ _ _ rfl ?_)))))))
    obtain rfl := someI hM1
    exact zz1 _ _ _ _ rfl rfl (je1_1 _ _ rfl (hst.facts (allT (allT (allT (allT allI))))) (ho1 _ rfl))
  ·refine condF (e0 rfl) (dF c22) (wp_exit (z20 _ _ _ rfl ?_))
   obtain rfl := someI hM1
   exact zz1 _ _ _ _ rfl rfl (je1_0 _ _ hst (ho1 _ rfl))
 ·refine condT (e0 rfl) (nT (dF c5)) (seqQ fun Q26 k26 z26 => wR (Y wn rfl (ya (v := .bool false) rfl) (wN (k26 _ _ (wp_ret (z2 _ _ _ rfl ?_))))))
  obtain rfl := someI hM
  exact hQ _ _ _ (fin1r Tryz.results46 ⟨rfl, rfl⟩ ⟨rfl, hst⟩)
end Go.Proofs.YthpeajepbffinaaGreat
