/- Walks: each function computes its model, printed. -/
import Derived.Test.YthpeajepbffinaaGreatW3
namespace Go.Proofs.YthpeajepbffinaaGreat
open Go Sx M
set_option maxRecDepth 100000
set_option maxHeartbeats 4000000
set_option linter.unusedVariables false
attribute [local irreducible] wpList Code.wp Calls DR QR QS LA LS St
variable {w0 : World} {ros : List Fact} {rs : List Res} {w : World}
theorem sparsekit_Place_ok {x1 : Int} {x2 : Int} {out : Int} (hM : sparsekit_Place x1 x2 = some out) (hst : St w0 ros (rs) w) :
  Calls Tryz.prog 10 #[iV x1, iV x2] w (fun e w => e = .returned (iV out) ∧ St w0 (ros) (rs) w) := by
 refine enterQ Tryz.func10 rfl Tryz.ntmps10 rfl fun Q hQ => seqQ fun Q1 k1 z1 => wR (Y wn rfl (ya (v := iV 0) rfl) (wN (k1 _ _ (seqQ fun Q2 k2 z2 => wR (Y wn rfl (ym (v := iV x1) (e0 rfl)) (Y wn rfl (ycv (k' := .u64) (by kernel_rfl) (by kernel_rfl) (e0 rfl)) (Y wn rfl (ym (v := iV x2) (e0 rfl)) (Y wn rfl (ycv (k' := .u64) (by kernel_rfl) (by kernel_rfl) (e0 rfl)) ?_))))))))
 obtain ⟨x3, gx3, hM⟩ := bs hM
 refine Y wn rfl (yrem (e0 rfl) (e0 rfl) gx3) (Y wn rfl (ycv (k' := .i64) (by kernel_rfl) (by kernel_rfl) (e0 rfl)) (Y wn rfl (ya (v := iV (wc .i64 x3)) (e0 rfl)) (wN (k2 _ _ (wp_ret ?_)))))
 obtain rfl := someI hM
 exact hQ _ _ _ (fin1r Tryz.results10 ⟨rfl, rfl⟩ ⟨rfl, hst⟩)

theorem sparseref12_FromTable_ok {x1 : List (List Bool)} {h2 : Hdr} {out : (List (List Int))} (hM : sparseref12_FromTable x1 = some out) (q1 : imm (rS rB) h2.v x1 ∈ ros) (hst : St w0 ros (rs) w) :
  Calls Tryz.prog 67 #[h2.v] w (fun e w => ∃ (h100001 : Hdr), e = .returned (.agg #[h100001.v]) ∧ St w0 (ros) (row 22 (rS (rI .i64)) h100001.v out :: rs) w) := by
 refine enterQ Tryz.func67 rfl Tryz.ntmps67 rfl fun Q hQ => seqQ fun Q1 k1 z1 => wR (YB wn rfl (rAl hst ZT_26) ?_)
 intro b3 w hst
 refine wN (k1 _ _ (seqQ fun Q2 k2 z2 => wR (YB wn rfl (rAl hst ZT_26) ?_)))
 intro b4 w hst
 refine wN (k2 _ _ (seqQ fun Q3 k3 z3 => seqQ fun Q4 k4 z4 => wR (Y wn rfl (ya (v := iV 0) rfl) (wN (k4 _ _ (blockQ fun Q5 qb5 => ?_))))))
 obtain ⟨o27, go27, hM⟩ := bs hM
 have je27_0 : ∀ (x258 : List (List Int)) (h257 : Hdr) (f : Nat → Value) (w : World), f 2 = (pB b3) → f 3 = (pB b4) → St w0 (ros) (box b3 26 [hnil.v] :: row 22 (rS (rI .i64)) h257.v x258 :: box b4 26 [h257.v] :: rs) w → x258 = o27 → Q5 (.exit 0) (fr 51 f) w := by
  intro x258 h257 f w eje27_0_2 eje27_0_3 hst ho
  subst ho
  refine qb5 _ _ _ (k3 _ _ (seqQ fun Q52 k52 z52 => wR (Y wn rfl (yLbs (us := [h257.v]) ST_26 (et rfl eje27_0_3) hst (mtR (mtR mhR)) rfl rfl) (YT wn rfl (r_stbn (vals' := [h257.v]) (us := [h257.v]) hst ST_26 (et rfl eje27_0_2) (e0 rfl) rfl rfl (one_of rfl) rfl) ?_))))
  intro w hst
  refine wN (k52 _ _ (wp_ret ?_))
  obtain rfl := someI hM
  exact hQ _ _ _ (fin1r Tryz.results67 (rcs2 rfl eje27_0_2 hst mhR ST_26 rfl) ⟨_, rfl, (hst.pk 3 [1] rfl)⟩)
 replace hst := hst.rowNh 22 (rS (rI .i64))
 refine loopQ (fun s a w => ∃ (x129 : List (List Int)) (x130 : Int) (f : Nat → Value) (h128 : Hdr), (x129, x130) = s ∧ a = fr 51 f ∧ f 0 = h2.v ∧ f 2 = (pB b3) ∧ f 3 = (pB b4) ∧ f 4 = iV x130 ∧ St w0 (ros) (box b3 26 [hnil.v] :: row 22 (rS (rI .i64)) h128.v x129 :: box b4 26 [h128.v] :: rs) w) go27 ⟨_, _, _, _, rfl, rfl, rfl, rfl, rfl, rfl, (hst.pk 3 [2, 0, 0] rfl)⟩ ?_
 rintro _ _ w r27_ ⟨x129, x130, f, h128, rfl, rfl, e27_0, e27_2, e27_3, e27_4, hst⟩ hM27 ho27 Q100027 n27 zz27
 refine seqQ fun Q53 k53 z53 => seqQ fun Q54 k54 z54 => wR (Y wn rfl (ym (v := iV x130) (et rfl e27_4)) (Y wn rfl (ym (v := h2.v) (et rfl e27_0)) (Y wn rfl (yLen SL_98 (e0 rfl) hst (rdI q1)) (Y wn rfl (ylss (e0 rfl) (e0 rfl)) (wN (k54 _ _ ?_))))))
 rcases iteS hM27 with ⟨c259, hM27⟩ | ⟨c259, hM27⟩
 ·refine condT (e0 rfl) (dT c259) (wp_skip (k53 _ _ (seqQ fun Q55 k55 z55 => blockQ fun Q56 qb56 => seqQ fun Q57 k57 z57 => wR (Y wn rfl (ya (v := hnil.v) rfl) (wN (k57 _ _ (seqQ fun Q58 k58 z58 => seqQ fun Q59 k59 z59 => wR (Y wn rfl (ya (v := iV 0) rfl) ?_))))))))
  refine wN (k59 _ _ (blockQ fun Q60 qb60 => ?_))
  obtain ⟨o36, go36, hM27⟩ := bs hM27
  have je36_0 : ∀ (x341 : List Int) (h340 : Hdr) (f : Nat → Value) (w : World), f 0 = h2.v → f 2 = (pB b3) → f 3 = (pB b4) → f 4 = iV x130 → f 5 = h340.v → St w0 (ros) (box b3 26 [hnil.v] :: row 22 (rS (rI .i64)) h128.v x129 :: box b4 26 [h128.v] :: row 3 (rI .i64) h340.v x341 :: rs) w → x341 = o36 → Q60 (.exit 2) (fr 51 f) w := by
   intro x341 h340 f w eje36_0_0 eje36_0_2 eje36_0_3 eje36_0_4 eje36_0_5 hst ho
   subst ho
   refine qb60 _ _ _ (k58 _ _ (wR (Y wn rfl (yFb FL_26_0 (et rfl eje36_0_3)) (Y wn rfl (yLb (u := h128.v) O_24 (e0 rfl) hst (mtR (mtR mhR)) rfl) (Y wn rfl (ym (v := h340.v) (et rfl eje36_0_5)) ?_)))))
   replace hst := hst.pk 4 [3, 0, 0, 0] rfl
   replace hst := hst.fz
   refine YH wn rfl (rLt (n := 1) (l := [x341]) hst SL_24 [h340.v] (bp1 (e0 rfl)) rfl rfl (mks1 (cs := [h340.v]) rfl (mkS mhF) mks0)) ?_
   intro h342 w hst
   obtain ⟨x344, gx344, hM27⟩ := bs hM27
   replace hst := hst.pk 3 [2, 0, 0] rfl
   refine YH wn rfl (rAp hst SL_24 (e0 rfl) (e0 rfl) (rdO (mtR mhR)) gx344) ?_
   intro h343 w hst
   refine Y wn rfl (yFb FL_26_0 (et rfl eje36_0_3)) ?_
   replace hst := hst.pk 4 [3, 0, 0, 0] rfl
   refine YT wn rfl (r_stb1 (vals' := [h343.v]) hst O_24 (e0 rfl) (e0 rfl) rfl rfl rfl rfl) ?_
   intro w hst
   refine wN (qb56 _ _ _ (k55 _ _ (wR (Y wn rfl (ym (v := iV x130) (et rfl eje36_0_4)) (Y wn rfl (yadd (e0 rfl) rfl) (Y wn rfl (ya (v := iV (wa .i64 x130 1)) (e0 rfl)) (wN ?_)))))))
   obtain rfl := someI hM27
   exact n27 _ _ _ rfl ⟨_, _, _, _, rfl, rfl, eje36_0_0, eje36_0_2, eje36_0_3, rfl, ((hst.pk 4 [3, 1, 0] rfl).facts (allT allI))⟩
  replace hst := hst.rowNh 3 (rI .i64)
  refine loopQ (fun s a w => ∃ (x298 : List Int) (x299 : Int) (f : Nat → Value) (h297 : Hdr), (x298, x299) = s ∧ a = fr 51 f ∧ f 0 = h2.v ∧ f 2 = (pB b3) ∧ f 3 = (pB b4) ∧ f 4 = iV x130 ∧ f 5 = h297.v ∧ f 6 = iV x299 ∧ St w0 (ros) (box b3 26 [hnil.v] :: row 22 (rS (rI .i64)) h128.v x129 :: box b4 26 [h128.v] :: row 3 (rI .i64) h297.v x298 :: rs) w) go36 ⟨_, _, _, _, rfl, rfl, e27_0, e27_2, e27_3, e27_4, rfl, rfl, (hst.pk 4 [1, 1, 1, 0] rfl)⟩ ?_
  rintro _ _ w r36_ ⟨x298, x299, f, h297, rfl, rfl, e36_0, e36_2, e36_3, e36_4, e36_5, e36_6, hst⟩ hM36 ho36 Q100036 n36 zz36
  refine seqQ fun Q71 k71 z71 => seqQ fun Q72 k72 z72 => wR (Y wn rfl (ym (v := iV x299) (et rfl e36_6)) (Y wn rfl (ym (v := h2.v) (et rfl e36_0)) (Y wn rfl (yLen SL_98 (e0 rfl) hst (rdI q1)) (Y wn rfl (ylss (e0 rfl) (e0 rfl)) (wN (k72 _ _ ?_))))))
  rcases iteS hM36 with ⟨c345, hM36⟩ | ⟨c345, hM36⟩
  ·refine condT (e0 rfl) (dT c345) (wp_skip (k71 _ _ (seqQ fun Q73 k73 z73 => blockQ fun Q74 qb74 => seqQ fun Q75 k75 z75 => wR (Y wn rfl (ym (v := iV x130) (et rfl e36_4)) (Y wn rfl (ym (v := iV x299) (et rfl e36_6)) (Y wn rfl (yneq (e0 rfl) (e0 rfl)) (Y wn rfl (ym (v := .bool (!(decide (x130 = x299)))) (e0 rfl)) ?_)))))))
   obtain ⟨r358, gr358, hM36⟩ := bs hM36
   refine joinW 17 (fun f w => f 0 = h2.v ∧ f 2 = (pB b3) ∧ f 3 = (pB b4) ∧ f 4 = iV x130 ∧ f 5 = h297.v ∧ f 6 = iV x299 ∧ f 39 = .bool r358 ∧ St w0 (ros) (box b3 26 [hnil.v] :: row 22 (rS (rI .i64)) h128.v x129 :: box b4 26 [h128.v] :: row 3 (rI .i64) h297.v x298 :: rs) w) (fun j38 => ?_) ?_
   ·rcases iteS gr358 with ⟨c360, gr358⟩ | ⟨c360, gr358⟩
    ·refine Gn (wx rfl rfl rfl (nF (dT c360))) rfl (Gn (wx rfl rfl rfl (nF (dT c360))) rfl (Gn (wx rfl rfl rfl (nF (dT c360))) rfl (Gn (wx rfl rfl rfl (nF (dT c360))) rfl (Gn (wx rfl rfl rfl (nF (dT c360))) rfl (Gn (wx rfl rfl rfl (nF (dT c360))) rfl (Gn (wx rfl rfl rfl (nF (dT c360))) rfl (Gn (wx rfl rfl rfl (nF (dT c360))) rfl (Gn (wxu rfl rfl rfl) rfl (Gn (wxu rfl rfl rfl) rfl (Gn (wxu rfl rfl rfl) rfl (Gn (wxu rfl rfl rfl) rfl (Gn (wxu rfl rfl rfl) rfl (Gn (wxu rfl rfl rfl) rfl ?_)))))))))))))
     refine Gn (wxu rfl rfl rfl) rfl (Gn (wx rfl rfl rfl (nF (dT c360))) rfl (Y wn rfl (ypf (v := .bool false) (e0 rfl) (nF (dT c360)) rfl) ?_))
     obtain rfl := someI gr358
     exact j38 _ _ ⟨e36_0, e36_2, e36_3, e36_4, e36_5, e36_6, rfl, hst⟩
    ·refine Y (wg rfl rfl rfl (nT (dF c360))) rfl (ym (v := h2.v) (et rfl e36_0)) (Y (wg rfl rfl rfl (nT (dF c360))) rfl (ym (v := iV x130) (et rfl e36_4)) ?_)
     obtain ⟨x361, gx361, gr358⟩ := bs gr358
     refine Y (wg rfl rfl rfl (nT (dF c360))) rfl (yIa SL_98 (e0 rfl) (e0 rfl) hst (rdI q1) gx361) ?_
     obtain ⟨h362, hst⟩ := iLs hst q1 gx361
     refine Y (wg rfl rfl rfl (nT (dF c360))) rfl (yCt O_93 (e0 rfl) hst (mtF mhF) rfl) (Y (wg rfl rfl rfl (nT (dF c360))) rfl (ym (v := iV x299) (et rfl e36_6)) ?_)
     obtain ⟨x363, gx363, gr358⟩ := bs gr358
     refine Y (wg rfl rfl rfl (nT (dF c360))) rfl (yIa SL_93 (e0 rfl) (e0 rfl) hst (rdI mhF) gx363) (Y (wg rfl rfl rfl (nT (dF c360))) rfl (yB O_4 (e0 rfl) hst (rdI mhF) gx363) (Y (wg rfl rfl rfl (nT (dF c360))) rfl (ym (v := .bool x363) (e0 rfl)) ?_))
     obtain ⟨r367, gr367, gr358⟩ := bs gr358
     refine joinW 8 (fun f w => f 0 = h2.v ∧ f 2 = (pB b3) ∧ f 3 = (pB b4) ∧ f 4 = iV x130 ∧ f 5 = h297.v ∧ f 6 = iV x299 ∧ f 22 = .bool (!(decide (x130 = x299))) ∧ f 23 = h2.v ∧ f 24 = iV x130 ∧ f 26 = h362.v ∧ f 27 = iV x299 ∧ f 29 = .bool x363 ∧ f 30 = .bool x363 ∧ f 38 = .bool r367 ∧ St w0 (imm rB h362.v x361 :: ros) (box b3 26 [hnil.v] :: row 22 (rS (rI .i64)) h128.v x129 :: box b4 26 [h128.v] :: row 3 (rI .i64) h297.v x298 :: rs) w) (fun j39 => ?_) ?_
     ·rcases iteS gr367 with ⟨c369, gr367⟩ | ⟨c369, gr367⟩
      ·refine Gn (wx rfl rfl rfl c369) rfl (Gn (wx rfl rfl rfl c369) rfl (Gn (wx rfl rfl rfl c369) rfl (Gn (wx rfl rfl rfl c369) rfl (Gn (wx rfl rfl rfl c369) rfl (Gn (wx rfl rfl rfl c369) rfl (Gn (wx rfl rfl rfl c369) rfl (Y (wg rfl rfl rfl (nT (dF c360))) rfl (ypt (v := .bool true) (e0 rfl) c369 rfl) ?_)))))))
       obtain rfl := someI gr367
       exact j39 _ _ ⟨e36_0, e36_2, e36_3, e36_4, e36_5, e36_6, rfl, rfl, rfl, rfl, rfl, rfl, rfl, rfl, (hst.facts (allC mhF (allT (allT allI))))⟩
      ·refine Y (wg rfl rfl rfl (bfalse c369)) rfl (ym (v := h2.v) (et rfl e36_0)) (Y (wg rfl rfl rfl (bfalse c369)) rfl (ym (v := iV x299) (et rfl e36_6)) ?_)
       obtain ⟨x370, gx370, gr367⟩ := bs gr367
       refine Y (wg rfl rfl rfl (bfalse c369)) rfl (yIa SL_98 (e0 rfl) (e0 rfl) hst (rdI (mtF (mtF q1))) gx370) ?_
       obtain ⟨h371, hst⟩ := iLs hst (mtF (mtF q1)) gx370
       refine Y (wg rfl rfl rfl (bfalse c369)) rfl (yCt O_93 (e0 rfl) hst (mtF mhF) rfl) (Y (wg rfl rfl rfl (bfalse c369)) rfl (ym (v := iV x130) (et rfl e36_4)) ?_)
       obtain ⟨x372, gx372, gr367⟩ := bs gr367
       refine Y (wg rfl rfl rfl (bfalse c369)) rfl (yIa SL_93 (e0 rfl) (e0 rfl) hst (rdI mhF) gx372) (Y (wg rfl rfl rfl (bfalse c369)) rfl (yB O_4 (e0 rfl) hst (rdI mhF) gx372) (Y (wg rfl rfl rfl (nT (dF c360))) rfl (ypf (v := .bool x372) (e0 rfl) (bfalse c369) (e0 rfl)) ?_))
       obtain rfl := someI gr367
       exact j39 _ _ ⟨e36_0, e36_2, e36_3, e36_4, e36_5, e36_6, rfl, rfl, rfl, rfl, rfl, rfl, rfl, rfl, (hst.facts (allC (mtF (mtF mhF)) (allT (allT (allT (allT allI))))))⟩
     rintro f w ⟨e368_0, e368_2, e368_3, e368_4, e368_5, e368_6, e368_22, e368_23, e368_24, e368_26, e368_27, e368_29, e368_30, e368_38, hst⟩
     refine Y wn rfl (ypt (v := .bool r367) (et rfl e368_22) (nT (dF c360)) (et rfl e368_38)) ?_
     obtain rfl := someI gr358
     exact j38 _ _ ⟨e368_0, e368_2, e368_3, e368_4, e368_5, e368_6, rfl, (hst.facts (allT allI))⟩
   rintro f w ⟨e359_0, e359_2, e359_3, e359_4, e359_5, e359_6, e359_39, hst⟩
   refine wN (k75 _ _ ?_)
   have j40 : ∀ (x377 : List Int) (h376 : Hdr) (f : Nat → Value) (w : World), f 0 = h2.v → f 2 = (pB b3) → f 3 = (pB b4) → f 4 = iV x130 → f 5 = h376.v → f 6 = iV x299 → St w0 (ros) (box b3 26 [hnil.v] :: row 22 (rS (rI .i64)) h128.v x129 :: box b4 26 [h128.v] :: row 3 (rI .i64) h376.v x377 :: rs) w → sparseref12_FromTable_j40 x299 x377 = some r36_ → Q74 .normal (fr 51 f) w := by
    intro x377 h376 f w ej40_0 ej40_2 ej40_3 ej40_4 ej40_5 ej40_6 hst hM
    refine qb74 _ _ _ (k73 _ _ (wR (Y wn rfl (ym (v := iV x299) (et rfl ej40_6)) (Y wn rfl (yadd (e0 rfl) rfl) (Y wn rfl (ya (v := iV (wa .i64 x299 1)) (e0 rfl)) (wN ?_))))))
    obtain rfl := someI hM
    exact n36 _ _ _ rfl ⟨_, _, _, _, rfl, rfl, ej40_0, ej40_2, ej40_3, ej40_4, ej40_5, rfl, hst⟩
   rcases iteS hM36 with ⟨c378, hM36⟩ | ⟨c378, hM36⟩
   ·refine condT (et rfl e359_39) c378 (wR (Y wn rfl (ym (v := h297.v) (et rfl e359_5)) (Y wn rfl (ym (v := iV x299) (et rfl e359_6)) (YH wn rfl (rLt (n := 1) (l := [x299]) hst SL_22 [iV x299] (bp1 (e0 rfl)) rfl rfl (mks1 (cs := [iV x299]) rfl mkI mks0)) ?_))))
    intro h379 w hst
    obtain ⟨x381, gx381, hM36⟩ := bs hM36
    replace hst := hst.pk 5 [4, 0, 0, 0, 0] rfl
    refine YH wn rfl (rAp hst SL_22 (e0 rfl) (e0 rfl) (rdO (mtR mhR)) gx381) ?_
    intro h380 w hst
    exact Y wn rfl (ya (v := h380.v) (e0 rfl)) (wN (j40 _ _ _ _ e359_0 e359_2 e359_3 e359_4 rfl e359_6 (hst.pk 5 [2, 2, 2, 0] rfl) hM36))
   ·exact condF (et rfl e359_39) (bfalse c378) (wp_skip (j40 _ _ _ _ e359_0 e359_2 e359_3 e359_4 e359_5 e359_6 hst hM36))
  ·refine condF (e0 rfl) (dF c345) (wp_exit (z71 _ _ _ rfl ?_))
   obtain rfl := someI hM36
   exact zz36 _ _ _ _ rfl rfl (je36_0 _ _ _ _ e36_0 e36_2 e36_3 e36_4 e36_5 hst (ho36 _ rfl))
 ·refine condF (e0 rfl) (dF c259) (wp_exit (z53 _ _ _ rfl ?_))
  obtain rfl := someI hM27
  exact zz27 _ _ _ _ rfl rfl (je27_0 _ _ _ _ e27_2 e27_3 hst (ho27 _ rfl))

theorem sparsemake_Graph_ok {x1 : Int} {x2 : List Int} {h3 : Hdr} {out : (List (List Int))} (hM : sparsemake_Graph x1 x2 = some out) (q1 : imm (rI .i64) h3.v x2 ∈ ros) (hst : St w0 ros (rs) w) :
  Calls Tryz.prog 35 #[iV x1, h3.v] w (fun e w => ∃ (h100001 : Hdr), e = .returned (.agg #[h100001.v]) ∧ St w0 (ros) (row 22 (rS (rI .i64)) h100001.v out :: rs) w) := by
 refine enterQ Tryz.func35 rfl Tryz.ntmps35 rfl fun Q hQ => seqQ fun Q1 k1 z1 => wR (YB wn rfl (rAl hst ZT_26) ?_)
 intro b4 w hst
 refine wN (k1 _ _ (seqQ fun Q2 k2 z2 => wR (Y wn rfl (ya (v := hnil.v) rfl) (wN (k2 _ _ (seqQ fun Q3 k3 z3 => seqQ fun Q4 k4 z4 => wR (Y wn rfl (ya (v := iV 0) rfl) (wN (k4 _ _ (blockQ fun Q5 qb5 => ?_))))))))))
 obtain ⟨o1, go1, hM⟩ := bs hM
 have je1_0 : ∀ (x33 : List (List Bool)) (h31 : Hdr) (y32 : List Hdr) (f : Nat → Value) (w : World), f 0 = iV x1 → f 1 = h3.v → f 4 = (pB b4) → f 5 = h31.v → St w0 (ros) (box b4 26 [hnil.v] :: row 93 rH h31.v y32 :: fam 4 rB y32 x33 :: rs) w → x33 = o1 → Q5 (.exit 0) (fr 48 f) w := by
  intro x33 h31 y32 f w eje1_0_0 eje1_0_1 eje1_0_4 eje1_0_5 hst ho
  subst ho
  refine qb5 _ _ _ (k3 _ _ (seqQ fun Q14 k14 z14 => seqQ fun Q15 k15 z15 => wR (Y wn rfl (ya (v := iV 0) rfl) (wN (k15 _ _ (blockQ fun Q16 qb16 => ?_))))))
  obtain ⟨o4, go4, hM⟩ := bs hM
  have je4_0 : ∀ (x60 : List (List Bool)) (f : Nat → Value) (w : World), f 4 = (pB b4) → f 5 = h31.v → St w0 (ros) (box b4 26 [hnil.v] :: row 93 rH h31.v y32 :: fam 4 rB y32 x60 :: rs) w → x60 = o4 → Q16 (.exit 2) (fr 48 f) w := by
   intro x60 f w eje4_0_4 eje4_0_5 hst ho
   subst ho
   refine qb16 _ _ _ (k14 _ _ (seqQ fun Q25 k25 z25 => wR (Y wn rfl (ym (v := h31.v) (et rfl eje4_0_5)) ?_)))
   obtain ⟨r61, gr61, hM⟩ := bs hM
   replace hst := hst.pk 3 [1, 1, 0] rfl
   replace hst := hst.ffz
   refine Yc wn rfl (yCall FN_67 (a1 (e0 rfl))) (sparseref12_FromTable_ok (hM := gr61) (hst := hst) (q1 := mhF)) ?_
   rintro _ w ⟨h62, rfl, hst⟩
   refine ⟨_, rfl, ?_⟩
   replace hst := hst.pk 2 [1, 0] rfl
   refine YT wn rfl (r_stbn (vals' := [h62.v]) (us := [h62.v]) hst ST_26 (et rfl eje4_0_4) (e0 rfl) rfl rfl (one_of rfl) rfl) ?_
   intro w hst
   refine wN (k25 _ _ (wp_ret ?_))
   obtain rfl := someI hM
   exact hQ _ _ _ (fin1r Tryz.results35 (rcs2 rfl eje4_0_4 hst mhR ST_26 rfl) ⟨_, rfl, ((hst.pk 2 [1] rfl).facts (allT allI))⟩)
  refine loopQ (fun s a w => ∃ (x45 : List (List Bool)) (x46 : Int) (f : Nat → Value), (x45, x46) = s ∧ a = fr 48 f ∧ f 0 = iV x1 ∧ f 1 = h3.v ∧ f 4 = (pB b4) ∧ f 5 = h31.v ∧ f 7 = iV x46 ∧ St w0 (ros) (box b4 26 [hnil.v] :: row 93 rH h31.v y32 :: fam 4 rB y32 x45 :: rs) w) go4 ⟨_, _, _, rfl, rfl, eje1_0_0, eje1_0_1, eje1_0_4, eje1_0_5, rfl, hst⟩ ?_
  rintro _ _ w r4_ ⟨x45, x46, f, rfl, rfl, e4_0, e4_1, e4_4, e4_5, e4_7, hst⟩ hM4 ho4 Q100004 n4 zz4
  refine seqQ fun Q26 k26 z26 => seqQ fun Q27 k27 z27 => wR (Y wn rfl (ym (v := iV x46) (et rfl e4_7)) (Y wn rfl (yadd (e0 rfl) rfl) (Y wn rfl (ym (v := h3.v) (et rfl e4_1)) (Y wn rfl (yLen SL_22 (e0 rfl) hst (rdI q1)) (Y wn rfl (ylss (e0 rfl) (e0 rfl)) (Y wn rfl (ym (v := .bool (decide ((wa .i64 x46 1) < (x2.length : Int)))) (e0 rfl)) ?_))))))
  refine joinW 3 (fun f w => f 0 = iV x1 ∧ f 1 = h3.v ∧ f 4 = (pB b4) ∧ f 5 = h31.v ∧ f 7 = iV x46 ∧ f 26 = .bool ((decide ((wa .i64 x46 1) < (x2.length : Int))) && (decide ((0 : Int) < x1))) ∧ St w0 (ros) (box b4 26 [hnil.v] :: row 93 rH h31.v y32 :: fam 4 rB y32 x45 :: rs) w) (fun j5 => ?_) ?_
  ·rcases Bool.eq_false_or_eq_true (decide ((wa .i64 x46 1) < (x2.length : Int))) with c64 | c64
   ·exact Y (wg rfl rfl rfl c64) rfl (ym (v := iV x1) (et rfl e4_0)) (Y (wg rfl rfl rfl c64) rfl (ygtr (e0 rfl) rfl) (Y wn rfl (ypt (v := .bool (decide ((0 : Int) < x1))) (e0 rfl) c64 (e0 rfl)) (j5 _ _ ⟨e4_0, e4_1, e4_4, e4_5, e4_7, (congrArg Value.bool (andT c64)), hst⟩)))
   ·exact Gn (wx rfl rfl rfl c64) rfl (Gn (wx rfl rfl rfl c64) rfl (Y wn rfl (ypf (v := .bool false) (e0 rfl) c64 rfl) (j5 _ _ ⟨e4_0, e4_1, e4_4, e4_5, e4_7, (congrArg Value.bool (andF c64)), hst⟩)))
  rintro f w ⟨e63_0, e63_1, e63_4, e63_5, e63_7, e63_26, hst⟩
  refine wN (k27 _ _ ?_)
  rcases iteS hM4 with ⟨c65, hM4⟩ | ⟨c65, hM4⟩
  ·refine condT (et rfl e63_26) c65 (wp_skip (k26 _ _ (seqQ fun Q28 k28 z28 => blockQ fun Q29 qb29 => ?_)))
   obtain ⟨x66, gx66, hM4⟩ := bs hM4
   obtain ⟨r67, gr67, hM4⟩ := bs hM4
   obtain ⟨x68, gx68, hM4⟩ := bs hM4
   obtain ⟨x70, gx70, hM4⟩ := bs hM4
   obtain ⟨r71, gr71, hM4⟩ := bs hM4
   obtain ⟨x72, gx72, hM4⟩ := bs hM4
   obtain ⟨x73, gx73, hM4⟩ := bs hM4
   refine wp_drawR [0, 0, 0, 6, 14, 0, 62, 127, 255, 0, 0, 1024, 3584, 7680, 0, 32382, 65535, 131071] [6, 15, 17] 3 folM (by kernel_rfl) (by kernel_rfl) (by kernel_rfl) ?_
   replace hst := hst.drew
   refine DRn (l1 := [0, 1, 2, 3, 4, 5, 9, 10, 11, 12, 13, 14]) (l2 := []) (lc := [6]) (by kernel_rfl) (by kernel_rfl) (by kernel_rfl) (Ry rfl rfl wn (ym (v := h31.v) (et rfl e63_5)) (Ry rfl rfl wn (ym (v := h3.v) (et rfl e63_1)) (Ry rfl rfl wn (ym (v := iV x46) (et rfl e63_7)) (Ry rfl rfl wn (yIa SL_22 (e0 rfl) (e0 rfl) hst (rdI q1) gx66) (Ry rfl rfl wn (yI O_3 (e0 rfl) hst (rdI q1) gx66) (Ry rfl rfl wn (ym (v := iV x1) (et rfl e63_0)) (Ry rfl rfl wn (ym (v := h3.v) (et rfl e63_1)) (Ry rfl rfl wn (ym (v := iV x46) (et rfl e63_7)) (Ry rfl rfl wn (yadd (e0 rfl) rfl) (Ry rfl rfl wn (yIa SL_22 (e0 rfl) (e0 rfl) hst (rdI q1) gx70) (Ry rfl rfl wn (yI O_3 (e0 rfl) hst (rdI q1) gx70) (Ry rfl rfl wn (ym (v := iV x1) (et rfl e63_0)) (Rn QSn ?_)))))))))))))
   refine Lc rfl ?_ LAn
   refine Lk wn (yCall FN_10 (a2 (e0 rfl) (e0 rfl))) (sparsekit_Place_ok (hM := gr67) (hst := hst) ) ?_
   rintro _ w ⟨rfl, hst⟩
   refine ⟨_, rfl, ?_⟩
   refine DRn (l1 := [7, 8]) (l2 := [0, 9, 10, 11, 12, 13, 14]) (lc := [15]) (by kernel_rfl) (by kernel_rfl) (by kernel_rfl) ?_
   obtain ⟨h69, gh69⟩ := hst.famI (mtR (mtR mhR)) gx68
   refine Ry rfl rfl wn (yIa SLH_98 (e0 rfl) (e0 rfl) hst (rdO (mtR mhR)) gh69) (Ry rfl rfl wn (yF1 O_93 (e0 rfl) hst (rdO (mtR mhR)) gh69 rfl) (Rn (Sy rfl rfl wn (ym (v := h31.v) (et rfl e63_5)) rfl (Sy rfl rfl wn (ym (v := h3.v) (et rfl e63_1)) rfl (Sy rfl rfl wn (ym (v := iV x46) (et rfl e63_7)) rfl (Sy rfl rfl wn (yadd (e0 rfl) rfl) rfl (Sy rfl rfl wn (yIa SL_22 (e0 rfl) (e0 rfl) hst (rdI q1) gx70) rfl (Sy rfl rfl wn (yI O_3 (e0 rfl) hst (rdI q1) gx70) rfl (Sy rfl rfl wn (ym (v := iV x1) (et rfl e63_0)) rfl QSn))))))) ?_))
   refine Lc rfl ?_ LAn
   refine Lk wn (yCall FN_10 (a2 (e0 rfl) (e0 rfl))) (sparsekit_Place_ok (hM := gr71) (hst := hst) ) ?_
   rintro _ w ⟨rfl, hst⟩
   refine ⟨_, rfl, ?_⟩
   refine DRn (l1 := [16]) (l2 := [0, 7, 8]) (lc := [17]) (by kernel_rfl) (by kernel_rfl) (by kernel_rfl) (Ry rfl rfl wn (yIs SL_93 (e0 rfl) (e0 rfl) hst (rdF (mtR (mtR mhR)) gh69 gx68) gx72) (Rn (Sy rfl rfl wn (ym (v := h31.v) (et rfl e63_5)) rfl (Sy rfl rfl wn (yIa SLH_98 (e0 rfl) (e0 rfl) hst (rdO (mtR mhR)) gh69) rfl (Sy rfl rfl wn (yF1 O_93 (e0 rfl) hst (rdO (mtR mhR)) gh69 rfl) rfl QSn))) ?_))
   refine Lc rfl ?_ LAn
   replace hst := hst.pk 3 [2, 0, 0] rfl
   refine LT wn (r_sti (cs := [.bool true]) (hst.foc gh69 gx68) O_4 rfl (e0 rfl) rfl rfl mkB gx72) ?_
   intro w hst
   replace hst := hst.unfoc' gh69 gx73
   refine DRz (l1 := []) (l2 := []) (by kernel_rfl) (by kernel_rfl) (Rn QSn (qb29 _ _ _ (k28 _ _ (wR (Y wn rfl (ym (v := iV x46) (et rfl e63_7)) (Y wn rfl (yadd (e0 rfl) rfl) (Y wn rfl (ya (v := iV (wa .i64 x46 2)) (e0 rfl)) (wN ?_))))))))
   obtain rfl := someI hM4
   exact n4 _ _ _ rfl ⟨_, _, _, rfl, rfl, e63_0, e63_1, e63_4, e63_5, rfl, (hst.pk 3 [1, 1, 0] rfl)⟩
  ·refine condF (et rfl e63_26) (bfalse c65) (wp_exit (z26 _ _ _ rfl ?_))
   obtain rfl := someI hM4
   exact zz4 _ _ _ _ rfl rfl (je4_0 _ _ _ e63_4 e63_5 hst (ho4 _ rfl))
 replace hst := ((hst.rowNh 93 rH).fNew 4 rB).pk 2 [1, 0] rfl
 refine loopQ (fun s a w => ∃ (x16 : List (List Bool)) (x17 : Int) (f : Nat → Value) (h14 : Hdr) (y15 : List Hdr), (x16, x17) = s ∧ a = fr 48 f ∧ f 0 = iV x1 ∧ f 1 = h3.v ∧ f 4 = (pB b4) ∧ f 5 = h14.v ∧ f 6 = iV x17 ∧ St w0 (ros) (box b4 26 [hnil.v] :: row 93 rH h14.v y15 :: fam 4 rB y15 x16 :: rs) w) go1 ⟨_, _, _, _, _, rfl, rfl, rfl, rfl, rfl, rfl, rfl, (hst.pk 3 [2, 0, 0] rfl)⟩ ?_
 rintro _ _ w r1_ ⟨x16, x17, f, h14, y15, rfl, rfl, e1_0, e1_1, e1_4, e1_5, e1_6, hst⟩ hM1 ho1 Q100001 n1 zz1
 refine seqQ fun Q30 k30 z30 => seqQ fun Q31 k31 z31 => wR (Y wn rfl (ym (v := iV x17) (et rfl e1_6)) (Y wn rfl (ym (v := iV x1) (et rfl e1_0)) (Y wn rfl (ylss (e0 rfl) (e0 rfl)) (wN (k31 _ _ ?_)))))
 rcases iteS hM1 with ⟨c74, hM1⟩ | ⟨c74, hM1⟩
 ·refine condT (e0 rfl) (dT c74) (wp_skip (k30 _ _ (seqQ fun Q32 k32 z32 => blockQ fun Q33 qb33 => wR (Y wn rfl (ym (v := h14.v) (et rfl e1_5)) (Y wn rfl (ym (v := iV x1) (et rfl e1_0)) ?_)))))
  obtain ⟨x77, gx77, hM1⟩ := bs hM1
  refine YH wn rfl (rMk hst SL_93 (e0 rfl) gx77) ?_
  intro h75 w hst
  refine YH wn rfl (rLt (n := 1) (l := [h75]) hst SLH_98 [h75.v] (bp1 (e0 rfl)) rfl rfl (mks1 rfl (mkF rfl) mks0)) ?_
  intro h78 w hst
  obtain ⟨x81, gx81, hM1⟩ := bs hM1
  replace hst := hst.pk 4 [3, 0, 0, 0] rfl
  obtain ⟨y82, ey82, gy82⟩ := app_rep gx81 (hst.famL (mtR (mtR (mtR (mtR mhR))))) (show [h75].length = [x77].length from rfl)
  refine YH wn rfl (rAp hst SLH_98 (e0 rfl) (e0 rfl) (rdO (mtR mhR)) gy82) ?_
  intro h80 w hst
  replace hst := hst.pk 5 [2, 3, 0, 0, 0] rfl
  replace hst := hst.fPush
  rw [← ey82, ← (app_some gx81).1] at hst
  refine Y wn rfl (ya (v := h80.v) (e0 rfl)) (wN (qb33 _ _ _ (k32 _ _ (wR (Y wn rfl (ym (v := iV x17) (et rfl e1_6)) (Y wn rfl (yadd (e0 rfl) rfl) (Y wn rfl (ya (v := iV (wa .i64 x17 1)) (e0 rfl)) (wN ?_))))))))
  obtain rfl := someI hM1
  exact n1 _ _ _ rfl ⟨_, _, _, _, _, rfl, rfl, e1_0, e1_1, e1_4, rfl, rfl, (hst.pk 4 [3, 1, 0] rfl)⟩
 ·refine condF (e0 rfl) (dF c74) (wp_exit (z30 _ _ _ rfl ?_))
  obtain rfl := someI hM1
  exact zz1 _ _ _ _ rfl rfl (je1_0 _ _ _ _ _ e1_0 e1_1 e1_4 e1_5 hst (ho1 _ rfl))

theorem sparsemake_At_ok {x1 : List Int} {x3 : Int} {h2 : Hdr} {out : Int} (hM : sparsemake_At x1 x3 = some out) (q1 : imm (rI .i64) h2.v x1 ∈ ros) (hst : St w0 ros (rs) w) :
  Calls Tryz.prog 39 #[h2.v, iV x3] w (fun e w => e = .returned (iV out) ∧ St w0 (ros) (rs) w) := by
 refine enterQ Tryz.func39 rfl Tryz.ntmps39 rfl fun Q hQ => seqQ fun Q1 k1 z1 => wR (Y wn rfl (ya (v := iV 0) rfl) (wN (k1 _ _ (seqQ fun Q2 k2 z2 => seqQ fun Q3 k3 z3 => wR (Y wn rfl (ym (v := iV x3) (e0 rfl)) (Y wn rfl (ym (v := h2.v) (e0 rfl)) (Y wn rfl (yLen SL_22 (e0 rfl) hst (rdI q1)) (Y wn rfl (ylss (e0 rfl) (e0 rfl)) (wN ?_)))))))))
 refine k3 _ _ ?_
 rcases iteS hM with ⟨c4, hM⟩ | ⟨c4, hM⟩
 ·refine condT (e0 rfl) (dT c4) (seqQ fun Q4 k4 z4 => wR (Y wn rfl (ym (v := h2.v) (e0 rfl)) (Y wn rfl (ym (v := iV x3) (e0 rfl)) ?_)))
  obtain ⟨x5, gx5, hM⟩ := bs hM
  refine Y wn rfl (yIa SL_22 (e0 rfl) (e0 rfl) hst (rdI q1) gx5) (Y wn rfl (yI O_3 (e0 rfl) hst (rdI q1) gx5) (Y wn rfl (ya (v := iV x5) (e0 rfl)) (wN (k4 _ _ (wp_ret (z2 _ _ _ rfl ?_))))))
  obtain rfl := someI hM
  exact hQ _ _ _ (fin1r Tryz.results39 ⟨rfl, rfl⟩ ⟨rfl, hst⟩)
 ·refine condF (e0 rfl) (dF c4) (wp_skip (k2 _ _ (seqQ fun Q5 k5 z5 => wR (Y wn rfl (ya (v := iV 0) rfl) (wN (k5 _ _ (wp_ret ?_)))))))
  obtain rfl := someI hM
  exact hQ _ _ _ (fin1r Tryz.results39 ⟨rfl, rfl⟩ ⟨rfl, hst⟩)

theorem sparsemake_Weighted_ok {x1 : Int} {x2 : List Int} {x4 : List Int} {h3 : Hdr} {h5 : Hdr} {out : (List (List Int)) × (List Int) × (List (List Int))} (hM : sparsemake_Weighted x1 x2 x4 = some out) (q1 : imm (rI .i64) h3.v x2 ∈ ros) (q2 : imm (rI .i64) h5.v x4 ∈ ros) (hst : St w0 ros (rs) w) :
  Calls Tryz.prog 9 #[iV x1, h3.v, h5.v] w (fun e w => ∃ (h100001 : Hdr) (h100003 : Hdr) (h100005 : Hdr), e = .returned (.agg #[h100001.v, h100003.v, h100005.v]) ∧ St w0 (ros) (row 22 (rS (rI .i64)) h100001.v out.1 :: row 3 (rI .i64) h100003.v out.2.1 :: row 22 (rS (rI .i64)) h100005.v out.2.2 :: rs) w) := by
 refine enterQ Tryz.func9 rfl Tryz.ntmps9 rfl fun Q hQ => seqQ fun Q1 k1 z1 => wR (YB wn rfl (rAl hst ZT_28) ?_)
 intro b6 w hst
 refine wN (k1 _ _ (seqQ fun Q2 k2 z2 => wR (Y wn rfl (ym (v := iV x1) (e0 rfl)) (Y wn rfl (ym (v := h3.v) (e0 rfl)) ?_))))
 obtain ⟨r7, gr7, hM⟩ := bs hM
 refine Yc wn rfl (yCall FN_35 (a2 (e0 rfl) (e0 rfl))) (sparsemake_Graph_ok (hM := gr7) (hst := hst) (q1 := q1)) ?_
 rintro _ w ⟨h8, rfl, hst⟩
 refine ⟨_, rfl, ?_⟩
 refine YB wn rfl (rAl hst ZT_26) ?_
 intro b9 w hst
 refine YT wn rfl (r_stbn (vals' := [h8.v]) (us := [h8.v]) hst ST_26 (e0 rfl) (e0 rfl) rfl rfl (one_of rfl) rfl) ?_
 intro w hst
 refine wN (k2 _ _ (seqQ fun Q3 k3 z3 => wR (Y wn rfl (yLbs (us := [h8.v]) ST_26 (e0 rfl) hst mhR rfl rfl) (Y wn rfl (ybuild (us := [h8.v, hnil.v, hnil.v]) [(0, .agg #[h8.v])] SO_28 (bp1 (e0 rfl)) rfl) (YB wn rfl (rAl hst ZT_28) ?_)))))
 intro b10 w hst
 refine YT wn rfl (r_stbn (vals' := [h8.v, hnil.v, hnil.v]) (us := [h8.v, hnil.v, hnil.v]) hst ST_28 (e0 rfl) (e0 rfl) rfl rfl (one_of rfl) rfl) ?_
 intro w hst
 refine wN (k3 _ _ (seqQ fun Q4 k4 z4 => seqQ fun Q5 k5 z5 => wR (Y wn rfl (ya (v := iV 0) rfl) (wN (k5 _ _ (blockQ fun Q6 qb6 => ?_))))))
 obtain ⟨o3, go3, hM⟩ := bs hM
 have je3_0 : ∀ (x128 : List Int) (x130 : List (List Int)) (h127 : Hdr) (h129 : Hdr) (f : Nat → Value) (w : World), f 6 = (pB b6) → f 8 = (pB b10) → St w0 (ros) (box b6 28 [hnil.v, hnil.v, hnil.v] :: row 22 (rS (rI .i64)) h8.v r7 :: row 3 (rI .i64) h127.v x128 :: row 22 (rS (rI .i64)) h129.v x130 :: box b10 28 [h8.v, h127.v, h129.v] :: rs) w → (x128, x130) = o3 → Q6 (.exit 0) (fr 79 f) w := by
  intro x128 x130 h127 h129 f w eje3_0_6 eje3_0_8 hst ho
  subst ho
  refine qb6 _ _ _ (k4 _ _ (seqQ fun Q55 k55 z55 => wR (Y wn rfl (yLbs (us := [h8.v, h127.v, h129.v]) ST_28 (et rfl eje3_0_8) hst (mtR (mtR (mtR (mtR mhR)))) rfl rfl) (YT wn rfl (r_stbn (vals' := [h8.v, h127.v, h129.v]) (us := [h8.v, h127.v, h129.v]) hst ST_28 (et rfl eje3_0_6) (e0 rfl) rfl rfl (one_of rfl) rfl) ?_))))
  intro w hst
  refine wN (k55 _ _ (wp_ret ?_))
  obtain rfl := someI hM
  exact hQ _ _ _ (fin1r Tryz.results9 (rcs2 rfl eje3_0_6 hst mhR ST_28 rfl) ⟨_, _, _, rfl, (hst.pk 5 [1, 1, 1] rfl)⟩)
 replace hst := hst.rowNh 3 (rI .i64)
 replace hst := hst.rowNh 22 (rS (rI .i64))
 refine loopQ (fun s a w => ∃ (x65 : List Int) (x67 : List (List Int)) (x68 : Int) (f : Nat → Value) (h64 : Hdr) (h66 : Hdr), (x65, x67, x68) = s ∧ a = fr 79 f ∧ f 0 = iV x1 ∧ f 2 = h5.v ∧ f 6 = (pB b6) ∧ f 7 = (pB b9) ∧ f 8 = (pB b10) ∧ f 9 = iV x68 ∧ St w0 (ros) (box b6 28 [hnil.v, hnil.v, hnil.v] :: row 22 (rS (rI .i64)) h8.v r7 :: box b9 26 [h8.v] :: row 3 (rI .i64) h64.v x65 :: row 22 (rS (rI .i64)) h66.v x67 :: box b10 28 [h8.v, h64.v, h66.v] :: rs) w) go3 ⟨_, _, _, _, _, _, rfl, rfl, rfl, rfl, rfl, rfl, rfl, rfl, (hst.pk 6 [5, 4, 3, 1, 0, 0] rfl)⟩ ?_
 rintro _ _ w r3_ ⟨x65, x67, x68, f, h64, h66, rfl, rfl, e3_0, e3_2, e3_6, e3_7, e3_8, e3_9, hst⟩ hM3 ho3 Q100003 n3 zz3
 refine seqQ fun Q56 k56 z56 => seqQ fun Q57 k57 z57 => wR (Y wn rfl (ym (v := iV x68) (et rfl e3_9)) (Y wn rfl (ym (v := iV x1) (et rfl e3_0)) (Y wn rfl (ylss (e0 rfl) (e0 rfl)) (wN (k57 _ _ ?_)))))
 rcases iteS hM3 with ⟨c131, hM3⟩ | ⟨c131, hM3⟩
 ·refine condT (e0 rfl) (dT c131) (wp_skip (k56 _ _ (seqQ fun Q58 k58 z58 => blockQ fun Q59 qb59 => seqQ fun Q60 k60 z60 => ?_)))
  obtain ⟨r132, gr132, hM3⟩ := bs hM3
  obtain ⟨r133, gr133, hM3⟩ := bs hM3
  obtain ⟨x136, gx136, hM3⟩ := bs hM3
  refine wp_drawR [0, 1, 0, 0, 12, 28, 60, 124, 255, 511, 1023] [4, 5, 7, 8, 10] 5 folM (by kernel_rfl) (by kernel_rfl) (by kernel_rfl) ?_
  replace hst := hst.drew
  refine DRn (l1 := [0, 1, 2, 3]) (l2 := []) (lc := [4]) (by kernel_rfl) (by kernel_rfl) (by kernel_rfl) (Ry rfl rfl wn (yFb FL_28_1 (et rfl e3_8)) (Ry rfl rfl wn (yLb (u := h64.v) O_22 (e0 rfl) hst (mtR (mtR (mtR (mtR (mtR mhR))))) rfl) (Ry rfl rfl wn (ym (v := h5.v) (et rfl e3_2)) (Ry rfl rfl wn (ym (v := iV x68) (et rfl e3_9)) (Rn QSn ?_)))))
  refine Lc rfl ?_ LAn
  refine Lk wn (yCall FN_39 (a2 (e0 rfl) (e0 rfl))) (sparsemake_At_ok (hM := gr132) (hst := hst) (q1 := q2)) ?_
  rintro _ w ⟨rfl, hst⟩
  refine ⟨_, rfl, ?_⟩
  refine DRn (l1 := []) (l2 := [0, 1]) (lc := [5]) (by kernel_rfl) (by kernel_rfl) (by kernel_rfl) (Rn (Sy rfl rfl wn (yFb FL_28_1 (et rfl e3_8)) rfl (Sy rfl rfl wn (yLb (u := h64.v) O_22 (e0 rfl) hst (mtR (mtR (mtR (mtR (mtR mhR))))) rfl) rfl QSn)) ?_)
  refine Lc rfl ?_ LAn
  refine Lk wn (yCall FN_10 (a2 (e0 rfl) rfl)) (sparsekit_Place_ok (hM := gr133) (hst := hst) ) ?_
  rintro _ w ⟨rfl, hst⟩
  refine ⟨_, rfl, ?_⟩
  refine DRn (l1 := [6]) (l2 := [0, 1]) (lc := [7]) (by kernel_rfl) (by kernel_rfl) (by kernel_rfl) (Ry rfl rfl wn (yadd rfl (e0 rfl)) (Rn (Sy rfl rfl wn (yFb FL_28_1 (et rfl e3_8)) rfl (Sy rfl rfl wn (yLb (u := h64.v) O_22 (e0 rfl) hst (mtR (mtR (mtR (mtR (mtR mhR))))) rfl) rfl QSn)) ?_))
  refine Lc rfl ?_ LAn
  refine LH wn (rLt (n := 1) (l := [wa .i64 1 r133]) hst SL_22 [iV (wa .i64 1 r133)] (bp1 (e0 rfl)) rfl rfl (mks1 (cs := [iV (wa .i64 1 r133)]) rfl mkI mks0)) ?_
  intro h134 w hst
  refine DRn (l1 := []) (l2 := [0, 1]) (lc := [8]) (by kernel_rfl) (by kernel_rfl) (by kernel_rfl) (Rn (Sy rfl rfl wn (yFb FL_28_1 (et rfl e3_8)) rfl (Sy rfl rfl wn (yLb (u := h64.v) O_22 (e0 rfl) hst (mtR (mtR (mtR (mtR (mtR (mtR mhR)))))) rfl) rfl QSn)) ?_)
  refine Lc rfl ?_ LAn
  replace hst := hst.pk 5 [4, 0, 0, 0, 0] rfl
  refine LH wn (rAp hst SL_22 (e0 rfl) (e0 rfl) (rdO (mtR mhR)) gx136) ?_
  intro h135 w hst
  refine DRn (l1 := [9]) (l2 := []) (lc := [10]) (by kernel_rfl) (by kernel_rfl) (by kernel_rfl) (Ry rfl rfl wn (yFb FL_28_1 (et rfl e3_8)) (Rn QSn ?_))
  refine Lc rfl ?_ LAn
  replace hst := hst.pk 7 [6, 0, 0, 0, 0, 0, 0] rfl
  refine LT wn (r_stb1 (vals' := [h8.v, h135.v, h66.v]) hst O_22 (e0 rfl) (e0 rfl) rfl rfl rfl rfl) ?_
  intro w hst
  refine DRz (l1 := []) (l2 := []) (by kernel_rfl) (by kernel_rfl) (Rn QSn (k60 _ _ (seqQ fun Q61 k61 z61 => wR (Y wn rfl (ya (v := hnil.v) rfl) (wN (k61 _ _ (seqQ fun Q62 k62 z62 => seqQ fun Q63 k63 z63 => wR (Y wn rfl (ya (v := iV 0) rfl) (wN (k63 _ _ ?_))))))))))
  refine blockQ fun Q64 qb64 => ?_
  obtain ⟨o4, go4, hM3⟩ := bs hM3
  have je4_0 : ∀ (x168 : List Int) (h167 : Hdr) (f : Nat → Value) (w : World), f 0 = iV x1 → f 2 = h5.v → f 6 = (pB b6) → f 7 = (pB b9) → f 8 = (pB b10) → f 9 = iV x68 → f 10 = h167.v → St w0 (ros) (box b6 28 [hnil.v, hnil.v, hnil.v] :: row 22 (rS (rI .i64)) h8.v r7 :: box b9 26 [h8.v] :: row 3 (rI .i64) h135.v x136 :: row 22 (rS (rI .i64)) h66.v x67 :: box b10 28 [h8.v, h135.v, h66.v] :: row 3 (rI .i64) h167.v x168 :: rs) w → x168 = o4 → Q64 (.exit 2) (fr 79 f) w := by
   intro x168 h167 f w eje4_0_0 eje4_0_2 eje4_0_6 eje4_0_7 eje4_0_8 eje4_0_9 eje4_0_10 hst ho
   subst ho
   refine qb64 _ _ _ (k62 _ _ (wR (Y wn rfl (yFb FL_28_2 (et rfl eje4_0_8)) (Y wn rfl (yLb (u := h66.v) O_24 (e0 rfl) hst (mtR (mtR (mtR (mtR (mtR mhR))))) rfl) (Y wn rfl (ym (v := h167.v) (et rfl eje4_0_10)) ?_)))))
   replace hst := hst.pk 7 [6, 0, 0, 0, 0, 0, 0] rfl
   replace hst := hst.fz
   refine YH wn rfl (rLt (n := 1) (l := [x168]) hst SL_24 [h167.v] (bp1 (e0 rfl)) rfl rfl (mks1 (cs := [h167.v]) rfl (mkS mhF) mks0)) ?_
   intro h169 w hst
   obtain ⟨x171, gx171, hM3⟩ := bs hM3
   replace hst := hst.pk 6 [5, 0, 0, 0, 0, 0] rfl
   refine YH wn rfl (rAp hst SL_24 (e0 rfl) (e0 rfl) (rdO (mtR mhR)) gx171) ?_
   intro h170 w hst
   refine Y wn rfl (yFb FL_28_2 (et rfl eje4_0_8)) ?_
   replace hst := hst.pk 7 [6, 0, 0, 0, 0, 0, 0] rfl
   refine YT wn rfl (r_stb1 (vals' := [h8.v, h135.v, h170.v]) hst O_24 (e0 rfl) (e0 rfl) rfl rfl rfl rfl) ?_
   intro w hst
   refine wN (qb59 _ _ _ (k58 _ _ (wR (Y wn rfl (ym (v := iV x68) (et rfl eje4_0_9)) (Y wn rfl (yadd (e0 rfl) rfl) (Y wn rfl (ya (v := iV (wa .i64 x68 1)) (e0 rfl)) (wN ?_)))))))
   obtain rfl := someI hM3
   exact n3 _ _ _ rfl ⟨_, _, _, _, _, _, rfl, rfl, eje4_0_0, eje4_0_2, eje4_0_6, eje4_0_7, eje4_0_8, rfl, ((hst.pk 7 [3, 3, 3, 3, 1, 0] rfl).facts (allT allI))⟩
  replace hst := hst.rowNh 3 (rI .i64)
  refine loopQ (fun s a w => ∃ (x150 : List Int) (x151 : Int) (f : Nat → Value) (h149 : Hdr), (x150, x151) = s ∧ a = fr 79 f ∧ f 0 = iV x1 ∧ f 2 = h5.v ∧ f 6 = (pB b6) ∧ f 7 = (pB b9) ∧ f 8 = (pB b10) ∧ f 9 = iV x68 ∧ f 10 = h149.v ∧ f 11 = iV x151 ∧ St w0 (ros) (box b6 28 [hnil.v, hnil.v, hnil.v] :: row 22 (rS (rI .i64)) h8.v r7 :: box b9 26 [h8.v] :: row 3 (rI .i64) h135.v x136 :: row 22 (rS (rI .i64)) h66.v x67 :: box b10 28 [h8.v, h135.v, h66.v] :: row 3 (rI .i64) h149.v x150 :: rs) w) go4 ⟨_, _, _, _, rfl, rfl, e3_0, e3_2, e3_6, e3_7, e3_8, e3_9, rfl, rfl, (hst.pk 8 [4, 4, 4, 2, 3, 1, 0] rfl)⟩ ?_
  rintro _ _ w r4_ ⟨x150, x151, f, h149, rfl, rfl, e4_0, e4_2, e4_6, e4_7, e4_8, e4_9, e4_10, e4_11, hst⟩ hM4 ho4 Q100004 n4 zz4
  refine seqQ fun Q75 k75 z75 => seqQ fun Q76 k76 z76 => wR (Y wn rfl (ym (v := iV x151) (et rfl e4_11)) (Y wn rfl (yFb FL_26_0 (et rfl e4_7)) (Y wn rfl (yLb (u := h8.v) O_24 (e0 rfl) hst (mtR (mtR mhR)) rfl) (Y wn rfl (ym (v := iV x68) (et rfl e4_9)) ?_))))
  obtain ⟨x172, gx172, hM4⟩ := bs hM4
  refine Y wn rfl (yIa SL_24 (e0 rfl) (e0 rfl) hst (rdO (mtR mhR)) gx172) ?_
  obtain ⟨h173, ch173, hst⟩ := rLs hst (rdO (mtR mhR)) gx172
  refine Y wn rfl (yCe O_22 (e0 rfl) ch173 rfl) (Y wn rfl (yLen SL_22 (e0 rfl) hst (rdI mhF)) (Y wn rfl (ylss (e0 rfl) (e0 rfl)) (wN (k76 _ _ ?_))))
  rcases iteS hM4 with ⟨c174, hM4⟩ | ⟨c174, hM4⟩
  ·refine condT (e0 rfl) (dT c174) (wp_skip (k75 _ _ (seqQ fun Q77 k77 z77 => blockQ fun Q78 qb78 => seqQ fun Q79 k79 z79 => wR (Y wn rfl (yFb FL_26_0 (et rfl e4_7)) (Y wn rfl (yLb (u := h8.v) O_24 (e0 rfl) hst (mtR (mtR mhR)) rfl) (Y wn rfl (ym (v := iV x68) (et rfl e4_9)) ?_))))))
   obtain ⟨x175, gx175, hM4⟩ := bs hM4
   refine Y wn rfl (yIa SL_24 (e0 rfl) (e0 rfl) hst (rdO (mtR mhR)) gx175) ?_
   obtain ⟨h176, ch176, hst⟩ := rLs hst (rdO (mtR mhR)) gx175
   refine Y wn rfl (yCe O_22 (e0 rfl) ch176 rfl) (Y wn rfl (ym (v := iV x151) (et rfl e4_11)) ?_)
   obtain ⟨x177, gx177, hM4⟩ := bs hM4
   refine Y wn rfl (yIa SL_22 (e0 rfl) (e0 rfl) hst (rdI mhF) gx177) (Y wn rfl (yI O_3 (e0 rfl) hst (rdI mhF) gx177) (Y wn rfl (ya (v := iV x177) (e0 rfl)) (wN (k79 _ _ (wR (Y wn rfl (ym (v := h149.v) (et rfl e4_10)) (Y wn rfl (ym (v := h5.v) (et rfl e4_2)) (Y wn rfl (ym (v := iV x1) (et rfl e4_0)) (Y wn rfl (ym (v := iV x177) (e0 rfl)) (Y wn rfl (ym (v := iV x68) (et rfl e4_9)) (Y wn rfl (ymax (e0 rfl) (e0 rfl)) (Y wn rfl (yadd (e0 rfl) (e0 rfl)) ?_))))))))))))
   obtain ⟨r178, gr178, hM4⟩ := bs hM4
   refine Yc wn rfl (yCall FN_39 (a2 (e0 rfl) (e0 rfl))) (sparsemake_At_ok (hM := gr178) (hst := hst) (q1 := (mtF (mtF q2)))) ?_
   rintro _ w ⟨rfl, hst⟩
   refine ⟨_, rfl, ?_⟩
   refine Y wn rfl (ym (v := h5.v) (et rfl e4_2)) (Y wn rfl (ym (v := iV x1) (et rfl e4_0)) (Y wn rfl (ym (v := iV x177) (e0 rfl)) (Y wn rfl (ym (v := iV x68) (et rfl e4_9)) (Y wn rfl (ymin (e0 rfl) (e0 rfl)) (Y wn rfl (yadd (e0 rfl) (e0 rfl)) ?_)))))
   obtain ⟨r179, gr179, hM4⟩ := bs hM4
   refine Yc wn rfl (yCall FN_39 (a2 (e0 rfl) (e0 rfl))) (sparsemake_At_ok (hM := gr179) (hst := hst) (q1 := (mtF (mtF q2)))) ?_
   rintro _ w ⟨rfl, hst⟩
   refine ⟨_, rfl, ?_⟩
   refine Y wn rfl (ymul rfl (e0 rfl)) (Y wn rfl (yadd (e0 rfl) (e0 rfl)) ?_)
   obtain ⟨r180, gr180, hM4⟩ := bs hM4
   refine Yc wn rfl (yCall FN_10 (a2 (e0 rfl) rfl)) (sparsekit_Place_ok (hM := gr180) (hst := hst) ) ?_
   rintro _ w ⟨rfl, hst⟩
   refine ⟨_, rfl, ?_⟩
   refine Y wn rfl (yadd rfl (e0 rfl)) (YH wn rfl (rLt (n := 1) (l := [wa .i64 1 r180]) hst SL_22 [iV (wa .i64 1 r180)] (bp1 (e0 rfl)) rfl rfl (mks1 (cs := [iV (wa .i64 1 r180)]) rfl mkI mks0)) ?_)
   intro h181 w hst
   obtain ⟨x183, gx183, hM4⟩ := bs hM4
   replace hst := hst.pk 8 [7, 0, 0, 0, 0, 0, 0, 0] rfl
   refine YH wn rfl (rAp hst SL_22 (e0 rfl) (e0 rfl) (rdO (mtR mhR)) gx183) ?_
   intro h182 w hst
   refine Y wn rfl (ya (v := h182.v) (e0 rfl)) (wN (qb78 _ _ _ (k77 _ _ (wR (Y wn rfl (ym (v := iV x151) (et rfl e4_11)) (Y wn rfl (yadd (e0 rfl) rfl) (Y wn rfl (ya (v := iV (wa .i64 x151 1)) (e0 rfl)) (wN ?_))))))))
   obtain rfl := someI hM4
   exact n4 _ _ _ rfl ⟨_, _, _, _, rfl, rfl, e4_0, e4_2, e4_6, e4_7, e4_8, e4_9, rfl, rfl, ((hst.pk 8 [2, 2, 2, 2, 2, 2, 0] rfl).facts (allT (allT allI)))⟩
  ·refine condF (e0 rfl) (dF c174) (wp_exit (z75 _ _ _ rfl ?_))
   obtain rfl := someI hM4
   exact zz4 _ _ _ _ rfl rfl (je4_0 _ _ _ _ e4_0 e4_2 e4_6 e4_7 e4_8 e4_9 e4_10 (hst.facts (allT allI)) (ho4 _ rfl))
 ·refine condF (e0 rfl) (dF c131) (wp_exit (z56 _ _ _ rfl ?_))
  obtain rfl := someI hM3
  exact zz3 _ _ _ _ rfl rfl (je3_0 _ _ _ _ _ _ e3_6 e3_8 (hst.pk 6 [0, 0, 1, 1, 1] rfl) (ho3 _ rfl))

theorem dissect_weight_ok {x1 : List (List Int)} {x3 : List Int} {x5 : List (List Int)} {x7 : Int} {x8 : Int} {h2 : Hdr} {h4 : Hdr} {h6 : Hdr} {out : Int} (hM : dissect_weight x1 x3 x5 x7 x8 = some out) (q1 : imm (rS (rI .i64)) h2.v x1 ∈ ros) (q2 : imm (rI .i64) h4.v x3 ∈ ros) (q3 : imm (rS (rI .i64)) h6.v x5 ∈ ros) (hst : St w0 ros (rs) w) :
  Calls Tryz.prog 53 #[.agg #[h2.v, h4.v, h6.v], iV x7, iV x8] w (fun e w => e = .returned (iV out) ∧ St w0 (ros) (rs) w) := by
 refine enterQ Tryz.func53 rfl Tryz.ntmps53 rfl fun Q hQ => seqQ fun Q1 k1 z1 => wR (YB wn rfl (r_box (vals := [h2.v, h4.v, h6.v]) hst (e0 rfl) rfl) ?_)
 intro b9 w hst
 refine Y wn rfl (ya (v := iV 0) rfl) (wN (k1 _ _ (seqQ fun Q2 k2 z2 => wR (Y wn rfl (yFb FL_28_0 (e0 rfl)) (Y wn rfl (yFb FL_26_0 (e0 rfl)) (Y wn rfl (yLb (u := h2.v) O_24 (e0 rfl) hst mhR rfl) (Y wn rfl (ym (v := iV x7) (e0 rfl)) ?_)))))))
 obtain ⟨x10, gx10, hM⟩ := bs hM
 refine Y wn rfl (yIa SL_24 (e0 rfl) (e0 rfl) hst (rdI q1) gx10) ?_
 obtain ⟨h11, hst⟩ := iLs hst q1 gx10
 refine Y wn rfl (yCt O_22 (e0 rfl) hst (mtF mhF) rfl) (Y wn rfl (ym (v := iV x8) (e0 rfl)) ?_)
 obtain ⟨r12, gr12, hM⟩ := bs hM
 refine Yc wn rfl (yCall FN_84 (a2 (e0 rfl) (e0 rfl))) (slices_BinarySearch_int_ok (hM := gr12) (hst := hst) (q1 := mhF)) ?_
 rintro _ w ⟨rfl, hst⟩
 refine ⟨_, rfl, ?_⟩
 refine Y wn rfl (ym (v := .tuple #[iV r12.1, .bool r12.2]) (e0 rfl)) (Y wn rfl (yx (v := iV r12.1) (e0 rfl) rfl) (Y wn rfl (yx (v := .bool r12.2) (e0 rfl) rfl) (Y wn rfl (ya (v := iV r12.1) (e0 rfl)) (Y wn rfl (ya (v := .bool r12.2) (e0 rfl)) (wN (k2 _ _ (seqQ fun Q3 k3 z3 => wR (Y wn rfl (yFb FL_28_2 (e0 rfl)) (Y wn rfl (yLb (u := h6.v) O_24 (e0 rfl) hst mhR rfl) (Y wn rfl (ym (v := iV x7) (e0 rfl)) ?_))))))))))
 obtain ⟨x13, gx13, hM⟩ := bs hM
 refine Y wn rfl (yIa SL_24 (e0 rfl) (e0 rfl) hst (rdI (mtF (mtF q3))) gx13) ?_
 obtain ⟨h14, hst⟩ := iLs hst (mtF (mtF q3)) gx13
 refine Y wn rfl (yCt O_22 (e0 rfl) hst (mtF mhF) rfl) (Y wn rfl (ym (v := iV r12.1) (e0 rfl)) ?_)
 obtain ⟨x15, gx15, hM⟩ := bs hM
 refine Y wn rfl (yIa SL_22 (e0 rfl) (e0 rfl) hst (rdI mhF) gx15) (Y wn rfl (yI O_3 (e0 rfl) hst (rdI mhF) gx15) (Y wn rfl (ya (v := iV x15) (e0 rfl)) (wN (k3 _ _ (wp_ret ?_)))))
 obtain rfl := someI hM
 exact hQ _ _ _ (fin1r Tryz.results53 ⟨rfl, rfl⟩ ⟨rfl, ((hst.pk 1 [] rfl).facts (allT (allT (allT (allT allI)))))⟩)

theorem dissect_CheckWeighted_ok {x1 : List (List Int)} {x3 : List Int} {x5 : List (List Int)} {h2 : Hdr} {h4 : Hdr} {h6 : Hdr} {out : Int} (hM : dissect_CheckWeighted x1 x3 x5 = some out) (q1 : imm (rS (rI .i64)) h2.v x1 ∈ ros) (q2 : imm (rI .i64) h4.v x3 ∈ ros) (q3 : imm (rS (rI .i64)) h6.v x5 ∈ ros) (hst : St w0 ros (rs) w) :
  Calls Tryz.prog 23 #[.agg #[h2.v, h4.v, h6.v]] w (fun e w => e = .returned (iV out) ∧ St w0 (ros) (rs) w) := by
 refine enterQ Tryz.func23 rfl Tryz.ntmps23 rfl fun Q hQ => seqQ fun Q1 k1 z1 => wR (YB wn rfl (r_box (vals := [h2.v, h4.v, h6.v]) hst (e0 rfl) rfl) ?_)
 intro b7 w hst
 refine Y wn rfl (ya (v := iV 0) rfl) (wN (k1 _ _ (seqQ fun Q2 k2 z2 => wR (Y wn rfl (yFb FL_28_0 (e0 rfl)) (Y wn rfl (yLbs (us := [h2.v]) ST_26 (e0 rfl) hst mhR rfl rfl) ?_)))))
 obtain ⟨r8, gr8, hM⟩ := bs hM
 refine Yc wn rfl (yCall FN_51 (a1 (e0 rfl))) (graph_Check_ok (hM := gr8) (hst := hst) (q1 := q1)) ?_
 rintro _ w ⟨rfl, hst⟩
 refine ⟨_, rfl, ?_⟩
 refine Y wn rfl (ya (v := iV r8) (e0 rfl)) (wN (k2 _ _ (seqQ fun Q3 k3 z3 => seqQ fun Q4 k4 z4 => wR (Y wn rfl (ym (v := iV r8) (e0 rfl)) (Y wn rfl (yneq (e0 rfl) rfl) (wN (k4 _ _ ?_)))))))
 rcases iteS hM with ⟨c9, hM⟩ | ⟨c9, hM⟩
 ·refine condF (e0 rfl) (nF (dT c9)) (wp_skip (k3 _ _ (seqQ fun Q5 k5 z5 => wR (Y wn rfl (yFb FL_28_0 (e0 rfl)) (Y wn rfl (yFb FL_26_0 (e0 rfl)) (Y wn rfl (yLb (u := h2.v) O_24 (e0 rfl) hst mhR rfl) (Y wn rfl (yLen SL_24 (e0 rfl) hst (rdI q1)) (Y wn rfl (ya (v := iV (x1.length : Int)) (e0 rfl)) (wN (k5 _ _ (seqQ fun Q6 k6 z6 => seqQ fun Q7 k7 z7 => ?_)))))))))))
  refine wR (Y wn rfl (yFb FL_28_1 (e0 rfl)) (Y wn rfl (yLb (u := h4.v) O_22 (e0 rfl) hst mhR rfl) (Y wn rfl (yLen SL_22 (e0 rfl) hst (rdI q2)) (Y wn rfl (ym (v := iV (x1.length : Int)) (e0 rfl)) (Y wn rfl (yneq (e0 rfl) (e0 rfl)) (Y wn rfl (ym (v := .bool (!(decide ((x3.length : Int) = (x1.length : Int))))) (e0 rfl)) ?_))))))
  refine joinW 6 (fun f w => f 1 = (pB b7) ∧ f 32 = .bool ((!(decide ((x3.length : Int) = (x1.length : Int)))) || (!(decide ((x5.length : Int) = (x1.length : Int))))) ∧ St w0 (ros) (box b7 28 [h2.v, h4.v, h6.v] :: rs) w) (fun j1 => ?_) ?_
  ·rcases Bool.eq_false_or_eq_true (!(decide ((x3.length : Int) = (x1.length : Int)))) with c11 | c11
   ·exact Gn (wx rfl rfl rfl c11) rfl (Gn (wx rfl rfl rfl c11) rfl (Gn (wx rfl rfl rfl c11) rfl (Gn (wx rfl rfl rfl c11) rfl (Gn (wx rfl rfl rfl c11) rfl (Y wn rfl (ypt (v := .bool true) (e0 rfl) c11 rfl) (j1 _ _ ⟨rfl, (congrArg Value.bool (orT c11)), hst⟩))))))
   ·exact Y (wg rfl rfl rfl c11) rfl (yFb FL_28_2 (e0 rfl)) (Y (wg rfl rfl rfl c11) rfl (yLb (u := h6.v) O_24 (e0 rfl) hst mhR rfl) (Y (wg rfl rfl rfl c11) rfl (yLen SL_24 (e0 rfl) hst (rdI q3)) (Y (wg rfl rfl rfl c11) rfl (ym (v := iV (x1.length : Int)) (e0 rfl)) (Y (wg rfl rfl rfl c11) rfl (yneq (e0 rfl) (e0 rfl)) (Y wn rfl (ypf (v := .bool (!(decide ((x5.length : Int) = (x1.length : Int))))) (e0 rfl) c11 (e0 rfl)) (j1 _ _ ⟨rfl, (congrArg Value.bool (orF c11)), hst⟩))))))
  rintro f w ⟨e10_1, e10_32, hst⟩
  refine Y wn rfl (ym (v := .bool ((!(decide ((x3.length : Int) = (x1.length : Int)))) || (!(decide ((x5.length : Int) = (x1.length : Int)))))) (et rfl e10_32)) ?_
  obtain ⟨r13, gr13, hM⟩ := bs hM
  refine joinW 5 (fun f w => f 1 = (pB b7) ∧ f 38 = .bool r13 ∧ St w0 (ros) (box b7 28 [h2.v, h4.v, h6.v] :: rs) w) (fun j2 => ?_) ?_
  ·rcases iteS gr13 with ⟨c15, gr13⟩ | ⟨c15, gr13⟩
   ·refine Gn (wx rfl rfl rfl c15) rfl (Gn (wx rfl rfl rfl c15) rfl (Gn (wx rfl rfl rfl c15) rfl (Gn (wx rfl rfl rfl c15) rfl (Y wn rfl (ypt (v := .bool true) (e0 rfl) c15 rfl) ?_))))
    obtain rfl := someI gr13
    exact j2 _ _ ⟨e10_1, rfl, hst⟩
   ·refine Y (wg rfl rfl rfl (bfalse c15)) rfl (yFb FL_28_1 (et rfl e10_1)) (Y (wg rfl rfl rfl (bfalse c15)) rfl (yLb (u := h4.v) O_22 (e0 rfl) hst mhR rfl) ?_)
    obtain ⟨r16, gr16, gr13⟩ := bs gr13
    refine Yc (wg rfl rfl rfl (bfalse c15)) rfl (yCall FN_52 (a1 (e0 rfl))) (dissect_weights_ok (hM := gr16) (hst := hst) (q1 := q2)) ?_
    rintro _ w ⟨rfl, hst⟩
    refine ⟨_, rfl, ?_⟩
    refine Y (wg rfl rfl rfl (bfalse c15)) rfl (ynot (e0 rfl)) (Y wn rfl (ypf (v := .bool (!(r16))) (e0 rfl) (bfalse c15) (e0 rfl)) ?_)
    obtain rfl := someI gr13
    exact j2 _ _ ⟨e10_1, rfl, hst⟩
  rintro f w ⟨e14_1, e14_38, hst⟩
  refine wN (k7 _ _ ?_)
  rcases iteS hM with ⟨c17, hM⟩ | ⟨c17, hM⟩
  ·refine condT (et rfl e14_38) c17 (seqQ fun Q8 k8 z8 => wR (Y wn rfl (ya (v := iV 1) rfl) (wN (k8 _ _ (wp_ret (z6 _ _ _ rfl ?_))))))
   obtain rfl := someI hM
   exact hQ _ _ _ (fin1r Tryz.results23 ⟨rfl, rfl⟩ ⟨rfl, (hst.pk 1 [] rfl)⟩)
  ·refine condF (et rfl e14_38) (bfalse c17) (wp_skip (k6 _ _ (seqQ fun Q9 k9 z9 => seqQ fun Q10 k10 z10 => wR (Y wn rfl (yFb FL_28_0 (et rfl e14_1)) (Y wn rfl (yFb FL_26_0 (e0 rfl)) (Y wn rfl (yLb (u := h2.v) O_24 (e0 rfl) hst mhR rfl) (Y wn rfl (yLen SL_24 (e0 rfl) hst (rdI q1)) (Y wn rfl (ym (v := iV 0) rfl) (wN (k10 _ _ (blockQ fun Q11 qb11 => ?_)))))))))))
   obtain ⟨o5, go5, hM⟩ := bs hM
   have je5_0 : ∀ (f : Nat → Value) (w : World), f 1 = (pB b7) → St w0 (ros) (box b7 28 [h2.v, h4.v, h6.v] :: rs) w → .inl () = o5 → Q11 (.exit 0) (fr 98 f) w := by
    intro f w eje5_0_1 hst ho
    subst ho
    refine qb11 _ _ _ (k9 _ _ (seqQ fun Q26 k26 z26 => seqQ fun Q27 k27 z27 => wR (Y wn rfl (yFb FL_28_0 (et rfl eje5_0_1)) (Y wn rfl (yFb FL_26_0 (e0 rfl)) (Y wn rfl (yLb (u := h2.v) O_24 (e0 rfl) hst mhR rfl) (Y wn rfl (yLen SL_24 (e0 rfl) hst (rdI q1)) (Y wn rfl (ym (v := iV 0) rfl) (wN (k27 _ _ (blockQ fun Q28 qb28 => ?_))))))))))
    obtain ⟨o8, go8, hM⟩ := bs hM
    have je8_0 : ∀ (f : Nat → Value) (w : World), St w0 (ros) (rs) w → .inl () = o8 → Q28 (.exit 2) (fr 98 f) w := by
     intro f w hst ho
     subst ho
     refine qb28 _ _ _ (k26 _ _ (seqQ fun Q85 k85 z85 => wR (Y wn rfl (ya (v := iV 0) rfl) (wN (k85 _ _ (wp_ret ?_))))))
     obtain rfl := someI hM
     exact hQ _ _ _ (fin1r Tryz.results23 ⟨rfl, rfl⟩ ⟨rfl, hst⟩)
    have je8_1 : ∀ (f : Nat → Value) (w : World), f 2 = iV 1 → St w0 (ros) (rs) w → .inr () = o8 → Q28 .ret (fr 98 f) w := by
     intro f w eje8_1_2 hst ho
     subst ho
     refine qb28 _ _ _ (z26 _ _ _ rfl ?_)
     obtain rfl := someI hM
     exact hQ _ _ _ (fin1r Tryz.results23 ⟨rfl, eje8_1_2⟩ ⟨rfl, hst⟩)
    refine loopQ (fun s a w => ∃ (x76 : Int) (f : Nat → Value), x76 = s ∧ a = fr 98 f ∧ f 1 = (pB b7) ∧ f 69 = h2.v ∧ f 70 = iV (x1.length : Int) ∧ f 71 = iV x76 ∧ St w0 (ros) (box b7 28 [h2.v, h4.v, h6.v] :: rs) w) go8 ⟨_, _, rfl, rfl, eje5_0_1, rfl, rfl, rfl, hst⟩ ?_
    rintro _ _ w r8_ ⟨x76, f, rfl, rfl, e8_1, e8_69, e8_70, e8_71, hst⟩ hM8 ho8 Q100008 n8 zz8
    refine seqQ fun Q86 k86 z86 => wR (Y wn rfl (ylss (et rfl e8_71) (et rfl e8_70)) (wN (k86 _ _ (seqQ fun Q87 k87 z87 => ?_))))
    rcases iteS hM8 with ⟨c104, hM8⟩ | ⟨c104, hM8⟩
    ·refine condT (e0 rfl) (dT c104) (wp_skip (k87 _ _ (seqQ fun Q88 k88 z88 => blockQ fun Q89 qb89 => seqQ fun Q90 k90 z90 => wR (Y wn rfl (ym (v := iV x76) (et rfl e8_71)) ?_))))
     obtain ⟨x105, gx105, hM8⟩ := bs hM8
     refine Y wn rfl (yIa SL_24 (et rfl e8_69) (et rfl e8_71) hst (rdI q1) gx105) ?_
     obtain ⟨h106, hst⟩ := iLs hst q1 gx105
     refine Y wn rfl (yCt O_22 (e0 rfl) hst (mtF mhF) rfl) (Y wn rfl (ya (v := iV x76) (e0 rfl)) (Y wn rfl (ya (v := h106.v) (e0 rfl)) (wN (k90 _ _ (seqQ fun Q91 k91 z91 => wR (Y wn rfl (ym (v := h106.v) (e0 rfl)) (Y wn rfl (yLen SL_22 (e0 rfl) hst (rdI mhF)) (Y wn rfl (ym (v := iV 0) rfl) (wN (k91 _ _ (blockQ fun Q92 qb92 => ?_)))))))))))
     obtain ⟨o9, go9, hM8⟩ := bs hM8
     have je9_0 : ∀ (f : Nat → Value) (w : World), f 1 = (pB b7) → f 69 = h2.v → f 70 = iV (x1.length : Int) → f 71 = iV x76 → St w0 (ros) (box b7 28 [h2.v, h4.v, h6.v] :: rs) w → .inl () = o9 → Q92 (.exit 4) (fr 98 f) w := by
      intro f w eje9_0_1 eje9_0_69 eje9_0_70 eje9_0_71 hst ho
      subst ho
      refine qb92 _ _ _ (qb89 _ _ _ (k88 _ _ (wR (Y wn rfl (yadd (et rfl eje9_0_71) rfl) (Y wn rfl (ym (v := iV (wa .i64 x76 1)) (e0 rfl)) (wN ?_))))))
      obtain rfl := someI hM8
      exact n8 _ _ _ rfl ⟨_, _, rfl, rfl, eje9_0_1, eje9_0_69, eje9_0_70, rfl, hst⟩
     have je9_1 : ∀ (f : Nat → Value) (w : World), f 2 = iV 1 → St w0 (ros) (rs) w → .inr () = o9 → Q92 .ret (fr 98 f) w := by
      intro f w eje9_1_2 hst ho
      subst ho
      refine qb92 _ _ _ (qb89 _ _ _ (z88 _ _ _ rfl ?_))
      obtain rfl := someI hM8
      exact zz8 _ _ _ _ rfl rfl (je8_1 _ _ eje9_1_2 hst (ho8 _ rfl))
     refine loopQ (fun s a w => ∃ (x114 : Int) (f : Nat → Value), x114 = s ∧ a = fr 98 f ∧ f 1 = (pB b7) ∧ f 7 = iV x76 ∧ f 69 = h2.v ∧ f 70 = iV (x1.length : Int) ∧ f 71 = iV x76 ∧ f 76 = h106.v ∧ f 77 = iV (x105.length : Int) ∧ f 78 = iV x114 ∧ St w0 (imm (rI .i64) h106.v x105 :: ros) (box b7 28 [h2.v, h4.v, h6.v] :: rs) w) go9 ⟨_, _, rfl, rfl, e8_1, rfl, e8_69, e8_70, e8_71, rfl, rfl, rfl, (hst.facts (allC mhF (allT (allT allI))))⟩ ?_
     rintro _ _ w r9_ ⟨x114, f, rfl, rfl, e9_1, e9_7, e9_69, e9_70, e9_71, e9_76, e9_77, e9_78, hst⟩ hM9 ho9 Q100009 n9 zz9
     refine seqQ fun Q107 k107 z107 => wR (Y wn rfl (ylss (et rfl e9_78) (et rfl e9_77)) (wN (k107 _ _ (seqQ fun Q108 k108 z108 => ?_))))
     rcases iteS hM9 with ⟨c123, hM9⟩ | ⟨c123, hM9⟩
     ·refine condT (e0 rfl) (dT c123) (wp_skip (k108 _ _ (seqQ fun Q109 k109 z109 => blockQ fun Q110 qb110 => seqQ fun Q111 k111 z111 => wR (Y wn rfl (ym (v := iV x114) (et rfl e9_78)) ?_))))
      obtain ⟨x124, gx124, hM9⟩ := bs hM9
      refine Y wn rfl (yIa SL_22 (et rfl e9_76) (et rfl e9_78) hst (rdI mhF) gx124) (Y wn rfl (yI O_3 (e0 rfl) hst (rdI mhF) gx124) (Y wn rfl (ya (v := iV x114) (e0 rfl)) (Y wn rfl (ya (v := iV x124) (e0 rfl)) (wN (k111 _ _ (seqQ fun Q112 k112 z112 => ?_))))))
      obtain ⟨x125, gx125, hM9⟩ := bs hM9
      obtain ⟨x127, gx127, hM9⟩ := bs hM9
      obtain ⟨r128, gr128, hM9⟩ := bs hM9
      refine wp_drawR [0, 1, 0, 7, 15, 0, 63, 127, 0, 0, 0, 1792, 4095] [11] 1 folM (by kernel_rfl) (by kernel_rfl) (by kernel_rfl) ?_
      replace hst := hst.drew
      refine DRn (l1 := [0, 1, 2, 3, 4, 5, 6, 7, 8, 9, 10]) (l2 := []) (lc := [11]) (by kernel_rfl) (by kernel_rfl) (by kernel_rfl) (Ry rfl rfl wn (yFb FL_28_2 (et rfl e9_1)) (Ry rfl rfl wn (yLb (u := h6.v) O_24 (e0 rfl) hst mhR rfl) (Ry rfl rfl wn (ym (v := iV x76) (et rfl e9_7)) (Ry rfl rfl wn (yIa SL_24 (e0 rfl) (e0 rfl) hst (rdI (mtF q3)) gx125) ?_))))
      obtain ⟨h126, hst⟩ := iLs hst (mtF q3) gx125
      refine Ry rfl rfl wn (yCt O_22 (e0 rfl) hst (mtF mhF) rfl) (Ry rfl rfl wn (ym (v := iV x114) (e0 rfl)) (Ry rfl rfl wn (yIa SL_22 (e0 rfl) (e0 rfl) hst (rdI mhF) gx127) (Ry rfl rfl wn (yI O_3 (e0 rfl) hst (rdI mhF) gx127) (Ry rfl rfl wn (yLbs (us := [h2.v, h4.v, h6.v]) ST_28 (et rfl e9_1) hst mhR rfl rfl) (Ry rfl rfl wn (ym (v := iV x124) (e0 rfl)) (Ry rfl rfl wn (ym (v := iV x76) (et rfl e9_7)) (Rn QSn ?_)))))))
      refine Lc rfl ?_ LAn
      refine Lk wn (yCall FN_53 (a3 (e0 rfl) (e0 rfl) (e0 rfl))) (dissect_weight_ok (hM := gr128) (hst := hst) (q1 := (mtF (mtF (mtF q1)))) (q2 := (mtF (mtF (mtF q2)))) (q3 := (mtF (mtF (mtF q3))))) ?_
      rintro _ w ⟨rfl, hst⟩
      refine ⟨_, rfl, ?_⟩
      refine DRz (l1 := [12]) (l2 := [0, 1, 2, 3, 4, 5, 6, 7]) (by kernel_rfl) (by kernel_rfl) (Ry rfl rfl wn (yneq (e0 rfl) (e0 rfl)) (Rn (Sy rfl rfl wn (yFb FL_28_2 (et rfl e9_1)) rfl (Sy rfl rfl wn (yLb (u := h6.v) O_24 (e0 rfl) hst mhR rfl) rfl (Sy rfl rfl wn (ym (v := iV x76) (et rfl e9_7)) rfl (Sy rfl rfl wn (yIa SL_24 (e0 rfl) (e0 rfl) hst (rdI (mtF (mtF (mtF q3)))) gx125) rfl (Sy rfl rfl wn (yCt O_22 (e0 rfl) hst (mtF mhF) rfl) rfl (Sy rfl rfl wn (ym (v := iV x114) (e0 rfl)) rfl (Sy rfl rfl wn (yIa SL_22 (e0 rfl) (e0 rfl) hst (rdI mhF) gx127) rfl (Sy rfl rfl wn (yI O_3 (e0 rfl) hst (rdI mhF) gx127) rfl QSn)))))))) (k112 _ _ ?_)))
      rcases iteS hM9 with ⟨c129, hM9⟩ | ⟨c129, hM9⟩
      ·refine condF (e0 rfl) (nF (dT c129)) (wp_skip (qb110 _ _ _ (k109 _ _ (wR (Y wn rfl (yadd (et rfl e9_78) rfl) (Y wn rfl (ym (v := iV (wa .i64 x114 1)) (e0 rfl)) (wN ?_)))))))
       obtain rfl := someI hM9
       exact n9 _ _ _ rfl ⟨_, _, rfl, rfl, e9_1, e9_7, e9_69, e9_70, e9_71, e9_76, e9_77, rfl, (hst.facts (allC (mtF (mtF mhF)) (allT (allT (allT allI)))))⟩
      ·refine condT (e0 rfl) (nT (dF c129)) (seqQ fun Q113 k113 z113 => wR (Y wn rfl (ya (v := iV 1) rfl) (wN (k113 _ _ (wp_ret (qb110 _ _ _ (z109 _ _ _ rfl ?_)))))))
       obtain rfl := someI hM9
       exact zz9 _ _ _ _ rfl rfl (je9_1 _ _ rfl ((hst.pk 1 [] rfl).facts (allT (allT (allT allI)))) (ho9 _ rfl))
     ·refine condF (e0 rfl) (dF c123) (wp_exit (z108 _ _ _ rfl ?_))
      obtain rfl := someI hM9
      exact zz9 _ _ _ _ rfl rfl (je9_0 _ _ e9_1 e9_69 e9_70 e9_71 (hst.facts (allT allI)) (ho9 _ rfl))
    ·refine condF (e0 rfl) (dF c104) (wp_exit (z87 _ _ _ rfl ?_))
     obtain rfl := someI hM8
     exact zz8 _ _ _ _ rfl rfl (je8_0 _ _ (hst.pk 1 [] rfl) (ho8 _ rfl))
   have je5_1 : ∀ (f : Nat → Value) (w : World), f 2 = iV 1 → St w0 (ros) (rs) w → .inr () = o5 → Q11 .ret (fr 98 f) w := by
    intro f w eje5_1_2 hst ho
    subst ho
    refine qb11 _ _ _ (z9 _ _ _ rfl ?_)
    obtain rfl := someI hM
    exact hQ _ _ _ (fin1r Tryz.results23 ⟨rfl, eje5_1_2⟩ ⟨rfl, hst⟩)
   refine loopQ (fun s a w => ∃ (x33 : Int) (f : Nat → Value), x33 = s ∧ a = fr 98 f ∧ f 1 = (pB b7) ∧ f 41 = h2.v ∧ f 42 = iV (x1.length : Int) ∧ f 43 = iV x33 ∧ St w0 (ros) (box b7 28 [h2.v, h4.v, h6.v] :: rs) w) go5 ⟨_, _, rfl, rfl, e14_1, rfl, rfl, rfl, hst⟩ ?_
   rintro _ _ w r5_ ⟨x33, f, rfl, rfl, e5_1, e5_41, e5_42, e5_43, hst⟩ hM5 ho5 Q100005 n5 zz5
   refine seqQ fun Q114 k114 z114 => wR (Y wn rfl (ylss (et rfl e5_43) (et rfl e5_42)) (wN (k114 _ _ (seqQ fun Q115 k115 z115 => ?_))))
   rcases iteS hM5 with ⟨c130, hM5⟩ | ⟨c130, hM5⟩
   ·refine condT (e0 rfl) (dT c130) (wp_skip (k115 _ _ (seqQ fun Q116 k116 z116 => blockQ fun Q117 qb117 => seqQ fun Q118 k118 z118 => wR (Y wn rfl (ym (v := iV x33) (et rfl e5_43)) ?_))))
    obtain ⟨x131, gx131, hM5⟩ := bs hM5
    refine Y wn rfl (yIa SL_24 (et rfl e5_41) (et rfl e5_43) hst (rdI q1) gx131) ?_
    obtain ⟨h132, hst⟩ := iLs hst q1 gx131
    refine Y wn rfl (yCt O_22 (e0 rfl) hst (mtF mhF) rfl) (Y wn rfl (ya (v := iV x33) (e0 rfl)) (Y wn rfl (ya (v := h132.v) (e0 rfl)) (wN (k118 _ _ (seqQ fun Q119 k119 z119 => wR (Y wn rfl (yFb FL_28_2 (et rfl e5_1)) (Y wn rfl (yLb (u := h6.v) O_24 (e0 rfl) hst mhR rfl) (Y wn rfl (ym (v := iV x33) (e0 rfl)) ?_))))))))
    obtain ⟨x133, gx133, hM5⟩ := bs hM5
    refine Y wn rfl (yIa SL_24 (e0 rfl) (e0 rfl) hst (rdI (mtF (mtF q3))) gx133) ?_
    obtain ⟨h134, hst⟩ := iLs hst (mtF (mtF q3)) gx133
    refine Y wn rfl (yCt O_22 (e0 rfl) hst (mtF mhF) rfl) (Y wn rfl (yLen SL_22 (e0 rfl) hst (rdI mhF)) (Y wn rfl (ym (v := h132.v) (e0 rfl)) (Y wn rfl (yLen SL_22 (e0 rfl) hst (rdI (mtF (mtF mhF)))) (Y wn rfl (yneq (e0 rfl) (e0 rfl)) (Y wn rfl (ym (v := .bool (!(decide ((x133.length : Int) = (x131.length : Int))))) (e0 rfl)) ?_)))))
    obtain ⟨r138, gr138, hM5⟩ := bs hM5
    refine joinW 8 (fun f w => f 1 = (pB b7) ∧ f 41 = h2.v ∧ f 42 = iV (x1.length : Int) ∧ f 43 = iV x33 ∧ f 65 = .bool r138 ∧ St w0 (ros) (box b7 28 [h2.v, h4.v, h6.v] :: rs) w) (fun j10 => ?_) ?_
    ·rcases iteS gr138 with ⟨c140, gr138⟩ | ⟨c140, gr138⟩
     ·refine Y (wg rfl rfl rfl (nF (dT c140))) rfl (yFb FL_28_2 (et rfl e5_1)) (Y (wg rfl rfl rfl (nF (dT c140))) rfl (yLb (u := h6.v) O_24 (e0 rfl) hst mhR rfl) (Y (wg rfl rfl rfl (nF (dT c140))) rfl (ym (v := iV x33) (e0 rfl)) ?_))
      obtain ⟨x141, gx141, gr138⟩ := bs gr138
      refine Y (wg rfl rfl rfl (nF (dT c140))) rfl (yIa SL_24 (e0 rfl) (e0 rfl) hst (rdI (mtF (mtF (mtF (mtF q3))))) gx141) ?_
      obtain ⟨h142, hst⟩ := iLs hst (mtF (mtF (mtF (mtF q3)))) gx141
      refine Y (wg rfl rfl rfl (nF (dT c140))) rfl (yCt O_22 (e0 rfl) hst (mtF mhF) rfl) ?_
      obtain ⟨r143, gr143, gr138⟩ := bs gr138
      refine Yc (wg rfl rfl rfl (nF (dT c140))) rfl (yCall FN_52 (a1 (e0 rfl))) (dissect_weights_ok (hM := gr143) (hst := hst) (q1 := mhF)) ?_
      rintro _ w ⟨rfl, hst⟩
      refine ⟨_, rfl, ?_⟩
      refine Y (wg rfl rfl rfl (nF (dT c140))) rfl (ynot (e0 rfl)) (Y wn rfl (ypf (v := .bool (!(r143))) (e0 rfl) (nF (dT c140)) (e0 rfl)) ?_)
      obtain rfl := someI gr138
      exact j10 _ _ ⟨e5_1, e5_41, e5_42, e5_43, rfl, (hst.facts (allT (allT (allT (allT (allT (allT allI)))))))⟩
     ·refine Gn (wx rfl rfl rfl (nT (dF c140))) rfl (Gn (wx rfl rfl rfl (nT (dF c140))) rfl (Gn (wx rfl rfl rfl (nT (dF c140))) rfl (Gn (wx rfl rfl rfl (nT (dF c140))) rfl (Gn (wx rfl rfl rfl (nT (dF c140))) rfl (Gn (wx rfl rfl rfl (nT (dF c140))) rfl (Gn (wx rfl rfl rfl (nT (dF c140))) rfl (Y wn rfl (ypt (v := .bool true) (e0 rfl) (nT (dF c140)) rfl) ?_)))))))
      obtain rfl := someI gr138
      exact j10 _ _ ⟨e5_1, e5_41, e5_42, e5_43, rfl, (hst.facts (allT (allT (allT (allT allI)))))⟩
    rintro f w ⟨e139_1, e139_41, e139_42, e139_43, e139_65, hst⟩
    refine wN (k119 _ _ ?_)
    rcases iteS hM5 with ⟨c144, hM5⟩ | ⟨c144, hM5⟩
    ·refine condT (et rfl e139_65) c144 (seqQ fun Q120 k120 z120 => wR (Y wn rfl (ya (v := iV 1) rfl) (wN (k120 _ _ (wp_ret (qb117 _ _ _ (z116 _ _ _ rfl ?_)))))))
     obtain rfl := someI hM5
     exact zz5 _ _ _ _ rfl rfl (je5_1 _ _ rfl (hst.pk 1 [] rfl) (ho5 _ rfl))
    ·refine condF (et rfl e139_65) (bfalse c144) (wp_skip (qb117 _ _ _ (k116 _ _ (wR (Y wn rfl (yadd (et rfl e139_43) rfl) (Y wn rfl (ym (v := iV (wa .i64 x33 1)) (e0 rfl)) (wN ?_)))))))
     obtain rfl := someI hM5
     exact n5 _ _ _ rfl ⟨_, _, rfl, rfl, e139_1, e139_41, e139_42, rfl, hst⟩
   ·refine condF (e0 rfl) (dF c130) (wp_exit (z115 _ _ _ rfl ?_))
    obtain rfl := someI hM5
    exact zz5 _ _ _ _ rfl rfl (je5_0 _ _ e5_1 hst (ho5 _ rfl))
 ·refine condT (e0 rfl) (nT (dF c9)) (seqQ fun Q121 k121 z121 => wR (Y wn rfl (ym (v := iV r8) (e0 rfl)) (Y wn rfl (ya (v := iV r8) (e0 rfl)) (wN (k121 _ _ (wp_ret (z3 _ _ _ rfl ?_)))))))
  obtain rfl := someI hM
  exact hQ _ _ _ (fin1r Tryz.results23 ⟨rfl, rfl⟩ ⟨rfl, (hst.pk 1 [] rfl)⟩)

theorem dissect_Match_ok {x1 : List (List Int)} {x3 : List Int} {x5 : List (List Int)} {h2 : Hdr} {h4 : Hdr} {h6 : Hdr} {out : (List Int) × Int} (hM : dissect_Match x1 x3 x5 = some out) (q1 : imm (rS (rI .i64)) h2.v x1 ∈ ros) (q2 : imm (rI .i64) h4.v x3 ∈ ros) (q3 : imm (rS (rI .i64)) h6.v x5 ∈ ros) (hst : St w0 ros (rs) w) :
  Calls Tryz.prog 11 #[.agg #[h2.v, h4.v, h6.v]] w (fun e w => ∃ (h100001 : Hdr), e = .returned (.tuple #[h100001.v, iV out.2]) ∧ St w0 (ros) (row 3 (rI .i64) h100001.v out.1 :: rs) w) := by
 refine enterQ Tryz.func11 rfl Tryz.ntmps11 rfl fun Q hQ => seqQ fun Q1 k1 z1 => wR (YB wn rfl (r_box (vals := [h2.v, h4.v, h6.v]) hst (e0 rfl) rfl) ?_)
 intro b7 w hst
 refine Y wn rfl (ya (v := hnil.v) rfl) (Y wn rfl (ya (v := iV 0) rfl) (wN (k1 _ _ (seqQ fun Q2 k2 z2 => wR (Y wn rfl (yLbs (us := [h2.v, h4.v, h6.v]) ST_28 (e0 rfl) hst mhR rfl rfl) ?_)))))
 obtain ⟨r8, gr8, hM⟩ := bs hM
 refine Yc wn rfl (yCall FN_23 (a1 (e0 rfl))) (dissect_CheckWeighted_ok (hM := gr8) (hst := hst) (q1 := q1) (q2 := q2) (q3 := q3)) ?_
 rintro _ w ⟨rfl, hst⟩
 refine ⟨_, rfl, ?_⟩
 refine Y wn rfl (ya (v := iV r8) (e0 rfl)) (wN (k2 _ _ (seqQ fun Q3 k3 z3 => seqQ fun Q4 k4 z4 => wR (Y wn rfl (ym (v := iV r8) (e0 rfl)) (Y wn rfl (yneq (e0 rfl) rfl) (wN (k4 _ _ ?_)))))))
 rcases iteS hM with ⟨c9, hM⟩ | ⟨c9, hM⟩
 ·refine condF (e0 rfl) (nF (dT c9)) (wp_skip (k3 _ _ (seqQ fun Q5 k5 z5 => wR (Y wn rfl (yLbs (us := [h2.v, h4.v, h6.v]) ST_28 (e0 rfl) hst mhR rfl rfl) ?_))))
  obtain ⟨r10, gr10, hM⟩ := bs hM
  refine Yc wn rfl (yCall FN_40 (a1 (e0 rfl))) (dissect_match_ok (hM := gr10) (hst := hst) (q1 := q1) (q2 := q2) (q3 := q3)) ?_
  rintro _ w ⟨h11, rfl, hst⟩
  refine ⟨_, rfl, ?_⟩
  refine Y wn rfl (ya (v := h11.v) (e0 rfl)) (Y wn rfl (ya (v := iV 0) rfl) (wN (k5 _ _ (wp_ret ?_))))
  obtain rfl := someI hM
  exact hQ _ _ _ (fin2r Tryz.results11 ⟨rfl, rfl⟩ ⟨rfl, rfl⟩ ⟨_, rfl, (hst.pk 2 [0] rfl)⟩)
 ·refine condT (e0 rfl) (nT (dF c9)) (seqQ fun Q6 k6 z6 => wR (Y wn rfl (ym (v := iV r8) (e0 rfl)) (Y wn rfl (ya (v := hnil.v) rfl) (Y wn rfl (ya (v := iV r8) (e0 rfl)) (wN (k6 _ _ (wp_ret (z3 _ _ _ rfl ?_))))))))
  obtain rfl := someI hM
  replace hst := hst.rowNh 3 (rI .i64)
  exact hQ _ _ _ (fin2r Tryz.results11 ⟨rfl, rfl⟩ ⟨rfl, rfl⟩ ⟨_, rfl, (hst.pk 2 [0] rfl)⟩)

theorem sparsekit_Ascending_ok {x1 : List Int} {h2 : Hdr} {out : Bool} (hM : sparsekit_Ascending x1 = some out) (q1 : imm (rI .i64) h2.v x1 ∈ ros) (hst : St w0 ros (rs) w) :
  Calls Tryz.prog 66 #[h2.v] w (fun e w => e = .returned (.bool out) ∧ St w0 (ros) (rs) w) := by
 refine enterQ Tryz.func66 rfl Tryz.ntmps66 rfl fun Q hQ => seqQ fun Q1 k1 z1 => wR (Y wn rfl (ya (v := .bool false) rfl) (wN (k1 _ _ (seqQ fun Q2 k2 z2 => seqQ fun Q3 k3 z3 => wR (Y wn rfl (ya (v := iV 1) rfl) (wN (k3 _ _ (blockQ fun Q4 qb4 => ?_))))))))
 obtain ⟨o1, go1, hM⟩ := bs hM
 have je1_0 : ∀ (f : Nat → Value) (w : World), St w0 (ros) (rs) w → .inl () = o1 → Q4 (.exit 0) (fr 20 f) w := by
  intro f w hst ho
  subst ho
  refine qb4 _ _ _ (k2 _ _ (seqQ fun Q17 k17 z17 => wR (Y wn rfl (ya (v := .bool true) rfl) (wN (k17 _ _ (wp_ret ?_))))))
  obtain rfl := someI hM
  exact hQ _ _ _ (fin1r Tryz.results66 ⟨rfl, rfl⟩ ⟨rfl, hst⟩)
 have je1_1 : ∀ (f : Nat → Value) (w : World), f 2 = .bool false → St w0 (ros) (rs) w → .inr () = o1 → Q4 .ret (fr 20 f) w := by
  intro f w eje1_1_2 hst ho
  subst ho
  refine qb4 _ _ _ (z2 _ _ _ rfl ?_)
  obtain rfl := someI hM
  exact hQ _ _ _ (fin1r Tryz.results66 ⟨rfl, eje1_1_2⟩ ⟨rfl, hst⟩)
 refine loopQ (fun s a w => ∃ (x7 : Int) (f : Nat → Value), x7 = s ∧ a = fr 20 f ∧ f 0 = h2.v ∧ f 3 = iV x7 ∧ St w0 (ros) (rs) w) go1 ⟨_, _, rfl, rfl, rfl, rfl, hst⟩ ?_
 rintro _ _ w r1_ ⟨x7, f, rfl, rfl, e1_0, e1_3, hst⟩ hM1 ho1 Q100001 n1 zz1
 refine seqQ fun Q18 k18 z18 => seqQ fun Q19 k19 z19 => wR (Y wn rfl (ym (v := iV x7) (et rfl e1_3)) (Y wn rfl (ym (v := h2.v) (et rfl e1_0)) (Y wn rfl (yLen SL_22 (e0 rfl) hst (rdI q1)) (Y wn rfl (ylss (e0 rfl) (e0 rfl)) (wN (k19 _ _ ?_))))))
 rcases iteS hM1 with ⟨c13, hM1⟩ | ⟨c13, hM1⟩
 ·refine condT (e0 rfl) (dT c13) (wp_skip (k18 _ _ (seqQ fun Q20 k20 z20 => blockQ fun Q21 qb21 => seqQ fun Q22 k22 z22 => ?_)))
  obtain ⟨x14, gx14, hM1⟩ := bs hM1
  obtain ⟨x15, gx15, hM1⟩ := bs hM1
  refine wp_drawR [0, 0, 3, 7, 0, 0, 32, 112, 240, 511] [] 0 folM (by kernel_rfl) (by kernel_rfl) (by kernel_rfl) ?_
  replace hst := hst.drew
  refine DRz (l1 := [0, 1, 2, 3, 4, 5, 6, 7, 8, 9]) (l2 := []) (by kernel_rfl) (by kernel_rfl) (Ry rfl rfl wn (ym (v := h2.v) (et rfl e1_0)) (Ry rfl rfl wn (ym (v := iV x7) (et rfl e1_3)) (Ry rfl rfl wn (yIa SL_22 (e0 rfl) (e0 rfl) hst (rdI q1) gx14) (Ry rfl rfl wn (yI O_3 (e0 rfl) hst (rdI q1) gx14) (Ry rfl rfl wn (ym (v := h2.v) (et rfl e1_0)) (Ry rfl rfl wn (ym (v := iV x7) (et rfl e1_3)) (Ry rfl rfl wn (ysub (e0 rfl) rfl) (Ry rfl rfl wn (yIa SL_22 (e0 rfl) (e0 rfl) hst (rdI q1) gx15) (Ry rfl rfl wn (yI O_3 (e0 rfl) hst (rdI q1) gx15) (Ry rfl rfl wn (yleq (e0 rfl) (e0 rfl)) (Rn QSn (k22 _ _ ?_))))))))))))
  rcases iteS hM1 with ⟨c16, hM1⟩ | ⟨c16, hM1⟩
  ·refine condT (e0 rfl) (dT c16) (seqQ fun Q23 k23 z23 => wR (Y wn rfl (ya (v := .bool false) rfl) (wN (k23 _ _ (wp_ret (qb21 _ _ _ (z20 _ _ _ rfl ?_)))))))
   obtain rfl := someI hM1
   exact zz1 _ _ _ _ rfl rfl (je1_1 _ _ rfl hst (ho1 _ rfl))
  ·refine condF (e0 rfl) (dF c16) (wp_skip (qb21 _ _ _ (k20 _ _ (wR (Y wn rfl (ym (v := iV x7) (et rfl e1_3)) (Y wn rfl (yadd (e0 rfl) rfl) (Y wn rfl (ya (v := iV (wa .i64 x7 1)) (e0 rfl)) (wN ?_))))))))
   obtain rfl := someI hM1
   exact n1 _ _ _ rfl ⟨_, _, rfl, rfl, e1_0, rfl, hst⟩
 ·refine condF (e0 rfl) (dF c13) (wp_exit (z18 _ _ _ rfl ?_))
  obtain rfl := someI hM1
  exact zz1 _ _ _ _ rfl rfl (je1_0 _ _ hst (ho1 _ rfl))

theorem sparsekit_In_ok {x1 : List Int} {x3 : Int} {h2 : Hdr} {out : Bool} (hM : sparsekit_In x1 x3 = some out) (q1 : imm (rI .i64) h2.v x1 ∈ ros) (hst : St w0 ros (rs) w) :
  Calls Tryz.prog 37 #[h2.v, iV x3] w (fun e w => e = .returned (.bool out) ∧ St w0 (ros) (rs) w) := by
 refine enterQ Tryz.func37 rfl Tryz.ntmps37 rfl fun Q hQ => seqQ fun Q1 k1 z1 => wR (Y wn rfl (ya (v := .bool false) rfl) (wN (k1 _ _ (seqQ fun Q2 k2 z2 => seqQ fun Q3 k3 z3 => wR (Y wn rfl (ya (v := iV 0) rfl) (wN (k3 _ _ (blockQ fun Q4 qb4 => ?_))))))))
 obtain ⟨o1, go1, hM⟩ := bs hM
 have je1_0 : ∀ (f : Nat → Value) (w : World), St w0 (ros) (rs) w → .inl () = o1 → Q4 (.exit 0) (fr 18 f) w := by
  intro f w hst ho
  subst ho
  refine qb4 _ _ _ (k2 _ _ (seqQ fun Q17 k17 z17 => wR (Y wn rfl (ya (v := .bool false) rfl) (wN (k17 _ _ (wp_ret ?_))))))
  obtain rfl := someI hM
  exact hQ _ _ _ (fin1r Tryz.results37 ⟨rfl, rfl⟩ ⟨rfl, hst⟩)
 have je1_1 : ∀ (f : Nat → Value) (w : World), f 4 = .bool true → St w0 (ros) (rs) w → .inr () = o1 → Q4 .ret (fr 18 f) w := by
  intro f w eje1_1_4 hst ho
  subst ho
  refine qb4 _ _ _ (z2 _ _ _ rfl ?_)
  obtain rfl := someI hM
  exact hQ _ _ _ (fin1r Tryz.results37 ⟨rfl, eje1_1_4⟩ ⟨rfl, hst⟩)
 refine loopQ (fun s a w => ∃ (x7 : Int) (f : Nat → Value), x7 = s ∧ a = fr 18 f ∧ f 0 = h2.v ∧ f 1 = iV x3 ∧ f 5 = iV x7 ∧ St w0 (ros) (rs) w) go1 ⟨_, _, rfl, rfl, rfl, rfl, rfl, hst⟩ ?_
 rintro _ _ w r1_ ⟨x7, f, rfl, rfl, e1_0, e1_1, e1_5, hst⟩ hM1 ho1 Q100001 n1 zz1
 refine seqQ fun Q18 k18 z18 => seqQ fun Q19 k19 z19 => wR (Y wn rfl (ym (v := iV x7) (et rfl e1_5)) (Y wn rfl (ym (v := h2.v) (et rfl e1_0)) (Y wn rfl (yLen SL_22 (e0 rfl) hst (rdI q1)) (Y wn rfl (ylss (e0 rfl) (e0 rfl)) (wN (k19 _ _ ?_))))))
 rcases iteS hM1 with ⟨c12, hM1⟩ | ⟨c12, hM1⟩
 ·refine condT (e0 rfl) (dT c12) (wp_skip (k18 _ _ (seqQ fun Q20 k20 z20 => blockQ fun Q21 qb21 => seqQ fun Q22 k22 z22 => wR (Y wn rfl (ym (v := h2.v) (et rfl e1_0)) (Y wn rfl (ym (v := iV x7) (et rfl e1_5)) ?_)))))
  obtain ⟨x13, gx13, hM1⟩ := bs hM1
  refine Y wn rfl (yIa SL_22 (e0 rfl) (e0 rfl) hst (rdI q1) gx13) (Y wn rfl (yI O_3 (e0 rfl) hst (rdI q1) gx13) (Y wn rfl (ym (v := iV x3) (et rfl e1_1)) (Y wn rfl (yeql (e0 rfl) (e0 rfl)) (wN (k22 _ _ ?_)))))
  rcases iteS hM1 with ⟨c14, hM1⟩ | ⟨c14, hM1⟩
  ·refine condT (e0 rfl) (dT c14) (seqQ fun Q23 k23 z23 => wR (Y wn rfl (ya (v := .bool true) rfl) (wN (k23 _ _ (wp_ret (qb21 _ _ _ (z20 _ _ _ rfl ?_)))))))
   obtain rfl := someI hM1
   exact zz1 _ _ _ _ rfl rfl (je1_1 _ _ rfl hst (ho1 _ rfl))
  ·refine condF (e0 rfl) (dF c14) (wp_skip (qb21 _ _ _ (k20 _ _ (wR (Y wn rfl (ym (v := iV x7) (et rfl e1_5)) (Y wn rfl (yadd (e0 rfl) rfl) (Y wn rfl (ya (v := iV (wa .i64 x7 1)) (e0 rfl)) (wN ?_))))))))
   obtain rfl := someI hM1
   exact n1 _ _ _ rfl ⟨_, _, rfl, rfl, e1_0, e1_1, rfl, hst⟩
 ·refine condF (e0 rfl) (dF c12) (wp_exit (z18 _ _ _ rfl ?_))
  obtain rfl := someI hM1
  exact zz1 _ _ _ _ rfl rfl (je1_0 _ _ hst (ho1 _ rfl))

theorem sparseref12_Check_ok {x1 : List (List Int)} {h2 : Hdr} {out : Int} (hM : sparseref12_Check x1 = some out) (q1 : imm (rS (rI .i64)) h2.v x1 ∈ ros) (hst : St w0 ros (rs) w) :
  Calls Tryz.prog 54 #[.agg #[h2.v]] w (fun e w => e = .returned (iV out) ∧ St w0 (ros) (rs) w) := by
 refine enterQ Tryz.func54 rfl Tryz.ntmps54 rfl fun Q hQ => seqQ fun Q1 k1 z1 => wR (YB wn rfl (r_box (vals := [h2.v]) hst (e0 rfl) rfl) ?_)
 intro b3 w hst
 refine Y wn rfl (ya (v := iV 0) rfl) (wN (k1 _ _ (seqQ fun Q2 k2 z2 => wR (Y wn rfl (yFb FL_26_0 (e0 rfl)) (Y wn rfl (yLb (u := h2.v) O_24 (e0 rfl) hst mhR rfl) (Y wn rfl (yLen SL_24 (e0 rfl) hst (rdI q1)) (Y wn rfl (ya (v := iV (x1.length : Int)) (e0 rfl)) (wN (k2 _ _ (seqQ fun Q3 k3 z3 => seqQ fun Q4 k4 z4 => wR ?_))))))))))
 refine Y wn rfl (ym (v := iV (x1.length : Int)) (e0 rfl)) (Y wn rfl (ygtr (e0 rfl) rfl) (wN (k4 _ _ ?_)))
 rcases iteS hM with ⟨c4, hM⟩ | ⟨c4, hM⟩
 ·refine condT (e0 rfl) (dT c4) (seqQ fun Q5 k5 z5 => wR (Y wn rfl (ya (v := iV 6) rfl) (wN (k5 _ _ (wp_ret (z3 _ _ _ rfl ?_))))))
  obtain rfl := someI hM
  exact hQ _ _ _ (fin1r Tryz.results54 ⟨rfl, rfl⟩ ⟨rfl, (hst.pk 1 [] rfl)⟩)
 ·refine condF (e0 rfl) (dF c4) (wp_skip (k3 _ _ (seqQ fun Q6 k6 z6 => seqQ fun Q7 k7 z7 => wR (Y wn rfl (ya (v := iV 0) rfl) (wN (k7 _ _ (blockQ fun Q8 qb8 => ?_)))))))
  obtain ⟨o21, go21, hM⟩ := bs hM
  have je21_0 : ∀ (f : Nat → Value) (w : World), St w0 (ros) (rs) w → .inl () = o21 → Q8 (.exit 0) (fr 64 f) w := by
   intro f w hst ho
   subst ho
   refine qb8 _ _ _ (k6 _ _ (seqQ fun Q69 k69 z69 => wR (Y wn rfl (ya (v := iV 0) rfl) (wN (k69 _ _ (wp_ret ?_))))))
   obtain rfl := someI hM
   exact hQ _ _ _ (fin1r Tryz.results54 ⟨rfl, rfl⟩ ⟨rfl, hst⟩)
  have je21_1 : ∀ (f : Nat → Value) (w : World), f 2 = iV 1 → St w0 (ros) (rs) w → .inr () = o21 → Q8 .ret (fr 64 f) w := by
   intro f w eje21_1_2 hst ho
   subst ho
   refine qb8 _ _ _ (z6 _ _ _ rfl ?_)
   obtain rfl := someI hM
   exact hQ _ _ _ (fin1r Tryz.results54 ⟨rfl, eje21_1_2⟩ ⟨rfl, hst⟩)
  refine loopQ (fun s a w => ∃ (x72 : Int) (f : Nat → Value), x72 = s ∧ a = fr 64 f ∧ f 1 = (pB b3) ∧ f 3 = iV (x1.length : Int) ∧ f 4 = iV x72 ∧ St w0 (ros) (box b3 26 [h2.v] :: rs) w) go21 ⟨_, _, rfl, rfl, rfl, rfl, rfl, hst⟩ ?_
  rintro _ _ w r21_ ⟨x72, f, rfl, rfl, e21_1, e21_3, e21_4, hst⟩ hM21 ho21 Q100021 n21 zz21
  refine seqQ fun Q70 k70 z70 => seqQ fun Q71 k71 z71 => wR (Y wn rfl (ym (v := iV x72) (et rfl e21_4)) (Y wn rfl (ym (v := iV (x1.length : Int)) (et rfl e21_3)) (Y wn rfl (ylss (e0 rfl) (e0 rfl)) (wN (k71 _ _ ?_)))))
  rcases iteS hM21 with ⟨c141, hM21⟩ | ⟨c141, hM21⟩
  ·refine condT (e0 rfl) (dT c141) (wp_skip (k70 _ _ (seqQ fun Q72 k72 z72 => blockQ fun Q73 qb73 => seqQ fun Q74 k74 z74 => seqQ fun Q75 k75 z75 => wR (Y wn rfl (yFb FL_26_0 (et rfl e21_1)) (Y wn rfl (yLb (u := h2.v) O_24 (e0 rfl) hst mhR rfl) (Y wn rfl (ym (v := iV x72) (et rfl e21_4)) ?_))))))
   obtain ⟨x142, gx142, hM21⟩ := bs hM21
   refine Y wn rfl (yIa SL_24 (e0 rfl) (e0 rfl) hst (rdI q1) gx142) ?_
   obtain ⟨h143, hst⟩ := iLs hst q1 gx142
   refine Y wn rfl (yCt O_22 (e0 rfl) hst (mtF mhF) rfl) ?_
   obtain ⟨r144, gr144, hM21⟩ := bs hM21
   refine Yc wn rfl (yCall FN_66 (a1 (e0 rfl))) (sparsekit_Ascending_ok (hM := gr144) (hst := hst) (q1 := mhF)) ?_
   rintro _ w ⟨rfl, hst⟩
   refine ⟨_, rfl, ?_⟩
   refine Y wn rfl (ynot (e0 rfl)) (wN (k75 _ _ ?_))
   rcases iteS hM21 with ⟨c145, hM21⟩ | ⟨c145, hM21⟩
   ·refine condF (e0 rfl) (nF c145) (wp_skip (k74 _ _ (seqQ fun Q76 k76 z76 => wR (Y wn rfl (ya (v := iV 0) rfl) (wN (k76 _ _ (blockQ fun Q77 qb77 => ?_)))))))
    obtain ⟨o28, go28, hM21⟩ := bs hM21
    have je28_0 : ∀ (f : Nat → Value) (w : World), f 1 = (pB b3) → f 3 = iV (x1.length : Int) → f 4 = iV x72 → St w0 (ros) (box b3 26 [h2.v] :: rs) w → .inl () = o28 → Q77 (.exit 2) (fr 64 f) w := by
     intro f w eje28_0_1 eje28_0_3 eje28_0_4 hst ho
     subst ho
     refine qb77 _ _ _ (qb73 _ _ _ (k72 _ _ (wR (Y wn rfl (ym (v := iV x72) (et rfl eje28_0_4)) (Y wn rfl (yadd (e0 rfl) rfl) (Y wn rfl (ya (v := iV (wa .i64 x72 1)) (e0 rfl)) (wN ?_)))))))
     obtain rfl := someI hM21
     exact n21 _ _ _ rfl ⟨_, _, rfl, rfl, eje28_0_1, eje28_0_3, rfl, hst⟩
    have je28_1 : ∀ (f : Nat → Value) (w : World), f 2 = iV 1 → St w0 (ros) (rs) w → .inr () = o28 → Q77 .ret (fr 64 f) w := by
     intro f w eje28_1_2 hst ho
     subst ho
     refine qb77 _ _ _ (qb73 _ _ _ (z72 _ _ _ rfl ?_))
     obtain rfl := someI hM21
     exact zz21 _ _ _ _ rfl rfl (je21_1 _ _ eje28_1_2 hst (ho21 _ rfl))
    refine loopQ (fun s a w => ∃ (x166 : Int) (f : Nat → Value), x166 = s ∧ a = fr 64 f ∧ f 1 = (pB b3) ∧ f 3 = iV (x1.length : Int) ∧ f 4 = iV x72 ∧ f 5 = iV x166 ∧ St w0 (ros) (box b3 26 [h2.v] :: rs) w) go28 ⟨_, _, rfl, rfl, e21_1, e21_3, e21_4, rfl, (hst.facts (allT (allT allI)))⟩ ?_
    rintro _ _ w r28_ ⟨x166, f, rfl, rfl, e28_1, e28_3, e28_4, e28_5, hst⟩ hM28 ho28 Q100028 n28 zz28
    refine seqQ fun Q92 k92 z92 => seqQ fun Q93 k93 z93 => wR (Y wn rfl (ym (v := iV x166) (et rfl e28_5)) (Y wn rfl (yFb FL_26_0 (et rfl e28_1)) (Y wn rfl (yLb (u := h2.v) O_24 (e0 rfl) hst mhR rfl) (Y wn rfl (ym (v := iV x72) (et rfl e28_4)) ?_))))
    obtain ⟨x188, gx188, hM28⟩ := bs hM28
    refine Y wn rfl (yIa SL_24 (e0 rfl) (e0 rfl) hst (rdI q1) gx188) ?_
    obtain ⟨h189, hst⟩ := iLs hst q1 gx188
    refine Y wn rfl (yCt O_22 (e0 rfl) hst (mtF mhF) rfl) (Y wn rfl (yLen SL_22 (e0 rfl) hst (rdI mhF)) (Y wn rfl (ylss (e0 rfl) (e0 rfl)) (wN (k93 _ _ ?_))))
    rcases iteS hM28 with ⟨c190, hM28⟩ | ⟨c190, hM28⟩
    ·refine condT (e0 rfl) (dT c190) (wp_skip (k92 _ _ (seqQ fun Q94 k94 z94 => blockQ fun Q95 qb95 => seqQ fun Q96 k96 z96 => wR (Y wn rfl (yFb FL_26_0 (et rfl e28_1)) (Y wn rfl (yLb (u := h2.v) O_24 (e0 rfl) hst mhR rfl) (Y wn rfl (ym (v := iV x72) (et rfl e28_4)) ?_))))))
     obtain ⟨x191, gx191, hM28⟩ := bs hM28
     refine Y wn rfl (yIa SL_24 (e0 rfl) (e0 rfl) hst (rdI (mtF (mtF q1))) gx191) ?_
     obtain ⟨h192, hst⟩ := iLs hst (mtF (mtF q1)) gx191
     refine Y wn rfl (yCt O_22 (e0 rfl) hst (mtF mhF) rfl) (Y wn rfl (ym (v := iV x166) (et rfl e28_5)) ?_)
     obtain ⟨x193, gx193, hM28⟩ := bs hM28
     refine Y wn rfl (yIa SL_22 (e0 rfl) (e0 rfl) hst (rdI mhF) gx193) (Y wn rfl (yI O_3 (e0 rfl) hst (rdI mhF) gx193) (Y wn rfl (ya (v := iV x193) (e0 rfl)) (wN (k96 _ _ (seqQ fun Q97 k97 z97 => wR (Y wn rfl (ym (v := iV x193) (e0 rfl)) (Y wn rfl (ylss (e0 rfl) rfl) (Y wn rfl (ym (v := .bool (decide (x193 < 0))) (e0 rfl)) ?_))))))))
     refine joinW 4 (fun f w => f 1 = (pB b3) ∧ f 3 = iV (x1.length : Int) ∧ f 4 = iV x72 ∧ f 5 = iV x166 ∧ f 6 = iV x193 ∧ f 48 = .bool ((decide (x193 < 0)) || (decide ((x1.length : Int) ≤ x193))) ∧ St w0 (ros) (box b3 26 [h2.v] :: rs) w) (fun j29 => ?_) ?_
     ·rcases Bool.eq_false_or_eq_true (decide (x193 < 0)) with c195 | c195
      ·exact Gn (wx rfl rfl rfl c195) rfl (Gn (wx rfl rfl rfl c195) rfl (Gn (wx rfl rfl rfl c195) rfl (Y wn rfl (ypt (v := .bool true) (e0 rfl) c195 rfl) (j29 _ _ ⟨e28_1, e28_3, e28_4, e28_5, rfl, (congrArg Value.bool (orT c195)), (hst.facts (allT (allT (allT (allT allI)))))⟩))))
      ·exact Y (wg rfl rfl rfl c195) rfl (ym (v := iV x193) (e0 rfl)) (Y (wg rfl rfl rfl c195) rfl (ym (v := iV (x1.length : Int)) (et rfl e28_3)) (Y (wg rfl rfl rfl c195) rfl (ygeq (e0 rfl) (e0 rfl)) (Y wn rfl (ypf (v := .bool (decide ((x1.length : Int) ≤ x193))) (e0 rfl) c195 (e0 rfl)) (j29 _ _ ⟨e28_1, e28_3, e28_4, e28_5, rfl, (congrArg Value.bool (orF c195)), (hst.facts (allT (allT (allT (allT allI)))))⟩))))
     rintro f w ⟨e194_1, e194_3, e194_4, e194_5, e194_6, e194_48, hst⟩
     refine Y wn rfl (ym (v := .bool ((decide (x193 < 0)) || (decide ((x1.length : Int) ≤ x193)))) (et rfl e194_48)) ?_
     refine joinW 4 (fun f w => f 1 = (pB b3) ∧ f 3 = iV (x1.length : Int) ∧ f 4 = iV x72 ∧ f 5 = iV x166 ∧ f 6 = iV x193 ∧ f 53 = .bool (((decide (x193 < 0)) || (decide ((x1.length : Int) ≤ x193))) || (decide (x193 = x72))) ∧ St w0 (ros) (box b3 26 [h2.v] :: rs) w) (fun j30 => ?_) ?_
     ·rcases Bool.eq_false_or_eq_true (((decide (x193 < 0)) || (decide ((x1.length : Int) ≤ x193)))) with c197 | c197
      ·exact Gn (wx rfl rfl rfl c197) rfl (Gn (wx rfl rfl rfl c197) rfl (Gn (wx rfl rfl rfl c197) rfl (Y wn rfl (ypt (v := .bool true) (e0 rfl) c197 rfl) (j30 _ _ ⟨e194_1, e194_3, e194_4, e194_5, e194_6, (congrArg Value.bool (orT c197)), hst⟩))))
      ·exact Y (wg rfl rfl rfl c197) rfl (ym (v := iV x193) (et rfl e194_6)) (Y (wg rfl rfl rfl c197) rfl (ym (v := iV x72) (et rfl e194_4)) (Y (wg rfl rfl rfl c197) rfl (yeql (e0 rfl) (e0 rfl)) (Y wn rfl (ypf (v := .bool (decide (x193 = x72))) (e0 rfl) c197 (e0 rfl)) (j30 _ _ ⟨e194_1, e194_3, e194_4, e194_5, e194_6, (congrArg Value.bool (orF c197)), hst⟩))))
     rintro f w ⟨e196_1, e196_3, e196_4, e196_5, e196_6, e196_53, hst⟩
     refine Y wn rfl (ym (v := .bool (((decide (x193 < 0)) || (decide ((x1.length : Int) ≤ x193))) || (decide (x193 = x72)))) (et rfl e196_53)) ?_
     obtain ⟨r201, gr201, hM28⟩ := bs hM28
     refine joinW 9 (fun f w => f 1 = (pB b3) ∧ f 3 = iV (x1.length : Int) ∧ f 4 = iV x72 ∧ f 5 = iV x166 ∧ f 63 = .bool r201 ∧ St w0 (ros) (box b3 26 [h2.v] :: rs) w) (fun j31 => ?_) ?_
     ·rcases iteS gr201 with ⟨c203, gr201⟩ | ⟨c203, gr201⟩
      ·refine Gn (wx rfl rfl rfl c203) rfl (Gn (wx rfl rfl rfl c203) rfl (Gn (wx rfl rfl rfl c203) rfl (Gn (wx rfl rfl rfl c203) rfl (Gn (wx rfl rfl rfl c203) rfl (Gn (wx rfl rfl rfl c203) rfl (Gn (wx rfl rfl rfl c203) rfl (Gn (wx rfl rfl rfl c203) rfl (Y wn rfl (ypt (v := .bool true) (e0 rfl) c203 rfl) ?_))))))))
       obtain rfl := someI gr201
       exact j31 _ _ ⟨e196_1, e196_3, e196_4, e196_5, rfl, hst⟩
      ·refine Y (wg rfl rfl rfl (bfalse c203)) rfl (yFb FL_26_0 (et rfl e196_1)) (Y (wg rfl rfl rfl (bfalse c203)) rfl (yLb (u := h2.v) O_24 (e0 rfl) hst mhR rfl) (Y (wg rfl rfl rfl (bfalse c203)) rfl (ym (v := iV x193) (et rfl e196_6)) ?_))
       obtain ⟨x204, gx204, gr201⟩ := bs gr201
       refine Y (wg rfl rfl rfl (bfalse c203)) rfl (yIa SL_24 (e0 rfl) (e0 rfl) hst (rdI q1) gx204) ?_
       obtain ⟨h205, hst⟩ := iLs hst q1 gx204
       refine Y (wg rfl rfl rfl (bfalse c203)) rfl (yCt O_22 (e0 rfl) hst (mtF mhF) rfl) (Y (wg rfl rfl rfl (bfalse c203)) rfl (ym (v := iV x72) (et rfl e196_4)) ?_)
       obtain ⟨r206, gr206, gr201⟩ := bs gr201
       refine Yc (wg rfl rfl rfl (bfalse c203)) rfl (yCall FN_37 (a2 (e0 rfl) (e0 rfl))) (sparsekit_In_ok (hM := gr206) (hst := hst) (q1 := mhF)) ?_
       rintro _ w ⟨rfl, hst⟩
       refine ⟨_, rfl, ?_⟩
       refine Y (wg rfl rfl rfl (bfalse c203)) rfl (ynot (e0 rfl)) (Y wn rfl (ypf (v := .bool (!(r206))) (e0 rfl) (bfalse c203) (e0 rfl)) ?_)
       obtain rfl := someI gr201
       exact j31 _ _ ⟨e196_1, e196_3, e196_4, e196_5, rfl, (hst.facts (allT (allT allI)))⟩
     rintro f w ⟨e202_1, e202_3, e202_4, e202_5, e202_63, hst⟩
     refine wN (k97 _ _ ?_)
     rcases iteS hM28 with ⟨c207, hM28⟩ | ⟨c207, hM28⟩
     ·refine condT (et rfl e202_63) c207 (seqQ fun Q98 k98 z98 => wR (Y wn rfl (ya (v := iV 1) rfl) (wN (k98 _ _ (wp_ret (qb95 _ _ _ (z94 _ _ _ rfl ?_)))))))
      obtain rfl := someI hM28
      exact zz28 _ _ _ _ rfl rfl (je28_1 _ _ rfl (hst.pk 1 [] rfl) (ho28 _ rfl))
     ·refine condF (et rfl e202_63) (bfalse c207) (wp_skip (qb95 _ _ _ (k94 _ _ (wR (Y wn rfl (ym (v := iV x166) (et rfl e202_5)) (Y wn rfl (yadd (e0 rfl) rfl) (Y wn rfl (ya (v := iV (wa .i64 x166 1)) (e0 rfl)) (wN ?_))))))))
      obtain rfl := someI hM28
      exact n28 _ _ _ rfl ⟨_, _, rfl, rfl, e202_1, e202_3, e202_4, rfl, hst⟩
    ·refine condF (e0 rfl) (dF c190) (wp_exit (z92 _ _ _ rfl ?_))
     obtain rfl := someI hM28
     exact zz28 _ _ _ _ rfl rfl (je28_0 _ _ e28_1 e28_3 e28_4 (hst.facts (allT (allT allI))) (ho28 _ rfl))
   ·refine condT (e0 rfl) (nT (bfalse c145)) (seqQ fun Q99 k99 z99 => wR (Y wn rfl (ya (v := iV 1) rfl) (wN (k99 _ _ (wp_ret (z74 _ _ _ rfl (qb73 _ _ _ (z72 _ _ _ rfl ?_))))))))
    obtain rfl := someI hM21
    exact zz21 _ _ _ _ rfl rfl (je21_1 _ _ rfl ((hst.pk 1 [] rfl).facts (allT (allT allI))) (ho21 _ rfl))
  ·refine condF (e0 rfl) (dF c141) (wp_exit (z70 _ _ _ rfl ?_))
   obtain rfl := someI hM21
   exact zz21 _ _ _ _ rfl rfl (je21_0 _ _ (hst.pk 1 [] rfl) (ho21 _ rfl))

theorem sparseref18_edge_ok {x1 : List (List Int)} {x3 : List Int} {x5 : List (List Int)} {x7 : Int} {x8 : Int} {h2 : Hdr} {h4 : Hdr} {h6 : Hdr} {out : Int} (hM : sparseref18_edge x1 x3 x5 x7 x8 = some out) (q1 : imm (rS (rI .i64)) h2.v x1 ∈ ros) (q2 : imm (rI .i64) h4.v x3 ∈ ros) (q3 : imm (rS (rI .i64)) h6.v x5 ∈ ros) (hst : St w0 ros (rs) w) :
  Calls Tryz.prog 55 #[.agg #[h2.v, h4.v, h6.v], iV x7, iV x8] w (fun e w => e = .returned (iV out) ∧ St w0 (ros) (rs) w) := by
 refine enterQ Tryz.func55 rfl Tryz.ntmps55 rfl fun Q hQ => seqQ fun Q1 k1 z1 => wR (YB wn rfl (r_box (vals := [h2.v, h4.v, h6.v]) hst (e0 rfl) rfl) ?_)
 intro b9 w hst
 refine Y wn rfl (ya (v := iV 0) rfl) (wN (k1 _ _ (seqQ fun Q2 k2 z2 => seqQ fun Q3 k3 z3 => wR (Y wn rfl (ya (v := iV 0) rfl) (wN (k3 _ _ (blockQ fun Q4 qb4 => ?_)))))))
 obtain ⟨o1, go1, hM⟩ := bs hM
 have je1_0 : ∀ (f : Nat → Value) (w : World), St w0 (ros) (rs) w → .inl () = o1 → Q4 (.exit 0) (fr 38 f) w := by
  intro f w hst ho
  subst ho
  refine qb4 _ _ _ (k2 _ _ (seqQ fun Q17 k17 z17 => wR (Y wn rfl (ya (v := iV 0) rfl) (wN (k17 _ _ (wp_ret ?_))))))
  obtain rfl := someI hM
  exact hQ _ _ _ (fin1r Tryz.results55 ⟨rfl, rfl⟩ ⟨rfl, hst⟩)
 have je1_1 : ∀ (x32 : Int) (f : Nat → Value) (w : World), f 6 = iV x32 → St w0 (ros) (rs) w → .inr x32 = o1 → Q4 .ret (fr 38 f) w := by
  intro x32 f w eje1_1_6 hst ho
  subst ho
  refine qb4 _ _ _ (z2 _ _ _ rfl ?_)
  obtain rfl := someI hM
  exact hQ _ _ _ (fin1r Tryz.results55 ⟨rfl, eje1_1_6⟩ ⟨rfl, hst⟩)
 refine loopQ (fun s a w => ∃ (x20 : Int) (f : Nat → Value), x20 = s ∧ a = fr 38 f ∧ f 1 = iV x7 ∧ f 2 = iV x8 ∧ f 3 = (pB b9) ∧ f 7 = iV x20 ∧ St w0 (ros) (box b9 28 [h2.v, h4.v, h6.v] :: rs) w) go1 ⟨_, _, rfl, rfl, rfl, rfl, rfl, rfl, hst⟩ ?_
 rintro _ _ w r1_ ⟨x20, f, rfl, rfl, e1_1, e1_2, e1_3, e1_7, hst⟩ hM1 ho1 Q100001 n1 zz1
 refine seqQ fun Q18 k18 z18 => seqQ fun Q19 k19 z19 => wR (Y wn rfl (ym (v := iV x20) (et rfl e1_7)) (Y wn rfl (yFb FL_28_0 (et rfl e1_3)) (Y wn rfl (yFb FL_26_0 (e0 rfl)) (Y wn rfl (yLb (u := h2.v) O_24 (e0 rfl) hst mhR rfl) (Y wn rfl (ym (v := iV x7) (et rfl e1_1)) ?_)))))
 obtain ⟨x33, gx33, hM1⟩ := bs hM1
 refine Y wn rfl (yIa SL_24 (e0 rfl) (e0 rfl) hst (rdI q1) gx33) ?_
 obtain ⟨h34, hst⟩ := iLs hst q1 gx33
 refine Y wn rfl (yCt O_22 (e0 rfl) hst (mtF mhF) rfl) (Y wn rfl (yLen SL_22 (e0 rfl) hst (rdI mhF)) (Y wn rfl (ylss (e0 rfl) (e0 rfl)) (wN (k19 _ _ ?_))))
 rcases iteS hM1 with ⟨c35, hM1⟩ | ⟨c35, hM1⟩
 ·refine condT (e0 rfl) (dT c35) (wp_skip (k18 _ _ (seqQ fun Q20 k20 z20 => blockQ fun Q21 qb21 => seqQ fun Q22 k22 z22 => wR (Y wn rfl (yFb FL_28_0 (et rfl e1_3)) (Y wn rfl (yFb FL_26_0 (e0 rfl)) (Y wn rfl (yLb (u := h2.v) O_24 (e0 rfl) hst mhR rfl) (Y wn rfl (ym (v := iV x7) (et rfl e1_1)) ?_)))))))
  obtain ⟨x36, gx36, hM1⟩ := bs hM1
  refine Y wn rfl (yIa SL_24 (e0 rfl) (e0 rfl) hst (rdI (mtF (mtF q1))) gx36) ?_
  obtain ⟨h37, hst⟩ := iLs hst (mtF (mtF q1)) gx36
  refine Y wn rfl (yCt O_22 (e0 rfl) hst (mtF mhF) rfl) (Y wn rfl (ym (v := iV x20) (et rfl e1_7)) ?_)
  obtain ⟨x38, gx38, hM1⟩ := bs hM1
  refine Y wn rfl (yIa SL_22 (e0 rfl) (e0 rfl) hst (rdI mhF) gx38) (Y wn rfl (yI O_3 (e0 rfl) hst (rdI mhF) gx38) (Y wn rfl (ym (v := iV x8) (et rfl e1_2)) (Y wn rfl (yeql (e0 rfl) (e0 rfl)) (wN (k22 _ _ ?_)))))
  rcases iteS hM1 with ⟨c39, hM1⟩ | ⟨c39, hM1⟩
  ·refine condT (e0 rfl) (dT c39) (seqQ fun Q23 k23 z23 => wR (Y wn rfl (yFb FL_28_2 (et rfl e1_3)) (Y wn rfl (yLb (u := h6.v) O_24 (e0 rfl) hst mhR rfl) (Y wn rfl (ym (v := iV x7) (et rfl e1_1)) ?_))))
   obtain ⟨x40, gx40, hM1⟩ := bs hM1
   refine Y wn rfl (yIa SL_24 (e0 rfl) (e0 rfl) hst (rdI (mtF (mtF (mtF (mtF q3))))) gx40) ?_
   obtain ⟨h41, hst⟩ := iLs hst (mtF (mtF (mtF (mtF q3)))) gx40
   refine Y wn rfl (yCt O_22 (e0 rfl) hst (mtF mhF) rfl) (Y wn rfl (ym (v := iV x20) (et rfl e1_7)) ?_)
   obtain ⟨x42, gx42, hM1⟩ := bs hM1
   refine Y wn rfl (yIa SL_22 (e0 rfl) (e0 rfl) hst (rdI mhF) gx42) (Y wn rfl (yI O_3 (e0 rfl) hst (rdI mhF) gx42) (Y wn rfl (ya (v := iV x42) (e0 rfl)) (wN (k23 _ _ (wp_ret (qb21 _ _ _ (z20 _ _ _ rfl ?_)))))))
   obtain rfl := someI hM1
   exact zz1 _ _ _ _ rfl rfl (je1_1 _ _ _ rfl ((hst.pk 1 [] rfl).facts (allT (allT (allT (allT (allT (allT allI))))))) (ho1 _ rfl))
  ·refine condF (e0 rfl) (dF c39) (wp_skip (qb21 _ _ _ (k20 _ _ (wR (Y wn rfl (ym (v := iV x20) (et rfl e1_7)) (Y wn rfl (yadd (e0 rfl) rfl) (Y wn rfl (ya (v := iV (wa .i64 x20 1)) (e0 rfl)) (wN ?_))))))))
   obtain rfl := someI hM1
   exact n1 _ _ _ rfl ⟨_, _, rfl, rfl, e1_1, e1_2, e1_3, rfl, (hst.facts (allT (allT (allT (allT allI)))))⟩
 ·refine condF (e0 rfl) (dF c35) (wp_exit (z18 _ _ _ rfl ?_))
  obtain rfl := someI hM1
  exact zz1 _ _ _ _ rfl rfl (je1_0 _ _ ((hst.pk 1 [] rfl).facts (allT (allT allI))) (ho1 _ rfl))

theorem sparseref18_CheckWeighted_ok {x1 : List (List Int)} {x3 : List Int} {x5 : List (List Int)} {h2 : Hdr} {h4 : Hdr} {h6 : Hdr} {out : Int} (hM : sparseref18_CheckWeighted x1 x3 x5 = some out) (q1 : imm (rS (rI .i64)) h2.v x1 ∈ ros) (q2 : imm (rI .i64) h4.v x3 ∈ ros) (q3 : imm (rS (rI .i64)) h6.v x5 ∈ ros) (hst : St w0 ros (rs) w) :
  Calls Tryz.prog 24 #[.agg #[h2.v, h4.v, h6.v]] w (fun e w => e = .returned (iV out) ∧ St w0 (ros) (rs) w) := by
 refine enterQ Tryz.func24 rfl Tryz.ntmps24 rfl fun Q hQ => seqQ fun Q1 k1 z1 => wR (YB wn rfl (r_box (vals := [h2.v, h4.v, h6.v]) hst (e0 rfl) rfl) ?_)
 intro b7 w hst
 refine Y wn rfl (ya (v := iV 0) rfl) (wN (k1 _ _ (seqQ fun Q2 k2 z2 => seqQ fun Q3 k3 z3 => wR (Y wn rfl (yFb FL_28_0 (e0 rfl)) (Y wn rfl (yLbs (us := [h2.v]) ST_26 (e0 rfl) hst mhR rfl rfl) ?_)))))
 obtain ⟨r8, gr8, hM⟩ := bs hM
 refine Yc wn rfl (yCall FN_54 (a1 (e0 rfl))) (sparseref12_Check_ok (hM := gr8) (hst := hst) (q1 := q1)) ?_
 rintro _ w ⟨rfl, hst⟩
 refine ⟨_, rfl, ?_⟩
 refine Y wn rfl (ya (v := iV r8) (e0 rfl)) (wN (k3 _ _ (seqQ fun Q4 k4 z4 => wR (Y wn rfl (ym (v := iV r8) (e0 rfl)) (Y wn rfl (yneq (e0 rfl) rfl) (wN (k4 _ _ ?_)))))))
 rcases iteS hM with ⟨c9, hM⟩ | ⟨c9, hM⟩
 ·refine condF (e0 rfl) (nF (dT c9)) (wp_skip (k2 _ _ (seqQ fun Q5 k5 z5 => wR (Y wn rfl (yFb FL_28_0 (e0 rfl)) (Y wn rfl (yFb FL_26_0 (e0 rfl)) (Y wn rfl (yLb (u := h2.v) O_24 (e0 rfl) hst mhR rfl) (Y wn rfl (yLen SL_24 (e0 rfl) hst (rdI q1)) (Y wn rfl (ya (v := iV (x1.length : Int)) (e0 rfl)) (wN (k5 _ _ (seqQ fun Q6 k6 z6 => seqQ fun Q7 k7 z7 => ?_)))))))))))
  refine wR (Y wn rfl (yFb FL_28_1 (e0 rfl)) (Y wn rfl (yLb (u := h4.v) O_22 (e0 rfl) hst mhR rfl) (Y wn rfl (yLen SL_22 (e0 rfl) hst (rdI q2)) (Y wn rfl (ym (v := iV (x1.length : Int)) (e0 rfl)) (Y wn rfl (yneq (e0 rfl) (e0 rfl)) (Y wn rfl (ym (v := .bool (!(decide ((x3.length : Int) = (x1.length : Int))))) (e0 rfl)) ?_))))))
  refine joinW 6 (fun f w => f 1 = (pB b7) ∧ f 4 = iV (x1.length : Int) ∧ f 30 = .bool ((!(decide ((x3.length : Int) = (x1.length : Int)))) || (!(decide ((x5.length : Int) = (x1.length : Int))))) ∧ St w0 (ros) (box b7 28 [h2.v, h4.v, h6.v] :: rs) w) (fun j1 => ?_) ?_
  ·rcases Bool.eq_false_or_eq_true (!(decide ((x3.length : Int) = (x1.length : Int)))) with c11 | c11
   ·exact Gn (wx rfl rfl rfl c11) rfl (Gn (wx rfl rfl rfl c11) rfl (Gn (wx rfl rfl rfl c11) rfl (Gn (wx rfl rfl rfl c11) rfl (Gn (wx rfl rfl rfl c11) rfl (Y wn rfl (ypt (v := .bool true) (e0 rfl) c11 rfl) (j1 _ _ ⟨rfl, rfl, (congrArg Value.bool (orT c11)), hst⟩))))))
   ·exact Y (wg rfl rfl rfl c11) rfl (yFb FL_28_2 (e0 rfl)) (Y (wg rfl rfl rfl c11) rfl (yLb (u := h6.v) O_24 (e0 rfl) hst mhR rfl) (Y (wg rfl rfl rfl c11) rfl (yLen SL_24 (e0 rfl) hst (rdI q3)) (Y (wg rfl rfl rfl c11) rfl (ym (v := iV (x1.length : Int)) (e0 rfl)) (Y (wg rfl rfl rfl c11) rfl (yneq (e0 rfl) (e0 rfl)) (Y wn rfl (ypf (v := .bool (!(decide ((x5.length : Int) = (x1.length : Int))))) (e0 rfl) c11 (e0 rfl)) (j1 _ _ ⟨rfl, rfl, (congrArg Value.bool (orF c11)), hst⟩))))))
  rintro f w ⟨e10_1, e10_4, e10_30, hst⟩
  refine wN (k7 _ _ ?_)
  rcases iteS hM with ⟨c12, hM⟩ | ⟨c12, hM⟩
  ·refine condT (et rfl e10_30) c12 (seqQ fun Q8 k8 z8 => wR (Y wn rfl (ya (v := iV 1) rfl) (wN (k8 _ _ (wp_ret (z6 _ _ _ rfl ?_))))))
   obtain rfl := someI hM
   exact hQ _ _ _ (fin1r Tryz.results24 ⟨rfl, rfl⟩ ⟨rfl, (hst.pk 1 [] rfl)⟩)
  ·refine condF (et rfl e10_30) (bfalse c12) (wp_skip (k6 _ _ (seqQ fun Q9 k9 z9 => seqQ fun Q10 k10 z10 => wR (Y wn rfl (ya (v := iV 0) rfl) (wN (k10 _ _ (blockQ fun Q11 qb11 => ?_)))))))
   obtain ⟨o2, go2, hM⟩ := bs hM
   have je2_0 : ∀ (f : Nat → Value) (w : World), f 1 = (pB b7) → f 4 = iV (x1.length : Int) → St w0 (ros) (box b7 28 [h2.v, h4.v, h6.v] :: rs) w → .inl () = o2 → Q11 (.exit 0) (fr 109 f) w := by
    intro f w eje2_0_1 eje2_0_4 hst ho
    subst ho
    refine qb11 _ _ _ (k9 _ _ (seqQ fun Q24 k24 z24 => seqQ fun Q25 k25 z25 => wR (Y wn rfl (ya (v := iV 0) rfl) (wN (k25 _ _ (blockQ fun Q26 qb26 => ?_))))))
    obtain ⟨o43, go43, hM⟩ := bs hM
    have je43_0 : ∀ (f : Nat → Value) (w : World), St w0 (ros) (rs) w → .inl () = o43 → Q26 (.exit 2) (fr 109 f) w := by
     intro f w hst ho
     subst ho
     refine qb26 _ _ _ (k24 _ _ (seqQ fun Q87 k87 z87 => wR (Y wn rfl (ya (v := iV 0) rfl) (wN (k87 _ _ (wp_ret ?_))))))
     obtain rfl := someI hM
     exact hQ _ _ _ (fin1r Tryz.results24 ⟨rfl, rfl⟩ ⟨rfl, hst⟩)
    have je43_1 : ∀ (f : Nat → Value) (w : World), f 2 = iV 1 → St w0 (ros) (rs) w → .inr () = o43 → Q26 .ret (fr 109 f) w := by
     intro f w eje43_1_2 hst ho
     subst ho
     refine qb26 _ _ _ (z24 _ _ _ rfl ?_)
     obtain rfl := someI hM
     exact hQ _ _ _ (fin1r Tryz.results24 ⟨rfl, eje43_1_2⟩ ⟨rfl, hst⟩)
    refine loopQ (fun s a w => ∃ (x88 : Int) (f : Nat → Value), x88 = s ∧ a = fr 109 f ∧ f 1 = (pB b7) ∧ f 4 = iV (x1.length : Int) ∧ f 6 = iV x88 ∧ St w0 (ros) (box b7 28 [h2.v, h4.v, h6.v] :: rs) w) go43 ⟨_, _, rfl, rfl, eje2_0_1, eje2_0_4, rfl, hst⟩ ?_
    rintro _ _ w r43_ ⟨x88, f, rfl, rfl, e43_1, e43_4, e43_6, hst⟩ hM43 ho43 Q100043 n43 zz43
    refine seqQ fun Q88 k88 z88 => seqQ fun Q89 k89 z89 => wR (Y wn rfl (ym (v := iV x88) (et rfl e43_6)) (Y wn rfl (ym (v := iV (x1.length : Int)) (et rfl e43_4)) (Y wn rfl (ylss (e0 rfl) (e0 rfl)) (wN (k89 _ _ ?_)))))
    rcases iteS hM43 with ⟨c151, hM43⟩ | ⟨c151, hM43⟩
    ·refine condT (e0 rfl) (dT c151) (wp_skip (k88 _ _ (seqQ fun Q90 k90 z90 => blockQ fun Q91 qb91 => seqQ fun Q92 k92 z92 => seqQ fun Q93 k93 z93 => wR (Y wn rfl (yFb FL_28_1 (et rfl e43_1)) (Y wn rfl (yLb (u := h4.v) O_22 (e0 rfl) hst mhR rfl) (Y wn rfl (ym (v := iV x88) (et rfl e43_6)) ?_))))))
     obtain ⟨x152, gx152, hM43⟩ := bs hM43
     refine Y wn rfl (yIa SL_22 (e0 rfl) (e0 rfl) hst (rdI q2) gx152) (Y wn rfl (yI O_3 (e0 rfl) hst (rdI q2) gx152) (Y wn rfl (ylss (e0 rfl) rfl) (Y wn rfl (ym (v := .bool (decide (x152 < 1))) (e0 rfl)) ?_)))
     obtain ⟨r154, gr154, hM43⟩ := bs hM43
     refine joinW 7 (fun f w => f 1 = (pB b7) ∧ f 4 = iV (x1.length : Int) ∧ f 6 = iV x88 ∧ f 68 = .bool r154 ∧ St w0 (ros) (box b7 28 [h2.v, h4.v, h6.v] :: rs) w) (fun j44 => ?_) ?_
     ·rcases iteS gr154 with ⟨c156, gr154⟩ | ⟨c156, gr154⟩
      ·refine Gn (wx rfl rfl rfl (dT c156)) rfl (Gn (wx rfl rfl rfl (dT c156)) rfl (Gn (wx rfl rfl rfl (dT c156)) rfl (Gn (wx rfl rfl rfl (dT c156)) rfl (Gn (wx rfl rfl rfl (dT c156)) rfl (Gn (wx rfl rfl rfl (dT c156)) rfl (Y wn rfl (ypt (v := .bool true) (e0 rfl) (dT c156) rfl) ?_))))))
       obtain rfl := someI gr154
       exact j44 _ _ ⟨e43_1, e43_4, e43_6, rfl, hst⟩
      ·refine Y (wg rfl rfl rfl (dF c156)) rfl (yFb FL_28_1 (et rfl e43_1)) (Y (wg rfl rfl rfl (dF c156)) rfl (yLb (u := h4.v) O_22 (e0 rfl) hst mhR rfl) (Y (wg rfl rfl rfl (dF c156)) rfl (ym (v := iV x88) (et rfl e43_6)) ?_))
       obtain ⟨x157, gx157, gr154⟩ := bs gr154
       refine Y (wg rfl rfl rfl (dF c156)) rfl (yIa SL_22 (e0 rfl) (e0 rfl) hst (rdI q2) gx157) (Y (wg rfl rfl rfl (dF c156)) rfl (yI O_3 (e0 rfl) hst (rdI q2) gx157) (Y (wg rfl rfl rfl (dF c156)) rfl (ygtr (e0 rfl) rfl) (Y wn rfl (ypf (v := .bool (decide ((1099511627776 : Int) < x157))) (e0 rfl) (dF c156) (e0 rfl)) ?_)))
       obtain rfl := someI gr154
       exact j44 _ _ ⟨e43_1, e43_4, e43_6, rfl, hst⟩
     rintro f w ⟨e155_1, e155_4, e155_6, e155_68, hst⟩
     refine wN (k93 _ _ ?_)
     rcases iteS hM43 with ⟨c158, hM43⟩ | ⟨c158, hM43⟩
     ·refine condT (et rfl e155_68) c158 (seqQ fun Q94 k94 z94 => wR (Y wn rfl (ya (v := iV 1) rfl) (wN (k94 _ _ (wp_ret (z92 _ _ _ rfl (qb91 _ _ _ (z90 _ _ _ rfl ?_))))))))
      obtain rfl := someI hM43
      exact zz43 _ _ _ _ rfl rfl (je43_1 _ _ rfl (hst.pk 1 [] rfl) (ho43 _ rfl))
     ·refine condF (et rfl e155_68) (bfalse c158) (wp_skip (k92 _ _ (seqQ fun Q95 k95 z95 => wR (Y wn rfl (ya (v := iV 0) rfl) (wN (k95 _ _ (blockQ fun Q96 qb96 => ?_)))))))
      obtain ⟨o57, go57, hM43⟩ := bs hM43
      have je57_0 : ∀ (f : Nat → Value) (w : World), f 1 = (pB b7) → f 4 = iV (x1.length : Int) → f 6 = iV x88 → St w0 (ros) (box b7 28 [h2.v, h4.v, h6.v] :: rs) w → .inl () = o57 → Q96 (.exit 4) (fr 109 f) w := by
       intro f w eje57_0_1 eje57_0_4 eje57_0_6 hst ho
       subst ho
       refine qb96 _ _ _ (qb91 _ _ _ (k90 _ _ (wR (Y wn rfl (ym (v := iV x88) (et rfl eje57_0_6)) (Y wn rfl (yadd (e0 rfl) rfl) (Y wn rfl (ya (v := iV (wa .i64 x88 1)) (e0 rfl)) (wN ?_)))))))
       obtain rfl := someI hM43
       exact n43 _ _ _ rfl ⟨_, _, rfl, rfl, eje57_0_1, eje57_0_4, rfl, hst⟩
      have je57_1 : ∀ (f : Nat → Value) (w : World), f 2 = iV 1 → St w0 (ros) (rs) w → .inr () = o57 → Q96 .ret (fr 109 f) w := by
       intro f w eje57_1_2 hst ho
       subst ho
       refine qb96 _ _ _ (qb91 _ _ _ (z90 _ _ _ rfl ?_))
       obtain rfl := someI hM43
       exact zz43 _ _ _ _ rfl rfl (je43_1 _ _ eje57_1_2 hst (ho43 _ rfl))
      refine loopQ (fun s a w => ∃ (x176 : Int) (f : Nat → Value), x176 = s ∧ a = fr 109 f ∧ f 1 = (pB b7) ∧ f 4 = iV (x1.length : Int) ∧ f 6 = iV x88 ∧ f 7 = iV x176 ∧ St w0 (ros) (box b7 28 [h2.v, h4.v, h6.v] :: rs) w) go57 ⟨_, _, rfl, rfl, e155_1, e155_4, e155_6, rfl, hst⟩ ?_
      rintro _ _ w r57_ ⟨x176, f, rfl, rfl, e57_1, e57_4, e57_6, e57_7, hst⟩ hM57 ho57 Q100057 n57 zz57
      refine seqQ fun Q111 k111 z111 => seqQ fun Q112 k112 z112 => wR (Y wn rfl (ym (v := iV x176) (et rfl e57_7)) (Y wn rfl (yFb FL_28_2 (et rfl e57_1)) (Y wn rfl (yLb (u := h6.v) O_24 (e0 rfl) hst mhR rfl) (Y wn rfl (ym (v := iV x88) (et rfl e57_6)) ?_))))
      obtain ⟨x195, gx195, hM57⟩ := bs hM57
      refine Y wn rfl (yIa SL_24 (e0 rfl) (e0 rfl) hst (rdI q3) gx195) ?_
      obtain ⟨h196, hst⟩ := iLs hst q3 gx195
      refine Y wn rfl (yCt O_22 (e0 rfl) hst (mtF mhF) rfl) (Y wn rfl (yLen SL_22 (e0 rfl) hst (rdI mhF)) (Y wn rfl (ylss (e0 rfl) (e0 rfl)) (wN (k112 _ _ ?_))))
      rcases iteS hM57 with ⟨c197, hM57⟩ | ⟨c197, hM57⟩
      ·refine condT (e0 rfl) (dT c197) (wp_skip (k111 _ _ (seqQ fun Q113 k113 z113 => blockQ fun Q114 qb114 => seqQ fun Q115 k115 z115 => wR (Y wn rfl (yFb FL_28_2 (et rfl e57_1)) (Y wn rfl (yLb (u := h6.v) O_24 (e0 rfl) hst mhR rfl) (Y wn rfl (ym (v := iV x88) (et rfl e57_6)) ?_))))))
       obtain ⟨x198, gx198, hM57⟩ := bs hM57
       refine Y wn rfl (yIa SL_24 (e0 rfl) (e0 rfl) hst (rdI (mtF (mtF q3))) gx198) ?_
       obtain ⟨h199, hst⟩ := iLs hst (mtF (mtF q3)) gx198
       refine Y wn rfl (yCt O_22 (e0 rfl) hst (mtF mhF) rfl) (Y wn rfl (ym (v := iV x176) (et rfl e57_7)) ?_)
       obtain ⟨x200, gx200, hM57⟩ := bs hM57
       refine Y wn rfl (yIa SL_22 (e0 rfl) (e0 rfl) hst (rdI mhF) gx200) (Y wn rfl (yI O_3 (e0 rfl) hst (rdI mhF) gx200) (Y wn rfl (ya (v := iV x200) (e0 rfl)) (wN (k115 _ _ (seqQ fun Q116 k116 z116 => ?_)))))
       obtain ⟨r201, gr201, hM57⟩ := bs hM57
       obtain ⟨r202, gr202, hM57⟩ := bs hM57
       refine joinN (n := 109) (fun f w => f 1 = (pB b7) ∧ f 4 = iV (x1.length : Int) ∧ f 6 = iV x88 ∧ f 7 = iV x176 ∧ f 108 = .bool r202 ∧ St w0 (ros) (box b7 28 [h2.v, h4.v, h6.v] :: rs) w) (fun j58 => ?_) ?_
       ·rcases iteS gr201 with ⟨c204, gr201⟩ | ⟨c204, gr201⟩
        ·have hr59 := someI gr201
         have c205 : r201 = true := hr59.symm
         rw [if_pos c205] at gr202
         have hr60 := someI gr202
         refine wp_drawR [0, 1, 3, 7, 15, 31, 63, 127, 127, 127, 639, 1663, 127, 7807, 15999, 127, 65151, 130687, 127, 524159, 1048575, 2097151] [19] 1 folM (by kernel_rfl) (by kernel_rfl) (by kernel_rfl) ?_
         replace hst := hst.drew
         refine DRn (l1 := [0, 1, 2, 3, 4, 5, 6, 7, 8, 9, 10, 11, 12, 13, 14, 15, 16, 17, 18]) (l2 := []) (lc := [19]) (by kernel_rfl) (by kernel_rfl) (by kernel_rfl) (Ry rfl rfl wn (ym (v := iV x200) (e0 rfl)) (Ry rfl rfl wn (ylss (e0 rfl) rfl) (Ry rfl rfl wn (ym (v := .bool (decide (x200 < 1))) (e0 rfl)) (Rx rfl rfl (wx rfl rfl rfl (dT c204)) (Rx rfl rfl (wx rfl rfl rfl (dT c204)) (Ry rfl rfl wn (ypt (v := .bool r201) (e0 rfl) (dT c204) (eqv hr59 rfl)) (Ry rfl rfl wn (ym (v := .bool r201) (e0 rfl)) (Rx rfl rfl (wx rfl rfl rfl c205) (Rx rfl rfl (wx rfl rfl rfl c205) (Rx rfl rfl (wx rfl rfl rfl c205) (Rx rfl rfl (wx rfl rfl rfl c205) (Rx rfl rfl (wx rfl rfl rfl c205) (Rx rfl rfl (wx rfl rfl rfl c205) ?_)))))))))))))
         refine Rx rfl rfl (wx rfl rfl rfl c205) (Rx rfl rfl (wx rfl rfl rfl c205) (Rx rfl rfl (wx rfl rfl rfl c205) (Rx rfl rfl (wx rfl rfl rfl c205) (Rx rfl rfl (wx rfl rfl rfl c205) (Rx rfl rfl (wx rfl rfl rfl c205) (Rn QSn ?_))))))
         refine Lc rfl ?_ LAn
         exact Lx (wx rfl rfl rfl c205) (DRz (l1 := [20, 21]) (l2 := [7]) (by kernel_rfl) (by kernel_rfl) (Rx rfl rfl (wx rfl rfl rfl c205) (Ry rfl rfl wn (ypt (v := .bool r202) (e0 rfl) c205 (eqv hr60 rfl)) (Rn (Sx_ rfl rfl (wx rfl rfl rfl c205) rfl QSn) (j58 _ _ ⟨e57_1, e57_4, e57_6, e57_7, rfl, (hst.facts (allT (allT (allT (allT allI)))))⟩)))))
        ·have hr61 := someI gr201
         rcases iteS gr202 with ⟨c206, gr202⟩ | ⟨c206, gr202⟩
         ·have hr62 := someI gr202
          refine wp_drawR [0, 1, 3, 7, 15, 31, 63, 127, 127, 127, 639, 1663, 127, 7807, 15999, 127, 65151, 130687, 127, 524159, 1048575, 2097151] [19] 1 folM (by kernel_rfl) (by kernel_rfl) (by kernel_rfl) ?_
          replace hst := hst.drew
          refine DRn (l1 := [0, 1, 2, 3, 4, 5, 6, 7, 8, 9, 10, 11, 12, 13, 14, 15, 16, 17, 18]) (l2 := []) (lc := [19]) (by kernel_rfl) (by kernel_rfl) (by kernel_rfl) (Ry rfl rfl wn (ym (v := iV x200) (e0 rfl)) (Ry rfl rfl wn (ylss (e0 rfl) rfl) (Ry rfl rfl wn (ym (v := .bool (decide (x200 < 1))) (e0 rfl)) (Ry rfl rfl (wg rfl rfl rfl (dF c204)) (ym (v := iV x200) (e0 rfl)) (Ry rfl rfl (wg rfl rfl rfl (dF c204)) (ygtr (e0 rfl) rfl) (Ry rfl rfl wn (ypf (v := .bool r201) (e0 rfl) (dF c204) (eqv hr61 (e0 rfl))) (Ry rfl rfl wn (ym (v := .bool r201) (e0 rfl)) (Rx rfl rfl (wx rfl rfl rfl c206) (Rx rfl rfl (wx rfl rfl rfl c206) (Rx rfl rfl (wx rfl rfl rfl c206) (Rx rfl rfl (wx rfl rfl rfl c206) (Rx rfl rfl (wx rfl rfl rfl c206) (Rx rfl rfl (wx rfl rfl rfl c206) ?_)))))))))))))
          refine Rx rfl rfl (wx rfl rfl rfl c206) (Rx rfl rfl (wx rfl rfl rfl c206) (Rx rfl rfl (wx rfl rfl rfl c206) (Rx rfl rfl (wx rfl rfl rfl c206) (Rx rfl rfl (wx rfl rfl rfl c206) (Rx rfl rfl (wx rfl rfl rfl c206) (Rn QSn ?_))))))
          refine Lc rfl ?_ LAn
          exact Lx (wx rfl rfl rfl c206) (DRz (l1 := [20, 21]) (l2 := [7]) (by kernel_rfl) (by kernel_rfl) (Rx rfl rfl (wx rfl rfl rfl c206) (Ry rfl rfl wn (ypt (v := .bool r202) (e0 rfl) c206 (eqv hr62 rfl)) (Rn (Sx_ rfl rfl (wx rfl rfl rfl c206) rfl QSn) (j58 _ _ ⟨e57_1, e57_4, e57_6, e57_7, rfl, (hst.facts (allT (allT (allT (allT allI)))))⟩)))))
         ·obtain ⟨x207, gx207, gr202⟩ := bs gr202
          obtain ⟨x209, gx209, gr202⟩ := bs gr202
          obtain ⟨r210, gr210, gr202⟩ := bs gr202
          have hr63 := someI gr202
          refine wp_drawR [0, 1, 3, 7, 15, 31, 63, 127, 127, 127, 639, 1663, 127, 7807, 15999, 127, 65151, 130687, 127, 524159, 1048575, 2097151] [19] 1 folM (by kernel_rfl) (by kernel_rfl) (by kernel_rfl) ?_
          replace hst := hst.drew
          refine DRn (l1 := [0, 1, 2, 3, 4, 5, 6, 7, 8, 9, 10, 11, 12, 13, 14, 15, 16, 17, 18]) (l2 := []) (lc := [19]) (by kernel_rfl) (by kernel_rfl) (by kernel_rfl) (Ry rfl rfl wn (ym (v := iV x200) (e0 rfl)) (Ry rfl rfl wn (ylss (e0 rfl) rfl) (Ry rfl rfl wn (ym (v := .bool (decide (x200 < 1))) (e0 rfl)) (Ry rfl rfl (wg rfl rfl rfl (dF c204)) (ym (v := iV x200) (e0 rfl)) (Ry rfl rfl (wg rfl rfl rfl (dF c204)) (ygtr (e0 rfl) rfl) (Ry rfl rfl wn (ypf (v := .bool r201) (e0 rfl) (dF c204) (eqv hr61 (e0 rfl))) (Ry rfl rfl wn (ym (v := .bool r201) (e0 rfl)) (Ry rfl rfl (wg rfl rfl rfl (bfalse c206)) (ym (v := iV x200) (e0 rfl)) (Ry rfl rfl (wg rfl rfl rfl (bfalse c206)) (yLbs (us := [h2.v, h4.v, h6.v]) ST_28 (et rfl e57_1) hst mhR rfl rfl) (Ry rfl rfl (wg rfl rfl rfl (bfalse c206)) (yFb FL_28_0 (et rfl e57_1)) (Ry rfl rfl (wg rfl rfl rfl (bfalse c206)) (yFb FL_26_0 (e0 rfl)) (Ry rfl rfl (wg rfl rfl rfl (bfalse c206)) (yLb (u := h2.v) O_24 (e0 rfl) hst mhR rfl) (Ry rfl rfl (wg rfl rfl rfl (bfalse c206)) (ym (v := iV x88) (et rfl e57_6)) ?_)))))))))))))
          refine Ry rfl rfl (wg rfl rfl rfl (bfalse c206)) (yIa SL_24 (e0 rfl) (e0 rfl) hst (rdI (mtF (mtF (mtF (mtF q1))))) gx207) ?_
          obtain ⟨h208, hst⟩ := iLs hst (mtF (mtF (mtF (mtF q1)))) gx207
          refine Ry rfl rfl (wg rfl rfl rfl (bfalse c206)) (yCt O_22 (e0 rfl) hst (mtF mhF) rfl) (Ry rfl rfl (wg rfl rfl rfl (bfalse c206)) (ym (v := iV x176) (et rfl e57_7)) (Ry rfl rfl (wg rfl rfl rfl (bfalse c206)) (yIa SL_22 (e0 rfl) (e0 rfl) hst (rdI mhF) gx209) (Ry rfl rfl (wg rfl rfl rfl (bfalse c206)) (yI O_3 (e0 rfl) hst (rdI mhF) gx209) (Ry rfl rfl (wg rfl rfl rfl (bfalse c206)) (ym (v := iV x88) (et rfl e57_6)) (Rn QSn ?_)))))
          refine Lc rfl ?_ LAn
          refine Lk (wg rfl rfl rfl (bfalse c206)) (yCall FN_55 (a3 (e0 rfl) (e0 rfl) (e0 rfl))) (sparseref18_edge_ok (hM := gr210) (hst := hst) (q1 := (mtF (mtF (mtF (mtF (mtF (mtF q1))))))) (q2 := (mtF (mtF (mtF (mtF (mtF (mtF q2))))))) (q3 := (mtF (mtF (mtF (mtF (mtF (mtF q3)))))))) ?_
          rintro _ w ⟨rfl, hst⟩
          refine ⟨_, rfl, ?_⟩
          exact DRz (l1 := [20, 21]) (l2 := [7]) (by kernel_rfl) (by kernel_rfl) (Ry rfl rfl (wg rfl rfl rfl (bfalse c206)) (yneq (e0 rfl) (e0 rfl)) (Ry rfl rfl wn (ypf (v := .bool r202) (e0 rfl) (bfalse c206) (eqv hr63 (e0 rfl))) (Rn (Sy rfl rfl (wg rfl rfl rfl (bfalse c206)) (ym (v := iV x200) (e0 rfl)) rfl QSn) (j58 _ _ ⟨e57_1, e57_4, e57_6, e57_7, rfl, (hst.facts (allT (allT (allT (allT (allT (allT allI)))))))⟩))))
       rintro f w ⟨e203_1, e203_4, e203_6, e203_7, e203_108, hst⟩
       refine k116 _ _ ?_
       rcases iteS hM57 with ⟨c211, hM57⟩ | ⟨c211, hM57⟩
       ·refine condT (et rfl e203_108) c211 (seqQ fun Q117 k117 z117 => wR (Y wn rfl (ya (v := iV 1) rfl) (wN (k117 _ _ (wp_ret (qb114 _ _ _ (z113 _ _ _ rfl ?_)))))))
        obtain rfl := someI hM57
        exact zz57 _ _ _ _ rfl rfl (je57_1 _ _ rfl (hst.pk 1 [] rfl) (ho57 _ rfl))
       ·refine condF (et rfl e203_108) (bfalse c211) (wp_skip (qb114 _ _ _ (k113 _ _ (wR (Y wn rfl (ym (v := iV x176) (et rfl e203_7)) (Y wn rfl (yadd (e0 rfl) rfl) (Y wn rfl (ya (v := iV (wa .i64 x176 1)) (e0 rfl)) (wN ?_))))))))
        obtain rfl := someI hM57
        exact n57 _ _ _ rfl ⟨_, _, rfl, rfl, e203_1, e203_4, e203_6, rfl, hst⟩
      ·refine condF (e0 rfl) (dF c197) (wp_exit (z111 _ _ _ rfl ?_))
       obtain rfl := someI hM57
       exact zz57 _ _ _ _ rfl rfl (je57_0 _ _ e57_1 e57_4 e57_6 (hst.facts (allT (allT allI))) (ho57 _ rfl))
    ·refine condF (e0 rfl) (dF c151) (wp_exit (z88 _ _ _ rfl ?_))
     obtain rfl := someI hM43
     exact zz43 _ _ _ _ rfl rfl (je43_0 _ _ (hst.pk 1 [] rfl) (ho43 _ rfl))
   have je2_1 : ∀ (f : Nat → Value) (w : World), f 2 = iV 1 → St w0 (ros) (rs) w → .inr () = o2 → Q11 .ret (fr 109 f) w := by
    intro f w eje2_1_2 hst ho
    subst ho
    refine qb11 _ _ _ (z9 _ _ _ rfl ?_)
    obtain rfl := someI hM
    exact hQ _ _ _ (fin1r Tryz.results24 ⟨rfl, eje2_1_2⟩ ⟨rfl, hst⟩)
   refine loopQ (fun s a w => ∃ (x19 : Int) (f : Nat → Value), x19 = s ∧ a = fr 109 f ∧ f 1 = (pB b7) ∧ f 4 = iV (x1.length : Int) ∧ f 5 = iV x19 ∧ St w0 (ros) (box b7 28 [h2.v, h4.v, h6.v] :: rs) w) go2 ⟨_, _, rfl, rfl, e10_1, e10_4, rfl, hst⟩ ?_
   rintro _ _ w r2_ ⟨x19, f, rfl, rfl, e2_1, e2_4, e2_5, hst⟩ hM2 ho2 Q100002 n2 zz2
   refine seqQ fun Q118 k118 z118 => seqQ fun Q119 k119 z119 => wR (Y wn rfl (ym (v := iV x19) (et rfl e2_5)) (Y wn rfl (ym (v := iV (x1.length : Int)) (et rfl e2_4)) (Y wn rfl (ylss (e0 rfl) (e0 rfl)) (wN (k119 _ _ ?_)))))
   rcases iteS hM2 with ⟨c212, hM2⟩ | ⟨c212, hM2⟩
   ·refine condT (e0 rfl) (dT c212) (wp_skip (k118 _ _ (seqQ fun Q120 k120 z120 => blockQ fun Q121 qb121 => seqQ fun Q122 k122 z122 => ?_)))
    obtain ⟨x213, gx213, hM2⟩ := bs hM2
    obtain ⟨x215, gx215, hM2⟩ := bs hM2
    refine wp_drawR [0, 1, 0, 7, 15, 31, 0, 64, 192, 0, 960, 1984, 4032, 8191] [] 0 folM (by kernel_rfl) (by kernel_rfl) (by kernel_rfl) ?_
    replace hst := hst.drew
    refine DRz (l1 := [0, 1, 2, 3, 4, 5, 6, 7, 8, 9, 10, 11, 12, 13]) (l2 := []) (by kernel_rfl) (by kernel_rfl) (Ry rfl rfl wn (yFb FL_28_2 (et rfl e2_1)) (Ry rfl rfl wn (yLb (u := h6.v) O_24 (e0 rfl) hst mhR rfl) (Ry rfl rfl wn (ym (v := iV x19) (et rfl e2_5)) (Ry rfl rfl wn (yIa SL_24 (e0 rfl) (e0 rfl) hst (rdI q3) gx213) ?_))))
    obtain ⟨h214, hst⟩ := iLs hst q3 gx213
    refine Ry rfl rfl wn (yCt O_22 (e0 rfl) hst (mtF mhF) rfl) (Ry rfl rfl wn (yLen SL_22 (e0 rfl) hst (rdI mhF)) (Ry rfl rfl wn (yFb FL_28_0 (et rfl e2_1)) (Ry rfl rfl wn (yFb FL_26_0 (e0 rfl)) (Ry rfl rfl wn (yLb (u := h2.v) O_24 (e0 rfl) hst mhR rfl) (Ry rfl rfl wn (ym (v := iV x19) (et rfl e2_5)) (Ry rfl rfl wn (yIa SL_24 (e0 rfl) (e0 rfl) hst (rdI (mtF (mtF q1))) gx215) ?_))))))
    obtain ⟨h216, hst⟩ := iLs hst (mtF (mtF q1)) gx215
    refine Ry rfl rfl wn (yCt O_22 (e0 rfl) hst (mtF mhF) rfl) (Ry rfl rfl wn (yLen SL_22 (e0 rfl) hst (rdI mhF)) (Ry rfl rfl wn (yneq (e0 rfl) (e0 rfl)) (Rn QSn (k122 _ _ ?_))))
    rcases iteS hM2 with ⟨c217, hM2⟩ | ⟨c217, hM2⟩
    ·refine condF (e0 rfl) (nF (dT c217)) (wp_skip (qb121 _ _ _ (k120 _ _ (wR (Y wn rfl (ym (v := iV x19) (et rfl e2_5)) (Y wn rfl (yadd (e0 rfl) rfl) (Y wn rfl (ya (v := iV (wa .i64 x19 1)) (e0 rfl)) (wN ?_))))))))
     obtain rfl := someI hM2
     exact n2 _ _ _ rfl ⟨_, _, rfl, rfl, e2_1, e2_4, rfl, (hst.facts (allT (allT (allT (allT allI)))))⟩
    ·refine condT (e0 rfl) (nT (dF c217)) (seqQ fun Q123 k123 z123 => wR (Y wn rfl (ya (v := iV 1) rfl) (wN (k123 _ _ (wp_ret (qb121 _ _ _ (z120 _ _ _ rfl ?_)))))))
     obtain rfl := someI hM2
     exact zz2 _ _ _ _ rfl rfl (je2_1 _ _ rfl ((hst.pk 1 [] rfl).facts (allT (allT (allT (allT allI))))) (ho2 _ rfl))
   ·refine condF (e0 rfl) (dF c212) (wp_exit (z118 _ _ _ rfl ?_))
    obtain rfl := someI hM2
    exact zz2 _ _ _ _ rfl rfl (je2_0 _ _ e2_1 e2_4 hst (ho2 _ rfl))
 ·refine condT (e0 rfl) (nT (dF c9)) (seqQ fun Q124 k124 z124 => wR (Y wn rfl (ym (v := iV r8) (e0 rfl)) (Y wn rfl (ya (v := iV r8) (e0 rfl)) (wN (k124 _ _ (wp_ret (z2 _ _ _ rfl ?_)))))))
  obtain rfl := someI hM
  exact hQ _ _ _ (fin1r Tryz.results24 ⟨rfl, rfl⟩ ⟨rfl, (hst.pk 1 [] rfl)⟩)

theorem sparseref18_Match_ok {x1 : List (List Int)} {x3 : List Int} {x5 : List (List Int)} {h2 : Hdr} {h4 : Hdr} {h6 : Hdr} {out : (List Int) × Int} (hM : sparseref18_Match x1 x3 x5 = some out) (q1 : imm (rS (rI .i64)) h2.v x1 ∈ ros) (q2 : imm (rI .i64) h4.v x3 ∈ ros) (q3 : imm (rS (rI .i64)) h6.v x5 ∈ ros) (hst : St w0 ros (rs) w) :
  Calls Tryz.prog 12 #[.agg #[h2.v, h4.v, h6.v]] w (fun e w => ∃ (h100001 : Hdr), e = .returned (.tuple #[h100001.v, iV out.2]) ∧ St w0 (ros) (row 3 (rI .i64) h100001.v out.1 :: rs) w) := by
 refine enterQ Tryz.func12 rfl Tryz.ntmps12 rfl fun Q hQ => seqQ fun Q1 k1 z1 => wR (YB wn rfl (r_box (vals := [h2.v, h4.v, h6.v]) hst (e0 rfl) rfl) ?_)
 intro b7 w hst
 refine Y wn rfl (ya (v := hnil.v) rfl) (Y wn rfl (ya (v := iV 0) rfl) (wN (k1 _ _ (seqQ fun Q2 k2 z2 => seqQ fun Q3 k3 z3 => wR (Y wn rfl (yLbs (us := [h2.v, h4.v, h6.v]) ST_28 (e0 rfl) hst mhR rfl rfl) ?_)))))
 obtain ⟨r8, gr8, hM⟩ := bs hM
 refine Yc wn rfl (yCall FN_24 (a1 (e0 rfl))) (sparseref18_CheckWeighted_ok (hM := gr8) (hst := hst) (q1 := q1) (q2 := q2) (q3 := q3)) ?_
 rintro _ w ⟨rfl, hst⟩
 refine ⟨_, rfl, ?_⟩
 refine Y wn rfl (ya (v := iV r8) (e0 rfl)) (wN (k3 _ _ (seqQ fun Q4 k4 z4 => wR (Y wn rfl (ym (v := iV r8) (e0 rfl)) (Y wn rfl (yneq (e0 rfl) rfl) (wN (k4 _ _ ?_)))))))
 rcases iteS hM with ⟨c9, hM⟩ | ⟨c9, hM⟩
 ·refine condF (e0 rfl) (nF (dT c9)) (wp_skip (k2 _ _ (seqQ fun Q5 k5 z5 => wR (Y wn rfl (yFb FL_28_1 (e0 rfl)) (Y wn rfl (yLb (u := h4.v) O_22 (e0 rfl) hst mhR rfl) (Y wn rfl (yLen SL_22 (e0 rfl) hst (rdI q2)) (Y wn rfl (ya (v := iV (x3.length : Int)) (e0 rfl)) (wN (k5 _ _ (seqQ fun Q6 k6 z6 => wR (Y wn rfl (ya (v := hnil.v) rfl) ?_)))))))))))
  refine wN (k6 _ _ (seqQ fun Q7 k7 z7 => seqQ fun Q8 k8 z8 => wR (Y wn rfl (ya (v := iV 0) rfl) (wN (k8 _ _ (blockQ fun Q9 qb9 => ?_))))))
  obtain ⟨o1, go1, hM⟩ := bs hM
  have je1_0 : ∀ (x25 : List Int) (h24 : Hdr) (f : Nat → Value) (w : World), f 1 = (pB b7) → f 5 = iV (x3.length : Int) → f 6 = h24.v → St w0 (ros) (box b7 28 [h2.v, h4.v, h6.v] :: row 3 (rI .i64) h24.v x25 :: rs) w → x25 = o1 → Q9 (.exit 0) (fr 94 f) w := by
   intro x25 h24 f w eje1_0_1 eje1_0_5 eje1_0_6 hst ho
   subst ho
   refine qb9 _ _ _ (k7 _ _ (seqQ fun Q18 k18 z18 => seqQ fun Q19 k19 z19 => wR (Y wn rfl (ya (v := iV 0) rfl) (wN (k19 _ _ (blockQ fun Q20 qb20 => ?_))))))
   obtain ⟨o46, go46, hM⟩ := bs hM
   have je46_0 : ∀ (x550 : List Int) (f : Nat → Value) (w : World), f 6 = h24.v → St w0 (ros) (row 3 (rI .i64) h24.v x550 :: rs) w → x550 = o46 → Q20 (.exit 2) (fr 94 f) w := by
    intro x550 f w eje46_0_6 hst ho
    subst ho
    refine qb20 _ _ _ (k18 _ _ (seqQ fun Q177 k177 z177 => wR (Y wn rfl (ym (v := h24.v) (et rfl eje46_0_6)) (Y wn rfl (ya (v := h24.v) (e0 rfl)) (Y wn rfl (ya (v := iV 0) rfl) (wN (k177 _ _ (wp_ret ?_))))))))
    obtain rfl := someI hM
    exact hQ _ _ _ (fin2r Tryz.results12 ⟨rfl, rfl⟩ ⟨rfl, rfl⟩ ⟨_, rfl, hst⟩)
   refine loopQ (fun s a w => ∃ (x286 : List Int) (x287 : Int) (f : Nat → Value), (x286, x287) = s ∧ a = fr 94 f ∧ f 1 = (pB b7) ∧ f 5 = iV (x3.length : Int) ∧ f 6 = h24.v ∧ f 8 = iV x287 ∧ St w0 (ros) (box b7 28 [h2.v, h4.v, h6.v] :: row 3 (rI .i64) h24.v x286 :: rs) w) go46 ⟨_, _, _, rfl, rfl, eje1_0_1, eje1_0_5, eje1_0_6, rfl, hst⟩ ?_
   rintro _ _ w r46_ ⟨x286, x287, f, rfl, rfl, e46_1, e46_5, e46_6, e46_8, hst⟩ hM46 ho46 Q100046 n46 zz46
   refine seqQ fun Q178 k178 z178 => seqQ fun Q179 k179 z179 => wR (Y wn rfl (ym (v := iV x287) (et rfl e46_8)) (Y wn rfl (ym (v := iV (x3.length : Int)) (et rfl e46_5)) (Y wn rfl (ylss (e0 rfl) (e0 rfl)) (wN (k179 _ _ ?_)))))
   rcases iteS hM46 with ⟨c551, hM46⟩ | ⟨c551, hM46⟩
   ·refine condT (e0 rfl) (dT c551) (wp_skip (k178 _ _ (seqQ fun Q180 k180 z180 => ?_)))
    have j61 : ∀ (x724 : List Int) (f : Nat → Value) (w : World), f 1 = (pB b7) → f 5 = iV (x3.length : Int) → f 6 = h24.v → f 8 = iV x287 → St w0 (ros) (box b7 28 [h2.v, h4.v, h6.v] :: row 3 (rI .i64) h24.v x724 :: rs) w → sparseref18_Match_j61 x287 x724 = some r46_ → Q180 .normal (fr 94 f) w := by
     intro x724 f w ej61_1 ej61_5 ej61_6 ej61_8 hst hM
     refine k180 _ _ (wR (Y wn rfl (ym (v := iV x287) (et rfl ej61_8)) (Y wn rfl (yadd (e0 rfl) rfl) (Y wn rfl (ya (v := iV (wa .i64 x287 1)) (e0 rfl)) (wN ?_)))))
     obtain rfl := someI hM
     exact n46 _ _ _ rfl ⟨_, _, _, rfl, rfl, ej61_1, ej61_5, ej61_6, rfl, hst⟩
    refine blockQ fun Q231 qb231 => seqQ fun Q232 k232 z232 => seqQ fun Q233 k233 z233 => wR (Y wn rfl (ym (v := h24.v) (et rfl e46_6)) (Y wn rfl (ym (v := iV x287) (et rfl e46_8)) ?_))
    obtain ⟨x725, gx725, hM46⟩ := bs hM46
    refine Y wn rfl (yIa SL_22 (e0 rfl) (e0 rfl) hst (rdO (mtR mhR)) gx725) (Y wn rfl (yI O_3 (e0 rfl) hst (rdO (mtR mhR)) gx725) (Y wn rfl (ygeq (e0 rfl) rfl) (wN (k233 _ _ ?_))))
    rcases iteS hM46 with ⟨c726, hM46⟩ | ⟨c726, hM46⟩
    ·exact condT (e0 rfl) (dT c726) (wp_exit (z232 _ _ _ rfl (qb231 _ _ _ (j61 _ _ _ e46_1 e46_5 e46_6 e46_8 hst hM46))))
    ·refine condF (e0 rfl) (dF c726) (wp_skip (k232 _ _ (seqQ fun Q234 k234 z234 => wR (Y wn rfl (ym (v := iV x287) (et rfl e46_8)) (Y wn rfl (ya (v := iV x287) (e0 rfl)) (Y wn rfl (ya (v := iV 0) rfl) (wN (k234 _ _ (seqQ fun Q235 k235 z235 => seqQ fun Q236 k236 z236 => wR (Y wn rfl (ya (v := iV 0) rfl) ?_))))))))))
     refine wN (k236 _ _ (blockQ fun Q237 qb237 => ?_))
     obtain ⟨o66, go66, hM46⟩ := bs hM46
     have je66_0 : ∀ (x783 : Int) (f : Nat → Value) (w : World), f 1 = (pB b7) → f 5 = iV (x3.length : Int) → f 6 = h24.v → f 8 = iV x287 → f 9 = iV x783 → St w0 (ros) (box b7 28 [h2.v, h4.v, h6.v] :: row 3 (rI .i64) h24.v x286 :: rs) w → x783 = o66 → Q237 (.exit 4) (fr 94 f) w := by
      intro x783 f w eje66_0_1 eje66_0_5 eje66_0_6 eje66_0_8 eje66_0_9 hst ho
      subst ho
      refine qb237 _ _ _ (k235 _ _ (wR (Y wn rfl (ym (v := h24.v) (et rfl eje66_0_6)) (Y wn rfl (ym (v := iV x287) (et rfl eje66_0_8)) (Y wn rfl (ym (v := h24.v) (et rfl eje66_0_6)) (Y wn rfl (ym (v := iV x783) (et rfl eje66_0_9)) (Y wn rfl (ym (v := iV x783) (et rfl eje66_0_9)) (Y wn rfl (ym (v := iV x287) (et rfl eje66_0_8)) ?_))))))))
      obtain ⟨x784, gx784, hM46⟩ := bs hM46
      refine Y wn rfl (yIs SL_22 (e0 rfl) (e0 rfl) hst (rdO (mtR mhR)) gx784) ?_
      replace hst := hst.pk 2 [1, 0] rfl
      refine YT wn rfl (r_sti (cs := [iV x783]) hst O_3 rfl (e0 rfl) (e0 rfl) rfl mkI gx784) ?_
      intro w hst
      obtain ⟨x785, gx785, hM46⟩ := bs hM46
      refine Y wn rfl (yIs SL_22 (e0 rfl) (e0 rfl) hst (rdO mhR) gx785) (YT wn rfl (r_sti (cs := [iV x287]) hst O_3 rfl (e0 rfl) (e0 rfl) rfl mkI gx785) ?_)
      intro w hst
      exact wN (qb231 _ _ _ (j61 _ _ _ eje66_0_1 eje66_0_5 eje66_0_6 eje66_0_8 (hst.pk 2 [1, 0] rfl) hM46))
     refine loopQ (fun s a w => ∃ (x752 : Int) (x753 : Int) (x754 : Int) (f : Nat → Value), (x752, x753, x754) = s ∧ a = fr 94 f ∧ f 1 = (pB b7) ∧ f 5 = iV (x3.length : Int) ∧ f 6 = h24.v ∧ f 8 = iV x287 ∧ f 9 = iV x752 ∧ f 10 = iV x753 ∧ f 11 = iV x754 ∧ St w0 (ros) (box b7 28 [h2.v, h4.v, h6.v] :: row 3 (rI .i64) h24.v x286 :: rs) w) go66 ⟨_, _, _, _, rfl, rfl, e46_1, e46_5, e46_6, e46_8, rfl, rfl, rfl, hst⟩ ?_
     rintro _ _ w r66_ ⟨x752, x753, x754, f, rfl, rfl, e66_1, e66_5, e66_6, e66_8, e66_9, e66_10, e66_11, hst⟩ hM66 ho66 Q100066 n66 zz66
     refine seqQ fun Q250 k250 z250 => seqQ fun Q251 k251 z251 => wR (Y wn rfl (ym (v := iV x754) (et rfl e66_11)) (Y wn rfl (yFb FL_28_2 (et rfl e66_1)) (Y wn rfl (yLb (u := h6.v) O_24 (e0 rfl) hst mhR rfl) (Y wn rfl (ym (v := iV x287) (et rfl e66_8)) ?_))))
     obtain ⟨x786, gx786, hM66⟩ := bs hM66
     refine Y wn rfl (yIa SL_24 (e0 rfl) (e0 rfl) hst (rdI q3) gx786) ?_
     obtain ⟨h787, hst⟩ := iLs hst q3 gx786
     refine Y wn rfl (yCt O_22 (e0 rfl) hst (mtF mhF) rfl) (Y wn rfl (yLen SL_22 (e0 rfl) hst (rdI mhF)) (Y wn rfl (ylss (e0 rfl) (e0 rfl)) (wN (k251 _ _ ?_))))
     rcases iteS hM66 with ⟨c788, hM66⟩ | ⟨c788, hM66⟩
     ·refine condT (e0 rfl) (dT c788) (wp_skip (k250 _ _ (seqQ fun Q252 k252 z252 => blockQ fun Q253 qb253 => seqQ fun Q254 k254 z254 => wR (Y wn rfl (yFb FL_28_0 (et rfl e66_1)) (Y wn rfl (yFb FL_26_0 (e0 rfl)) (Y wn rfl (yLb (u := h2.v) O_24 (e0 rfl) hst mhR rfl) (Y wn rfl (ym (v := iV x287) (et rfl e66_8)) ?_)))))))
      obtain ⟨x789, gx789, hM66⟩ := bs hM66
      refine Y wn rfl (yIa SL_24 (e0 rfl) (e0 rfl) hst (rdI (mtF (mtF q1))) gx789) ?_
      obtain ⟨h790, hst⟩ := iLs hst (mtF (mtF q1)) gx789
      refine Y wn rfl (yCt O_22 (e0 rfl) hst (mtF mhF) rfl) (Y wn rfl (ym (v := iV x754) (et rfl e66_11)) ?_)
      obtain ⟨x791, gx791, hM66⟩ := bs hM66
      refine Y wn rfl (yIa SL_22 (e0 rfl) (e0 rfl) hst (rdI mhF) gx791) (Y wn rfl (yI O_3 (e0 rfl) hst (rdI mhF) gx791) (Y wn rfl (ya (v := iV x791) (e0 rfl)) (wN (k254 _ _ (seqQ fun Q255 k255 z255 => wR (Y wn rfl (ym (v := h24.v) (et rfl e66_6)) (Y wn rfl (ym (v := iV x791) (e0 rfl)) ?_)))))))
      obtain ⟨x792, gx792, hM66⟩ := bs hM66
      refine Y wn rfl (yIa SL_22 (e0 rfl) (e0 rfl) hst (rdO (mtR mhR)) gx792) (Y wn rfl (yI O_3 (e0 rfl) hst (rdO (mtR mhR)) gx792) (Y wn rfl (ylss (e0 rfl) rfl) (Y wn rfl (ym (v := .bool (decide (x792 < 0))) (e0 rfl)) ?_)))
      obtain ⟨r796, gr796, hM66⟩ := bs hM66
      refine joinW 11 (fun f w => f 1 = (pB b7) ∧ f 5 = iV (x3.length : Int) ∧ f 6 = h24.v ∧ f 8 = iV x287 ∧ f 9 = iV x752 ∧ f 10 = iV x753 ∧ f 11 = iV x754 ∧ f 12 = iV x791 ∧ f 75 = .bool r796 ∧ St w0 (ros) (box b7 28 [h2.v, h4.v, h6.v] :: row 3 (rI .i64) h24.v x286 :: rs) w) (fun j67 => ?_) ?_
      ·rcases iteS gr796 with ⟨c798, gr796⟩ | ⟨c798, gr796⟩
       ·refine Y (wg rfl rfl rfl (dT c798)) rfl (yFb FL_28_2 (et rfl e66_1)) (Y (wg rfl rfl rfl (dT c798)) rfl (yLb (u := h6.v) O_24 (e0 rfl) hst mhR rfl) (Y (wg rfl rfl rfl (dT c798)) rfl (ym (v := iV x287) (et rfl e66_8)) ?_))
        obtain ⟨x799, gx799, gr796⟩ := bs gr796
        refine Y (wg rfl rfl rfl (dT c798)) rfl (yIa SL_24 (e0 rfl) (e0 rfl) hst (rdI (mtF (mtF (mtF (mtF q3))))) gx799) ?_
        obtain ⟨h800, hst⟩ := iLs hst (mtF (mtF (mtF (mtF q3)))) gx799
        refine Y (wg rfl rfl rfl (dT c798)) rfl (yCt O_22 (e0 rfl) hst (mtF mhF) rfl) (Y (wg rfl rfl rfl (dT c798)) rfl (ym (v := iV x754) (et rfl e66_11)) ?_)
        obtain ⟨x801, gx801, gr796⟩ := bs gr796
        refine Y (wg rfl rfl rfl (dT c798)) rfl (yIa SL_22 (e0 rfl) (e0 rfl) hst (rdI mhF) gx801) (Y (wg rfl rfl rfl (dT c798)) rfl (yI O_3 (e0 rfl) hst (rdI mhF) gx801) (Y (wg rfl rfl rfl (dT c798)) rfl (ym (v := iV x753) (et rfl e66_10)) (Y (wg rfl rfl rfl (dT c798)) rfl (ygtr (e0 rfl) (e0 rfl)) (Y wn rfl (ypt (v := .bool (decide (x753 < x801))) (e0 rfl) (dT c798) (e0 rfl)) ?_))))
        obtain rfl := someI gr796
        exact j67 _ _ ⟨e66_1, e66_5, e66_6, e66_8, e66_9, e66_10, e66_11, rfl, rfl, (hst.facts (allT (allT (allT (allT (allT (allT allI)))))))⟩
       ·refine Gn (wx rfl rfl rfl (dF c798)) rfl (Gn (wx rfl rfl rfl (dF c798)) rfl (Gn (wx rfl rfl rfl (dF c798)) rfl (Gn (wx rfl rfl rfl (dF c798)) rfl (Gn (wx rfl rfl rfl (dF c798)) rfl (Gn (wx rfl rfl rfl (dF c798)) rfl (Gn (wx rfl rfl rfl (dF c798)) rfl (Gn (wx rfl rfl rfl (dF c798)) rfl (Gn (wx rfl rfl rfl (dF c798)) rfl (Gn (wx rfl rfl rfl (dF c798)) rfl (Y wn rfl (ypf (v := .bool false) (e0 rfl) (dF c798) rfl) ?_))))))))))
        obtain rfl := someI gr796
        exact j67 _ _ ⟨e66_1, e66_5, e66_6, e66_8, e66_9, e66_10, e66_11, rfl, rfl, (hst.facts (allT (allT (allT (allT allI)))))⟩
      rintro f w ⟨e797_1, e797_5, e797_6, e797_8, e797_9, e797_10, e797_11, e797_12, e797_75, hst⟩
      refine wN (k255 _ _ ?_)
      have j68 : ∀ (x805 : Int) (x806 : Int) (f : Nat → Value) (w : World), f 1 = (pB b7) → f 5 = iV (x3.length : Int) → f 6 = h24.v → f 8 = iV x287 → f 9 = iV x805 → f 10 = iV x806 → f 11 = iV x754 → St w0 (ros) (box b7 28 [h2.v, h4.v, h6.v] :: row 3 (rI .i64) h24.v x286 :: rs) w → sparseref18_Match_j68 x754 x805 x806 = some r66_ → Q253 .normal (fr 94 f) w := by
       intro x805 x806 f w ej68_1 ej68_5 ej68_6 ej68_8 ej68_9 ej68_10 ej68_11 hst hM
       refine qb253 _ _ _ (k252 _ _ (wR (Y wn rfl (ym (v := iV x754) (et rfl ej68_11)) (Y wn rfl (yadd (e0 rfl) rfl) (Y wn rfl (ya (v := iV (wa .i64 x754 1)) (e0 rfl)) (wN ?_))))))
       obtain rfl := someI hM
       exact n66 _ _ _ rfl ⟨_, _, _, _, rfl, rfl, ej68_1, ej68_5, ej68_6, ej68_8, ej68_9, ej68_10, rfl, hst⟩
      rcases iteS hM66 with ⟨c807, hM66⟩ | ⟨c807, hM66⟩
      ·refine condT (et rfl e797_75) c807 ?_
       obtain ⟨x808, gx808, hM66⟩ := bs hM66
       obtain ⟨x810, gx810, hM66⟩ := bs hM66
       refine wp_drawR [0, 0, 2, 0, 14, 30, 0, 126, 254, 1, 1023] [9, 10] 2 folM (by kernel_rfl) (by kernel_rfl) (by kernel_rfl) ?_
       replace hst := hst.drew
       refine DRn (l1 := [0, 1, 2, 3, 4, 5, 6, 7, 8]) (l2 := []) (lc := [9]) (by kernel_rfl) (by kernel_rfl) (by kernel_rfl) (Ry rfl rfl wn (ym (v := iV x791) (et rfl e797_12)) (Ry rfl rfl wn (yFb FL_28_2 (et rfl e797_1)) (Ry rfl rfl wn (yLb (u := h6.v) O_24 (e0 rfl) hst mhR rfl) (Ry rfl rfl wn (ym (v := iV x287) (et rfl e797_8)) (Ry rfl rfl wn (yIa SL_24 (e0 rfl) (e0 rfl) hst (rdI q3) gx808) ?_)))))
       obtain ⟨h809, hst⟩ := iLs hst q3 gx808
       refine Ry rfl rfl wn (yCt O_22 (e0 rfl) hst (mtF mhF) rfl) (Ry rfl rfl wn (ym (v := iV x754) (et rfl e797_11)) (Ry rfl rfl wn (yIa SL_22 (e0 rfl) (e0 rfl) hst (rdI mhF) gx810) (Ry rfl rfl wn (yI O_3 (e0 rfl) hst (rdI mhF) gx810) (Rn QSn ?_))))
       refine Lc rfl ?_ LAn
       refine Ly wn (ya (v := iV x791) (e0 rfl)) (DRn (l1 := []) (l2 := [1, 2, 3, 4, 5, 6, 7, 8]) (lc := [10]) (by kernel_rfl) (by kernel_rfl) (by kernel_rfl) (Rn (Sy rfl rfl wn (yFb FL_28_2 (et rfl e797_1)) rfl (Sy rfl rfl wn (yLb (u := h6.v) O_24 (e0 rfl) hst mhR rfl) rfl (Sy rfl rfl wn (ym (v := iV x287) (et rfl e797_8)) rfl (Sy rfl rfl wn (yIa SL_24 (e0 rfl) (e0 rfl) hst (rdI (mtF (mtF q3))) gx808) rfl (Sy rfl rfl wn (yCt O_22 (e0 rfl) hst (mtF mhF) rfl) rfl (Sy rfl rfl wn (ym (v := iV x754) (et rfl e797_11)) rfl (Sy rfl rfl wn (yIa SL_22 (e0 rfl) (e0 rfl) hst (rdI mhF) gx810) rfl (Sy rfl rfl wn (yI O_3 (e0 rfl) hst (rdI mhF) gx810) rfl QSn)))))))) ?_))
       refine Lc rfl ?_ LAn
       exact Ly wn (ya (v := iV x810) (e0 rfl)) (DRz (l1 := []) (l2 := []) (by kernel_rfl) (by kernel_rfl) (Rn QSn (j68 _ _ _ _ e797_1 e797_5 e797_6 e797_8 rfl rfl e797_11 (hst.facts (allT (allT allI))) hM66)))
      ·exact condF (et rfl e797_75) (bfalse c807) (wp_skip (j68 _ _ _ _ e797_1 e797_5 e797_6 e797_8 e797_9 e797_10 e797_11 hst hM66))
     ·refine condF (e0 rfl) (dF c788) (wp_exit (z250 _ _ _ rfl ?_))
      obtain rfl := someI hM66
      exact zz66 _ _ _ _ rfl rfl (je66_0 _ _ _ e66_1 e66_5 e66_6 e66_8 e66_9 (hst.facts (allT (allT allI))) (ho66 _ rfl))
   ·refine condF (e0 rfl) (dF c551) (wp_exit (z178 _ _ _ rfl ?_))
    obtain rfl := someI hM46
    exact zz46 _ _ _ _ rfl rfl (je46_0 _ _ _ e46_6 (hst.pk 2 [1] rfl) (ho46 _ rfl))
  replace hst := hst.rowNh 3 (rI .i64)
  refine loopQ (fun s a w => ∃ (x15 : List Int) (x16 : Int) (f : Nat → Value) (h14 : Hdr), (x15, x16) = s ∧ a = fr 94 f ∧ f 1 = (pB b7) ∧ f 5 = iV (x3.length : Int) ∧ f 6 = h14.v ∧ f 7 = iV x16 ∧ St w0 (ros) (box b7 28 [h2.v, h4.v, h6.v] :: row 3 (rI .i64) h14.v x15 :: rs) w) go1 ⟨_, _, _, _, rfl, rfl, rfl, rfl, rfl, rfl, (hst.pk 2 [1, 0] rfl)⟩ ?_
  rintro _ _ w r1_ ⟨x15, x16, f, h14, rfl, rfl, e1_1, e1_5, e1_6, e1_7, hst⟩ hM1 ho1 Q100001 n1 zz1
  refine seqQ fun Q256 k256 z256 => seqQ fun Q257 k257 z257 => wR (Y wn rfl (ym (v := iV x16) (et rfl e1_7)) (Y wn rfl (ym (v := iV (x3.length : Int)) (et rfl e1_5)) (Y wn rfl (ylss (e0 rfl) (e0 rfl)) (wN (k257 _ _ ?_)))))
  rcases iteS hM1 with ⟨c811, hM1⟩ | ⟨c811, hM1⟩
  ·refine condT (e0 rfl) (dT c811) (wp_skip (k256 _ _ (seqQ fun Q258 k258 z258 => blockQ fun Q259 qb259 => wR (Y wn rfl (ym (v := h14.v) (et rfl e1_6)) (YH wn rfl (rLt (n := 1) (l := [(-1)]) hst SL_22 [iV (-1)] (bp1 rfl) rfl rfl (mks1 (cs := [iV (-1)]) rfl mkI mks0)) ?_)))))
   intro h812 w hst
   obtain ⟨x814, gx814, hM1⟩ := bs hM1
   replace hst := hst.pk 3 [2, 0, 0] rfl
   refine YH wn rfl (rAp hst SL_22 (e0 rfl) (e0 rfl) (rdO (mtR mhR)) gx814) ?_
   intro h813 w hst
   refine Y wn rfl (ya (v := h813.v) (e0 rfl)) (wN (qb259 _ _ _ (k258 _ _ (wR (Y wn rfl (ym (v := iV x16) (et rfl e1_7)) (Y wn rfl (yadd (e0 rfl) rfl) (Y wn rfl (ya (v := iV (wa .i64 x16 1)) (e0 rfl)) (wN ?_))))))))
   obtain rfl := someI hM1
   exact n1 _ _ _ rfl ⟨_, _, _, _, rfl, rfl, e1_1, e1_5, rfl, rfl, (hst.pk 3 [2, 0] rfl)⟩
  ·refine condF (e0 rfl) (dF c811) (wp_exit (z256 _ _ _ rfl ?_))
   obtain rfl := someI hM1
   exact zz1 _ _ _ _ rfl rfl (je1_0 _ _ _ _ e1_1 e1_5 e1_6 hst (ho1 _ rfl))
 ·refine condT (e0 rfl) (nT (dF c9)) (seqQ fun Q260 k260 z260 => wR (Y wn rfl (ym (v := iV r8) (e0 rfl)) (Y wn rfl (ya (v := hnil.v) rfl) (Y wn rfl (ya (v := iV r8) (e0 rfl)) (wN (k260 _ _ (wp_ret (z2 _ _ _ rfl ?_))))))))
  obtain rfl := someI hM
  replace hst := hst.rowNh 3 (rI .i64)
  exact hQ _ _ _ (fin2r Tryz.results12 ⟨rfl, rfl⟩ ⟨rfl, rfl⟩ ⟨_, rfl, (hst.pk 2 [0] rfl)⟩)
end Go.Proofs.YthpeajepbffinaaGreat
