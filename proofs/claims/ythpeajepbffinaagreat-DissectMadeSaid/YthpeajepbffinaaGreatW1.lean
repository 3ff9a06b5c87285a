/- Walks: each function computes its model, printed. -/
import Derived.Test.YthpeajepbffinaaGreatW0
namespace Go.Proofs.YthpeajepbffinaaGreat
open Go Sx M
set_option maxRecDepth 100000
set_option maxHeartbeats 4000000
set_option linter.unusedVariables false
attribute [local irreducible] wpList Code.wp Calls DR QR QS LA LS St
variable {w0 : World} {ros : List Fact} {rs : List Res} {w : World}
theorem slices_Concat_int_ok {x1 : List (List Int)} {h2 : Hdr} {out : (List Int)} (hM : slices_Concat_int x1 = some out) (q1 : imm (rS (rI .i64)) h2.v x1 ∈ ros) (hst : St w0 ros (rs) w) :
  Calls Tryz.prog 98 #[h2.v] w (fun e w => ∃ (h100001 : Hdr), e = .returned (h100001.v) ∧ St w0 (ros) (row 3 (rI .i64) h100001.v out :: rs) w) := by
 refine enterQ Tryz.func98 rfl Tryz.ntmps98 rfl fun Q hQ => seqQ fun Q1 k1 z1 => wR (Y wn rfl (ya (v := hnil.v) rfl) (wN (k1 _ _ (seqQ fun Q2 k2 z2 => wR (Y wn rfl (ya (v := iV 0) rfl) (wN (k2 _ _ (seqQ fun Q3 k3 z3 => seqQ fun Q4 k4 z4 => wR ?_))))))))
 refine Y wn rfl (ym (v := h2.v) (e0 rfl)) (Y wn rfl (yLen SL_24 (e0 rfl) hst (rdI q1)) (Y wn rfl (ym (v := iV 0) rfl) (wN (k4 _ _ (blockQ fun Q5 qb5 => ?_)))))
 obtain ⟨o3, go3, hM⟩ := bs hM
 have je3_0 : ∀ (x15 : Int) (f : Nat → Value) (w : World), f 0 = h2.v → f 3 = iV x15 → St w0 (ros) (rs) w → x15 = o3 → Q5 (.exit 0) (fr 36 f) w := by
  intro x15 f w eje3_0_0 eje3_0_3 hst ho
  subst ho
  refine qb5 _ _ _ (k3 _ _ (seqQ fun Q20 k20 z20 => wR (Y wn rfl (ym (v := iV x15) (et rfl eje3_0_3)) ?_)))
  obtain ⟨r16, gr16, hM⟩ := bs hM
  refine Yc wn rfl (yCall FN_119 (a2 rfl (e0 rfl))) (slices_Grow_int_ok (hM := gr16) (hst := hst) ) ?_
  rintro _ w ⟨h17, rfl, hst⟩
  refine ⟨_, rfl, ?_⟩
  refine Y wn rfl (ya (v := h17.v) (e0 rfl)) (wN (k20 _ _ (seqQ fun Q21 k21 z21 => seqQ fun Q22 k22 z22 => wR (Y wn rfl (ym (v := h2.v) (et rfl eje3_0_0)) (Y wn rfl (yLen SL_24 (e0 rfl) hst (rdI q1)) (Y wn rfl (ym (v := iV 0) rfl) (wN (k22 _ _ (blockQ fun Q23 qb23 => ?_)))))))))
  obtain ⟨o4, go4, hM⟩ := bs hM
  have je4_0 : ∀ (x35 : List Int) (h34 : Hdr) (f : Nat → Value) (w : World), f 6 = h34.v → St w0 (ros) (row 3 (rI .i64) h34.v x35 :: rs) w → x35 = o4 → Q23 (.exit 2) (fr 36 f) w := by
   intro x35 h34 f w eje4_0_6 hst ho
   subst ho
   refine qb23 _ _ _ (k21 _ _ (seqQ fun Q34 k34 z34 => wR (Y wn rfl (ym (v := h34.v) (et rfl eje4_0_6)) (Y wn rfl (ya (v := h34.v) (e0 rfl)) (wN (k34 _ _ (wp_ret ?_)))))))
   obtain rfl := someI hM
   exact hQ _ _ _ (fin1r Tryz.results98 ⟨rfl, rfl⟩ ⟨_, rfl, hst⟩)
  refine loopQ (fun s a w => ∃ (x24 : List Int) (x25 : Int) (f : Nat → Value) (h23 : Hdr), (x24, x25) = s ∧ a = fr 36 f ∧ f 6 = h23.v ∧ f 25 = h2.v ∧ f 26 = iV (x1.length : Int) ∧ f 27 = iV x25 ∧ St w0 (ros) (row 3 (rI .i64) h23.v x24 :: rs) w) go4 ⟨_, _, _, _, rfl, rfl, rfl, rfl, rfl, rfl, hst⟩ ?_
  rintro _ _ w r4_ ⟨x24, x25, f, h23, rfl, rfl, e4_6, e4_25, e4_26, e4_27, hst⟩ hM4 ho4 Q100004 n4 zz4
  refine seqQ fun Q35 k35 z35 => wR (Y wn rfl (ylss (et rfl e4_27) (et rfl e4_26)) (wN (k35 _ _ (seqQ fun Q36 k36 z36 => ?_))))
  rcases iteS hM4 with ⟨c36, hM4⟩ | ⟨c36, hM4⟩
  ·refine condT (e0 rfl) (dT c36) (wp_skip (k36 _ _ (seqQ fun Q37 k37 z37 => blockQ fun Q38 qb38 => seqQ fun Q39 k39 z39 => wR ?_)))
   obtain ⟨x37, gx37, hM4⟩ := bs hM4
   refine Y wn rfl (yIa SL_24 (et rfl e4_25) (et rfl e4_27) hst (rdI q1) gx37) ?_
   obtain ⟨h38, hst⟩ := iLs hst q1 gx37
   refine Y wn rfl (yCt O_22 (e0 rfl) hst (mtF mhF) rfl) (Y wn rfl (ya (v := h38.v) (e0 rfl)) (wN (k39 _ _ (wR (Y wn rfl (ym (v := h23.v) (et rfl e4_6)) (Y wn rfl (ym (v := h38.v) (e0 rfl)) ?_))))))
   obtain ⟨x40, gx40, hM4⟩ := bs hM4
   refine YH wn rfl (rAp hst SL_22 (e0 rfl) (e0 rfl) (rdI mhF) gx40) ?_
   intro h39 w hst
   refine Y wn rfl (ya (v := h39.v) (e0 rfl)) (wN (qb38 _ _ _ (k37 _ _ (wR (Y wn rfl (yadd (et rfl e4_27) rfl) (Y wn rfl (ym (v := iV (wa .i64 x25 1)) (e0 rfl)) (wN ?_)))))))
   obtain rfl := someI hM4
   exact n4 _ _ _ rfl ⟨_, _, _, _, rfl, rfl, rfl, e4_25, e4_26, rfl, (hst.facts (allT (allT allI)))⟩
  ·refine condF (e0 rfl) (dF c36) (wp_exit (z36 _ _ _ rfl ?_))
   obtain rfl := someI hM4
   exact zz4 _ _ _ _ rfl rfl (je4_0 _ _ _ _ e4_6 hst (ho4 _ rfl))
 refine loopQ (fun s a w => ∃ (x7 : Int) (x8 : Int) (f : Nat → Value), (x7, x8) = s ∧ a = fr 36 f ∧ f 0 = h2.v ∧ f 3 = iV x7 ∧ f 9 = h2.v ∧ f 10 = iV (x1.length : Int) ∧ f 11 = iV x8 ∧ St w0 (ros) (rs) w) go3 ⟨_, _, _, rfl, rfl, rfl, rfl, rfl, rfl, rfl, hst⟩ ?_
 rintro _ _ w r3_ ⟨x7, x8, f, rfl, rfl, e3_0, e3_3, e3_9, e3_10, e3_11, hst⟩ hM3 ho3 Q100003 n3 zz3
 refine seqQ fun Q40 k40 z40 => wR (Y wn rfl (ylss (et rfl e3_11) (et rfl e3_10)) (wN (k40 _ _ (seqQ fun Q41 k41 z41 => ?_))))
 rcases iteS hM3 with ⟨c41, hM3⟩ | ⟨c41, hM3⟩
 ·refine condT (e0 rfl) (dT c41) (wp_skip (k41 _ _ (seqQ fun Q42 k42 z42 => blockQ fun Q43 qb43 => seqQ fun Q44 k44 z44 => wR ?_)))
  obtain ⟨x42, gx42, hM3⟩ := bs hM3
  refine Y wn rfl (yIa SL_24 (et rfl e3_9) (et rfl e3_11) hst (rdI q1) gx42) ?_
  obtain ⟨h43, hst⟩ := iLs hst q1 gx42
  refine Y wn rfl (yCt O_22 (e0 rfl) hst (mtF mhF) rfl) (Y wn rfl (ya (v := h43.v) (e0 rfl)) (wN (k44 _ _ (seqQ fun Q45 k45 z45 => wR (Y wn rfl (ym (v := iV x7) (et rfl e3_3)) (Y wn rfl (ym (v := h43.v) (e0 rfl)) (Y wn rfl (yLen SL_22 (e0 rfl) hst (rdI mhF)) (Y wn rfl (yadd (e0 rfl) (e0 rfl)) (Y wn rfl (ya (v := iV (wa .i64 x7 (x42.length : Int))) (e0 rfl)) (wN (k45 _ _ (seqQ fun Q46 k46 z46 => ?_))))))))))))
  refine wR (Y wn rfl (ym (v := iV (wa .i64 x7 (x42.length : Int))) (e0 rfl)) (Y wn rfl (ylss (e0 rfl) rfl) (wN (k46 _ _ ?_))))
  have j5 : ∀ (f : Nat → Value) (w : World), f 0 = h2.v → f 3 = iV (wa .i64 x7 (x42.length : Int)) → f 9 = h2.v → f 10 = iV (x1.length : Int) → f 11 = iV x8 → St w0 (ros) (rs) w → slices_Concat_int_j5 x7 x42 x8 = some r3_ → Q43 .normal (fr 36 f) w := by
   intro f w ej5_0 ej5_3 ej5_9 ej5_10 ej5_11 hst hM
   refine qb43 _ _ _ (k42 _ _ (wR (Y wn rfl (yadd (et rfl ej5_11) rfl) (Y wn rfl (ym (v := iV (wa .i64 x8 1)) (e0 rfl)) (wN ?_)))))
   obtain rfl := someI hM
   exact n3 _ _ _ rfl ⟨_, _, _, rfl, rfl, ej5_0, ej5_3, ej5_9, ej5_10, rfl, hst⟩
  rcases iteS hM3 with ⟨c44, hM3⟩ | ⟨c44, hM3⟩
  ·refine condT (e0 rfl) (dT c44) ?_
   cases hM3
  ·exact condF (e0 rfl) (dF c44) (wp_skip (j5 _ _ e3_0 rfl e3_9 e3_10 e3_11 (hst.facts (allT (allT allI))) hM3))
 ·refine condF (e0 rfl) (dF c41) (wp_exit (z41 _ _ _ rfl ?_))
  obtain rfl := someI hM3
  exact zz3 _ _ _ _ rfl rfl (je3_0 _ _ _ e3_0 e3_3 hst (ho3 _ rfl))

theorem graph_Components_ok {x1 : List (List Int)} {h2 : Hdr} {out : (List (List Int))} (hM : graph_Components x1 = some out) (q1 : imm (rS (rI .i64)) h2.v x1 ∈ ros) (hst : St w0 ros (rs) w) :
  Calls Tryz.prog 97 #[.agg #[h2.v]] w (fun e w => ∃ (h100001 : Hdr), e = .returned (h100001.v) ∧ St w0 (ros) (row 22 (rS (rI .i64)) h100001.v out :: rs) w) := by
 refine enterQ Tryz.func97 rfl Tryz.ntmps97 rfl fun Q hQ => seqQ fun Q1 k1 z1 => wR (YB wn rfl (r_box (vals := [h2.v]) hst (e0 rfl) rfl) ?_)
 intro b3 w hst
 refine Y wn rfl (ya (v := hnil.v) rfl) (wN (k1 _ _ (seqQ fun Q2 k2 z2 => seqQ fun Q3 k3 z3 => wR (Y wn rfl (yLbs (us := [h2.v]) ST_26 (e0 rfl) hst mhR rfl rfl) ?_))))
 obtain ⟨r4, gr4, hM⟩ := bs hM
 refine Yc wn rfl (yCall FN_51 (a1 (e0 rfl))) (graph_Check_ok (hM := gr4) (hst := hst) (q1 := q1)) ?_
 rintro _ w ⟨rfl, hst⟩
 refine ⟨_, rfl, ?_⟩
 refine Y wn rfl (yneq (e0 rfl) rfl) (wN (k3 _ _ ?_))
 rcases iteS hM with ⟨c5, hM⟩ | ⟨c5, hM⟩
 ·refine condF (e0 rfl) (nF (dT c5)) (wp_skip (k2 _ _ (seqQ fun Q4 k4 z4 => wR (Y wn rfl (yFb FL_26_0 (e0 rfl)) (Y wn rfl (yLb (u := h2.v) O_24 (e0 rfl) hst mhR rfl) (Y wn rfl (yLen SL_24 (e0 rfl) hst (rdI q1)) ?_))))))
  obtain ⟨x8, gx8, hM⟩ := bs hM
  refine YH wn rfl (rMk hst SL_93 (e0 rfl) gx8) ?_
  intro h6 w hst
  refine Y wn rfl (ya (v := h6.v) (e0 rfl)) (wN (k4 _ _ (seqQ fun Q5 k5 z5 => wR (Y wn rfl (ya (v := hnil.v) rfl) (wN (k5 _ _ (seqQ fun Q6 k6 z6 => seqQ fun Q7 k7 z7 => wR (Y wn rfl (yFb FL_26_0 (e0 rfl)) (Y wn rfl (yLb (u := h2.v) O_24 (e0 rfl) hst (mtR mhR) rfl) (Y wn rfl (yLen SL_24 (e0 rfl) hst (rdI q1)) ?_))))))))))
  refine Y wn rfl (ym (v := iV 0) rfl) (wN (k7 _ _ (blockQ fun Q8 qb8 => ?_)))
  obtain ⟨o9, go9, hM⟩ := bs hM
  have je9_0 : ∀ (x170 : List (List Int)) (h169 : Hdr) (f : Nat → Value) (w : World), f 4 = h169.v → St w0 (ros) (row 22 (rS (rI .i64)) h169.v x170 :: rs) w → x170 = o9 → Q8 (.exit 0) (fr 48 f) w := by
   intro x170 h169 f w eje9_0_4 hst ho
   subst ho
   refine qb8 _ _ _ (k6 _ _ (seqQ fun Q159 k159 z159 => wR (Y wn rfl (ym (v := h169.v) (et rfl eje9_0_4)) (Y wn rfl (ya (v := h169.v) (e0 rfl)) (wN (k159 _ _ (wp_ret ?_)))))))
   obtain rfl := someI hM
   exact hQ _ _ _ (fin1r Tryz.results97 ⟨rfl, rfl⟩ ⟨_, rfl, hst⟩)
  replace hst := hst.rowNh 22 (rS (rI .i64))
  refine loopQ (fun s a w => ∃ (x85 : List Bool) (x87 : List (List Int)) (x88 : Int) (f : Nat → Value) (h86 : Hdr), (x85, x87, x88) = s ∧ a = fr 48 f ∧ f 1 = (pB b3) ∧ f 3 = h6.v ∧ f 4 = h86.v ∧ f 18 = iV (x1.length : Int) ∧ f 19 = iV x88 ∧ St w0 (ros) (box b3 26 [h2.v] :: row 4 rB h6.v x85 :: row 22 (rS (rI .i64)) h86.v x87 :: rs) w) go9 ⟨_, _, _, _, _, rfl, rfl, rfl, rfl, rfl, rfl, rfl, (hst.pk 3 [2, 1, 0] rfl)⟩ ?_
  rintro _ _ w r9_ ⟨x85, x87, x88, f, h86, rfl, rfl, e9_1, e9_3, e9_4, e9_18, e9_19, hst⟩ hM9 ho9 Q100009 n9 zz9
  refine seqQ fun Q160 k160 z160 => wR (Y wn rfl (ylss (et rfl e9_19) (et rfl e9_18)) (wN (k160 _ _ (seqQ fun Q161 k161 z161 => ?_))))
  rcases iteS hM9 with ⟨c171, hM9⟩ | ⟨c171, hM9⟩
  ·refine condT (e0 rfl) (dT c171) (wp_skip (k161 _ _ (seqQ fun Q162 k162 z162 => ?_)))
   have j12 : ∀ (x220 : List Bool) (x222 : List (List Int)) (h221 : Hdr) (f : Nat → Value) (w : World), f 1 = (pB b3) → f 3 = h6.v → f 4 = h221.v → f 18 = iV (x1.length : Int) → f 19 = iV x88 → St w0 (ros) (box b3 26 [h2.v] :: row 4 rB h6.v x220 :: row 22 (rS (rI .i64)) h221.v x222 :: rs) w → graph_Components_j12 x88 x220 x222 = some r9_ → Q162 .normal (fr 48 f) w := by
    intro x220 x222 h221 f w ej12_1 ej12_3 ej12_4 ej12_18 ej12_19 hst hM
    refine k162 _ _ (wR (Y wn rfl (yadd (et rfl ej12_19) rfl) (Y wn rfl (ym (v := iV (wa .i64 x88 1)) (e0 rfl)) (wN ?_))))
    obtain rfl := someI hM
    exact n9 _ _ _ rfl ⟨_, _, _, _, _, rfl, rfl, ej12_1, ej12_3, ej12_4, ej12_18, rfl, hst⟩
   refine blockQ fun Q211 qb211 => seqQ fun Q212 k212 z212 => wR (Y wn rfl (ym (v := iV x88) (et rfl e9_19)) (Y wn rfl (ya (v := iV x88) (e0 rfl)) (wN (k212 _ _ (seqQ fun Q213 k213 z213 => seqQ fun Q214 k214 z214 => wR (Y wn rfl (ym (v := h6.v) (et rfl e9_3)) (Y wn rfl (ym (v := iV x88) (e0 rfl)) ?_)))))))
   obtain ⟨x223, gx223, hM9⟩ := bs hM9
   refine Y wn rfl (yIa SL_93 (e0 rfl) (e0 rfl) hst (rdO (mtR mhR)) gx223) (Y wn rfl (yB O_4 (e0 rfl) hst (rdO (mtR mhR)) gx223) (wN (k214 _ _ ?_)))
   rcases iteS hM9 with ⟨c224, hM9⟩ | ⟨c224, hM9⟩
   ·exact condT (e0 rfl) c224 (wp_exit (z213 _ _ _ rfl (qb211 _ _ _ (j12 _ _ _ _ _ e9_1 e9_3 e9_4 e9_18 e9_19 hst hM9))))
   ·refine condF (e0 rfl) (bfalse c224) (wp_skip (k213 _ _ (seqQ fun Q215 k215 z215 => wR (Y wn rfl (yLbs (us := [h2.v]) ST_26 (et rfl e9_1) hst mhR rfl rfl) (Y wn rfl (ym (v := iV x88) (e0 rfl)) ?_)))))
    obtain ⟨r225, gr225, hM9⟩ := bs hM9
    refine Yc wn rfl (yCall FN_117 (a2 (e0 rfl) (e0 rfl))) (graph_levels_ok (hM := gr225) (hst := hst) (q1 := q1)) ?_
    rintro _ w ⟨h226, rfl, hst⟩
    refine ⟨_, rfl, ?_⟩
    obtain ⟨r227, gr227, hM9⟩ := bs hM9
    replace hst := hst.fz
    refine Yc wn rfl (yCall FN_98 (a1 (e0 rfl))) (slices_Concat_int_ok (hM := gr227) (hst := hst) (q1 := mhF)) ?_
    rintro _ w ⟨h228, rfl, hst⟩
    refine ⟨_, rfl, ?_⟩
    refine Y wn rfl (ya (v := h228.v) (e0 rfl)) (wN (k215 _ _ (seqQ fun Q216 k216 z216 => wR (Y wn rfl (ym (v := h228.v) (e0 rfl)) ?_))))
    obtain ⟨r229, gr229, hM9⟩ := bs hM9
    refine Yc wn rfl (yCall FN_118 (a1 (e0 rfl))) (sortI_ok (hM := gr229) (hst := hst) ) ?_
    rintro _ w ⟨rfl, hst⟩
    refine ⟨_, rfl, ?_⟩
    refine wN (k216 _ _ (seqQ fun Q217 k217 z217 => seqQ fun Q218 k218 z218 => wR (Y wn rfl (ym (v := h228.v) (e0 rfl)) (Y wn rfl (yLen SL_22 (e0 rfl) hst (rdO mhR)) (Y wn rfl (ym (v := iV 0) rfl) (wN (k218 _ _ (blockQ fun Q219 qb219 => ?_))))))))
    obtain ⟨o13, go13, hM9⟩ := bs hM9
    have je13_0 : ∀ (x240 : List Bool) (f : Nat → Value) (w : World), f 1 = (pB b3) → f 3 = h6.v → f 4 = h86.v → f 6 = h228.v → f 18 = iV (x1.length : Int) → f 19 = iV x88 → St w0 (ros) (box b3 26 [h2.v] :: row 4 rB h6.v x240 :: row 22 (rS (rI .i64)) h86.v x87 :: row 3 (rI .i64) h228.v r229 :: rs) w → x240 = o13 → Q219 (.exit 2) (fr 48 f) w := by
     intro x240 f w eje13_0_1 eje13_0_3 eje13_0_4 eje13_0_6 eje13_0_18 eje13_0_19 hst ho
     subst ho
     refine qb219 _ _ _ (k217 _ _ (wR (Y wn rfl (ym (v := h86.v) (et rfl eje13_0_4)) (Y wn rfl (ym (v := h228.v) (et rfl eje13_0_6)) ?_))))
     replace hst := hst.pk 4 [3, 0, 0, 0] rfl
     replace hst := hst.fz
     refine YH wn rfl (rLt (n := 1) (l := [r229]) hst SL_24 [h228.v] (bp1 (e0 rfl)) rfl rfl (mks1 (cs := [h228.v]) rfl (mkS mhF) mks0)) ?_
     intro h241 w hst
     obtain ⟨x243, gx243, hM9⟩ := bs hM9
     replace hst := hst.pk 4 [3, 0, 0, 0] rfl
     refine YH wn rfl (rAp hst SL_24 (e0 rfl) (e0 rfl) (rdO (mtR mhR)) gx243) ?_
     intro h242 w hst
     exact Y wn rfl (ya (v := h242.v) (e0 rfl)) (wN (qb211 _ _ _ (j12 _ _ _ _ _ eje13_0_1 eje13_0_3 rfl eje13_0_18 eje13_0_19 ((hst.pk 4 [2, 2, 0] rfl).facts (allT allI)) hM9)))
    refine loopQ (fun s a w => ∃ (x233 : List Bool) (x234 : Int) (f : Nat → Value), (x233, x234) = s ∧ a = fr 48 f ∧ f 1 = (pB b3) ∧ f 3 = h6.v ∧ f 4 = h86.v ∧ f 6 = h228.v ∧ f 18 = iV (x1.length : Int) ∧ f 19 = iV x88 ∧ f 32 = h228.v ∧ f 33 = iV (r229.length : Int) ∧ f 34 = iV x234 ∧ St w0 (ros) (box b3 26 [h2.v] :: row 4 rB h6.v x233 :: row 22 (rS (rI .i64)) h86.v x87 :: row 3 (rI .i64) h228.v r229 :: rs) w) go13 ⟨_, _, _, rfl, rfl, e9_1, e9_3, e9_4, rfl, e9_18, e9_19, rfl, rfl, rfl, ((hst.pk 4 [1, 1, 1, 0] rfl).facts (allT allI))⟩ ?_
    rintro _ _ w r13_ ⟨x233, x234, f, rfl, rfl, e13_1, e13_3, e13_4, e13_6, e13_18, e13_19, e13_32, e13_33, e13_34, hst⟩ hM13 ho13 Q100013 n13 zz13
    refine seqQ fun Q230 k230 z230 => wR (Y wn rfl (ylss (et rfl e13_34) (et rfl e13_33)) (wN (k230 _ _ (seqQ fun Q231 k231 z231 => ?_))))
    rcases iteS hM13 with ⟨c244, hM13⟩ | ⟨c244, hM13⟩
    ·refine condT (e0 rfl) (dT c244) (wp_skip (k231 _ _ (seqQ fun Q232 k232 z232 => blockQ fun Q233 qb233 => seqQ fun Q234 k234 z234 => wR ?_)))
     obtain ⟨x245, gx245, hM13⟩ := bs hM13
     refine Y wn rfl (yIa SL_22 (et rfl e13_32) (et rfl e13_34) hst (rdO (mtR (mtR (mtR mhR)))) gx245) (Y wn rfl (yI O_3 (e0 rfl) hst (rdO (mtR (mtR (mtR mhR)))) gx245) (Y wn rfl (ya (v := iV x245) (e0 rfl)) (wN (k234 _ _ (wR (Y wn rfl (ym (v := h6.v) (et rfl e13_3)) (Y wn rfl (ym (v := iV x245) (e0 rfl)) ?_)))))))
     obtain ⟨x246, gx246, hM13⟩ := bs hM13
     refine Y wn rfl (yIs SL_93 (e0 rfl) (e0 rfl) hst (rdO (mtR mhR)) gx246) ?_
     replace hst := hst.pk 2 [1, 0] rfl
     refine YT wn rfl (r_sti (cs := [.bool true]) hst O_4 rfl (e0 rfl) rfl rfl mkB gx246) ?_
     intro w hst
     refine wN (qb233 _ _ _ (k232 _ _ (wR (Y wn rfl (yadd (et rfl e13_34) rfl) (Y wn rfl (ym (v := iV (wa .i64 x234 1)) (e0 rfl)) (wN ?_))))))
     obtain rfl := someI hM13
     exact n13 _ _ _ rfl ⟨_, _, _, rfl, rfl, e13_1, e13_3, e13_4, e13_6, e13_18, e13_19, e13_32, e13_33, rfl, (hst.pk 4 [1, 0, 0, 0] rfl)⟩
    ·refine condF (e0 rfl) (dF c244) (wp_exit (z231 _ _ _ rfl ?_))
     obtain rfl := someI hM13
     exact zz13 _ _ _ _ rfl rfl (je13_0 _ _ _ e13_1 e13_3 e13_4 e13_6 e13_18 e13_19 hst (ho13 _ rfl))
  ·refine condF (e0 rfl) (dF c171) (wp_exit (z161 _ _ _ rfl ?_))
   obtain rfl := someI hM9
   exact zz9 _ _ _ _ rfl rfl (je9_0 _ _ _ _ e9_4 (hst.pk 3 [2] rfl) (ho9 _ rfl))
 ·refine condT (e0 rfl) (nT (dF c5)) (seqQ fun Q235 k235 z235 => wR (Y wn rfl (ya (v := hnil.v) rfl) (wN (k235 _ _ (wp_ret (z2 _ _ _ rfl ?_))))))
  obtain rfl := someI hM
  replace hst := hst.rowNh 22 (rS (rI .i64))
  exact hQ _ _ _ (fin1r Tryz.results97 ⟨rfl, rfl⟩ ⟨_, rfl, (hst.pk 2 [0] rfl)⟩)

theorem graph_vertex_ok {x1 : List (List Int)} {x3 : Int} {h2 : Hdr} {out : Bool} (hM : graph_vertex x1 x3 = some out) (q1 : imm (rS (rI .i64)) h2.v x1 ∈ ros) (hst : St w0 ros (rs) w) :
  Calls Tryz.prog 112 #[.agg #[h2.v], iV x3] w (fun e w => e = .returned (.bool out) ∧ St w0 (ros) (rs) w) := by
 refine enterQ Tryz.func112 rfl Tryz.ntmps112 rfl fun Q hQ => seqQ fun Q1 k1 z1 => wR (YB wn rfl (r_box (vals := [h2.v]) hst (e0 rfl) rfl) ?_)
 intro b4 w hst
 refine Y wn rfl (ya (v := .bool false) rfl) (wN (k1 _ _ (seqQ fun Q2 k2 z2 => wR (Y wn rfl (ym (v := iV x3) (e0 rfl)) (Y wn rfl (ygeq (e0 rfl) rfl) (Y wn rfl (ym (v := .bool (decide ((0 : Int) ≤ x3))) (e0 rfl)) ?_))))))
 refine joinW 6 (fun f w => f 13 = .bool ((decide ((0 : Int) ≤ x3)) && (decide (x3 < (x1.length : Int)))) ∧ St w0 (ros) (rs) w) (fun j1 => ?_) ?_
 ·rcases Bool.eq_false_or_eq_true (decide ((0 : Int) ≤ x3)) with c6 | c6
  ·exact Y (wg rfl rfl rfl c6) rfl (ym (v := iV x3) (e0 rfl)) (Y (wg rfl rfl rfl c6) rfl (yFb FL_26_0 (e0 rfl)) (Y (wg rfl rfl rfl c6) rfl (yLb (u := h2.v) O_24 (e0 rfl) hst mhR rfl) (Y (wg rfl rfl rfl c6) rfl (yLen SL_24 (e0 rfl) hst (rdI q1)) (Y (wg rfl rfl rfl c6) rfl (ylss (e0 rfl) (e0 rfl)) (Y wn rfl (ypt (v := .bool (decide (x3 < (x1.length : Int)))) (e0 rfl) c6 (e0 rfl)) (j1 _ _ ⟨(congrArg Value.bool (andT c6)), (hst.pk 1 [] rfl)⟩))))))
  ·exact Gn (wx rfl rfl rfl c6) rfl (Gn (wx rfl rfl rfl c6) rfl (Gn (wx rfl rfl rfl c6) rfl (Gn (wx rfl rfl rfl c6) rfl (Gn (wx rfl rfl rfl c6) rfl (Y wn rfl (ypf (v := .bool false) (e0 rfl) c6 rfl) (j1 _ _ ⟨(congrArg Value.bool (andF c6)), (hst.pk 1 [] rfl)⟩))))))
 rintro f w ⟨e5_13, hst⟩
 refine Y wn rfl (ya (v := .bool ((decide ((0 : Int) ≤ x3)) && (decide (x3 < (x1.length : Int))))) (et rfl e5_13)) (wN (k2 _ _ (wp_ret ?_)))
 obtain rfl := someI hM
 exact hQ _ _ _ (fin1r Tryz.results112 ⟨rfl, rfl⟩ ⟨rfl, hst⟩)

theorem graph_Peripheral_ok {x1 : List (List Int)} {x3 : Int} {h2 : Hdr} {out : Int} (hM : graph_Peripheral x1 x3 = some out) (q1 : imm (rS (rI .i64)) h2.v x1 ∈ ros) (hst : St w0 ros (rs) w) :
  Calls Tryz.prog 100 #[.agg #[h2.v], iV x3] w (fun e w => e = .returned (iV out) ∧ St w0 (ros) (rs) w) := by
 refine enterQ Tryz.func100 rfl Tryz.ntmps100 rfl fun Q hQ => seqQ fun Q1 k1 z1 => wR (YB wn rfl (r_box (vals := [h2.v]) hst (e0 rfl) rfl) ?_)
 intro b4 w hst
 refine Y wn rfl (ya (v := iV 0) rfl) (wN (k1 _ _ (seqQ fun Q2 k2 z2 => seqQ fun Q3 k3 z3 => wR (Y wn rfl (yLbs (us := [h2.v]) ST_26 (e0 rfl) hst mhR rfl rfl) ?_))))
 obtain ⟨r5, gr5, hM⟩ := bs hM
 refine Yc wn rfl (yCall FN_51 (a1 (e0 rfl))) (graph_Check_ok (hM := gr5) (hst := hst) (q1 := q1)) ?_
 rintro _ w ⟨rfl, hst⟩
 refine ⟨_, rfl, ?_⟩
 refine Y wn rfl (yneq (e0 rfl) rfl) (Y wn rfl (ym (v := .bool (!(decide (r5 = 0)))) (e0 rfl)) ?_)
 obtain ⟨r7, gr7, hM⟩ := bs hM
 refine joinW 5 (fun f w => f 1 = iV x3 ∧ f 2 = (pB b4) ∧ f 19 = .bool r7 ∧ St w0 (ros) (box b4 26 [h2.v] :: rs) w) (fun j1 => ?_) ?_
 ·rcases iteS gr7 with ⟨c9, gr7⟩ | ⟨c9, gr7⟩
  ·refine Y (wg rfl rfl rfl (nF (dT c9))) rfl (yLbs (us := [h2.v]) ST_26 (e0 rfl) hst mhR rfl rfl) (Y (wg rfl rfl rfl (nF (dT c9))) rfl (ym (v := iV x3) (e0 rfl)) ?_)
   obtain ⟨r10, gr10, gr7⟩ := bs gr7
   refine Yc (wg rfl rfl rfl (nF (dT c9))) rfl (yCall FN_112 (a2 (e0 rfl) (e0 rfl))) (graph_vertex_ok (hM := gr10) (hst := hst) (q1 := q1)) ?_
   rintro _ w ⟨rfl, hst⟩
   refine ⟨_, rfl, ?_⟩
   refine Y (wg rfl rfl rfl (nF (dT c9))) rfl (ynot (e0 rfl)) (Y wn rfl (ypf (v := .bool (!(r10))) (e0 rfl) (nF (dT c9)) (e0 rfl)) ?_)
   obtain rfl := someI gr7
   exact j1 _ _ ⟨rfl, rfl, rfl, hst⟩
  ·refine Gn (wx rfl rfl rfl (nT (dF c9))) rfl (Gn (wx rfl rfl rfl (nT (dF c9))) rfl (Gn (wx rfl rfl rfl (nT (dF c9))) rfl (Gn (wx rfl rfl rfl (nT (dF c9))) rfl (Y wn rfl (ypt (v := .bool true) (e0 rfl) (nT (dF c9)) rfl) ?_))))
   obtain rfl := someI gr7
   exact j1 _ _ ⟨rfl, rfl, rfl, hst⟩
 rintro f w ⟨e8_1, e8_2, e8_19, hst⟩
 refine wN (k3 _ _ ?_)
 rcases iteS hM with ⟨c11, hM⟩ | ⟨c11, hM⟩
 ·refine condT (et rfl e8_19) c11 (seqQ fun Q4 k4 z4 => wR (Y wn rfl (ya (v := iV (-1)) rfl) (wN (k4 _ _ (wp_ret (z2 _ _ _ rfl ?_))))))
  obtain rfl := someI hM
  exact hQ _ _ _ (fin1r Tryz.results100 ⟨rfl, rfl⟩ ⟨rfl, (hst.pk 1 [] rfl)⟩)
 ·refine condF (et rfl e8_19) (bfalse c11) (wp_skip (k2 _ _ (seqQ fun Q5 k5 z5 => wR (Y wn rfl (yLbs (us := [h2.v]) ST_26 (et rfl e8_2) hst mhR rfl rfl) (Y wn rfl (ym (v := iV x3) (et rfl e8_1)) ?_)))))
  obtain ⟨r12, gr12, hM⟩ := bs hM
  refine Yc wn rfl (yCall FN_117 (a2 (e0 rfl) (e0 rfl))) (graph_levels_ok (hM := gr12) (hst := hst) (q1 := q1)) ?_
  rintro _ w ⟨h13, rfl, hst⟩
  refine ⟨_, rfl, ?_⟩
  refine Y wn rfl (ya (v := h13.v) (e0 rfl)) (wN (k5 _ _ (blockQ fun Q6 qb6 => ?_)))
  obtain ⟨o10, go10, hM⟩ := bs hM
  have je10_0 : ∀ (x90 : Int) (f : Nat → Value) (w : World), f 4 = iV x90 → St w0 (ros) (rs) w → x90 = o10 → Q6 .ret (fr 64 f) w := by
   intro x90 f w eje10_0_4 hst ho
   subst ho
   refine qb6 _ _ _ ?_
   obtain rfl := someI hM
   exact hQ _ _ _ (fin1r Tryz.results100 ⟨rfl, eje10_0_4⟩ ⟨rfl, hst⟩)
  refine loopQ (fun s a w => ∃ (x49 : Int) (x51 : List (List Int)) (f : Nat → Value) (h50 : Hdr), (x49, x51) = s ∧ a = fr 64 f ∧ f 1 = iV x49 ∧ f 2 = (pB b4) ∧ f 5 = h50.v ∧ St w0 (ros) (box b4 26 [h2.v] :: row 22 (rS (rI .i64)) h50.v x51 :: rs) w) go10 ⟨_, _, _, _, rfl, rfl, e8_1, e8_2, rfl, (hst.pk 2 [1, 0] rfl)⟩ ?_
  rintro _ _ w r10_ ⟨x49, x51, f, h50, rfl, rfl, e10_1, e10_2, e10_5, hst⟩ hM10 ho10 Q100010 n10 zz10
  refine blockQ fun Q63 qb63 => seqQ fun Q64 k64 z64 => wR (Y wn rfl (ym (v := h50.v) (et rfl e10_5)) (Y wn rfl (ym (v := h50.v) (et rfl e10_5)) (Y wn rfl (yLen SL_24 (e0 rfl) hst (rdO (mtR mhR))) (Y wn rfl (ysub (e0 rfl) rfl) ?_))))
  obtain ⟨x91, gx91, hM10⟩ := bs hM10
  refine Y wn rfl (yIa SL_24 (e0 rfl) (e0 rfl) hst (rdO (mtR mhR)) gx91) ?_
  obtain ⟨h92, ch92, hst⟩ := rLs hst (rdO (mtR mhR)) gx91
  refine Y wn rfl (yCe O_22 (e0 rfl) ch92 rfl) (Y wn rfl (ya (v := h92.v) (e0 rfl)) (wN (k64 _ _ (seqQ fun Q65 k65 z65 => wR (Y wn rfl (ym (v := h92.v) (e0 rfl)) ?_)))))
  obtain ⟨x93, gx93, hM10⟩ := bs hM10
  refine Y wn rfl (yIa SL_22 (e0 rfl) rfl hst (rdI mhF) gx93) (Y wn rfl (yI O_3 (e0 rfl) hst (rdI mhF) gx93) (Y wn rfl (ya (v := iV x93) (e0 rfl)) (wN (k65 _ _ (seqQ fun Q66 k66 z66 => seqQ fun Q67 k67 z67 => wR (Y wn rfl (ym (v := h92.v) (e0 rfl)) (Y wn rfl (yLen SL_22 (e0 rfl) hst (rdI mhF)) (Y wn rfl (ym (v := iV 0) rfl) (wN (k67 _ _ (blockQ fun Q68 qb68 => ?_)))))))))))
  obtain ⟨o13, go13, hM10⟩ := bs hM10
  have je13_0 : ∀ (x114 : Int) (f : Nat → Value) (w : World), f 1 = iV x49 → f 2 = (pB b4) → f 5 = h50.v → f 7 = iV x114 → St w0 (ros) (box b4 26 [h2.v] :: row 22 (rS (rI .i64)) h50.v x51 :: rs) w → x114 = o13 → Q68 (.exit 2) (fr 64 f) w := by
   intro x114 f w eje13_0_1 eje13_0_2 eje13_0_5 eje13_0_7 hst ho
   subst ho
   refine qb68 _ _ _ (k66 _ _ (seqQ fun Q81 k81 z81 => wR (Y wn rfl (yLbs (us := [h2.v]) ST_26 (et rfl eje13_0_2) hst mhR rfl rfl) (Y wn rfl (ym (v := iV x114) (et rfl eje13_0_7)) ?_))))
   obtain ⟨r115, gr115, hM10⟩ := bs hM10
   refine Yc wn rfl (yCall FN_117 (a2 (e0 rfl) (e0 rfl))) (graph_levels_ok (hM := gr115) (hst := hst) (q1 := q1)) ?_
   rintro _ w ⟨h116, rfl, hst⟩
   refine ⟨_, rfl, ?_⟩
   refine Y wn rfl (ya (v := h116.v) (e0 rfl)) (wN (k81 _ _ (seqQ fun Q82 k82 z82 => seqQ fun Q83 k83 z83 => wR (Y wn rfl (ym (v := h116.v) (e0 rfl)) (Y wn rfl (yLen SL_24 (e0 rfl) hst (rdO mhR)) (Y wn rfl (ym (v := h50.v) (et rfl eje13_0_5)) (Y wn rfl (yLen SL_24 (e0 rfl) hst (rdO (mtR (mtR mhR)))) (Y wn rfl (yleq (e0 rfl) (e0 rfl)) (wN (k83 _ _ ?_))))))))))
   rcases iteS hM10 with ⟨c117, hM10⟩ | ⟨c117, hM10⟩
   ·refine condT (e0 rfl) (dT c117) (seqQ fun Q84 k84 z84 => wR (Y wn rfl (ym (v := iV x49) (et rfl eje13_0_1)) (Y wn rfl (ya (v := iV x49) (e0 rfl)) (wN (k84 _ _ (wp_ret (z82 _ _ _ rfl (qb63 _ _ _ ?_))))))))
    obtain rfl := someI hM10
    exact zz10 _ _ _ _ rfl rfl (je10_0 _ _ _ rfl (hst.pk 3 [] rfl) (ho10 _ rfl))
   ·refine condF (e0 rfl) (dF c117) (wp_skip (k82 _ _ (wR (Y wn rfl (ym (v := iV x114) (et rfl eje13_0_7)) (Y wn rfl (ym (v := h116.v) (e0 rfl)) (Y wn rfl (ya (v := iV x114) (e0 rfl)) (Y wn rfl (ya (v := h116.v) (e0 rfl)) (wN (qb63 _ _ _ ?_)))))))))
    obtain rfl := someI hM10
    exact n10 _ _ _ rfl ⟨_, _, _, _, rfl, rfl, rfl, eje13_0_2, rfl, (hst.pk 3 [1, 0] rfl)⟩
  refine loopQ (fun s a w => ∃ (x102 : Int) (x103 : Int) (f : Nat → Value), (x102, x103) = s ∧ a = fr 64 f ∧ f 1 = iV x49 ∧ f 2 = (pB b4) ∧ f 5 = h50.v ∧ f 7 = iV x102 ∧ f 32 = h92.v ∧ f 33 = iV (x91.length : Int) ∧ f 34 = iV x103 ∧ St w0 (imm (rI .i64) h92.v x91 :: ros) (box b4 26 [h2.v] :: row 22 (rS (rI .i64)) h50.v x51 :: rs) w) go13 ⟨_, _, _, rfl, rfl, e10_1, e10_2, e10_5, rfl, rfl, rfl, rfl, hst⟩ ?_
  rintro _ _ w r13_ ⟨x102, x103, f, rfl, rfl, e13_1, e13_2, e13_5, e13_7, e13_32, e13_33, e13_34, hst⟩ hM13 ho13 Q100013 n13 zz13
  refine seqQ fun Q85 k85 z85 => wR (Y wn rfl (ylss (et rfl e13_34) (et rfl e13_33)) (wN (k85 _ _ (seqQ fun Q86 k86 z86 => ?_))))
  rcases iteS hM13 with ⟨c118, hM13⟩ | ⟨c118, hM13⟩
  ·refine condT (e0 rfl) (dT c118) (wp_skip (k86 _ _ (seqQ fun Q87 k87 z87 => blockQ fun Q88 qb88 => seqQ fun Q89 k89 z89 => wR ?_)))
   obtain ⟨x119, gx119, hM13⟩ := bs hM13
   refine Y wn rfl (yIa SL_22 (et rfl e13_32) (et rfl e13_34) hst (rdI mhF) gx119) (Y wn rfl (yI O_3 (e0 rfl) hst (rdI mhF) gx119) (Y wn rfl (ya (v := iV x119) (e0 rfl)) (wN (k89 _ _ (seqQ fun Q90 k90 z90 => ?_)))))
   obtain ⟨x120, gx120, hM13⟩ := bs hM13
   obtain ⟨x122, gx122, hM13⟩ := bs hM13
   refine wp_drawR [0, 1, 0, 7, 15, 31, 0, 64, 0, 448, 960, 1984, 4095] [] 0 folM (by kernel_rfl) (by kernel_rfl) (by kernel_rfl) ?_
   replace hst := hst.drew
   refine DRz (l1 := [0, 1, 2, 3, 4, 5, 6, 7, 8, 9, 10, 11, 12]) (l2 := []) (by kernel_rfl) (by kernel_rfl) (Ry rfl rfl wn (yFb FL_26_0 (et rfl e13_2)) (Ry rfl rfl wn (yLb (u := h2.v) O_24 (e0 rfl) hst mhR rfl) (Ry rfl rfl wn (ym (v := iV x119) (e0 rfl)) (Ry rfl rfl wn (yIa SL_24 (e0 rfl) (e0 rfl) hst (rdI (mtF q1)) gx120) ?_))))
   obtain ⟨h121, hst⟩ := iLs hst (mtF q1) gx120
   refine Ry rfl rfl wn (yCt O_22 (e0 rfl) hst (mtF mhF) rfl) (Ry rfl rfl wn (yLen SL_22 (e0 rfl) hst (rdI mhF)) (Ry rfl rfl wn (yFb FL_26_0 (et rfl e13_2)) (Ry rfl rfl wn (yLb (u := h2.v) O_24 (e0 rfl) hst mhR rfl) (Ry rfl rfl wn (ym (v := iV x102) (et rfl e13_7)) (Ry rfl rfl wn (yIa SL_24 (e0 rfl) (e0 rfl) hst (rdI (mtF (mtF (mtF q1)))) gx122) ?_)))))
   obtain ⟨h123, hst⟩ := iLs hst (mtF (mtF (mtF q1))) gx122
   refine Ry rfl rfl wn (yCt O_22 (e0 rfl) hst (mtF mhF) rfl) (Ry rfl rfl wn (yLen SL_22 (e0 rfl) hst (rdI mhF)) (Ry rfl rfl wn (ylss (e0 rfl) (e0 rfl)) (Rn QSn (k90 _ _ ?_))))
   have j14 : ∀ (x124 : Int) (f : Nat → Value) (w : World), f 1 = iV x49 → f 2 = (pB b4) → f 5 = h50.v → f 7 = iV x124 → f 32 = h92.v → f 33 = iV (x91.length : Int) → f 34 = iV x103 → St w0 (imm (rI .i64) h92.v x91 :: ros) (box b4 26 [h2.v] :: row 22 (rS (rI .i64)) h50.v x51 :: rs) w → graph_Peripheral_j14 x103 x124 = some r13_ → Q88 .normal (fr 64 f) w := by
    intro x124 f w ej14_1 ej14_2 ej14_5 ej14_7 ej14_32 ej14_33 ej14_34 hst hM
    refine qb88 _ _ _ (k87 _ _ (wR (Y wn rfl (yadd (et rfl ej14_34) rfl) (Y wn rfl (ym (v := iV (wa .i64 x103 1)) (e0 rfl)) (wN ?_)))))
    obtain rfl := someI hM
    exact n13 _ _ _ rfl ⟨_, _, _, rfl, rfl, ej14_1, ej14_2, ej14_5, ej14_7, ej14_32, ej14_33, rfl, hst⟩
   rcases iteS hM13 with ⟨c125, hM13⟩ | ⟨c125, hM13⟩
   ·exact condT (e0 rfl) (dT c125) (wR (Y wn rfl (ym (v := iV x119) (e0 rfl)) (Y wn rfl (ya (v := iV x119) (e0 rfl)) (wN (j14 _ _ _ e13_1 e13_2 e13_5 rfl e13_32 e13_33 e13_34 (hst.facts (allC (mtF (mtF (mtF (mtF mhF)))) (allT (allT (allT (allT (allT allI))))))) hM13)))))
   ·exact condF (e0 rfl) (dF c125) (wp_skip (j14 _ _ _ e13_1 e13_2 e13_5 e13_7 e13_32 e13_33 e13_34 (hst.facts (allC (mtF (mtF (mtF (mtF mhF)))) (allT (allT (allT (allT (allT allI))))))) hM13))
  ·refine condF (e0 rfl) (dF c118) (wp_exit (z86 _ _ _ rfl ?_))
   obtain rfl := someI hM13
   exact zz13 _ _ _ _ rfl rfl (je13_0 _ _ _ e13_1 e13_2 e13_5 e13_7 (hst.facts (allT allI)) (ho13 _ rfl))

theorem graph_Levels_ok {x1 : List (List Int)} {x3 : Int} {h2 : Hdr} {out : (List (List Int))} (hM : graph_Levels x1 x3 = some out) (q1 : imm (rS (rI .i64)) h2.v x1 ∈ ros) (hst : St w0 ros (rs) w) :
  Calls Tryz.prog 99 #[.agg #[h2.v], iV x3] w (fun e w => ∃ (h100001 : Hdr), e = .returned (h100001.v) ∧ St w0 (ros) (row 22 (rS (rI .i64)) h100001.v out :: rs) w) := by
 refine enterQ Tryz.func99 rfl Tryz.ntmps99 rfl fun Q hQ => seqQ fun Q1 k1 z1 => wR (YB wn rfl (r_box (vals := [h2.v]) hst (e0 rfl) rfl) ?_)
 intro b4 w hst
 refine Y wn rfl (ya (v := hnil.v) rfl) (wN (k1 _ _ (seqQ fun Q2 k2 z2 => seqQ fun Q3 k3 z3 => wR (Y wn rfl (yLbs (us := [h2.v]) ST_26 (e0 rfl) hst mhR rfl rfl) ?_))))
 obtain ⟨r5, gr5, hM⟩ := bs hM
 refine Yc wn rfl (yCall FN_51 (a1 (e0 rfl))) (graph_Check_ok (hM := gr5) (hst := hst) (q1 := q1)) ?_
 rintro _ w ⟨rfl, hst⟩
 refine ⟨_, rfl, ?_⟩
 refine Y wn rfl (yneq (e0 rfl) rfl) (Y wn rfl (ym (v := .bool (!(decide (r5 = 0)))) (e0 rfl)) ?_)
 obtain ⟨r7, gr7, hM⟩ := bs hM
 refine joinW 5 (fun f w => f 1 = iV x3 ∧ f 2 = (pB b4) ∧ f 13 = .bool r7 ∧ St w0 (ros) (box b4 26 [h2.v] :: rs) w) (fun j1 => ?_) ?_
 ·rcases iteS gr7 with ⟨c9, gr7⟩ | ⟨c9, gr7⟩
  ·refine Y (wg rfl rfl rfl (nF (dT c9))) rfl (yLbs (us := [h2.v]) ST_26 (e0 rfl) hst mhR rfl rfl) (Y (wg rfl rfl rfl (nF (dT c9))) rfl (ym (v := iV x3) (e0 rfl)) ?_)
   obtain ⟨r10, gr10, gr7⟩ := bs gr7
   refine Yc (wg rfl rfl rfl (nF (dT c9))) rfl (yCall FN_112 (a2 (e0 rfl) (e0 rfl))) (graph_vertex_ok (hM := gr10) (hst := hst) (q1 := q1)) ?_
   rintro _ w ⟨rfl, hst⟩
   refine ⟨_, rfl, ?_⟩
   refine Y (wg rfl rfl rfl (nF (dT c9))) rfl (ynot (e0 rfl)) (Y wn rfl (ypf (v := .bool (!(r10))) (e0 rfl) (nF (dT c9)) (e0 rfl)) ?_)
   obtain rfl := someI gr7
   exact j1 _ _ ⟨rfl, rfl, rfl, hst⟩
  ·refine Gn (wx rfl rfl rfl (nT (dF c9))) rfl (Gn (wx rfl rfl rfl (nT (dF c9))) rfl (Gn (wx rfl rfl rfl (nT (dF c9))) rfl (Gn (wx rfl rfl rfl (nT (dF c9))) rfl (Y wn rfl (ypt (v := .bool true) (e0 rfl) (nT (dF c9)) rfl) ?_))))
   obtain rfl := someI gr7
   exact j1 _ _ ⟨rfl, rfl, rfl, hst⟩
 rintro f w ⟨e8_1, e8_2, e8_13, hst⟩
 refine wN (k3 _ _ ?_)
 rcases iteS hM with ⟨c11, hM⟩ | ⟨c11, hM⟩
 ·refine condT (et rfl e8_13) c11 (seqQ fun Q4 k4 z4 => wR (Y wn rfl (ya (v := hnil.v) rfl) (wN (k4 _ _ (wp_ret (z2 _ _ _ rfl ?_))))))
  obtain rfl := someI hM
  replace hst := hst.rowNh 22 (rS (rI .i64))
  exact hQ _ _ _ (fin1r Tryz.results99 ⟨rfl, rfl⟩ ⟨_, rfl, (hst.pk 2 [0] rfl)⟩)
 ·refine condF (et rfl e8_13) (bfalse c11) (wp_skip (k2 _ _ (seqQ fun Q5 k5 z5 => wR (Y wn rfl (yLbs (us := [h2.v]) ST_26 (et rfl e8_2) hst mhR rfl rfl) (Y wn rfl (ym (v := iV x3) (et rfl e8_1)) ?_)))))
  obtain ⟨r12, gr12, hM⟩ := bs hM
  refine Yc wn rfl (yCall FN_117 (a2 (e0 rfl) (e0 rfl))) (graph_levels_ok (hM := gr12) (hst := hst) (q1 := q1)) ?_
  rintro _ w ⟨h13, rfl, hst⟩
  refine ⟨_, rfl, ?_⟩
  refine Y wn rfl (ya (v := h13.v) (e0 rfl)) (wN (k5 _ _ (wp_ret ?_)))
  obtain rfl := someI hM
  exact hQ _ _ _ (fin1r Tryz.results99 ⟨rfl, rfl⟩ ⟨_, rfl, (hst.pk 2 [0] rfl)⟩)

theorem dissect_grown_ok {x1 : List (List Int)} {x3 : List Int} {x5 : List (List Int)} {h2 : Hdr} {h4 : Hdr} {h6 : Hdr} {out : (List Int)} (hM : dissect_grown x1 x3 x5 = some out) (q1 : imm (rS (rI .i64)) h2.v x1 ∈ ros) (q2 : imm (rI .i64) h4.v x3 ∈ ros) (q3 : imm (rS (rI .i64)) h6.v x5 ∈ ros) (hst : St w0 ros (rs) w) :
  Calls Tryz.prog 73 #[.agg #[h2.v, h4.v, h6.v]] w (fun e w => ∃ (h100001 : Hdr), e = .returned (h100001.v) ∧ St w0 (ros) (row 3 (rI .i64) h100001.v out :: rs) w) := by
 refine enterQ Tryz.func73 rfl Tryz.ntmps73 rfl fun Q hQ => seqQ fun Q1 k1 z1 => wR (YB wn rfl (r_box (vals := [h2.v, h4.v, h6.v]) hst (e0 rfl) rfl) ?_)
 intro b7 w hst
 refine Y wn rfl (ya (v := hnil.v) rfl) (wN (k1 _ _ (seqQ fun Q2 k2 z2 => wR (YH wn rfl (rLt (n := 1) (l := [1]) hst SL_22 [iV 1] (bp1 rfl) rfl rfl (mks1 (cs := [iV 1]) rfl mkI mks0)) ?_))))
 intro h8 w hst
 refine Y wn rfl (yFb FL_28_1 (e0 rfl)) (Y wn rfl (yLb (u := h4.v) O_22 (e0 rfl) hst (mtR mhR) rfl) (Y wn rfl (yLen SL_22 (e0 rfl) hst (rdI q2)) ?_))
 obtain ⟨r9, gr9, hM⟩ := bs hM
 replace hst := hst.fz
 refine Yc wn rfl (yCall FN_72 (a2 (e0 rfl) (e0 rfl))) (slices_Repeat_int_ok (hM := gr9) (hst := hst) (q1 := mhF)) ?_
 rintro _ w ⟨h10, rfl, hst⟩
 refine ⟨_, rfl, ?_⟩
 refine Y wn rfl (ya (v := h10.v) (e0 rfl)) (wN (k2 _ _ (seqQ fun Q3 k3 z3 => wR (Y wn rfl (yFb FL_28_1 (e0 rfl)) (Y wn rfl (yLb (u := h4.v) O_22 (e0 rfl) hst (mtR mhR) rfl) ?_)))))
 obtain ⟨r11, gr11, hM⟩ := bs hM
 refine Yc wn rfl (yCall FN_96 (a1 (e0 rfl))) (dissect_total_ok (hM := gr11) (hst := hst) (q1 := (mtF q2))) ?_
 rintro _ w ⟨rfl, hst⟩
 refine ⟨_, rfl, ?_⟩
 refine Y wn rfl (ya (v := iV r11) (e0 rfl)) (Y wn rfl (ya (v := iV 0) rfl) (wN (k3 _ _ (seqQ fun Q4 k4 z4 => seqQ fun Q5 k5 z5 => wR (Y wn rfl (yFb FL_28_0 (e0 rfl)) (Y wn rfl (yLbs (us := [h2.v]) ST_26 (e0 rfl) hst (mtR mhR) rfl rfl) ?_))))))
 obtain ⟨r12, gr12, hM⟩ := bs hM
 refine Yc wn rfl (yCall FN_97 (a1 (e0 rfl))) (graph_Components_ok (hM := gr12) (hst := hst) (q1 := (mtF q1))) ?_
 rintro _ w ⟨h13, rfl, hst⟩
 refine ⟨_, rfl, ?_⟩
 refine Y wn rfl (yLen SL_24 (e0 rfl) hst (rdO mhR)) (Y wn rfl (ym (v := iV 0) rfl) (wN (k5 _ _ (blockQ fun Q6 qb6 => ?_))))
 obtain ⟨o3, go3, hM⟩ := bs hM
 have je3_0 : ∀ (x86 : List Int) (f : Nat → Value) (w : World), f 3 = h10.v → St w0 (ros) (row 3 (rI .i64) h10.v x86 :: rs) w → .inl x86 = o3 → Q6 (.exit 0) (fr 59 f) w := by
  intro x86 f w eje3_0_3 hst ho
  subst ho
  refine qb6 _ _ _ (k4 _ _ (seqQ fun Q75 k75 z75 => wR (Y wn rfl (ym (v := h10.v) (et rfl eje3_0_3)) (Y wn rfl (ya (v := h10.v) (e0 rfl)) (wN (k75 _ _ (wp_ret ?_)))))))
  obtain rfl := someI hM
  exact hQ _ _ _ (fin1r Tryz.results73 ⟨rfl, rfl⟩ ⟨_, rfl, hst⟩)
 have je3_1 : ∀ (x87 : List Int) (f : Nat → Value) (w : World), f 2 = h10.v → St w0 (ros) (row 3 (rI .i64) h10.v x87 :: rs) w → .inr x87 = o3 → Q6 .ret (fr 59 f) w := by
  intro x87 f w eje3_1_2 hst ho
  subst ho
  refine qb6 _ _ _ (z4 _ _ _ rfl ?_)
  obtain rfl := someI hM
  exact hQ _ _ _ (fin1r Tryz.results73 ⟨rfl, eje3_1_2⟩ ⟨_, rfl, hst⟩)
 refine loopQ (fun s a w => ∃ (x47 : List Int) (x48 : Int) (x49 : Int) (f : Nat → Value), (x47, x48, x49) = s ∧ a = fr 59 f ∧ f 1 = (pB b7) ∧ f 3 = h10.v ∧ f 4 = iV r11 ∧ f 5 = iV x48 ∧ f 20 = h13.v ∧ f 21 = iV (r12.length : Int) ∧ f 22 = iV x49 ∧ St w0 (ros) (box b7 28 [h2.v, h4.v, h6.v] :: row 3 (rI .i64) h10.v x47 :: row 22 (rS (rI .i64)) h13.v r12 :: rs) w) go3 ⟨_, _, _, _, rfl, rfl, rfl, rfl, rfl, rfl, rfl, rfl, rfl, ((hst.pk 3 [2, 1, 0] rfl).facts (allT allI))⟩ ?_
 rintro _ _ w r3_ ⟨x47, x48, x49, f, rfl, rfl, e3_1, e3_3, e3_4, e3_5, e3_20, e3_21, e3_22, hst⟩ hM3 ho3 Q100003 n3 zz3
 refine seqQ fun Q76 k76 z76 => wR (Y wn rfl (ylss (et rfl e3_22) (et rfl e3_21)) (wN (k76 _ _ (seqQ fun Q77 k77 z77 => ?_))))
 rcases iteS hM3 with ⟨c88, hM3⟩ | ⟨c88, hM3⟩
 ·refine condT (e0 rfl) (dT c88) (wp_skip (k77 _ _ (seqQ fun Q78 k78 z78 => blockQ fun Q79 qb79 => seqQ fun Q80 k80 z80 => wR ?_)))
  obtain ⟨x89, gx89, hM3⟩ := bs hM3
  refine Y wn rfl (yIa SL_24 (et rfl e3_20) (et rfl e3_22) hst (rdO (mtR (mtR mhR))) gx89) ?_
  obtain ⟨h90, ch90, hst⟩ := rLs hst (rdO (mtR (mtR mhR))) gx89
  refine Y wn rfl (yCe O_22 (e0 rfl) ch90 rfl) (Y wn rfl (ya (v := h90.v) (e0 rfl)) (wN (k80 _ _ (seqQ fun Q81 k81 z81 => ?_))))
  obtain ⟨x91, gx91, hM3⟩ := bs hM3
  obtain ⟨r92, gr92, hM3⟩ := bs hM3
  obtain ⟨r93, gr93, hM3⟩ := bs hM3
  obtain ⟨r95, gr95, hM3⟩ := bs hM3
  refine wp_drawR [0, 1, 0, 4, 0, 16, 48, 124, 255, 511, 1023, 0] [7, 8, 9] 3 folM (by kernel_rfl) (by kernel_rfl) (by kernel_rfl) ?_
  replace hst := hst.drew
  refine DRn (l1 := [0, 1, 2, 3, 4, 5, 6, 11]) (l2 := []) (lc := [7]) (by kernel_rfl) (by kernel_rfl) (by kernel_rfl) (Ry rfl rfl wn (yFb FL_28_0 (et rfl e3_1)) (Ry rfl rfl wn (yLbs (us := [h2.v]) ST_26 (e0 rfl) hst mhR rfl rfl) (Ry rfl rfl wn (yFb FL_28_0 (et rfl e3_1)) (Ry rfl rfl wn (yLbs (us := [h2.v]) ST_26 (e0 rfl) hst mhR rfl rfl) (Ry rfl rfl wn (ym (v := h90.v) (e0 rfl)) (Ry rfl rfl wn (yIa SL_22 (e0 rfl) rfl hst (rdI mhF) gx91) (Ry rfl rfl wn (yI O_3 (e0 rfl) hst (rdI mhF) gx91) (Ry rfl rfl wn (ym (v := iV 0) rfl) (Rn QSn ?_)))))))))
  refine Lc rfl ?_ LAn
  refine Lk wn (yCall FN_100 (a2 (e0 rfl) (e0 rfl))) (graph_Peripheral_ok (hM := gr92) (hst := hst) (q1 := (mtF q1))) ?_
  rintro _ w ⟨rfl, hst⟩
  refine ⟨_, rfl, ?_⟩
  refine DRn (l1 := []) (l2 := [0, 1, 11]) (lc := [8]) (by kernel_rfl) (by kernel_rfl) (by kernel_rfl) (Rn (Sy rfl rfl wn (yFb FL_28_0 (et rfl e3_1)) rfl (Sy rfl rfl wn (yLbs (us := [h2.v]) ST_26 (e0 rfl) hst mhR rfl rfl) rfl (Sy rfl rfl wn (ym (v := iV 0) rfl) rfl QSn))) ?_)
  refine Lc rfl ?_ LAn
  refine Lk wn (yCall FN_99 (a2 (e0 rfl) (e0 rfl))) (graph_Levels_ok (hM := gr93) (hst := hst) (q1 := (mtF q1))) ?_
  rintro _ w ⟨h94, rfl, hst⟩
  refine ⟨_, rfl, ?_⟩
  refine DRn (l1 := []) (l2 := [11]) (lc := [9]) (by kernel_rfl) (by kernel_rfl) (by kernel_rfl) (Rn (Sy rfl rfl wn (ym (v := iV 0) rfl) rfl QSn) ?_)
  refine Lc rfl ?_ LAn
  replace hst := hst.fz
  refine Lk wn (yCall FN_98 (a1 (e0 rfl))) (slices_Concat_int_ok (hM := gr95) (hst := hst) (q1 := mhF)) ?_
  rintro _ w ⟨h96, rfl, hst⟩
  refine ⟨_, rfl, ?_⟩
  refine DRz (l1 := [10]) (l2 := [11]) (by kernel_rfl) (by kernel_rfl) (Ry rfl rfl wn (yLen SL_22 (e0 rfl) hst (rdO mhR)) (Rn (Sy rfl rfl wn (ym (v := iV 0) rfl) rfl QSn) (k81 _ _ (blockQ fun Q82 qb82 => ?_))))
  obtain ⟨o4, go4, hM3⟩ := bs hM3
  have je4_0 : ∀ (x113 : List Int) (x114 : Int) (f : Nat → Value) (w : World), f 1 = (pB b7) → f 3 = h10.v → f 4 = iV r11 → f 5 = iV x114 → f 20 = h13.v → f 21 = iV (r12.length : Int) → f 22 = iV x49 → St w0 (ros) (box b7 28 [h2.v, h4.v, h6.v] :: row 3 (rI .i64) h10.v x113 :: row 22 (rS (rI .i64)) h13.v r12 :: rs) w → .inl (x113, x114) = o4 → Q82 (.exit 2) (fr 59 f) w := by
   intro x113 x114 f w eje4_0_1 eje4_0_3 eje4_0_4 eje4_0_5 eje4_0_20 eje4_0_21 eje4_0_22 hst ho
   subst ho
   refine qb82 _ _ _ (qb79 _ _ _ (k78 _ _ (wR (Y wn rfl (yadd (et rfl eje4_0_22) rfl) (Y wn rfl (ym (v := iV (wa .i64 x49 1)) (e0 rfl)) (wN ?_))))))
   obtain rfl := someI hM3
   exact n3 _ _ _ rfl ⟨_, _, _, _, rfl, rfl, eje4_0_1, eje4_0_3, eje4_0_4, eje4_0_5, eje4_0_20, eje4_0_21, rfl, hst⟩
  have je4_1 : ∀ (x115 : List Int) (f : Nat → Value) (w : World), f 2 = h10.v → St w0 (ros) (row 3 (rI .i64) h10.v x115 :: rs) w → .inr x115 = o4 → Q82 .ret (fr 59 f) w := by
   intro x115 f w eje4_1_2 hst ho
   subst ho
   refine qb82 _ _ _ (qb79 _ _ _ (z78 _ _ _ rfl ?_))
   obtain rfl := someI hM3
   exact zz3 _ _ _ _ rfl rfl (je3_1 _ _ _ eje4_1_2 hst (ho3 _ rfl))
  refine loopQ (fun s a w => ∃ (x102 : List Int) (x103 : Int) (x104 : Int) (f : Nat → Value), (x102, x103, x104) = s ∧ a = fr 59 f ∧ f 1 = (pB b7) ∧ f 3 = h10.v ∧ f 4 = iV r11 ∧ f 5 = iV x103 ∧ f 20 = h13.v ∧ f 21 = iV (r12.length : Int) ∧ f 22 = iV x49 ∧ f 35 = h96.v ∧ f 36 = iV (r95.length : Int) ∧ f 37 = iV x104 ∧ St w0 (ros) (box b7 28 [h2.v, h4.v, h6.v] :: row 3 (rI .i64) h10.v x102 :: row 22 (rS (rI .i64)) h13.v r12 :: row 3 (rI .i64) h96.v r95 :: rs) w) go4 ⟨_, _, _, _, rfl, rfl, e3_1, e3_3, e3_4, e3_5, e3_20, e3_21, e3_22, rfl, rfl, rfl, ((hst.pk 4 [1, 1, 1, 0] rfl).facts (allT (allT allI)))⟩ ?_
  rintro _ _ w r4_ ⟨x102, x103, x104, f, rfl, rfl, e4_1, e4_3, e4_4, e4_5, e4_20, e4_21, e4_22, e4_35, e4_36, e4_37, hst⟩ hM4 ho4 Q100004 n4 zz4
  refine seqQ fun Q101 k101 z101 => wR (Y wn rfl (ylss (et rfl e4_37) (et rfl e4_36)) (wN (k101 _ _ (seqQ fun Q102 k102 z102 => ?_))))
  rcases iteS hM4 with ⟨c116, hM4⟩ | ⟨c116, hM4⟩
  ·refine condT (e0 rfl) (dT c116) (wp_skip (k102 _ _ (seqQ fun Q103 k103 z103 => blockQ fun Q104 qb104 => seqQ fun Q105 k105 z105 => wR ?_)))
   obtain ⟨x117, gx117, hM4⟩ := bs hM4
   refine Y wn rfl (yIa SL_22 (et rfl e4_35) (et rfl e4_37) hst (rdO (mtR (mtR (mtR mhR)))) gx117) (Y wn rfl (yI O_3 (e0 rfl) hst (rdO (mtR (mtR (mtR mhR)))) gx117) (Y wn rfl (ya (v := iV x117) (e0 rfl)) (wN (k105 _ _ (seqQ fun Q106 k106 z106 => seqQ fun Q107 k107 z107 => wR (Y wn rfl (ym (v := iV x103) (et rfl e4_5)) (Y wn rfl (ymul rfl (e0 rfl)) (Y wn rfl (ym (v := iV r11) (et rfl e4_4)) (Y wn rfl (ygeq (e0 rfl) (e0 rfl)) (wN (k107 _ _ ?_)))))))))))
   rcases iteS hM4 with ⟨c118, hM4⟩ | ⟨c118, hM4⟩
   ·refine condT (e0 rfl) (dT c118) (seqQ fun Q108 k108 z108 => wR (Y wn rfl (ym (v := h10.v) (et rfl e4_3)) (Y wn rfl (ya (v := h10.v) (e0 rfl)) (wN (k108 _ _ (wp_ret (z106 _ _ _ rfl (qb104 _ _ _ (z103 _ _ _ rfl ?_)))))))))
    obtain rfl := someI hM4
    exact zz4 _ _ _ _ rfl rfl (je4_1 _ _ _ rfl (hst.pk 4 [1] rfl) (ho4 _ rfl))
   ·refine condF (e0 rfl) (dF c118) (wp_skip (k106 _ _ (seqQ fun Q109 k109 z109 => wR (Y wn rfl (ym (v := h10.v) (et rfl e4_3)) (Y wn rfl (ym (v := iV x117) (e0 rfl)) ?_)))))
    obtain ⟨x119, gx119, hM4⟩ := bs hM4
    refine Y wn rfl (yIs SL_22 (e0 rfl) (e0 rfl) hst (rdO (mtR mhR)) gx119) ?_
    replace hst := hst.pk 2 [1, 0] rfl
    refine YT wn rfl (r_sti (cs := [iV 0]) hst O_3 rfl (e0 rfl) rfl rfl mkI gx119) ?_
    intro w hst
    refine wN (k109 _ _ (wR (Y wn rfl (ym (v := iV x103) (et rfl e4_5)) (Y wn rfl (yFb FL_28_1 (et rfl e4_1)) (Y wn rfl (yLb (u := h4.v) O_22 (e0 rfl) hst (mtR mhR) rfl) (Y wn rfl (ym (v := iV x117) (e0 rfl)) ?_))))))
    obtain ⟨x120, gx120, hM4⟩ := bs hM4
    refine Y wn rfl (yIa SL_22 (e0 rfl) (e0 rfl) hst (rdI q2) gx120) (Y wn rfl (yI O_3 (e0 rfl) hst (rdI q2) gx120) (Y wn rfl (yadd (e0 rfl) (e0 rfl)) (Y wn rfl (ya (v := iV (wa .i64 x103 x120)) (e0 rfl)) (wN (qb104 _ _ _ (k103 _ _ (wR (Y wn rfl (yadd (et rfl e4_37) rfl) (Y wn rfl (ym (v := iV (wa .i64 x104 1)) (e0 rfl)) (wN ?_))))))))))
    obtain rfl := someI hM4
    exact n4 _ _ _ rfl ⟨_, _, _, _, rfl, rfl, e4_1, e4_3, e4_4, rfl, e4_20, e4_21, e4_22, e4_35, e4_36, rfl, (hst.pk 4 [1, 0, 0, 0] rfl)⟩
  ·refine condF (e0 rfl) (dF c116) (wp_exit (z102 _ _ _ rfl ?_))
   obtain rfl := someI hM4
   exact zz4 _ _ _ _ rfl rfl (je4_0 _ _ _ _ e4_1 e4_3 e4_4 e4_5 e4_20 e4_21 e4_22 (hst.pk 4 [0, 0, 0] rfl) (ho4 _ rfl))
 ·refine condF (e0 rfl) (dF c88) (wp_exit (z77 _ _ _ rfl ?_))
  obtain rfl := someI hM3
  exact zz3 _ _ _ _ rfl rfl (je3_0 _ _ _ e3_3 (hst.pk 3 [1] rfl) (ho3 _ rfl))

theorem dissect_match_ok {x1 : List (List Int)} {x3 : List Int} {x5 : List (List Int)} {h2 : Hdr} {h4 : Hdr} {h6 : Hdr} {out : (List Int)} (hM : dissect_match x1 x3 x5 = some out) (q1 : imm (rS (rI .i64)) h2.v x1 ∈ ros) (q2 : imm (rI .i64) h4.v x3 ∈ ros) (q3 : imm (rS (rI .i64)) h6.v x5 ∈ ros) (hst : St w0 ros (rs) w) :
  Calls Tryz.prog 40 #[.agg #[h2.v, h4.v, h6.v]] w (fun e w => ∃ (h100001 : Hdr), e = .returned (h100001.v) ∧ St w0 (ros) (row 3 (rI .i64) h100001.v out :: rs) w) := by
 refine enterQ Tryz.func40 rfl Tryz.ntmps40 rfl fun Q hQ => seqQ fun Q1 k1 z1 => wR (YB wn rfl (r_box (vals := [h2.v, h4.v, h6.v]) hst (e0 rfl) rfl) ?_)
 intro b7 w hst
 refine Y wn rfl (ya (v := hnil.v) rfl) (wN (k1 _ _ (seqQ fun Q2 k2 z2 => wR (YH wn rfl (rLt (n := 1) (l := [(-1)]) hst SL_22 [iV (-1)] (bp1 rfl) rfl rfl (mks1 (cs := [iV (-1)]) rfl mkI mks0)) ?_))))
 intro h8 w hst
 refine Y wn rfl (yFb FL_28_1 (e0 rfl)) (Y wn rfl (yLb (u := h4.v) O_22 (e0 rfl) hst (mtR mhR) rfl) (Y wn rfl (yLen SL_22 (e0 rfl) hst (rdI q2)) ?_))
 obtain ⟨r9, gr9, hM⟩ := bs hM
 replace hst := hst.fz
 refine Yc wn rfl (yCall FN_72 (a2 (e0 rfl) (e0 rfl))) (slices_Repeat_int_ok (hM := gr9) (hst := hst) (q1 := mhF)) ?_
 rintro _ w ⟨h10, rfl, hst⟩
 refine ⟨_, rfl, ?_⟩
 refine Y wn rfl (ya (v := h10.v) (e0 rfl)) (wN (k2 _ _ (seqQ fun Q3 k3 z3 => seqQ fun Q4 k4 z4 => wR (Y wn rfl (yFb FL_28_0 (e0 rfl)) (Y wn rfl (yFb FL_26_0 (e0 rfl)) (Y wn rfl (yLb (u := h2.v) O_24 (e0 rfl) hst (mtR mhR) rfl) (Y wn rfl (yLen SL_24 (e0 rfl) hst (rdI (mtF q1))) (Y wn rfl (ym (v := iV 0) rfl) (wN (k4 _ _ (blockQ fun Q5 qb5 => ?_)))))))))))
 obtain ⟨o45, go45, hM⟩ := bs hM
 have je45_0 : ∀ (x475 : List Int) (f : Nat → Value) (w : World), f 3 = h10.v → St w0 (ros) (row 3 (rI .i64) h10.v x475 :: rs) w → x475 = o45 → Q5 (.exit 0) (fr 74 f) w := by
  intro x475 f w eje45_0_3 hst ho
  subst ho
  refine qb5 _ _ _ (k3 _ _ (seqQ fun Q168 k168 z168 => wR (Y wn rfl (ym (v := h10.v) (et rfl eje45_0_3)) (Y wn rfl (ya (v := h10.v) (e0 rfl)) (wN (k168 _ _ (wp_ret ?_)))))))
  obtain rfl := someI hM
  exact hQ _ _ _ (fin1r Tryz.results40 ⟨rfl, rfl⟩ ⟨_, rfl, hst⟩)
 refine loopQ (fun s a w => ∃ (x241 : List Int) (x242 : Int) (f : Nat → Value), (x241, x242) = s ∧ a = fr 74 f ∧ f 1 = (pB b7) ∧ f 3 = h10.v ∧ f 17 = h2.v ∧ f 18 = iV (x1.length : Int) ∧ f 19 = iV x242 ∧ St w0 (ros) (box b7 28 [h2.v, h4.v, h6.v] :: row 3 (rI .i64) h10.v x241 :: rs) w) go45 ⟨_, _, _, rfl, rfl, rfl, rfl, rfl, rfl, rfl, ((hst.pk 2 [1, 0] rfl).facts (allT allI))⟩ ?_
 rintro _ _ w r45_ ⟨x241, x242, f, rfl, rfl, e45_1, e45_3, e45_17, e45_18, e45_19, hst⟩ hM45 ho45 Q100045 n45 zz45
 refine seqQ fun Q169 k169 z169 => wR (Y wn rfl (ylss (et rfl e45_19) (et rfl e45_18)) (wN (k169 _ _ (seqQ fun Q170 k170 z170 => ?_))))
 rcases iteS hM45 with ⟨c476, hM45⟩ | ⟨c476, hM45⟩
 ·refine condT (e0 rfl) (dT c476) (wp_skip (k170 _ _ (seqQ fun Q171 k171 z171 => ?_)))
  have j60 : ∀ (x629 : List Int) (f : Nat → Value) (w : World), f 1 = (pB b7) → f 3 = h10.v → f 17 = h2.v → f 18 = iV (x1.length : Int) → f 19 = iV x242 → St w0 (ros) (box b7 28 [h2.v, h4.v, h6.v] :: row 3 (rI .i64) h10.v x629 :: rs) w → dissect_match_j60 x242 x629 = some r45_ → Q171 .normal (fr 74 f) w := by
   intro x629 f w ej60_1 ej60_3 ej60_17 ej60_18 ej60_19 hst hM
   refine k171 _ _ (wR (Y wn rfl (yadd (et rfl ej60_19) rfl) (Y wn rfl (ym (v := iV (wa .i64 x242 1)) (e0 rfl)) (wN ?_))))
   obtain rfl := someI hM
   exact n45 _ _ _ rfl ⟨_, _, _, rfl, rfl, ej60_1, ej60_3, ej60_17, ej60_18, rfl, hst⟩
  refine blockQ fun Q224 qb224 => seqQ fun Q225 k225 z225 => wR (Y wn rfl (ym (v := iV x242) (et rfl e45_19)) ?_)
  obtain ⟨x630, gx630, hM45⟩ := bs hM45
  refine Y wn rfl (yIa SL_24 (et rfl e45_17) (et rfl e45_19) hst (rdI q1) gx630) ?_
  obtain ⟨h631, hst⟩ := iLs hst q1 gx630
  refine Y wn rfl (yCt O_22 (e0 rfl) hst (mtF mhF) rfl) (Y wn rfl (ya (v := iV x242) (e0 rfl)) (Y wn rfl (ya (v := h631.v) (e0 rfl)) (wN (k225 _ _ (seqQ fun Q226 k226 z226 => seqQ fun Q227 k227 z227 => wR (Y wn rfl (ym (v := h10.v) (et rfl e45_3)) (Y wn rfl (ym (v := iV x242) (e0 rfl)) ?_)))))))
  obtain ⟨x632, gx632, hM45⟩ := bs hM45
  refine Y wn rfl (yIa SL_22 (e0 rfl) (e0 rfl) hst (rdO (mtR mhR)) gx632) (Y wn rfl (yI O_3 (e0 rfl) hst (rdO (mtR mhR)) gx632) (Y wn rfl (yneq (e0 rfl) rfl) (wN (k227 _ _ ?_))))
  rcases iteS hM45 with ⟨c633, hM45⟩ | ⟨c633, hM45⟩
  ·refine condF (e0 rfl) (nF (dT c633)) (wp_skip (k226 _ _ (seqQ fun Q228 k228 z228 => wR (Y wn rfl (ym (v := iV x242) (e0 rfl)) (Y wn rfl (ya (v := iV x242) (e0 rfl)) (Y wn rfl (ya (v := iV 0) rfl) (wN (k228 _ _ (seqQ fun Q229 k229 z229 => seqQ fun Q230 k230 z230 => wR (Y wn rfl (ym (v := h631.v) (e0 rfl)) ?_))))))))))
   refine Y wn rfl (yLen SL_22 (e0 rfl) hst (rdI mhF)) (Y wn rfl (ym (v := iV 0) rfl) (wN (k230 _ _ (blockQ fun Q231 qb231 => ?_))))
   obtain ⟨o65, go65, hM45⟩ := bs hM45
   have je65_0 : ∀ (x682 : Int) (f : Nat → Value) (w : World), f 1 = (pB b7) → f 3 = h10.v → f 4 = iV x242 → f 6 = iV x682 → f 17 = h2.v → f 18 = iV (x1.length : Int) → f 19 = iV x242 → St w0 (ros) (box b7 28 [h2.v, h4.v, h6.v] :: row 3 (rI .i64) h10.v x241 :: rs) w → x682 = o65 → Q231 (.exit 2) (fr 74 f) w := by
    intro x682 f w eje65_0_1 eje65_0_3 eje65_0_4 eje65_0_6 eje65_0_17 eje65_0_18 eje65_0_19 hst ho
    subst ho
    refine qb231 _ _ _ (k229 _ _ (wR (Y wn rfl (ym (v := h10.v) (et rfl eje65_0_3)) (Y wn rfl (ym (v := iV x242) (et rfl eje65_0_4)) (Y wn rfl (ym (v := h10.v) (et rfl eje65_0_3)) (Y wn rfl (ym (v := iV x682) (et rfl eje65_0_6)) (Y wn rfl (ym (v := iV x682) (et rfl eje65_0_6)) (Y wn rfl (ym (v := iV x242) (et rfl eje65_0_4)) ?_))))))))
    obtain ⟨x683, gx683, hM45⟩ := bs hM45
    refine Y wn rfl (yIs SL_22 (e0 rfl) (e0 rfl) hst (rdO (mtR mhR)) gx683) ?_
    replace hst := hst.pk 2 [1, 0] rfl
    refine YT wn rfl (r_sti (cs := [iV x682]) hst O_3 rfl (e0 rfl) (e0 rfl) rfl mkI gx683) ?_
    intro w hst
    obtain ⟨x684, gx684, hM45⟩ := bs hM45
    refine Y wn rfl (yIs SL_22 (e0 rfl) (e0 rfl) hst (rdO mhR) gx684) (YT wn rfl (r_sti (cs := [iV x242]) hst O_3 rfl (e0 rfl) (e0 rfl) rfl mkI gx684) ?_)
    intro w hst
    exact wN (qb224 _ _ _ (j60 _ _ _ eje65_0_1 eje65_0_3 eje65_0_17 eje65_0_18 eje65_0_19 (hst.pk 2 [1, 0] rfl) hM45))
   refine loopQ (fun s a w => ∃ (x655 : Int) (x656 : Int) (x657 : Int) (f : Nat → Value), (x655, x656, x657) = s ∧ a = fr 74 f ∧ f 1 = (pB b7) ∧ f 3 = h10.v ∧ f 4 = iV x242 ∧ f 6 = iV x655 ∧ f 7 = iV x656 ∧ f 17 = h2.v ∧ f 18 = iV (x1.length : Int) ∧ f 19 = iV x242 ∧ f 30 = h631.v ∧ f 31 = iV (x630.length : Int) ∧ f 32 = iV x657 ∧ St w0 (imm (rI .i64) h631.v x630 :: ros) (box b7 28 [h2.v, h4.v, h6.v] :: row 3 (rI .i64) h10.v x241 :: rs) w) go65 ⟨_, _, _, _, rfl, rfl, e45_1, e45_3, rfl, rfl, rfl, e45_17, e45_18, e45_19, rfl, rfl, rfl, (hst.facts (allC mhF (allT (allT allI))))⟩ ?_
   rintro _ _ w r65_ ⟨x655, x656, x657, f, rfl, rfl, e65_1, e65_3, e65_4, e65_6, e65_7, e65_17, e65_18, e65_19, e65_30, e65_31, e65_32, hst⟩ hM65 ho65 Q100065 n65 zz65
   refine seqQ fun Q244 k244 z244 => wR (Y wn rfl (ylss (et rfl e65_32) (et rfl e65_31)) (wN (k244 _ _ (seqQ fun Q245 k245 z245 => ?_))))
   rcases iteS hM65 with ⟨c685, hM65⟩ | ⟨c685, hM65⟩
   ·refine condT (e0 rfl) (dT c685) (wp_skip (k245 _ _ (seqQ fun Q246 k246 z246 => blockQ fun Q247 qb247 => seqQ fun Q248 k248 z248 => wR (Y wn rfl (ym (v := iV x657) (et rfl e65_32)) ?_))))
    obtain ⟨x686, gx686, hM65⟩ := bs hM65
    refine Y wn rfl (yIa SL_22 (et rfl e65_30) (et rfl e65_32) hst (rdI mhF) gx686) (Y wn rfl (yI O_3 (e0 rfl) hst (rdI mhF) gx686) (Y wn rfl (ya (v := iV x657) (e0 rfl)) (Y wn rfl (ya (v := iV x686) (e0 rfl)) (wN (k248 _ _ (seqQ fun Q249 k249 z249 => wR (Y wn rfl (ym (v := h10.v) (et rfl e65_3)) (Y wn rfl (ym (v := iV x686) (e0 rfl)) ?_))))))))
    obtain ⟨x687, gx687, hM65⟩ := bs hM65
    refine Y wn rfl (yIa SL_22 (e0 rfl) (e0 rfl) hst (rdO (mtR mhR)) gx687) (Y wn rfl (yI O_3 (e0 rfl) hst (rdO (mtR mhR)) gx687) (Y wn rfl (yeql (e0 rfl) rfl) (Y wn rfl (ym (v := .bool (decide (x687 = (-1)))) (e0 rfl)) ?_)))
    obtain ⟨r691, gr691, hM65⟩ := bs hM65
    refine joinW 11 (fun f w => f 1 = (pB b7) ∧ f 3 = h10.v ∧ f 4 = iV x242 ∧ f 6 = iV x655 ∧ f 7 = iV x656 ∧ f 8 = iV x657 ∧ f 9 = iV x686 ∧ f 17 = h2.v ∧ f 18 = iV (x1.length : Int) ∧ f 19 = iV x242 ∧ f 30 = h631.v ∧ f 31 = iV (x630.length : Int) ∧ f 32 = iV x657 ∧ f 53 = .bool r691 ∧ St w0 (imm (rI .i64) h631.v x630 :: ros) (box b7 28 [h2.v, h4.v, h6.v] :: row 3 (rI .i64) h10.v x241 :: rs) w) (fun j66 => ?_) ?_
    ·rcases iteS gr691 with ⟨c693, gr691⟩ | ⟨c693, gr691⟩
     ·refine Y (wg rfl rfl rfl (dT c693)) rfl (yFb FL_28_2 (et rfl e65_1)) (Y (wg rfl rfl rfl (dT c693)) rfl (yLb (u := h6.v) O_24 (e0 rfl) hst mhR rfl) (Y (wg rfl rfl rfl (dT c693)) rfl (ym (v := iV x242) (et rfl e65_4)) ?_))
      obtain ⟨x694, gx694, gr691⟩ := bs gr691
      refine Y (wg rfl rfl rfl (dT c693)) rfl (yIa SL_24 (e0 rfl) (e0 rfl) hst (rdI (mtF q3)) gx694) ?_
      obtain ⟨h695, hst⟩ := iLs hst (mtF q3) gx694
      refine Y (wg rfl rfl rfl (dT c693)) rfl (yCt O_22 (e0 rfl) hst (mtF mhF) rfl) (Y (wg rfl rfl rfl (dT c693)) rfl (ym (v := iV x657) (e0 rfl)) ?_)
      obtain ⟨x696, gx696, gr691⟩ := bs gr691
      refine Y (wg rfl rfl rfl (dT c693)) rfl (yIa SL_22 (e0 rfl) (e0 rfl) hst (rdI mhF) gx696) (Y (wg rfl rfl rfl (dT c693)) rfl (yI O_3 (e0 rfl) hst (rdI mhF) gx696) (Y (wg rfl rfl rfl (dT c693)) rfl (ym (v := iV x656) (et rfl e65_7)) (Y (wg rfl rfl rfl (dT c693)) rfl (ygtr (e0 rfl) (e0 rfl)) (Y wn rfl (ypt (v := .bool (decide (x656 < x696))) (e0 rfl) (dT c693) (e0 rfl)) ?_))))
      obtain rfl := someI gr691
      exact j66 _ _ ⟨e65_1, e65_3, e65_4, e65_6, e65_7, rfl, rfl, e65_17, e65_18, e65_19, e65_30, e65_31, e65_32, rfl, (hst.facts (allC (mtF (mtF mhF)) (allT (allT (allT allI)))))⟩
     ·refine Gn (wx rfl rfl rfl (dF c693)) rfl (Gn (wx rfl rfl rfl (dF c693)) rfl (Gn (wx rfl rfl rfl (dF c693)) rfl (Gn (wx rfl rfl rfl (dF c693)) rfl (Gn (wx rfl rfl rfl (dF c693)) rfl (Gn (wx rfl rfl rfl (dF c693)) rfl (Gn (wx rfl rfl rfl (dF c693)) rfl (Gn (wx rfl rfl rfl (dF c693)) rfl (Gn (wx rfl rfl rfl (dF c693)) rfl (Gn (wx rfl rfl rfl (dF c693)) rfl (Y wn rfl (ypf (v := .bool false) (e0 rfl) (dF c693) rfl) ?_))))))))))
      obtain rfl := someI gr691
      exact j66 _ _ ⟨e65_1, e65_3, e65_4, e65_6, e65_7, rfl, rfl, e65_17, e65_18, e65_19, e65_30, e65_31, e65_32, rfl, hst⟩
    rintro f w ⟨e692_1, e692_3, e692_4, e692_6, e692_7, e692_8, e692_9, e692_17, e692_18, e692_19, e692_30, e692_31, e692_32, e692_53, hst⟩
    refine wN (k249 _ _ ?_)
    have j67 : ∀ (x700 : Int) (x701 : Int) (f : Nat → Value) (w : World), f 1 = (pB b7) → f 3 = h10.v → f 4 = iV x242 → f 6 = iV x700 → f 7 = iV x701 → f 17 = h2.v → f 18 = iV (x1.length : Int) → f 19 = iV x242 → f 30 = h631.v → f 31 = iV (x630.length : Int) → f 32 = iV x657 → St w0 (imm (rI .i64) h631.v x630 :: ros) (box b7 28 [h2.v, h4.v, h6.v] :: row 3 (rI .i64) h10.v x241 :: rs) w → dissect_match_j67 x657 x700 x701 = some r65_ → Q247 .normal (fr 74 f) w := by
     intro x700 x701 f w ej67_1 ej67_3 ej67_4 ej67_6 ej67_7 ej67_17 ej67_18 ej67_19 ej67_30 ej67_31 ej67_32 hst hM
     refine qb247 _ _ _ (k246 _ _ (wR (Y wn rfl (yadd (et rfl ej67_32) rfl) (Y wn rfl (ym (v := iV (wa .i64 x657 1)) (e0 rfl)) (wN ?_)))))
     obtain rfl := someI hM
     exact n65 _ _ _ rfl ⟨_, _, _, _, rfl, rfl, ej67_1, ej67_3, ej67_4, ej67_6, ej67_7, ej67_17, ej67_18, ej67_19, ej67_30, ej67_31, rfl, hst⟩
    rcases iteS hM65 with ⟨c702, hM65⟩ | ⟨c702, hM65⟩
    ·refine condT (et rfl e692_53) c702 ?_
     obtain ⟨x703, gx703, hM65⟩ := bs hM65
     obtain ⟨x705, gx705, hM65⟩ := bs hM65
     refine wp_drawR [0, 0, 2, 0, 14, 30, 0, 126, 254, 1, 1023] [9, 10] 2 folM (by kernel_rfl) (by kernel_rfl) (by kernel_rfl) ?_
     replace hst := hst.drew
     refine DRn (l1 := [0, 1, 2, 3, 4, 5, 6, 7, 8]) (l2 := []) (lc := [9]) (by kernel_rfl) (by kernel_rfl) (by kernel_rfl) (Ry rfl rfl wn (ym (v := iV x686) (et rfl e692_9)) (Ry rfl rfl wn (yFb FL_28_2 (et rfl e692_1)) (Ry rfl rfl wn (yLb (u := h6.v) O_24 (e0 rfl) hst mhR rfl) (Ry rfl rfl wn (ym (v := iV x242) (et rfl e692_4)) (Ry rfl rfl wn (yIa SL_24 (e0 rfl) (e0 rfl) hst (rdI (mtF q3)) gx703) ?_)))))
     obtain ⟨h704, hst⟩ := iLs hst (mtF q3) gx703
     refine Ry rfl rfl wn (yCt O_22 (e0 rfl) hst (mtF mhF) rfl) (Ry rfl rfl wn (ym (v := iV x657) (et rfl e692_8)) (Ry rfl rfl wn (yIa SL_22 (e0 rfl) (e0 rfl) hst (rdI mhF) gx705) (Ry rfl rfl wn (yI O_3 (e0 rfl) hst (rdI mhF) gx705) (Rn QSn ?_))))
     refine Lc rfl ?_ LAn
     refine Ly wn (ya (v := iV x686) (e0 rfl)) (DRn (l1 := []) (l2 := [1, 2, 3, 4, 5, 6, 7, 8]) (lc := [10]) (by kernel_rfl) (by kernel_rfl) (by kernel_rfl) (Rn (Sy rfl rfl wn (yFb FL_28_2 (et rfl e692_1)) rfl (Sy rfl rfl wn (yLb (u := h6.v) O_24 (e0 rfl) hst mhR rfl) rfl (Sy rfl rfl wn (ym (v := iV x242) (et rfl e692_4)) rfl (Sy rfl rfl wn (yIa SL_24 (e0 rfl) (e0 rfl) hst (rdI (mtF (mtF (mtF q3)))) gx703) rfl (Sy rfl rfl wn (yCt O_22 (e0 rfl) hst (mtF mhF) rfl) rfl (Sy rfl rfl wn (ym (v := iV x657) (et rfl e692_8)) rfl (Sy rfl rfl wn (yIa SL_22 (e0 rfl) (e0 rfl) hst (rdI mhF) gx705) rfl (Sy rfl rfl wn (yI O_3 (e0 rfl) hst (rdI mhF) gx705) rfl QSn)))))))) ?_))
     refine Lc rfl ?_ LAn
     exact Ly wn (ya (v := iV x705) (e0 rfl)) (DRz (l1 := []) (l2 := []) (by kernel_rfl) (by kernel_rfl) (Rn QSn (j67 _ _ _ _ e692_1 e692_3 e692_4 rfl rfl e692_17 e692_18 e692_19 e692_30 e692_31 e692_32 (hst.facts (allC (mtF (mtF mhF)) (allT (allT (allT allI))))) hM65)))
    ·exact condF (et rfl e692_53) (bfalse c702) (wp_skip (j67 _ _ _ _ e692_1 e692_3 e692_4 e692_6 e692_7 e692_17 e692_18 e692_19 e692_30 e692_31 e692_32 hst hM65))
   ·refine condF (e0 rfl) (dF c685) (wp_exit (z245 _ _ _ rfl ?_))
    obtain rfl := someI hM65
    exact zz65 _ _ _ _ rfl rfl (je65_0 _ _ _ e65_1 e65_3 e65_4 e65_6 e65_17 e65_18 e65_19 (hst.facts (allT allI)) (ho65 _ rfl))
  ·exact condT (e0 rfl) (nT (dF c633)) (wp_exit (z226 _ _ _ rfl (qb224 _ _ _ (j60 _ _ _ e45_1 e45_3 e45_17 e45_18 e45_19 (hst.facts (allT (allT allI))) hM45))))
 ·refine condF (e0 rfl) (dF c476) (wp_exit (z170 _ _ _ rfl ?_))
  obtain rfl := someI hM45
  exact zz45 _ _ _ _ rfl rfl (je45_0 _ _ _ e45_3 (hst.pk 2 [1] rfl) (ho45 _ rfl))

theorem dissect_weights_1_ok {x1 : Int} {out : Bool} (hM : dissect_weights_1 x1 = some out) (hst : St w0 ros (rs) w) :
  Calls Tryz.prog 83 #[iV x1] w (fun e w => e = .returned (.bool out) ∧ St w0 (ros) (rs) w) := by
 refine enterQ Tryz.func83 rfl Tryz.ntmps83 rfl fun Q hQ => seqQ fun Q1 k1 z1 => wR (Y wn rfl (ya (v := .bool false) rfl) (wN (k1 _ _ (seqQ fun Q2 k2 z2 => wR (Y wn rfl (ym (v := iV x1) (e0 rfl)) (Y wn rfl (ylss (e0 rfl) rfl) (Y wn rfl (ym (v := .bool (decide (x1 < 1))) (e0 rfl)) ?_)))))))
 refine joinW 3 (fun f w => f 8 = .bool ((decide (x1 < 1)) || (decide ((1099511627776 : Int) < x1))) ∧ St w0 (ros) (rs) w) (fun j1 => ?_) ?_
 ·rcases Bool.eq_false_or_eq_true (decide (x1 < 1)) with c3 | c3
  ·exact Gn (wx rfl rfl rfl c3) rfl (Gn (wx rfl rfl rfl c3) rfl (Y wn rfl (ypt (v := .bool true) (e0 rfl) c3 rfl) (j1 _ _ ⟨(congrArg Value.bool (orT c3)), hst⟩)))
  ·exact Y (wg rfl rfl rfl c3) rfl (ym (v := iV x1) (e0 rfl)) (Y (wg rfl rfl rfl c3) rfl (ygtr (e0 rfl) rfl) (Y wn rfl (ypf (v := .bool (decide ((1099511627776 : Int) < x1))) (e0 rfl) c3 (e0 rfl)) (j1 _ _ ⟨(congrArg Value.bool (orF c3)), hst⟩)))
 rintro f w ⟨e2_8, hst⟩
 refine Y wn rfl (ya (v := .bool ((decide (x1 < 1)) || (decide ((1099511627776 : Int) < x1)))) (et rfl e2_8)) (wN (k2 _ _ (wp_ret ?_)))
 obtain rfl := someI hM
 exact hQ _ _ _ (fin1r Tryz.results83 ⟨rfl, rfl⟩ ⟨rfl, hst⟩)

theorem slices_IndexFunc_int_ok {x1 : List Int} {h2 : Hdr} {out : Int} (hM : slices_IndexFunc_int x1 = some out) (q1 : imm (rI .i64) h2.v x1 ∈ ros) (hst : St w0 ros (rs) w) :
  Calls Tryz.prog 80 #[h2.v, .func (.func 83) #[] #[]] w (fun e w => e = .returned (iV out) ∧ St w0 (ros) (rs) w) := by
 refine enterQ Tryz.func80 rfl Tryz.ntmps80 rfl fun Q hQ => seqQ fun Q1 k1 z1 => wR (Y wn rfl (ya (v := iV 0) rfl) (wN (k1 _ _ (seqQ fun Q2 k2 z2 => seqQ fun Q3 k3 z3 => wR (Y wn rfl (ym (v := h2.v) (e0 rfl)) (Y wn rfl (yLen SL_22 (e0 rfl) hst (rdI q1)) (Y wn rfl (ym (v := iV 0) rfl) (wN (k3 _ _ ?_)))))))))
 refine blockQ fun Q4 qb4 => ?_
 obtain ⟨o1, go1, hM⟩ := bs hM
 have je1_0 : ∀ (f : Nat → Value) (w : World), St w0 (ros) (rs) w → .inl () = o1 → Q4 (.exit 0) (fr 19 f) w := by
  intro f w hst ho
  subst ho
  refine qb4 _ _ _ (k2 _ _ (seqQ fun Q19 k19 z19 => wR (Y wn rfl (ya (v := iV (-1)) rfl) (wN (k19 _ _ (wp_ret ?_))))))
  obtain rfl := someI hM
  exact hQ _ _ _ (fin1r Tryz.results80 ⟨rfl, rfl⟩ ⟨rfl, hst⟩)
 have je1_1 : ∀ (x13 : Int) (f : Nat → Value) (w : World), f 4 = iV x13 → St w0 (ros) (rs) w → .inr x13 = o1 → Q4 .ret (fr 19 f) w := by
  intro x13 f w eje1_1_4 hst ho
  subst ho
  refine qb4 _ _ _ (z2 _ _ _ rfl ?_)
  obtain rfl := someI hM
  exact hQ _ _ _ (fin1r Tryz.results80 ⟨rfl, eje1_1_4⟩ ⟨rfl, hst⟩)
 refine loopQ (fun s a w => ∃ (x7 : Int) (f : Nat → Value), x7 = s ∧ a = fr 19 f ∧ f 0 = h2.v ∧ f 1 = .func (.func 83) #[] #[] ∧ f 7 = iV (x1.length : Int) ∧ f 8 = iV x7 ∧ St w0 (ros) (rs) w) go1 ⟨_, _, rfl, rfl, rfl, rfl, rfl, rfl, hst⟩ ?_
 rintro _ _ w r1_ ⟨x7, f, rfl, rfl, e1_0, e1_1, e1_7, e1_8, hst⟩ hM1 ho1 Q100001 n1 zz1
 refine seqQ fun Q20 k20 z20 => wR (Y wn rfl (ylss (et rfl e1_8) (et rfl e1_7)) (wN (k20 _ _ (seqQ fun Q21 k21 z21 => ?_))))
 rcases iteS hM1 with ⟨c14, hM1⟩ | ⟨c14, hM1⟩
 ·refine condT (e0 rfl) (dT c14) (wp_skip (k21 _ _ (seqQ fun Q22 k22 z22 => blockQ fun Q23 qb23 => seqQ fun Q24 k24 z24 => wR (Y wn rfl (ym (v := iV x7) (et rfl e1_8)) (Y wn rfl (ya (v := iV x7) (e0 rfl)) (wN (k24 _ _ (seqQ fun Q25 k25 z25 => wR (Y wn rfl (ym (v := .func (.func 83) #[] #[]) (et rfl e1_1)) ?_)))))))))
  refine Y wn rfl (ym (v := h2.v) (et rfl e1_0)) (Y wn rfl (ym (v := iV x7) (e0 rfl)) ?_)
  obtain ⟨x15, gx15, hM1⟩ := bs hM1
  refine Y wn rfl (yIa SL_22 (e0 rfl) (e0 rfl) hst (rdI q1) gx15) (Y wn rfl (yI O_3 (e0 rfl) hst (rdI q1) gx15) ?_)
  obtain ⟨r16, gr16, hM1⟩ := bs hM1
  refine Yc wn rfl (yCallw FN_83 (e0 rfl) (a1 (e0 rfl))) (dissect_weights_1_ok (hM := gr16) (hst := hst) ) ?_
  rintro _ w ⟨rfl, hst⟩
  refine ⟨_, rfl, ?_⟩
  refine wN (k25 _ _ ?_)
  rcases iteS hM1 with ⟨c17, hM1⟩ | ⟨c17, hM1⟩
  ·refine condT (e0 rfl) c17 (seqQ fun Q26 k26 z26 => wR (Y wn rfl (ym (v := iV x7) (e0 rfl)) (Y wn rfl (ya (v := iV x7) (e0 rfl)) (wN (k26 _ _ (wp_ret (qb23 _ _ _ (z22 _ _ _ rfl ?_))))))))
   obtain rfl := someI hM1
   exact zz1 _ _ _ _ rfl rfl (je1_1 _ _ _ rfl hst (ho1 _ rfl))
  ·refine condF (e0 rfl) (bfalse c17) (wp_skip (qb23 _ _ _ (k22 _ _ (wR (Y wn rfl (yadd (et rfl e1_8) rfl) (Y wn rfl (ym (v := iV (wa .i64 x7 1)) (e0 rfl)) (wN ?_)))))))
   obtain rfl := someI hM1
   exact n1 _ _ _ rfl ⟨_, _, rfl, rfl, e1_0, e1_1, e1_7, rfl, hst⟩
 ·refine condF (e0 rfl) (dF c14) (wp_exit (z21 _ _ _ rfl ?_))
  obtain rfl := someI hM1
  exact zz1 _ _ _ _ rfl rfl (je1_0 _ _ hst (ho1 _ rfl))

theorem slices_ContainsFunc_int_ok {x1 : List Int} {h2 : Hdr} {out : Bool} (hM : slices_ContainsFunc_int x1 = some out) (q1 : imm (rI .i64) h2.v x1 ∈ ros) (hst : St w0 ros (rs) w) :
  Calls Tryz.prog 49 #[h2.v, .func (.func 83) #[] #[]] w (fun e w => e = .returned (.bool out) ∧ St w0 (ros) (rs) w) := by
 refine enterQ Tryz.func49 rfl Tryz.ntmps49 rfl fun Q hQ => seqQ fun Q1 k1 z1 => wR (Y wn rfl (ya (v := .bool false) rfl) (wN (k1 _ _ (seqQ fun Q2 k2 z2 => wR (Y wn rfl (ym (v := h2.v) (e0 rfl)) (Y wn rfl (ym (v := .func (.func 83) #[] #[]) (e0 rfl)) ?_))))))
 obtain ⟨r3, gr3, hM⟩ := bs hM
 refine Yc wn rfl (yCall FN_80 (a2 (e0 rfl) (e0 rfl))) (slices_IndexFunc_int_ok (hM := gr3) (hst := hst) (q1 := q1)) ?_
 rintro _ w ⟨rfl, hst⟩
 refine ⟨_, rfl, ?_⟩
 refine Y wn rfl (ygeq (e0 rfl) rfl) (Y wn rfl (ya (v := .bool (decide ((0 : Int) ≤ r3))) (e0 rfl)) (wN (k2 _ _ (wp_ret ?_))))
 obtain rfl := someI hM
 exact hQ _ _ _ (fin1r Tryz.results49 ⟨rfl, rfl⟩ ⟨rfl, hst⟩)

theorem dissect_weights_ok {x1 : List Int} {h2 : Hdr} {out : Bool} (hM : dissect_weights x1 = some out) (q1 : imm (rI .i64) h2.v x1 ∈ ros) (hst : St w0 ros (rs) w) :
  Calls Tryz.prog 52 #[h2.v] w (fun e w => e = .returned (.bool out) ∧ St w0 (ros) (rs) w) := by
 refine enterQ Tryz.func52 rfl Tryz.ntmps52 rfl fun Q hQ => seqQ fun Q1 k1 z1 => wR (Y wn rfl (ya (v := .bool false) rfl) (wN (k1 _ _ (seqQ fun Q2 k2 z2 => wR (Y wn rfl (ym (v := h2.v) (e0 rfl)) ?_)))))
 obtain ⟨r3, gr3, hM⟩ := bs hM
 refine Yc wn rfl (yCall FN_49 (a2 (e0 rfl) rfl)) (slices_ContainsFunc_int_ok (hM := gr3) (hst := hst) (q1 := q1)) ?_
 rintro _ w ⟨rfl, hst⟩
 refine ⟨_, rfl, ?_⟩
 refine Y wn rfl (ynot (e0 rfl)) (Y wn rfl (ya (v := .bool (!(r3))) (e0 rfl)) (wN (k2 _ _ (wp_ret ?_))))
 obtain rfl := someI hM
 exact hQ _ _ _ (fin1r Tryz.results52 ⟨rfl, rfl⟩ ⟨rfl, hst⟩)

theorem dissect_coarsen_ok {x1 : List (List Int)} {x3 : List Int} {x5 : List (List Int)} {x7 : List Int} {h2 : Hdr} {h4 : Hdr} {h6 : Hdr} {h8 : Hdr} {out : (List (List Int)) × (List Int) × (List (List Int)) × (List Int) × Bool} (hM : dissect_coarsen x1 x3 x5 x7 = some out) (q1 : imm (rS (rI .i64)) h2.v x1 ∈ ros) (q2 : imm (rI .i64) h4.v x3 ∈ ros) (q3 : imm (rS (rI .i64)) h6.v x5 ∈ ros) (q4 : imm (rI .i64) h8.v x7 ∈ ros) (hst : St w0 ros (rs) w) :
  Calls Tryz.prog 42 #[.agg #[h2.v, h4.v, h6.v], h8.v] w (fun e w => ∃ (h100001 : Hdr) (y100002 : List Hdr) (h100004 : Hdr) (h100006 : Hdr) (y100007 : List Hdr) (h100009 : Hdr), e = .returned (.tuple #[.agg #[h100001.v, h100004.v, h100006.v], h100009.v, .bool out.2.2.2.2]) ∧ St w0 (imm (rI .i64) h100004.v out.2.1 :: ros) (row 22 rH h100001.v y100002 :: fam 3 (rI .i64) y100002 out.1 :: row 22 rH h100006.v y100007 :: fam 3 (rI .i64) y100007 out.2.2.1 :: row 3 (rI .i64) h100009.v out.2.2.2.1 :: rs) w) := by
 refine enterQ Tryz.func42 rfl Tryz.ntmps42 rfl fun Q hQ => seqQ fun Q1 k1 z1 => wR (YB wn rfl (r_box (vals := [h2.v, h4.v, h6.v]) hst (e0 rfl) rfl) ?_)
 intro b9 w hst
 refine YB wn rfl (rAl hst ZT_28) ?_
 intro b10 w hst
 refine Y wn rfl (ya (v := hnil.v) rfl) (Y wn rfl (ya (v := .bool false) rfl) (wN (k1 _ _ (seqQ fun Q2 k2 z2 => wR (Y wn rfl (ym (v := h8.v) (e0 rfl)) (Y wn rfl (yLen SL_22 (e0 rfl) hst (rdI q4)) ?_))))))
 obtain ⟨x13, gx13, hM⟩ := bs hM
 refine YH wn rfl (rMk hst SL_22 (e0 rfl) gx13) ?_
 intro h11 w hst
 refine Y wn rfl (ya (v := h11.v) (e0 rfl)) (wN (k2 _ _ (seqQ fun Q3 k3 z3 => seqQ fun Q4 k4 z4 => wR (Y wn rfl (ym (v := h8.v) (e0 rfl)) (Y wn rfl (yLen SL_22 (e0 rfl) hst (rdI q4)) (Y wn rfl (ym (v := iV 0) rfl) (wN (k4 _ _ (blockQ fun Q5 qb5 => ?_)))))))))
 obtain ⟨o3, go3, hM⟩ := bs hM
 have je3_0 : ∀ (x109 : List Int) (x110 : List Int) (h108 : Hdr) (f : Nat → Value) (w : World), f 2 = (pB b9) → f 4 = (pB b10) → f 5 = h11.v → St w0 (ros) (box b9 28 [h2.v, h4.v, h6.v] :: row 3 (rI .i64) h108.v x109 :: box b10 28 [hnil.v, h108.v, hnil.v] :: row 3 (rI .i64) h11.v x110 :: rs) w → (x109, x110) = o3 → Q5 (.exit 0) (fr 200 f) w := by
  intro x109 x110 h108 f w eje3_0_2 eje3_0_4 eje3_0_5 hst ho
  subst ho
  refine qb5 _ _ _ (k3 _ _ (seqQ fun Q54 k54 z54 => wR (Y wn rfl (yFb FL_28_1 (et rfl eje3_0_4)) (Y wn rfl (yLb (u := h108.v) O_22 (e0 rfl) hst (mtR (mtR mhR)) rfl) (Y wn rfl (yLen SL_22 (e0 rfl) hst (rdO (mtR mhR))) (Y wn rfl (ya (v := iV (x109.length : Int)) (e0 rfl)) (wN (k54 _ _ (seqQ fun Q55 k55 z55 => wR (Y wn rfl (ym (v := iV (x109.length : Int)) (e0 rfl)) ?_))))))))))
  obtain ⟨x113, gx113, hM⟩ := bs hM
  obtain ⟨m112, em112, gm112⟩ := mkL_rep gx113 hnil
  refine YH wn rfl (rMk hst SLH_24 (e0 rfl) gm112) ?_
  intro h111 w hst
  replace hst := (hst.fReps 3 (rI .i64) m112).pk 2 [1, 0] rfl
  rw [← em112] at hst
  refine Y wn rfl (ya (v := h111.v) (e0 rfl)) (wN (k55 _ _ (seqQ fun Q56 k56 z56 => seqQ fun Q57 k57 z57 => wR (Y wn rfl (ym (v := h111.v) (e0 rfl)) (Y wn rfl (yLenF SLH_24 (e0 rfl) hst (rdO mhR) (mtR mhR)) (Y wn rfl (ym (v := iV 0) rfl) (wN (k57 _ _ (blockQ fun Q58 qb58 => ?_)))))))))
  obtain ⟨o4, go4, hM⟩ := bs hM
  have je4_0 : ∀ (x133 : List (List Int)) (y132 : List Hdr) (f : Nat → Value) (w : World), f 2 = (pB b9) → f 4 = (pB b10) → f 5 = h11.v → f 9 = iV (x109.length : Int) → f 10 = h111.v → St w0 (ros) (box b9 28 [h2.v, h4.v, h6.v] :: row 3 (rI .i64) h108.v x109 :: box b10 28 [hnil.v, h108.v, hnil.v] :: row 3 (rI .i64) h11.v x110 :: row 22 rH h111.v y132 :: fam 3 (rI .i64) y132 x133 :: rs) w → x133 = o4 → Q58 (.exit 2) (fr 200 f) w := by
   intro x133 y132 f w eje4_0_2 eje4_0_4 eje4_0_5 eje4_0_9 eje4_0_10 hst ho
   subst ho
   refine qb58 _ _ _ (k56 _ _ (seqQ fun Q69 k69 z69 => seqQ fun Q70 k70 z70 => wR (Y wn rfl (yFb FL_28_0 (et rfl eje4_0_2)) (Y wn rfl (yFb FL_26_0 (e0 rfl)) (Y wn rfl (yLb (u := h2.v) O_24 (e0 rfl) hst mhR rfl) (Y wn rfl (yLen SL_24 (e0 rfl) hst (rdI q1)) (Y wn rfl (ym (v := iV 0) rfl) (wN (k70 _ _ (blockQ fun Q71 qb71 => ?_))))))))))
   obtain ⟨o7, go7, hM⟩ := bs hM
   have je7_0 : ∀ (x226 : List (List Int)) (f : Nat → Value) (w : World), f 4 = (pB b10) → f 5 = h11.v → f 9 = iV (x109.length : Int) → f 10 = h111.v → St w0 (ros) (row 3 (rI .i64) h108.v x109 :: box b10 28 [hnil.v, h108.v, hnil.v] :: row 3 (rI .i64) h11.v x110 :: row 22 rH h111.v y132 :: fam 3 (rI .i64) y132 x226 :: rs) w → x226 = o7 → Q71 (.exit 4) (fr 200 f) w := by
    intro x226 f w eje7_0_4 eje7_0_5 eje7_0_9 eje7_0_10 hst ho
    subst ho
    refine qb71 _ _ _ (k69 _ _ (seqQ fun Q116 k116 z116 => ?_))
    obtain ⟨x229, gx229, hM⟩ := bs hM
    obtain ⟨x232, gx232, hM⟩ := bs hM
    refine joinN (n := 200) (fun f w => ∃ (h233 : Hdr) (y234 : List Hdr) (h235 : Hdr) (y236 : List Hdr), f 4 = (pB b10) ∧ f 5 = h11.v ∧ f 10 = h111.v ∧ St w0 (ros) (row 22 rH h233.v y234 :: fam 3 (rI .i64) y234 x229 :: row 3 (rI .i64) h108.v x109 :: row 22 rH h235.v y236 :: fam 3 (rI .i64) y236 x232 :: box b10 28 [h233.v, h108.v, h235.v] :: row 3 (rI .i64) h11.v x110 :: row 22 rH h111.v y132 :: fam 3 (rI .i64) y132 x226 :: rs) w) (fun j8 => ?_) ?_
    ·refine wp_drawR [0, 1, 0, 4, 3, 19, 51, 127, 255] [1, 3, 6, 8] 4 folM (by kernel_rfl) (by kernel_rfl) (by kernel_rfl) ?_
     replace hst := hst.drew
     refine DRn (l1 := [0, 2]) (l2 := []) (lc := [1, 3]) (by kernel_rfl) (by kernel_rfl) (by kernel_rfl) (Ry rfl rfl wn (ym (v := iV (x109.length : Int)) (et rfl eje7_0_9)) (Ry rfl rfl wn (ym (v := iV (x109.length : Int)) (et rfl eje7_0_9)) (Rn QSn ?_)))
     refine Lc rfl ?_ (Lc rfl ?_ LAn)
     ·obtain ⟨m228, em228, gm228⟩ := mkL_rep gx229 hnil
      refine LH wn (rMk hst SLH_24 (e0 rfl) gm228) ?_
      intro h227 w hst
      replace hst := (hst.fReps 3 (rI .i64) m228).pk 2 [1, 0] rfl
      rw [← em228] at hst
      refine DRn (l1 := [4, 5]) (l2 := [2]) (lc := [3, 6]) (by kernel_rfl) (by kernel_rfl) (by kernel_rfl) (Ry rfl rfl wn (yFb FL_28_0 (et rfl eje7_0_4)) (Ry rfl rfl wn (yFb FL_26_0 (e0 rfl)) (Rn (Sy rfl rfl wn (ym (v := iV (x109.length : Int)) (et rfl eje7_0_9)) rfl QSn) ?_)))
      refine Lc rfl ?_ (Lc rfl ?_ LAn)
      ·obtain ⟨m231, em231, gm231⟩ := mkL_rep gx232 hnil
       refine LH wn (rMk hst SLH_24 (e0 rfl) gm231) ?_
       intro h230 w hst
       replace hst := (hst.fReps 3 (rI .i64) m231).pk 2 [1, 0] rfl
       rw [← em231] at hst
       refine DRn (l1 := []) (l2 := [4, 5]) (lc := [6]) (by kernel_rfl) (by kernel_rfl) (by kernel_rfl) (Rn (Sy rfl rfl wn (yFb FL_28_0 (et rfl eje7_0_4)) rfl (Sy rfl rfl wn (yFb FL_26_0 (e0 rfl)) rfl QSn)) ?_)
       refine Lc rfl ?_ LAn
       replace hst := hst.pk 6 [5, 0, 0, 0, 0, 0] rfl
       refine LT wn (r_stb1 (vals' := [h227.v, h108.v, hnil.v]) hst O_24 (e0 rfl) (e0 rfl) rfl rfl rfl rfl) ?_
       intro w hst
       refine DRn (l1 := [7]) (l2 := []) (lc := [8]) (by kernel_rfl) (by kernel_rfl) (by kernel_rfl) (Ry rfl rfl wn (yFb FL_28_2 (et rfl eje7_0_4)) (Rn QSn ?_))
       refine Lc rfl ?_ LAn
       refine LT wn (r_stb1 (vals' := [h227.v, h108.v, h230.v]) hst O_24 (e0 rfl) (e0 rfl) rfl rfl rfl rfl) ?_
       intro w hst
       exact DRz (l1 := []) (l2 := []) (by kernel_rfl) (by kernel_rfl) (Rn QSn (j8 _ _ ⟨_, _, _, _, eje7_0_4, eje7_0_5, eje7_0_10, (hst.pk 9 [3, 3, 3, 1, 1, 0, 0, 0, 0] rfl)⟩))
      ·replace hst := hst.pk 4 [3, 0, 0, 0] rfl
       refine LT wn (r_stb1 (vals' := [h227.v, h108.v, hnil.v]) hst O_24 (e0 rfl) (e0 rfl) rfl rfl rfl rfl) ?_
       intro w hst
       refine DRn (l1 := []) (l2 := [2]) (lc := [3]) (by kernel_rfl) (by kernel_rfl) (by kernel_rfl) (Rn (Sy rfl rfl wn (ym (v := iV (x109.length : Int)) (et rfl eje7_0_9)) rfl QSn) ?_)
       refine Lc rfl ?_ LAn
       obtain ⟨m231, em231, gm231⟩ := mkL_rep gx232 hnil
       refine LH wn (rMk hst SLH_24 (e0 rfl) gm231) ?_
       intro h230 w hst
       replace hst := (hst.fReps 3 (rI .i64) m231).pk 2 [1, 0] rfl
       rw [← em231] at hst
       refine DRn (l1 := [7]) (l2 := []) (lc := [8]) (by kernel_rfl) (by kernel_rfl) (by kernel_rfl) (Ry rfl rfl wn (yFb FL_28_2 (et rfl eje7_0_4)) (Rn QSn ?_))
       refine Lc rfl ?_ LAn
       replace hst := hst.pk 3 [2, 0, 0] rfl
       refine LT wn (r_stb1 (vals' := [h227.v, h108.v, h230.v]) hst O_24 (e0 rfl) (e0 rfl) rfl rfl rfl rfl) ?_
       intro w hst
       exact DRz (l1 := []) (l2 := []) (by kernel_rfl) (by kernel_rfl) (Rn QSn (j8 _ _ ⟨_, _, _, _, eje7_0_4, eje7_0_5, eje7_0_10, (hst.pk 9 [3, 3, 3, 1, 1, 0, 0, 0, 0] rfl)⟩))
     ·obtain ⟨m231, em231, gm231⟩ := mkL_rep gx232 hnil
      refine LH wn (rMk hst SLH_24 (e0 rfl) gm231) ?_
      intro h230 w hst
      replace hst := (hst.fReps 3 (rI .i64) m231).pk 2 [1, 0] rfl
      rw [← em231] at hst
      refine DRn (l1 := []) (l2 := [0]) (lc := [1]) (by kernel_rfl) (by kernel_rfl) (by kernel_rfl) (Rn (Sy rfl rfl wn (ym (v := iV (x109.length : Int)) (et rfl eje7_0_9)) rfl QSn) ?_)
      refine Lc rfl ?_ LAn
      obtain ⟨m228, em228, gm228⟩ := mkL_rep gx229 hnil
      refine LH wn (rMk hst SLH_24 (e0 rfl) gm228) ?_
      intro h227 w hst
      replace hst := (hst.fReps 3 (rI .i64) m228).pk 2 [1, 0] rfl
      rw [← em228] at hst
      refine DRn (l1 := [4, 5]) (l2 := []) (lc := [6]) (by kernel_rfl) (by kernel_rfl) (by kernel_rfl) (Ry rfl rfl wn (yFb FL_28_0 (et rfl eje7_0_4)) (Ry rfl rfl wn (yFb FL_26_0 (e0 rfl)) (Rn QSn ?_)))
      refine Lc rfl ?_ LAn
      replace hst := hst.pk 6 [5, 0, 0, 0, 0, 0] rfl
      refine LT wn (r_stb1 (vals' := [h227.v, h108.v, hnil.v]) hst O_24 (e0 rfl) (e0 rfl) rfl rfl rfl rfl) ?_
      intro w hst
      refine DRn (l1 := [7]) (l2 := []) (lc := [8]) (by kernel_rfl) (by kernel_rfl) (by kernel_rfl) (Ry rfl rfl wn (yFb FL_28_2 (et rfl eje7_0_4)) (Rn QSn ?_))
      refine Lc rfl ?_ LAn
      refine LT wn (r_stb1 (vals' := [h227.v, h108.v, h230.v]) hst O_24 (e0 rfl) (e0 rfl) rfl rfl rfl rfl) ?_
      intro w hst
      exact DRz (l1 := []) (l2 := []) (by kernel_rfl) (by kernel_rfl) (Rn QSn (j8 _ _ ⟨_, _, _, _, eje7_0_4, eje7_0_5, eje7_0_10, (hst.pk 9 [1, 1, 3, 1, 1, 0, 0, 0, 0] rfl)⟩))
    rintro f w ⟨h233, y234, h235, y236, e237_4, e237_5, e237_10, hst⟩
    refine k116 _ _ (seqQ fun Q117 k117 z117 => seqQ fun Q118 k118 z118 => wR (Y wn rfl (ym (v := h111.v) (et rfl e237_10)) (Y wn rfl (yLenF SLH_24 (e0 rfl) hst (rdO (mtR (mtR (mtR (mtR (mtR (mtR (mtR mhR)))))))) (mtR (mtR (mtR (mtR (mtR (mtR (mtR (mtR mhR))))))))) (Y wn rfl (ym (v := iV 0) rfl) (wN (k118 _ _ (blockQ fun Q119 qb119 => ?_)))))))
    replace hst := hst.pk 9 [7, 7, 0, 0, 0, 0, 0, 0, 0] rfl
    replace hst := hst.ffz
    obtain ⟨o35, go35, hM⟩ := bs hM
    have je35_0 : ∀ (x549 : List (List Int)) (x551 : List (List Int)) (y548 : List Hdr) (y550 : List Hdr) (f : Nat → Value) (w : World), f 4 = (pB b10) → f 5 = h11.v → St w0 (ros) (row 22 rH h233.v y548 :: fam 3 (rI .i64) y548 x549 :: row 3 (rI .i64) h108.v x109 :: row 22 rH h235.v y550 :: fam 3 (rI .i64) y550 x551 :: box b10 28 [h233.v, h108.v, h235.v] :: row 3 (rI .i64) h11.v x110 :: rs) w → .inl (x549, x551) = o35 → Q119 (.exit 8) (fr 200 f) w := by
     intro x549 x551 y548 y550 f w eje35_0_4 eje35_0_5 hst ho
     subst ho
     refine qb119 _ _ _ (k117 _ _ (seqQ fun Q176 k176 z176 => seqQ fun Q177 k177 z177 => wR (Y wn rfl (yFb FL_28_1 (et rfl eje35_0_4)) (Y wn rfl (yLb (u := h108.v) O_22 (e0 rfl) hst (mtR (mtR (mtR (mtR (mtR mhR))))) rfl) ?_))))
     obtain ⟨r552, gr552, hM⟩ := bs hM
     replace hst := hst.pk 3 [2, 0, 0] rfl
     replace hst := hst.fz
     refine Yc wn rfl (yCall FN_52 (a1 (e0 rfl))) (dissect_weights_ok (hM := gr552) (hst := hst) (q1 := mhF)) ?_
     rintro _ w ⟨rfl, hst⟩
     refine ⟨_, rfl, ?_⟩
     refine Y wn rfl (ynot (e0 rfl)) (wN (k177 _ _ ?_))
     rcases iteS hM with ⟨c553, hM⟩ | ⟨c553, hM⟩
     ·refine condF (e0 rfl) (nF c553) (wp_skip (k176 _ _ (seqQ fun Q178 k178 z178 => wR (Y wn rfl (yLbs (us := [h233.v, h108.v, h235.v]) ST_28 (et rfl eje35_0_4) hst (mtR (mtR (mtR (mtR mhR)))) rfl rfl) (Y wn rfl (ym (v := h11.v) (et rfl eje35_0_5)) ?_)))))
      replace hst := hst.pk 5 [4, 0, 0, 0, 0] rfl
      refine YT wn rfl (r_stbn (vals' := [h233.v, h108.v, h235.v]) (us := [h233.v, h108.v, h235.v]) hst ST_28 (et rfl eje35_0_4) (e0 rfl) rfl rfl (one_of rfl) rfl) ?_
      intro w hst
      refine Y wn rfl (ya (v := h11.v) (e0 rfl)) (Y wn rfl (ya (v := .bool true) rfl) (wN (k178 _ _ (wp_ret ?_))))
      obtain rfl := someI hM
      exact hQ _ _ _ (fin3r Tryz.results42 (rcs2 rfl eje35_0_4 hst mhR ST_28 rfl) ⟨rfl, rfl⟩ ⟨rfl, rfl⟩ ⟨_, _, _, _, _, _, rfl, (hst.pk 6 [1, 1, 1, 1, 1] rfl)⟩)
     ·refine condT (e0 rfl) (nT (bfalse c553)) (seqQ fun Q179 k179 z179 => wR (Y wn rfl (ybuild (us := [hnil.v, hnil.v, hnil.v]) [] SO_28 bp0 rfl) ?_))
      replace hst := hst.pk 5 [4, 0, 0, 0, 0] rfl
      refine YT wn rfl (r_stbn (vals' := [hnil.v, hnil.v, hnil.v]) (us := [hnil.v, hnil.v, hnil.v]) hst ST_28 (et rfl eje35_0_4) (e0 rfl) rfl rfl (one_of rfl) rfl) ?_
      intro w hst
      refine Y wn rfl (ya (v := hnil.v) rfl) (Y wn rfl (ya (v := .bool false) rfl) (wN (k179 _ _ (wp_ret (z176 _ _ _ rfl ?_)))))
      obtain rfl := someI hM
      replace hst := ((hst.rowNh 22 rH).fNew 3 (rI .i64)).pk 2 [1, 0] rfl
      replace hst := hst.immNh (rI .i64)
      replace hst := ((hst.rowNh 22 rH).fNew 3 (rI .i64)).pk 2 [1, 0] rfl
      replace hst := hst.rowNh 3 (rI .i64)
      exact hQ _ _ _ (fin3r Tryz.results42 (rcs2 rfl eje35_0_4 hst (mtR (mtR (mtR (mtR (mtR mhR))))) ST_28 rfl) ⟨rfl, rfl⟩ ⟨rfl, rfl⟩ ⟨_, _, _, _, _, _, rfl, ((hst.pk 11 [3, 3, 1, 1, 0] rfl).facts (allC mhF (allT (allT allI))))⟩)
    have je35_1 : ∀ (f : Nat → Value) (w : World), f 4 = (pB b10) → f 5 = hnil.v → f 6 = .bool false → St w0 (ros) (box b10 28 [hnil.v, hnil.v, hnil.v] :: rs) w → .inr () = o35 → Q119 .ret (fr 200 f) w := by
     intro f w eje35_1_4 eje35_1_5 eje35_1_6 hst ho
     subst ho
     refine qb119 _ _ _ (z117 _ _ _ rfl ?_)
     obtain rfl := someI hM
     replace hst := ((hst.rowNh 22 rH).fNew 3 (rI .i64)).pk 2 [1, 0] rfl
     replace hst := hst.immNh (rI .i64)
     replace hst := ((hst.rowNh 22 rH).fNew 3 (rI .i64)).pk 2 [1, 0] rfl
     replace hst := hst.rowNh 3 (rI .i64)
     exact hQ _ _ _ (fin3r Tryz.results42 (rcs2 rfl eje35_1_4 hst (mtR (mtR (mtR (mtR (mtR mhR))))) ST_28 rfl) ⟨rfl, eje35_1_5⟩ ⟨rfl, eje35_1_6⟩ ⟨_, _, _, _, _, _, rfl, (hst.pk 6 [3, 3, 1, 1, 0] rfl)⟩)
    refine loopQ (fun s a w => ∃ (x389 : List (List Int)) (x391 : List (List Int)) (x392 : Int) (f : Nat → Value) (y388 : List Hdr) (y390 : List Hdr), (x389, x391, x392) = s ∧ a = fr 200 f ∧ f 4 = (pB b10) ∧ f 5 = h11.v ∧ f 136 = h111.v ∧ f 137 = iV (x226.length : Int) ∧ f 138 = iV x392 ∧ St w0 (imm (rS (rI .i64)) h111.v x226 :: ros) (row 22 rH h233.v y388 :: fam 3 (rI .i64) y388 x389 :: row 3 (rI .i64) h108.v x109 :: row 22 rH h235.v y390 :: fam 3 (rI .i64) y390 x391 :: box b10 28 [h233.v, h108.v, h235.v] :: row 3 (rI .i64) h11.v x110 :: rs) w) go35 ⟨_, _, _, _, _, _, rfl, rfl, e237_4, e237_5, rfl, rfl, rfl, hst⟩ ?_
    rintro _ _ w r35_ ⟨x389, x391, x392, f, y388, y390, rfl, rfl, e35_4, e35_5, e35_136, e35_137, e35_138, hst⟩ hM35 ho35 Q100035 n35 zz35
    refine seqQ fun Q180 k180 z180 => wR (Y wn rfl (ylss (et rfl e35_138) (et rfl e35_137)) (wN (k180 _ _ (seqQ fun Q181 k181 z181 => ?_))))
    rcases iteS hM35 with ⟨c554, hM35⟩ | ⟨c554, hM35⟩
    ·refine condT (e0 rfl) (dT c554) (wp_skip (k181 _ _ (seqQ fun Q182 k182 z182 => blockQ fun Q183 qb183 => seqQ fun Q184 k184 z184 => wR (Y wn rfl (ym (v := iV x392) (et rfl e35_138)) ?_))))
     obtain ⟨x555, gx555, hM35⟩ := bs hM35
     refine Y wn rfl (yIa SL_24 (et rfl e35_136) (et rfl e35_138) hst (rdI mhF) gx555) ?_
     obtain ⟨h556, hst⟩ := iLs hst mhF gx555
     refine Y wn rfl (yCt O_22 (e0 rfl) hst (mtF mhF) rfl) (Y wn rfl (ya (v := iV x392) (e0 rfl)) (Y wn rfl (ya (v := h556.v) (e0 rfl)) (wN (k184 _ _ (seqQ fun Q185 k185 z185 => seqQ fun Q186 k186 z186 => wR (Y wn rfl (ym (v := h556.v) (e0 rfl)) (Y wn rfl (yLen SL_22 (e0 rfl) hst (rdI mhF)) (Y wn rfl (ym (v := iV 0) rfl) (wN (k186 _ _ (blockQ fun Q187 qb187 => ?_)))))))))))
     obtain ⟨o44, go44, hM35⟩ := bs hM35
     have je44_0 : ∀ (x654 : List (List Int)) (x656 : List (List Int)) (y653 : List Hdr) (y655 : List Hdr) (f : Nat → Value) (w : World), f 4 = (pB b10) → f 5 = h11.v → f 16 = iV x392 → f 136 = h111.v → f 137 = iV (x226.length : Int) → f 138 = iV x392 → St w0 (imm (rS (rI .i64)) h111.v x226 :: ros) (row 22 rH h233.v y653 :: fam 3 (rI .i64) y653 x654 :: row 3 (rI .i64) h108.v x109 :: row 22 rH h235.v y655 :: fam 3 (rI .i64) y655 x656 :: box b10 28 [h233.v, h108.v, h235.v] :: row 3 (rI .i64) h11.v x110 :: rs) w → (x654, x656) = o44 → Q187 (.exit 10) (fr 200 f) w := by
      intro x654 x656 y653 y655 f w eje44_0_4 eje44_0_5 eje44_0_16 eje44_0_136 eje44_0_137 eje44_0_138 hst ho
      subst ho
      refine qb187 _ _ _ (k185 _ _ (seqQ fun Q200 k200 z200 => wR (Y wn rfl (yFb FL_28_2 (et rfl eje44_0_4)) (Y wn rfl (yLb (u := h235.v) O_24 (e0 rfl) hst (mtR (mtR (mtR (mtR (mtR mhR))))) rfl) (Y wn rfl (ym (v := iV x392) (et rfl eje44_0_16)) ?_)))))
      obtain ⟨x657, gx657, hM35⟩ := bs hM35
      obtain ⟨h658, gh658⟩ := hst.famI (mtR (mtR (mtR (mtR mhR)))) gx657
      refine Y wn rfl (yIa SLH_24 (e0 rfl) (e0 rfl) hst (rdO (mtR (mtR (mtR mhR)))) gh658) (Y wn rfl (yF1 O_22 (e0 rfl) hst (rdO (mtR (mtR (mtR mhR)))) gh658 rfl) ?_)
      obtain ⟨r659, gr659, hM35⟩ := bs hM35
      have hgu := hst.guest1 (rdF (mtR (mtR (mtR (mtR mhR)))) gh658 gx657)
      refine Yc wn rfl (yCall FN_52 (a1 (e0 rfl))) (dissect_weights_ok (hM := gr659) (hst := hgu) (q1 := mhF)) ?_
      clear hgu
      rintro _ w ⟨rfl, hgu⟩
      replace hst := hst.back hgu
      clear hgu
      refine ⟨_, rfl, ?_⟩
      refine Y wn rfl (ynot (e0 rfl)) (wN (k200 _ _ ?_))
      rcases iteS hM35 with ⟨c660, hM35⟩ | ⟨c660, hM35⟩
      ·refine condF (e0 rfl) (nF c660) (wp_skip (qb183 _ _ _ (k182 _ _ (wR (Y wn rfl (yadd (et rfl eje44_0_138) rfl) (Y wn rfl (ym (v := iV (wa .i64 x392 1)) (e0 rfl)) (wN ?_)))))))
       obtain rfl := someI hM35
       exact n35 _ _ _ rfl ⟨_, _, _, _, _, _, rfl, rfl, eje44_0_4, eje44_0_5, eje44_0_136, eje44_0_137, rfl, hst⟩
      ·refine condT (e0 rfl) (nT (bfalse c660)) (seqQ fun Q201 k201 z201 => wR (Y wn rfl (ybuild (us := [hnil.v, hnil.v, hnil.v]) [] SO_28 bp0 rfl) ?_))
       replace hst := hst.pk 6 [5, 0, 0, 0, 0, 0] rfl
       refine YT wn rfl (r_stbn (vals' := [hnil.v, hnil.v, hnil.v]) (us := [hnil.v, hnil.v, hnil.v]) hst ST_28 (et rfl eje44_0_4) (e0 rfl) rfl rfl (one_of rfl) rfl) ?_
       intro w hst
       refine Y wn rfl (ya (v := hnil.v) rfl) (Y wn rfl (ya (v := .bool false) rfl) (wN (k201 _ _ (wp_ret (qb183 _ _ _ (z182 _ _ _ rfl ?_))))))
       obtain rfl := someI hM35
       exact zz35 _ _ _ _ rfl rfl (je35_1 _ _ eje44_0_4 rfl rfl ((hst.pk 7 [0] rfl).facts (allT allI)) (ho35 _ rfl))
     refine loopQ (fun s a w => ∃ (x601 : List (List Int)) (x603 : List (List Int)) (x604 : Int) (f : Nat → Value) (y600 : List Hdr) (y602 : List Hdr), (x601, x603, x604) = s ∧ a = fr 200 f ∧ f 4 = (pB b10) ∧ f 5 = h11.v ∧ f 16 = iV x392 ∧ f 136 = h111.v ∧ f 137 = iV (x226.length : Int) ∧ f 138 = iV x392 ∧ f 143 = h556.v ∧ f 144 = iV (x555.length : Int) ∧ f 145 = iV x604 ∧ St w0 (imm (rS (rI .i64)) h111.v x226 :: imm (rI .i64) h556.v x555 :: ros) (row 22 rH h233.v y600 :: fam 3 (rI .i64) y600 x601 :: row 3 (rI .i64) h108.v x109 :: row 22 rH h235.v y602 :: fam 3 (rI .i64) y602 x603 :: box b10 28 [h233.v, h108.v, h235.v] :: row 3 (rI .i64) h11.v x110 :: rs) w) go44 ⟨_, _, _, _, _, _, rfl, rfl, e35_4, e35_5, rfl, e35_136, e35_137, e35_138, rfl, rfl, rfl, (hst.facts (allC (mtF (mtF mhF)) (allC mhF (allT (allT (allT allI))))))⟩ ?_
     rintro _ _ w r44_ ⟨x601, x603, x604, f, y600, y602, rfl, rfl, e44_4, e44_5, e44_16, e44_136, e44_137, e44_138, e44_143, e44_144, e44_145, hst⟩ hM44 ho44 Q100044 n44 zz44
     refine seqQ fun Q202 k202 z202 => wR (Y wn rfl (ylss (et rfl e44_145) (et rfl e44_144)) (wN (k202 _ _ (seqQ fun Q203 k203 z203 => ?_))))
     rcases iteS hM44 with ⟨c661, hM44⟩ | ⟨c661, hM44⟩
     ·refine condT (e0 rfl) (dT c661) (wp_skip (k203 _ _ (seqQ fun Q204 k204 z204 => blockQ fun Q205 qb205 => seqQ fun Q206 k206 z206 => wR (Y wn rfl (ym (v := iV x604) (et rfl e44_145)) ?_))))
      obtain ⟨x662, gx662, hM44⟩ := bs hM44
      refine Y wn rfl (yIa SL_22 (et rfl e44_143) (et rfl e44_145) hst (rdI (mtF mhF)) gx662) (Y wn rfl (yI O_3 (e0 rfl) hst (rdI (mtF mhF)) gx662) (Y wn rfl (ya (v := iV x604) (e0 rfl)) (Y wn rfl (ya (v := iV x662) (e0 rfl)) (wN (k206 _ _ (seqQ fun Q207 k207 z207 => wR (Y wn rfl (ym (v := iV x392) (et rfl e44_16)) (Y wn rfl (ym (v := iV x604) (e0 rfl)) (Y wn rfl (yneq (e0 rfl) (e0 rfl)) (Y wn rfl (ym (v := .bool (!(decide (x392 = x604)))) (e0 rfl)) ?_))))))))))
      refine joinW 3 (fun f w => f 4 = (pB b10) ∧ f 5 = h11.v ∧ f 16 = iV x392 ∧ f 18 = iV x604 ∧ f 19 = iV x662 ∧ f 136 = h111.v ∧ f 137 = iV (x226.length : Int) ∧ f 138 = iV x392 ∧ f 143 = h556.v ∧ f 144 = iV (x555.length : Int) ∧ f 145 = iV x604 ∧ f 156 = .bool ((!(decide (x392 = x604))) && (decide ((0 : Int) < x662))) ∧ St w0 (imm (rS (rI .i64)) h111.v x226 :: imm (rI .i64) h556.v x555 :: ros) (row 22 rH h233.v y600 :: fam 3 (rI .i64) y600 x601 :: row 3 (rI .i64) h108.v x109 :: row 22 rH h235.v y602 :: fam 3 (rI .i64) y602 x603 :: box b10 28 [h233.v, h108.v, h235.v] :: row 3 (rI .i64) h11.v x110 :: rs) w) (fun j45 => ?_) ?_
      ·rcases Bool.eq_false_or_eq_true (!(decide (x392 = x604))) with c664 | c664
       ·exact Y (wg rfl rfl rfl c664) rfl (ym (v := iV x662) (e0 rfl)) (Y (wg rfl rfl rfl c664) rfl (ygtr (e0 rfl) rfl) (Y wn rfl (ypt (v := .bool (decide ((0 : Int) < x662))) (e0 rfl) c664 (e0 rfl)) (j45 _ _ ⟨e44_4, e44_5, e44_16, rfl, rfl, e44_136, e44_137, e44_138, e44_143, e44_144, e44_145, (congrArg Value.bool (andT c664)), hst⟩)))
       ·exact Gn (wx rfl rfl rfl c664) rfl (Gn (wx rfl rfl rfl c664) rfl (Y wn rfl (ypf (v := .bool false) (e0 rfl) c664 rfl) (j45 _ _ ⟨e44_4, e44_5, e44_16, rfl, rfl, e44_136, e44_137, e44_138, e44_143, e44_144, e44_145, (congrArg Value.bool (andF c664)), hst⟩)))
      rintro f w ⟨e663_4, e663_5, e663_16, e663_18, e663_19, e663_136, e663_137, e663_138, e663_143, e663_144, e663_145, e663_156, hst⟩
      refine wN (k207 _ _ ?_)
      have j47 : ∀ (x683 : List (List Int)) (x685 : List (List Int)) (y682 : List Hdr) (y684 : List Hdr) (f : Nat → Value) (w : World), f 4 = (pB b10) → f 5 = h11.v → f 16 = iV x392 → f 136 = h111.v → f 137 = iV (x226.length : Int) → f 138 = iV x392 → f 143 = h556.v → f 144 = iV (x555.length : Int) → f 145 = iV x604 → St w0 (imm (rS (rI .i64)) h111.v x226 :: imm (rI .i64) h556.v x555 :: ros) (row 22 rH h233.v y682 :: fam 3 (rI .i64) y682 x683 :: row 3 (rI .i64) h108.v x109 :: row 22 rH h235.v y684 :: fam 3 (rI .i64) y684 x685 :: box b10 28 [h233.v, h108.v, h235.v] :: row 3 (rI .i64) h11.v x110 :: rs) w → dissect_coarsen_j47 x604 x683 x685 = some r44_ → Q205 .normal (fr 200 f) w := by
       intro x683 x685 y682 y684 f w ej47_4 ej47_5 ej47_16 ej47_136 ej47_137 ej47_138 ej47_143 ej47_144 ej47_145 hst hM
       refine qb205 _ _ _ (k204 _ _ (wR (Y wn rfl (yadd (et rfl ej47_145) rfl) (Y wn rfl (ym (v := iV (wa .i64 x604 1)) (e0 rfl)) (wN ?_)))))
       obtain rfl := someI hM
       exact n44 _ _ _ rfl ⟨_, _, _, _, _, _, rfl, rfl, ej47_4, ej47_5, ej47_16, ej47_136, ej47_137, ej47_138, ej47_143, ej47_144, rfl, hst⟩
      rcases iteS hM44 with ⟨c686, hM44⟩ | ⟨c686, hM44⟩
      ·refine condT (et rfl e663_156) c686 ?_
       obtain ⟨x687, gx687, hM44⟩ := bs hM44
       obtain ⟨x691, gx691, hM44⟩ := bs hM44
       obtain ⟨x692, gx692, hM44⟩ := bs hM44
       obtain ⟨x696, gx696, hM44⟩ := bs hM44
       obtain ⟨x697, gx697, hM44⟩ := bs hM44
       obtain ⟨x699, gx699, hM44⟩ := bs hM44
       refine joinN (n := 200) (fun f w => ∃ (y701 : List Hdr) (y702 : List Hdr), f 4 = (pB b10) ∧ f 5 = h11.v ∧ f 16 = iV x392 ∧ f 136 = h111.v ∧ f 137 = iV (x226.length : Int) ∧ f 138 = iV x392 ∧ f 143 = h556.v ∧ f 144 = iV (x555.length : Int) ∧ f 145 = iV x604 ∧ St w0 (imm (rS (rI .i64)) h111.v x226 :: imm (rI .i64) h556.v x555 :: ros) (row 22 rH h233.v y701 :: fam 3 (rI .i64) y701 x697 :: row 3 (rI .i64) h108.v x109 :: row 22 rH h235.v y702 :: fam 3 (rI .i64) y702 x699 :: box b10 28 [h233.v, h108.v, h235.v] :: row 3 (rI .i64) h11.v x110 :: rs) w) (fun j48 => ?_) ?_
       ·refine wp_drawR [0, 1, 3, 0, 0, 16, 0, 0, 128, 384, 0, 1920, 3968, 0, 8192, 32640, 0, 65536, 0, 458752, 983040, 0, 2097152, 8388480, 16777103, 33554319, 67108863, 134217727] [14, 15, 22, 23, 25, 27] 6 folM (by kernel_rfl) (by kernel_rfl) (by kernel_rfl) ?_
        replace hst := hst.drew
        refine DRn (l1 := [0, 1, 2, 3, 4, 5, 6, 7, 8, 9, 10, 11, 12, 13, 16, 17, 18, 19, 20, 21]) (l2 := []) (lc := [14, 22]) (by kernel_rfl) (by kernel_rfl) (by kernel_rfl) (Ry rfl rfl wn (yFb FL_28_0 (et rfl e663_4)) (Ry rfl rfl wn (yFb FL_26_0 (e0 rfl)) (Ry rfl rfl wn (yLb (u := h233.v) O_24 (e0 rfl) hst (mtR (mtR (mtR (mtR (mtR mhR))))) rfl) (Ry rfl rfl wn (ym (v := iV x392) (et rfl e663_16)) (Ry rfl rfl wn (yFb FL_28_2 (et rfl e663_4)) (Ry rfl rfl wn (yLb (u := h235.v) O_24 (e0 rfl) hst (mtR (mtR (mtR (mtR (mtR mhR))))) rfl) (Ry rfl rfl wn (ym (v := iV x392) (et rfl e663_16)) (Ry rfl rfl wn (yFb FL_28_0 (et rfl e663_4)) (Ry rfl rfl wn (yFb FL_26_0 (e0 rfl)) (Ry rfl rfl wn (yLb (u := h233.v) O_24 (e0 rfl) hst (mtR (mtR (mtR (mtR (mtR mhR))))) rfl) (Ry rfl rfl wn (ym (v := iV x392) (et rfl e663_16)) ?_)))))))))))
        obtain ⟨h688, gh688⟩ := hst.famI (mtR mhR) gx687
        refine Ry rfl rfl wn (yIa SLH_24 (e0 rfl) (e0 rfl) hst (rdO mhR) gh688) (Ry rfl rfl wn (yF1 O_22 (e0 rfl) hst (rdO mhR) gh688 rfl) (Ry rfl rfl wn (ym (v := iV x604) (et rfl e663_18)) (Ry rfl rfl wn (yFb FL_28_2 (et rfl e663_4)) (Ry rfl rfl wn (yLb (u := h235.v) O_24 (e0 rfl) hst (mtR (mtR (mtR (mtR (mtR mhR))))) rfl) (Ry rfl rfl wn (ym (v := iV x392) (et rfl e663_16)) ?_)))))
        obtain ⟨h693, gh693⟩ := hst.famI (mtR (mtR (mtR (mtR mhR)))) gx692
        refine Ry rfl rfl wn (yIa SLH_24 (e0 rfl) (e0 rfl) hst (rdO (mtR (mtR (mtR mhR)))) gh693) (Ry rfl rfl wn (yF1 O_22 (e0 rfl) hst (rdO (mtR (mtR (mtR mhR)))) gh693 rfl) (Ry rfl rfl wn (ym (v := iV x662) (et rfl e663_19)) (Rn QSn ?_)))
        refine Lc rfl ?_ (Lc rfl ?_ LAn)
        ·refine LH wn (rLt (n := 1) (l := [x604]) hst SL_22 [iV x604] (bp1 (e0 rfl)) rfl rfl (mks1 (cs := [iV x604]) rfl mkI mks0)) ?_
         intro h689 w hst
         refine DRn (l1 := []) (l2 := [0, 1, 2, 3, 4, 5, 6, 7, 8, 9, 10, 11, 12, 16, 17, 18, 19, 20, 21]) (lc := [15, 22]) (by kernel_rfl) (by kernel_rfl) (by kernel_rfl) (Rn (Sy rfl rfl wn (yFb FL_28_0 (et rfl e663_4)) rfl (Sy rfl rfl wn (yFb FL_26_0 (e0 rfl)) rfl (Sy rfl rfl wn (yLb (u := h233.v) O_24 (e0 rfl) hst (mtR (mtR (mtR (mtR (mtR (mtR mhR)))))) rfl) rfl (Sy rfl rfl wn (ym (v := iV x392) (et rfl e663_16)) rfl (Sy rfl rfl wn (yFb FL_28_2 (et rfl e663_4)) rfl (Sy rfl rfl wn (yLb (u := h235.v) O_24 (e0 rfl) hst (mtR (mtR (mtR (mtR (mtR (mtR mhR)))))) rfl) rfl (Sy rfl rfl wn (ym (v := iV x392) (et rfl e663_16)) rfl (Sy rfl rfl wn (yFb FL_28_0 (et rfl e663_4)) rfl (Sy rfl rfl wn (yFb FL_26_0 (e0 rfl)) rfl (Sy rfl rfl wn (yLb (u := h233.v) O_24 (e0 rfl) hst (mtR (mtR (mtR (mtR (mtR (mtR mhR)))))) rfl) rfl (Sy rfl rfl wn (ym (v := iV x392) (et rfl e663_16)) rfl (Sy rfl rfl wn (yIa SLH_24 (e0 rfl) (e0 rfl) hst (rdO (mtR mhR)) gh688) rfl (Sy rfl rfl wn (yF1 O_22 (e0 rfl) hst (rdO (mtR mhR)) gh688 rfl) rfl (Sy rfl rfl wn (yFb FL_28_2 (et rfl e663_4)) rfl (Sy rfl rfl wn (yLb (u := h235.v) O_24 (e0 rfl) hst (mtR (mtR (mtR (mtR (mtR (mtR mhR)))))) rfl) rfl (Sy rfl rfl wn (ym (v := iV x392) (et rfl e663_16)) rfl (Sy rfl rfl wn (yIa SLH_24 (e0 rfl) (e0 rfl) hst (rdO (mtR (mtR (mtR (mtR mhR))))) gh693) rfl (Sy rfl rfl wn (yF1 O_22 (e0 rfl) hst (rdO (mtR (mtR (mtR (mtR mhR))))) gh693 rfl) rfl (Sy rfl rfl wn (ym (v := iV x662) (et rfl e663_19)) rfl QSn))))))))))))))))))) ?_)
         refine Lc rfl ?_ (Lc rfl ?_ LAn)
         ·replace hst := hst.pk 3 [2, 0, 0] rfl
          replace hst := hst.foc gh688 gx687
          refine LH wn (rAp hst SL_22 (e0 rfl) (e0 rfl) (rdO (mtR (mtR mhR))) gx691) ?_
          intro h690 w hst
          refine DRn (l1 := []) (l2 := [0, 1, 2, 3, 4, 5, 6, 16, 17, 18, 19, 20, 21]) (lc := [22]) (by kernel_rfl) (by kernel_rfl) (by kernel_rfl) (Rn (Sy rfl rfl wn (yFb FL_28_0 (et rfl e663_4)) rfl (Sy rfl rfl wn (yFb FL_26_0 (e0 rfl)) rfl (Sy rfl rfl wn (yLb (u := h233.v) O_24 (e0 rfl) hst (mtR (mtR (mtR (mtR (mtR (mtR (mtR mhR))))))) rfl) rfl (Sy rfl rfl wn (ym (v := iV x392) (et rfl e663_16)) rfl (Sy rfl rfl wn (yFb FL_28_2 (et rfl e663_4)) rfl (Sy rfl rfl wn (yLb (u := h235.v) O_24 (e0 rfl) hst (mtR (mtR (mtR (mtR (mtR (mtR (mtR mhR))))))) rfl) rfl (Sy rfl rfl wn (ym (v := iV x392) (et rfl e663_16)) rfl (Sy rfl rfl wn (yFb FL_28_2 (et rfl e663_4)) rfl (Sy rfl rfl wn (yLb (u := h235.v) O_24 (e0 rfl) hst (mtR (mtR (mtR (mtR (mtR (mtR (mtR mhR))))))) rfl) rfl (Sy rfl rfl wn (ym (v := iV x392) (et rfl e663_16)) rfl (Sy rfl rfl wn (yIa SLH_24 (e0 rfl) (e0 rfl) hst (rdO (mtR (mtR (mtR (mtR (mtR mhR)))))) gh693) rfl (Sy rfl rfl wn (yF1 O_22 (e0 rfl) hst (rdO (mtR (mtR (mtR (mtR (mtR mhR)))))) gh693 rfl) rfl (Sy rfl rfl wn (ym (v := iV x662) (et rfl e663_19)) rfl QSn))))))))))))) ?_)
          refine Lc rfl ?_ LAn
          refine LH wn (rLt (n := 1) (l := [x662]) hst SL_22 [iV x662] (bp1 (e0 rfl)) rfl rfl (mks1 (cs := [iV x662]) rfl mkI mks0)) ?_
          intro h694 w hst
          refine DRn (l1 := []) (l2 := [0, 1, 2, 3, 4, 5, 6, 16, 17, 18, 19, 20]) (lc := [23]) (by kernel_rfl) (by kernel_rfl) (by kernel_rfl) (Rn (Sy rfl rfl wn (yFb FL_28_0 (et rfl e663_4)) rfl (Sy rfl rfl wn (yFb FL_26_0 (e0 rfl)) rfl (Sy rfl rfl wn (yLb (u := h233.v) O_24 (e0 rfl) hst (mtR (mtR (mtR (mtR (mtR (mtR (mtR (mtR mhR)))))))) rfl) rfl (Sy rfl rfl wn (ym (v := iV x392) (et rfl e663_16)) rfl (Sy rfl rfl wn (yFb FL_28_2 (et rfl e663_4)) rfl (Sy rfl rfl wn (yLb (u := h235.v) O_24 (e0 rfl) hst (mtR (mtR (mtR (mtR (mtR (mtR (mtR (mtR mhR)))))))) rfl) rfl (Sy rfl rfl wn (ym (v := iV x392) (et rfl e663_16)) rfl (Sy rfl rfl wn (yFb FL_28_2 (et rfl e663_4)) rfl (Sy rfl rfl wn (yLb (u := h235.v) O_24 (e0 rfl) hst (mtR (mtR (mtR (mtR (mtR (mtR (mtR (mtR mhR)))))))) rfl) rfl (Sy rfl rfl wn (ym (v := iV x392) (et rfl e663_16)) rfl (Sy rfl rfl wn (yIa SLH_24 (e0 rfl) (e0 rfl) hst (rdO (mtR (mtR (mtR (mtR (mtR (mtR mhR))))))) gh693) rfl (Sy rfl rfl wn (yF1 O_22 (e0 rfl) hst (rdO (mtR (mtR (mtR (mtR (mtR (mtR mhR))))))) gh693 rfl) rfl QSn)))))))))))) ?_)
          refine Lc rfl ?_ LAn
          replace hst := hst.pk 8 [7, 0, 0, 0, 0, 0, 0, 0] rfl
          replace hst := hst.foc gh693 gx692
          refine LH wn (rAp hst SL_22 (e0 rfl) (e0 rfl) (rdO (mtR (mtR mhR))) gx696) ?_
          intro h695 w hst
          refine DRn (l1 := [24]) (l2 := [0, 1, 2, 3, 4, 5, 6]) (lc := [25]) (by kernel_rfl) (by kernel_rfl) (by kernel_rfl) ?_
          obtain ⟨y698, gy698⟩ := setI_len (u := h690) gx697 (hst.famLx (mtR (mtR (mtR (mtR mhR)))))
          refine Ry rfl rfl wn (yIs SLH_24 (e0 rfl) (e0 rfl) hst (rdO (mtR (mtR (mtR (mtR (mtR (mtR mhR))))))) gy698) (Rn (Sy rfl rfl wn (yFb FL_28_0 (et rfl e663_4)) rfl (Sy rfl rfl wn (yFb FL_26_0 (e0 rfl)) rfl (Sy rfl rfl wn (yLb (u := h233.v) O_24 (e0 rfl) hst (mtR (mtR (mtR (mtR (mtR (mtR (mtR (mtR (mtR mhR))))))))) rfl) rfl (Sy rfl rfl wn (ym (v := iV x392) (et rfl e663_16)) rfl (Sy rfl rfl wn (yFb FL_28_2 (et rfl e663_4)) rfl (Sy rfl rfl wn (yLb (u := h235.v) O_24 (e0 rfl) hst (mtR (mtR (mtR (mtR (mtR (mtR (mtR (mtR (mtR mhR))))))))) rfl) rfl (Sy rfl rfl wn (ym (v := iV x392) (et rfl e663_16)) rfl QSn))))))) ?_)
          refine Lc rfl ?_ LAn
          replace hst := hst.pk 7 [6, 0, 0, 0, 0, 0, 0] rfl
          refine LT wn (r_sti (cs := [h690.v]) hst O_22 rfl (e0 rfl) (e0 rfl) rfl (mkF rfl) gy698) ?_
          intro w hst
          replace hst := hst.pk 6 [4, 4, 0, 0, 0, 0] rfl
          replace hst := hst.unfS gh688 gy698 gx697
          refine DRn (l1 := [26]) (l2 := [4, 5, 6]) (lc := [27]) (by kernel_rfl) (by kernel_rfl) (by kernel_rfl) ?_
          obtain ⟨y700, gy700⟩ := setI_len (u := h695) gx699 (hst.famLx (mtR (mtR (mtR mhR))))
          refine Ry rfl rfl wn (yIs SLH_24 (e0 rfl) (e0 rfl) hst (rdO (mtR (mtR (mtR (mtR (mtR (mtR (mtR mhR)))))))) gy700) (Rn (Sy rfl rfl wn (yFb FL_28_2 (et rfl e663_4)) rfl (Sy rfl rfl wn (yLb (u := h235.v) O_24 (e0 rfl) hst (mtR (mtR (mtR (mtR (mtR (mtR (mtR (mtR mhR)))))))) rfl) rfl (Sy rfl rfl wn (ym (v := iV x392) (et rfl e663_16)) rfl QSn))) ?_)
          refine Lc rfl ?_ LAn
          replace hst := hst.pk 8 [7, 0, 0, 0, 0, 0, 0, 0] rfl
          refine LT wn (r_sti (cs := [h695.v]) hst O_22 rfl (e0 rfl) (e0 rfl) rfl (mkF rfl) gy700) ?_
          intro w hst
          replace hst := hst.pk 5 [3, 3, 0, 0, 0] rfl
          replace hst := hst.unfS gh693 gy700 gx699
          exact DRz (l1 := []) (l2 := []) (by kernel_rfl) (by kernel_rfl) (Rn QSn (j48 _ _ ⟨_, _, e663_4, e663_5, e663_16, e663_136, e663_137, e663_138, e663_143, e663_144, e663_145, (hst.pk 9 [3, 2, 4, 1, 0, 2, 2] rfl)⟩))
         ·refine LH wn (rLt (n := 1) (l := [x662]) hst SL_22 [iV x662] (bp1 (e0 rfl)) rfl rfl (mks1 (cs := [iV x662]) rfl mkI mks0)) ?_
          intro h694 w hst
          refine DRn (l1 := []) (l2 := [0, 1, 2, 3, 4, 5, 6, 7, 8, 9, 10, 11, 12, 16, 17, 18, 19, 20]) (lc := [15]) (by kernel_rfl) (by kernel_rfl) (by kernel_rfl) (Rn (Sy rfl rfl wn (yFb FL_28_0 (et rfl e663_4)) rfl (Sy rfl rfl wn (yFb FL_26_0 (e0 rfl)) rfl (Sy rfl rfl wn (yLb (u := h233.v) O_24 (e0 rfl) hst (mtR (mtR (mtR (mtR (mtR (mtR (mtR mhR))))))) rfl) rfl (Sy rfl rfl wn (ym (v := iV x392) (et rfl e663_16)) rfl (Sy rfl rfl wn (yFb FL_28_2 (et rfl e663_4)) rfl (Sy rfl rfl wn (yLb (u := h235.v) O_24 (e0 rfl) hst (mtR (mtR (mtR (mtR (mtR (mtR (mtR mhR))))))) rfl) rfl (Sy rfl rfl wn (ym (v := iV x392) (et rfl e663_16)) rfl (Sy rfl rfl wn (yFb FL_28_0 (et rfl e663_4)) rfl (Sy rfl rfl wn (yFb FL_26_0 (e0 rfl)) rfl (Sy rfl rfl wn (yLb (u := h233.v) O_24 (e0 rfl) hst (mtR (mtR (mtR (mtR (mtR (mtR (mtR mhR))))))) rfl) rfl (Sy rfl rfl wn (ym (v := iV x392) (et rfl e663_16)) rfl (Sy rfl rfl wn (yIa SLH_24 (e0 rfl) (e0 rfl) hst (rdO (mtR (mtR mhR))) gh688) rfl (Sy rfl rfl wn (yF1 O_22 (e0 rfl) hst (rdO (mtR (mtR mhR))) gh688 rfl) rfl (Sy rfl rfl wn (yFb FL_28_2 (et rfl e663_4)) rfl (Sy rfl rfl wn (yLb (u := h235.v) O_24 (e0 rfl) hst (mtR (mtR (mtR (mtR (mtR (mtR (mtR mhR))))))) rfl) rfl (Sy rfl rfl wn (ym (v := iV x392) (et rfl e663_16)) rfl (Sy rfl rfl wn (yIa SLH_24 (e0 rfl) (e0 rfl) hst (rdO (mtR (mtR (mtR (mtR (mtR mhR)))))) gh693) rfl (Sy rfl rfl wn (yF1 O_22 (e0 rfl) hst (rdO (mtR (mtR (mtR (mtR (mtR mhR)))))) gh693 rfl) rfl QSn)))))))))))))))))) ?_)
          refine Lc rfl ?_ LAn
          replace hst := hst.pk 4 [3, 0, 0, 0] rfl
          replace hst := hst.foc gh688 gx687
          refine LH wn (rAp hst SL_22 (e0 rfl) (e0 rfl) (rdO (mtR (mtR (mtR mhR)))) gx691) ?_
          intro h690 w hst
          refine DRn (l1 := []) (l2 := [0, 1, 2, 3, 4, 5, 6, 16, 17, 18, 19, 20]) (lc := [23]) (by kernel_rfl) (by kernel_rfl) (by kernel_rfl) (Rn (Sy rfl rfl wn (yFb FL_28_0 (et rfl e663_4)) rfl (Sy rfl rfl wn (yFb FL_26_0 (e0 rfl)) rfl (Sy rfl rfl wn (yLb (u := h233.v) O_24 (e0 rfl) hst (mtR (mtR (mtR (mtR (mtR (mtR (mtR (mtR mhR)))))))) rfl) rfl (Sy rfl rfl wn (ym (v := iV x392) (et rfl e663_16)) rfl (Sy rfl rfl wn (yFb FL_28_2 (et rfl e663_4)) rfl (Sy rfl rfl wn (yLb (u := h235.v) O_24 (e0 rfl) hst (mtR (mtR (mtR (mtR (mtR (mtR (mtR (mtR mhR)))))))) rfl) rfl (Sy rfl rfl wn (ym (v := iV x392) (et rfl e663_16)) rfl (Sy rfl rfl wn (yFb FL_28_2 (et rfl e663_4)) rfl (Sy rfl rfl wn (yLb (u := h235.v) O_24 (e0 rfl) hst (mtR (mtR (mtR (mtR (mtR (mtR (mtR (mtR mhR)))))))) rfl) rfl (Sy rfl rfl wn (ym (v := iV x392) (et rfl e663_16)) rfl (Sy rfl rfl wn (yIa SLH_24 (e0 rfl) (e0 rfl) hst (rdO (mtR (mtR (mtR (mtR (mtR (mtR mhR))))))) gh693) rfl (Sy rfl rfl wn (yF1 O_22 (e0 rfl) hst (rdO (mtR (mtR (mtR (mtR (mtR (mtR mhR))))))) gh693 rfl) rfl QSn)))))))))))) ?_)
          refine Lc rfl ?_ LAn
          replace hst := hst.pk 8 [7, 0, 0, 0, 0, 0, 0, 0] rfl
          replace hst := hst.foc gh693 gx692
          refine LH wn (rAp hst SL_22 (e0 rfl) (e0 rfl) (rdO (mtR (mtR (mtR (mtR mhR))))) gx696) ?_
          intro h695 w hst
          refine DRn (l1 := [24]) (l2 := [0, 1, 2, 3, 4, 5, 6]) (lc := [25]) (by kernel_rfl) (by kernel_rfl) (by kernel_rfl) ?_
          obtain ⟨y698, gy698⟩ := setI_len (u := h690) gx697 (hst.famLx (mtR (mtR (mtR mhR))))
          refine Ry rfl rfl wn (yIs SLH_24 (e0 rfl) (e0 rfl) hst (rdO (mtR (mtR (mtR (mtR (mtR (mtR mhR))))))) gy698) (Rn (Sy rfl rfl wn (yFb FL_28_0 (et rfl e663_4)) rfl (Sy rfl rfl wn (yFb FL_26_0 (e0 rfl)) rfl (Sy rfl rfl wn (yLb (u := h233.v) O_24 (e0 rfl) hst (mtR (mtR (mtR (mtR (mtR (mtR (mtR (mtR (mtR mhR))))))))) rfl) rfl (Sy rfl rfl wn (ym (v := iV x392) (et rfl e663_16)) rfl (Sy rfl rfl wn (yFb FL_28_2 (et rfl e663_4)) rfl (Sy rfl rfl wn (yLb (u := h235.v) O_24 (e0 rfl) hst (mtR (mtR (mtR (mtR (mtR (mtR (mtR (mtR (mtR mhR))))))))) rfl) rfl (Sy rfl rfl wn (ym (v := iV x392) (et rfl e663_16)) rfl QSn))))))) ?_)
          refine Lc rfl ?_ LAn
          replace hst := hst.pk 7 [6, 0, 0, 0, 0, 0, 0] rfl
          refine LT wn (r_sti (cs := [h690.v]) hst O_22 rfl (e0 rfl) (e0 rfl) rfl (mkF rfl) gy698) ?_
          intro w hst
          replace hst := hst.pk 5 [3, 3, 0, 0, 0] rfl
          replace hst := hst.unfS gh688 gy698 gx697
          refine DRn (l1 := [26]) (l2 := [4, 5, 6]) (lc := [27]) (by kernel_rfl) (by kernel_rfl) (by kernel_rfl) ?_
          obtain ⟨y700, gy700⟩ := setI_len (u := h695) gx699 (hst.famLx (mtR (mtR (mtR mhR))))
          refine Ry rfl rfl wn (yIs SLH_24 (e0 rfl) (e0 rfl) hst (rdO (mtR (mtR (mtR (mtR (mtR (mtR (mtR mhR)))))))) gy700) (Rn (Sy rfl rfl wn (yFb FL_28_2 (et rfl e663_4)) rfl (Sy rfl rfl wn (yLb (u := h235.v) O_24 (e0 rfl) hst (mtR (mtR (mtR (mtR (mtR (mtR (mtR (mtR mhR)))))))) rfl) rfl (Sy rfl rfl wn (ym (v := iV x392) (et rfl e663_16)) rfl QSn))) ?_)
          refine Lc rfl ?_ LAn
          replace hst := hst.pk 8 [7, 0, 0, 0, 0, 0, 0, 0] rfl
          refine LT wn (r_sti (cs := [h695.v]) hst O_22 rfl (e0 rfl) (e0 rfl) rfl (mkF rfl) gy700) ?_
          intro w hst
          replace hst := hst.pk 5 [3, 3, 0, 0, 0] rfl
          replace hst := hst.unfS gh693 gy700 gx699
          exact DRz (l1 := []) (l2 := []) (by kernel_rfl) (by kernel_rfl) (Rn QSn (j48 _ _ ⟨_, _, e663_4, e663_5, e663_16, e663_136, e663_137, e663_138, e663_143, e663_144, e663_145, (hst.pk 9 [3, 2, 4, 1, 0, 2, 2] rfl)⟩))
        ·refine LH wn (rLt (n := 1) (l := [x662]) hst SL_22 [iV x662] (bp1 (e0 rfl)) rfl rfl (mks1 (cs := [iV x662]) rfl mkI mks0)) ?_
         intro h694 w hst
         refine DRn (l1 := []) (l2 := [0, 1, 2, 3, 4, 5, 6, 7, 8, 9, 10, 11, 12, 13, 16, 17, 18, 19, 20]) (lc := [14]) (by kernel_rfl) (by kernel_rfl) (by kernel_rfl) (Rn (Sy rfl rfl wn (yFb FL_28_0 (et rfl e663_4)) rfl (Sy rfl rfl wn (yFb FL_26_0 (e0 rfl)) rfl (Sy rfl rfl wn (yLb (u := h233.v) O_24 (e0 rfl) hst (mtR (mtR (mtR (mtR (mtR (mtR mhR)))))) rfl) rfl (Sy rfl rfl wn (ym (v := iV x392) (et rfl e663_16)) rfl (Sy rfl rfl wn (yFb FL_28_2 (et rfl e663_4)) rfl (Sy rfl rfl wn (yLb (u := h235.v) O_24 (e0 rfl) hst (mtR (mtR (mtR (mtR (mtR (mtR mhR)))))) rfl) rfl (Sy rfl rfl wn (ym (v := iV x392) (et rfl e663_16)) rfl (Sy rfl rfl wn (yFb FL_28_0 (et rfl e663_4)) rfl (Sy rfl rfl wn (yFb FL_26_0 (e0 rfl)) rfl (Sy rfl rfl wn (yLb (u := h233.v) O_24 (e0 rfl) hst (mtR (mtR (mtR (mtR (mtR (mtR mhR)))))) rfl) rfl (Sy rfl rfl wn (ym (v := iV x392) (et rfl e663_16)) rfl (Sy rfl rfl wn (yIa SLH_24 (e0 rfl) (e0 rfl) hst (rdO (mtR mhR)) gh688) rfl (Sy rfl rfl wn (yF1 O_22 (e0 rfl) hst (rdO (mtR mhR)) gh688 rfl) rfl (Sy rfl rfl wn (ym (v := iV x604) (et rfl e663_18)) rfl (Sy rfl rfl wn (yFb FL_28_2 (et rfl e663_4)) rfl (Sy rfl rfl wn (yLb (u := h235.v) O_24 (e0 rfl) hst (mtR (mtR (mtR (mtR (mtR (mtR mhR)))))) rfl) rfl (Sy rfl rfl wn (ym (v := iV x392) (et rfl e663_16)) rfl (Sy rfl rfl wn (yIa SLH_24 (e0 rfl) (e0 rfl) hst (rdO (mtR (mtR (mtR (mtR mhR))))) gh693) rfl (Sy rfl rfl wn (yF1 O_22 (e0 rfl) hst (rdO (mtR (mtR (mtR (mtR mhR))))) gh693 rfl) rfl QSn))))))))))))))))))) ?_)
         refine Lc rfl ?_ LAn
         refine LH wn (rLt (n := 1) (l := [x604]) hst SL_22 [iV x604] (bp1 (e0 rfl)) rfl rfl (mks1 (cs := [iV x604]) rfl mkI mks0)) ?_
         intro h689 w hst
         refine DRn (l1 := []) (l2 := [0, 1, 2, 3, 4, 5, 6, 7, 8, 9, 10, 11, 12, 16, 17, 18, 19, 20]) (lc := [15]) (by kernel_rfl) (by kernel_rfl) (by kernel_rfl) (Rn (Sy rfl rfl wn (yFb FL_28_0 (et rfl e663_4)) rfl (Sy rfl rfl wn (yFb FL_26_0 (e0 rfl)) rfl (Sy rfl rfl wn (yLb (u := h233.v) O_24 (e0 rfl) hst (mtR (mtR (mtR (mtR (mtR (mtR (mtR mhR))))))) rfl) rfl (Sy rfl rfl wn (ym (v := iV x392) (et rfl e663_16)) rfl (Sy rfl rfl wn (yFb FL_28_2 (et rfl e663_4)) rfl (Sy rfl rfl wn (yLb (u := h235.v) O_24 (e0 rfl) hst (mtR (mtR (mtR (mtR (mtR (mtR (mtR mhR))))))) rfl) rfl (Sy rfl rfl wn (ym (v := iV x392) (et rfl e663_16)) rfl (Sy rfl rfl wn (yFb FL_28_0 (et rfl e663_4)) rfl (Sy rfl rfl wn (yFb FL_26_0 (e0 rfl)) rfl (Sy rfl rfl wn (yLb (u := h233.v) O_24 (e0 rfl) hst (mtR (mtR (mtR (mtR (mtR (mtR (mtR mhR))))))) rfl) rfl (Sy rfl rfl wn (ym (v := iV x392) (et rfl e663_16)) rfl (Sy rfl rfl wn (yIa SLH_24 (e0 rfl) (e0 rfl) hst (rdO (mtR (mtR mhR))) gh688) rfl (Sy rfl rfl wn (yF1 O_22 (e0 rfl) hst (rdO (mtR (mtR mhR))) gh688 rfl) rfl (Sy rfl rfl wn (yFb FL_28_2 (et rfl e663_4)) rfl (Sy rfl rfl wn (yLb (u := h235.v) O_24 (e0 rfl) hst (mtR (mtR (mtR (mtR (mtR (mtR (mtR mhR))))))) rfl) rfl (Sy rfl rfl wn (ym (v := iV x392) (et rfl e663_16)) rfl (Sy rfl rfl wn (yIa SLH_24 (e0 rfl) (e0 rfl) hst (rdO (mtR (mtR (mtR (mtR (mtR mhR)))))) gh693) rfl (Sy rfl rfl wn (yF1 O_22 (e0 rfl) hst (rdO (mtR (mtR (mtR (mtR (mtR mhR)))))) gh693 rfl) rfl QSn)))))))))))))))))) ?_)
         refine Lc rfl ?_ LAn
         replace hst := hst.pk 4 [3, 0, 0, 0] rfl
         replace hst := hst.foc gh688 gx687
         refine LH wn (rAp hst SL_22 (e0 rfl) (e0 rfl) (rdO (mtR (mtR mhR))) gx691) ?_
         intro h690 w hst
         refine DRn (l1 := []) (l2 := [0, 1, 2, 3, 4, 5, 6, 16, 17, 18, 19, 20]) (lc := [23]) (by kernel_rfl) (by kernel_rfl) (by kernel_rfl) (Rn (Sy rfl rfl wn (yFb FL_28_0 (et rfl e663_4)) rfl (Sy rfl rfl wn (yFb FL_26_0 (e0 rfl)) rfl (Sy rfl rfl wn (yLb (u := h233.v) O_24 (e0 rfl) hst (mtR (mtR (mtR (mtR (mtR (mtR (mtR (mtR mhR)))))))) rfl) rfl (Sy rfl rfl wn (ym (v := iV x392) (et rfl e663_16)) rfl (Sy rfl rfl wn (yFb FL_28_2 (et rfl e663_4)) rfl (Sy rfl rfl wn (yLb (u := h235.v) O_24 (e0 rfl) hst (mtR (mtR (mtR (mtR (mtR (mtR (mtR (mtR mhR)))))))) rfl) rfl (Sy rfl rfl wn (ym (v := iV x392) (et rfl e663_16)) rfl (Sy rfl rfl wn (yFb FL_28_2 (et rfl e663_4)) rfl (Sy rfl rfl wn (yLb (u := h235.v) O_24 (e0 rfl) hst (mtR (mtR (mtR (mtR (mtR (mtR (mtR (mtR mhR)))))))) rfl) rfl (Sy rfl rfl wn (ym (v := iV x392) (et rfl e663_16)) rfl (Sy rfl rfl wn (yIa SLH_24 (e0 rfl) (e0 rfl) hst (rdO (mtR (mtR (mtR (mtR (mtR (mtR mhR))))))) gh693) rfl (Sy rfl rfl wn (yF1 O_22 (e0 rfl) hst (rdO (mtR (mtR (mtR (mtR (mtR (mtR mhR))))))) gh693 rfl) rfl QSn)))))))))))) ?_)
         refine Lc rfl ?_ LAn
         replace hst := hst.pk 8 [7, 0, 0, 0, 0, 0, 0, 0] rfl
         replace hst := hst.foc gh693 gx692
         refine LH wn (rAp hst SL_22 (e0 rfl) (e0 rfl) (rdO (mtR (mtR (mtR (mtR (mtR mhR)))))) gx696) ?_
         intro h695 w hst
         refine DRn (l1 := [24]) (l2 := [0, 1, 2, 3, 4, 5, 6]) (lc := [25]) (by kernel_rfl) (by kernel_rfl) (by kernel_rfl) ?_
         obtain ⟨y698, gy698⟩ := setI_len (u := h690) gx697 (hst.famLx (mtR (mtR (mtR mhR))))
         refine Ry rfl rfl wn (yIs SLH_24 (e0 rfl) (e0 rfl) hst (rdO (mtR (mtR (mtR (mtR (mtR (mtR mhR))))))) gy698) (Rn (Sy rfl rfl wn (yFb FL_28_0 (et rfl e663_4)) rfl (Sy rfl rfl wn (yFb FL_26_0 (e0 rfl)) rfl (Sy rfl rfl wn (yLb (u := h233.v) O_24 (e0 rfl) hst (mtR (mtR (mtR (mtR (mtR (mtR (mtR (mtR (mtR mhR))))))))) rfl) rfl (Sy rfl rfl wn (ym (v := iV x392) (et rfl e663_16)) rfl (Sy rfl rfl wn (yFb FL_28_2 (et rfl e663_4)) rfl (Sy rfl rfl wn (yLb (u := h235.v) O_24 (e0 rfl) hst (mtR (mtR (mtR (mtR (mtR (mtR (mtR (mtR (mtR mhR))))))))) rfl) rfl (Sy rfl rfl wn (ym (v := iV x392) (et rfl e663_16)) rfl QSn))))))) ?_)
         refine Lc rfl ?_ LAn
         replace hst := hst.pk 7 [6, 0, 0, 0, 0, 0, 0] rfl
         refine LT wn (r_sti (cs := [h690.v]) hst O_22 rfl (e0 rfl) (e0 rfl) rfl (mkF rfl) gy698) ?_
         intro w hst
         replace hst := hst.pk 5 [3, 3, 0, 0, 0] rfl
         replace hst := hst.unfS gh688 gy698 gx697
         refine DRn (l1 := [26]) (l2 := [4, 5, 6]) (lc := [27]) (by kernel_rfl) (by kernel_rfl) (by kernel_rfl) ?_
         obtain ⟨y700, gy700⟩ := setI_len (u := h695) gx699 (hst.famLx (mtR (mtR (mtR mhR))))
         refine Ry rfl rfl wn (yIs SLH_24 (e0 rfl) (e0 rfl) hst (rdO (mtR (mtR (mtR (mtR (mtR (mtR (mtR mhR)))))))) gy700) (Rn (Sy rfl rfl wn (yFb FL_28_2 (et rfl e663_4)) rfl (Sy rfl rfl wn (yLb (u := h235.v) O_24 (e0 rfl) hst (mtR (mtR (mtR (mtR (mtR (mtR (mtR (mtR mhR)))))))) rfl) rfl (Sy rfl rfl wn (ym (v := iV x392) (et rfl e663_16)) rfl QSn))) ?_)
         refine Lc rfl ?_ LAn
         replace hst := hst.pk 8 [7, 0, 0, 0, 0, 0, 0, 0] rfl
         refine LT wn (r_sti (cs := [h695.v]) hst O_22 rfl (e0 rfl) (e0 rfl) rfl (mkF rfl) gy700) ?_
         intro w hst
         replace hst := hst.pk 5 [3, 3, 0, 0, 0] rfl
         replace hst := hst.unfS gh693 gy700 gx699
         exact DRz (l1 := []) (l2 := []) (by kernel_rfl) (by kernel_rfl) (Rn QSn (j48 _ _ ⟨_, _, e663_4, e663_5, e663_16, e663_136, e663_137, e663_138, e663_143, e663_144, e663_145, (hst.pk 9 [3, 2, 4, 1, 0, 2, 2] rfl)⟩))
       rintro f w ⟨y701, y702, e703_4, e703_5, e703_16, e703_136, e703_137, e703_138, e703_143, e703_144, e703_145, hst⟩
       exact j47 _ _ _ _ _ _ e703_4 e703_5 e703_16 e703_136 e703_137 e703_138 e703_143 e703_144 e703_145 hst hM44
      ·exact condF (et rfl e663_156) (bfalse c686) (wp_skip (j47 _ _ _ _ _ _ e663_4 e663_5 e663_16 e663_136 e663_137 e663_138 e663_143 e663_144 e663_145 hst hM44))
     ·refine condF (e0 rfl) (dF c661) (wp_exit (z203 _ _ _ rfl ?_))
      obtain rfl := someI hM44
      exact zz44 _ _ _ _ rfl rfl (je44_0 _ _ _ _ _ _ e44_4 e44_5 e44_16 e44_136 e44_137 e44_138 (hst.facts (allC mhF (allT (allT allI)))) (ho44 _ rfl))
    ·refine condF (e0 rfl) (dF c554) (wp_exit (z181 _ _ _ rfl ?_))
     obtain rfl := someI hM35
     exact zz35 _ _ _ _ rfl rfl (je35_0 _ _ _ _ _ _ e35_4 e35_5 (hst.facts (allT allI)) (ho35 _ rfl))
   refine loopQ (fun s a w => ∃ (x178 : List (List Int)) (x179 : Int) (f : Nat → Value), (x178, x179) = s ∧ a = fr 200 f ∧ f 2 = (pB b9) ∧ f 4 = (pB b10) ∧ f 5 = h11.v ∧ f 9 = iV (x109.length : Int) ∧ f 10 = h111.v ∧ f 90 = h2.v ∧ f 91 = iV (x1.length : Int) ∧ f 92 = iV x179 ∧ St w0 (ros) (box b9 28 [h2.v, h4.v, h6.v] :: row 3 (rI .i64) h108.v x109 :: box b10 28 [hnil.v, h108.v, hnil.v] :: row 3 (rI .i64) h11.v x110 :: row 22 rH h111.v y132 :: fam 3 (rI .i64) y132 x178 :: rs) w) go7 ⟨_, _, _, rfl, rfl, eje4_0_2, eje4_0_4, eje4_0_5, eje4_0_9, eje4_0_10, rfl, rfl, rfl, hst⟩ ?_
   rintro _ _ w r7_ ⟨x178, x179, f, rfl, rfl, e7_2, e7_4, e7_5, e7_9, e7_10, e7_90, e7_91, e7_92, hst⟩ hM7 ho7 Q100007 n7 zz7
   refine seqQ fun Q208 k208 z208 => wR (Y wn rfl (ylss (et rfl e7_92) (et rfl e7_91)) (wN (k208 _ _ (seqQ fun Q209 k209 z209 => ?_))))
   rcases iteS hM7 with ⟨c704, hM7⟩ | ⟨c704, hM7⟩
   ·refine condT (e0 rfl) (dT c704) (wp_skip (k209 _ _ (seqQ fun Q210 k210 z210 => blockQ fun Q211 qb211 => seqQ fun Q212 k212 z212 => wR (Y wn rfl (ym (v := iV x179) (et rfl e7_92)) ?_))))
    obtain ⟨x705, gx705, hM7⟩ := bs hM7
    refine Y wn rfl (yIa SL_24 (et rfl e7_90) (et rfl e7_92) hst (rdI q1) gx705) ?_
    obtain ⟨h706, hst⟩ := iLs hst q1 gx705
    refine Y wn rfl (yCt O_22 (e0 rfl) hst (mtF mhF) rfl) (Y wn rfl (ya (v := iV x179) (e0 rfl)) (Y wn rfl (ya (v := h706.v) (e0 rfl)) (wN (k212 _ _ (seqQ fun Q213 k213 z213 => wR (Y wn rfl (ym (v := h706.v) (e0 rfl)) (Y wn rfl (yLen SL_22 (e0 rfl) hst (rdI mhF)) (Y wn rfl (ym (v := iV 0) rfl) (wN (k213 _ _ (blockQ fun Q214 qb214 => ?_)))))))))))
    obtain ⟨o49, go49, hM7⟩ := bs hM7
    have je49_0 : ∀ (x735 : List (List Int)) (f : Nat → Value) (w : World), f 2 = (pB b9) → f 4 = (pB b10) → f 5 = h11.v → f 9 = iV (x109.length : Int) → f 10 = h111.v → f 90 = h2.v → f 91 = iV (x1.length : Int) → f 92 = iV x179 → St w0 (ros) (box b9 28 [h2.v, h4.v, h6.v] :: row 3 (rI .i64) h108.v x109 :: box b10 28 [hnil.v, h108.v, hnil.v] :: row 3 (rI .i64) h11.v x110 :: row 22 rH h111.v y132 :: fam 3 (rI .i64) y132 x735 :: rs) w → x735 = o49 → Q214 (.exit 6) (fr 200 f) w := by
     intro x735 f w eje49_0_2 eje49_0_4 eje49_0_5 eje49_0_9 eje49_0_10 eje49_0_90 eje49_0_91 eje49_0_92 hst ho
     subst ho
     refine qb214 _ _ _ (qb211 _ _ _ (k210 _ _ (wR (Y wn rfl (yadd (et rfl eje49_0_92) rfl) (Y wn rfl (ym (v := iV (wa .i64 x179 1)) (e0 rfl)) (wN ?_))))))
     obtain rfl := someI hM7
     exact n7 _ _ _ rfl ⟨_, _, _, rfl, rfl, eje49_0_2, eje49_0_4, eje49_0_5, eje49_0_9, eje49_0_10, eje49_0_90, eje49_0_91, rfl, hst⟩
    refine loopQ (fun s a w => ∃ (x719 : List (List Int)) (x720 : Int) (f : Nat → Value), (x719, x720) = s ∧ a = fr 200 f ∧ f 2 = (pB b9) ∧ f 4 = (pB b10) ∧ f 5 = h11.v ∧ f 9 = iV (x109.length : Int) ∧ f 10 = h111.v ∧ f 12 = iV x179 ∧ f 90 = h2.v ∧ f 91 = iV (x1.length : Int) ∧ f 92 = iV x179 ∧ f 97 = h706.v ∧ f 98 = iV (x705.length : Int) ∧ f 99 = iV x720 ∧ St w0 (imm (rI .i64) h706.v x705 :: ros) (box b9 28 [h2.v, h4.v, h6.v] :: row 3 (rI .i64) h108.v x109 :: box b10 28 [hnil.v, h108.v, hnil.v] :: row 3 (rI .i64) h11.v x110 :: row 22 rH h111.v y132 :: fam 3 (rI .i64) y132 x719 :: rs) w) go49 ⟨_, _, _, rfl, rfl, e7_2, e7_4, e7_5, e7_9, e7_10, rfl, e7_90, e7_91, e7_92, rfl, rfl, rfl, (hst.facts (allC mhF (allT (allT allI))))⟩ ?_
    rintro _ _ w r49_ ⟨x719, x720, f, rfl, rfl, e49_2, e49_4, e49_5, e49_9, e49_10, e49_12, e49_90, e49_91, e49_92, e49_97, e49_98, e49_99, hst⟩ hM49 ho49 Q100049 n49 zz49
    refine seqQ fun Q225 k225 z225 => wR (Y wn rfl (ylss (et rfl e49_99) (et rfl e49_98)) (wN (k225 _ _ (seqQ fun Q226 k226 z226 => ?_))))
    rcases iteS hM49 with ⟨c736, hM49⟩ | ⟨c736, hM49⟩
    ·refine condT (e0 rfl) (dT c736) (wp_skip (k226 _ _ (seqQ fun Q227 k227 z227 => blockQ fun Q228 qb228 => seqQ fun Q229 k229 z229 => wR (Y wn rfl (ym (v := iV x720) (et rfl e49_99)) ?_))))
     obtain ⟨x737, gx737, hM49⟩ := bs hM49
     refine Y wn rfl (yIa SL_22 (et rfl e49_97) (et rfl e49_99) hst (rdI mhF) gx737) (Y wn rfl (yI O_3 (e0 rfl) hst (rdI mhF) gx737) (Y wn rfl (ya (v := iV x720) (e0 rfl)) (Y wn rfl (ya (v := iV x737) (e0 rfl)) (wN (k229 _ _ ?_)))))
     obtain ⟨x738, gx738, hM49⟩ := bs hM49
     obtain ⟨x739, gx739, hM49⟩ := bs hM49
     obtain ⟨x741, gx741, hM49⟩ := bs hM49
     obtain ⟨x742, gx742, hM49⟩ := bs hM49
     obtain ⟨x743, gx743, hM49⟩ := bs hM49
     obtain ⟨x745, gx745, hM49⟩ := bs hM49
     obtain ⟨x746, gx746, hM49⟩ := bs hM49
     obtain ⟨x747, gx747, hM49⟩ := bs hM49
     refine wp_drawR [0, 0, 0, 6, 14, 31, 63, 0, 0, 384, 896, 2047, 4095, 0, 8192, 0, 57344, 122880, 0, 516096, 1040384, 2097151, 4194303, 8388607] [23] 1 folM (by kernel_rfl) (by kernel_rfl) (by kernel_rfl) ?_
     replace hst := hst.drew
     refine DRn (l1 := [0, 1, 2, 3, 4, 5, 6, 7, 8, 9, 10, 11, 12, 13, 14, 15, 16, 17, 18, 19, 20, 21, 22]) (l2 := []) (lc := [23]) (by kernel_rfl) (by kernel_rfl) (by kernel_rfl) (Ry rfl rfl wn (ym (v := h111.v) (et rfl e49_10)) (Ry rfl rfl wn (ym (v := h11.v) (et rfl e49_5)) (Ry rfl rfl wn (ym (v := iV x179) (et rfl e49_12)) (Ry rfl rfl wn (yIa SL_22 (e0 rfl) (e0 rfl) hst (rdO (mtR (mtR (mtR mhR)))) gx738) (Ry rfl rfl wn (yI O_3 (e0 rfl) hst (rdO (mtR (mtR (mtR mhR)))) gx738) ?_)))))
     obtain ⟨h740, gh740⟩ := hst.famI (mtR (mtR (mtR (mtR (mtR mhR))))) gx739
     refine Ry rfl rfl wn (yIa SLH_24 (e0 rfl) (e0 rfl) hst (rdO (mtR (mtR (mtR (mtR mhR))))) gh740) (Ry rfl rfl wn (yF1 O_22 (e0 rfl) hst (rdO (mtR (mtR (mtR (mtR mhR))))) gh740 rfl) (Ry rfl rfl wn (ym (v := h11.v) (et rfl e49_5)) (Ry rfl rfl wn (ym (v := iV x737) (e0 rfl)) (Ry rfl rfl wn (yIa SL_22 (e0 rfl) (e0 rfl) hst (rdO (mtR (mtR (mtR mhR)))) gx741) (Ry rfl rfl wn (yI O_3 (e0 rfl) hst (rdO (mtR (mtR (mtR mhR)))) gx741) (Ry rfl rfl wn (yIa SL_22 (e0 rfl) (e0 rfl) hst (rdF (mtR (mtR (mtR (mtR (mtR mhR))))) gh740 gx739) gx742) (Ry rfl rfl wn (yI O_3 (e0 rfl) hst (rdF (mtR (mtR (mtR (mtR (mtR mhR))))) gh740 gx739) gx742) (Ry rfl rfl wn (yFb FL_28_2 (et rfl e49_2)) (Ry rfl rfl wn (yLb (u := h6.v) O_24 (e0 rfl) hst mhR rfl) (Ry rfl rfl wn (ym (v := iV x179) (et rfl e49_12)) (Ry rfl rfl wn (yIa SL_24 (e0 rfl) (e0 rfl) hst (rdI (mtF q3)) gx743) ?_)))))))))))
     obtain ⟨h744, hst⟩ := iLs hst (mtF q3) gx743
     refine Ry rfl rfl wn (yCt O_22 (e0 rfl) hst (mtF mhF) rfl) (Ry rfl rfl wn (ym (v := iV x720) (e0 rfl)) (Ry rfl rfl wn (yIa SL_22 (e0 rfl) (e0 rfl) hst (rdI mhF) gx745) (Ry rfl rfl wn (yI O_3 (e0 rfl) hst (rdI mhF) gx745) (Ry rfl rfl wn (yadd (e0 rfl) (e0 rfl)) (Ry rfl rfl wn (yIs SL_22 (e0 rfl) (e0 rfl) hst (rdF (mtR (mtR (mtR (mtR (mtR mhR))))) gh740 gx739) gx746) (Rn QSn ?_))))))
     refine Lc rfl ?_ LAn
     replace hst := hst.pk 6 [5, 0, 0, 0, 0, 0] rfl
     refine LT wn (r_sti (cs := [iV (wa .i64 x742 x745)]) (hst.foc gh740 gx739) O_3 rfl (e0 rfl) (e0 rfl) rfl mkI gx746) ?_
     intro w hst
     replace hst := hst.unfoc' gh740 gx747
     refine DRz (l1 := []) (l2 := []) (by kernel_rfl) (by kernel_rfl) (Rn QSn (qb228 _ _ _ (k227 _ _ (wR (Y wn rfl (yadd (et rfl e49_99) rfl) (Y wn rfl (ym (v := iV (wa .i64 x720 1)) (e0 rfl)) (wN ?_)))))))
     obtain rfl := someI hM49
     exact n49 _ _ _ rfl ⟨_, _, _, rfl, rfl, e49_2, e49_4, e49_5, e49_9, e49_10, e49_12, e49_90, e49_91, e49_92, e49_97, e49_98, rfl, ((hst.pk 6 [1, 1, 1, 1, 1, 0] rfl).facts (allC (mtF (mtF mhF)) (allT (allT (allT allI)))))⟩
    ·refine condF (e0 rfl) (dF c736) (wp_exit (z226 _ _ _ rfl ?_))
     obtain rfl := someI hM49
     exact zz49 _ _ _ _ rfl rfl (je49_0 _ _ _ e49_2 e49_4 e49_5 e49_9 e49_10 e49_90 e49_91 e49_92 (hst.facts (allT allI)) (ho49 _ rfl))
   ·refine condF (e0 rfl) (dF c704) (wp_exit (z209 _ _ _ rfl ?_))
    obtain rfl := someI hM7
    exact zz7 _ _ _ _ rfl rfl (je7_0 _ _ _ e7_4 e7_5 e7_9 e7_10 (hst.pk 6 [1, 1, 1, 1, 1] rfl) (ho7 _ rfl))
  refine loopQ (fun s a w => ∃ (x121 : List (List Int)) (x122 : Int) (f : Nat → Value) (y120 : List Hdr), (x121, x122) = s ∧ a = fr 200 f ∧ f 2 = (pB b9) ∧ f 4 = (pB b10) ∧ f 5 = h11.v ∧ f 9 = iV (x109.length : Int) ∧ f 10 = h111.v ∧ f 78 = iV (x113.length : Int) ∧ f 79 = iV x122 ∧ St w0 (ros) (box b9 28 [h2.v, h4.v, h6.v] :: row 3 (rI .i64) h108.v x109 :: box b10 28 [hnil.v, h108.v, hnil.v] :: row 3 (rI .i64) h11.v x110 :: row 22 rH h111.v y120 :: fam 3 (rI .i64) y120 x121 :: rs) w) go4 ⟨_, _, _, _, rfl, rfl, eje3_0_2, eje3_0_4, eje3_0_5, rfl, rfl, rfl, rfl, (hst.pk 6 [2, 2, 2, 2, 0, 0] rfl)⟩ ?_
  rintro _ _ w r4_ ⟨x121, x122, f, y120, rfl, rfl, e4_2, e4_4, e4_5, e4_9, e4_10, e4_78, e4_79, hst⟩ hM4 ho4 Q100004 n4 zz4
  refine seqQ fun Q230 k230 z230 => wR (Y wn rfl (ylss (et rfl e4_79) (et rfl e4_78)) (wN (k230 _ _ (seqQ fun Q231 k231 z231 => ?_))))
  rcases iteS hM4 with ⟨c748, hM4⟩ | ⟨c748, hM4⟩
  ·refine condT (e0 rfl) (dT c748) (wp_skip (k231 _ _ (seqQ fun Q232 k232 z232 => blockQ fun Q233 qb233 => seqQ fun Q234 k234 z234 => wR (Y wn rfl (ym (v := iV x122) (et rfl e4_79)) (Y wn rfl (ya (v := iV x122) (e0 rfl)) (wN (k234 _ _ (wR (Y wn rfl (ym (v := h111.v) (et rfl e4_10)) (Y wn rfl (ym (v := iV x122) (e0 rfl)) ?_))))))))))
   refine Y wn rfl (ym (v := iV (x109.length : Int)) (et rfl e4_9)) ?_
   obtain ⟨x751, gx751, hM4⟩ := bs hM4
   refine YH wn rfl (rMk hst SL_22 (e0 rfl) gx751) ?_
   intro h749 w hst
   obtain ⟨x752, gx752, hM4⟩ := bs hM4
   obtain ⟨y753, gy753⟩ := setI_len (u := h749) gx752 (hst.famL (mtR (mtR (mtR (mtR (mtR (mtR mhR)))))))
   refine Y wn rfl (yIs SLH_24 (e0 rfl) (e0 rfl) hst (rdO (mtR (mtR (mtR (mtR (mtR mhR)))))) gy753) ?_
   replace hst := hst.pk 6 [5, 0, 0, 0, 0, 0] rfl
   refine YT wn rfl (r_sti (cs := [h749.v]) hst O_22 rfl (e0 rfl) (e0 rfl) rfl (mkF rfl) gy753) ?_
   intro w hst
   replace hst := hst.pk 7 [1, 5, 0, 0, 0, 0, 0] rfl
   replace hst := hst.fput gy753 gx752
   refine wN (qb233 _ _ _ (k232 _ _ (wR (Y wn rfl (yadd (et rfl e4_79) rfl) (Y wn rfl (ym (v := iV (wa .i64 x122 1)) (e0 rfl)) (wN ?_))))))
   obtain rfl := someI hM4
   exact n4 _ _ _ rfl ⟨_, _, _, _, rfl, rfl, e4_2, e4_4, e4_5, e4_9, e4_10, e4_78, rfl, (hst.pk 6 [2, 2, 2, 2, 1, 0] rfl)⟩
  ·refine condF (e0 rfl) (dF c748) (wp_exit (z231 _ _ _ rfl ?_))
   obtain rfl := someI hM4
   exact zz4 _ _ _ _ rfl rfl (je4_0 _ _ _ _ e4_2 e4_4 e4_5 e4_9 e4_10 hst (ho4 _ rfl))
 replace hst := hst.rowNh 3 (rI .i64)
 refine loopQ (fun s a w => ∃ (x58 : List Int) (x59 : List Int) (x60 : Int) (f : Nat → Value) (h57 : Hdr), (x58, x59, x60) = s ∧ a = fr 200 f ∧ f 2 = (pB b9) ∧ f 4 = (pB b10) ∧ f 5 = h11.v ∧ f 23 = h8.v ∧ f 24 = iV (x7.length : Int) ∧ f 25 = iV x60 ∧ St w0 (ros) (box b9 28 [h2.v, h4.v, h6.v] :: row 3 (rI .i64) h57.v x58 :: box b10 28 [hnil.v, h57.v, hnil.v] :: row 3 (rI .i64) h11.v x59 :: rs) w) go3 ⟨_, _, _, _, _, rfl, rfl, rfl, rfl, rfl, rfl, rfl, rfl, (hst.pk 4 [3, 0, 1, 0] rfl)⟩ ?_
 rintro _ _ w r3_ ⟨x58, x59, x60, f, h57, rfl, rfl, e3_2, e3_4, e3_5, e3_23, e3_24, e3_25, hst⟩ hM3 ho3 Q100003 n3 zz3
 refine seqQ fun Q235 k235 z235 => wR (Y wn rfl (ylss (et rfl e3_25) (et rfl e3_24)) (wN (k235 _ _ (seqQ fun Q236 k236 z236 => ?_))))
 rcases iteS hM3 with ⟨c754, hM3⟩ | ⟨c754, hM3⟩
 ·refine condT (e0 rfl) (dT c754) (wp_skip (k236 _ _ (seqQ fun Q237 k237 z237 => ?_)))
  have j50 : ∀ (x782 : List Int) (x783 : List Int) (h781 : Hdr) (f : Nat → Value) (w : World), f 2 = (pB b9) → f 4 = (pB b10) → f 5 = h11.v → f 23 = h8.v → f 24 = iV (x7.length : Int) → f 25 = iV x60 → St w0 (ros) (box b9 28 [h2.v, h4.v, h6.v] :: row 3 (rI .i64) h781.v x782 :: box b10 28 [hnil.v, h781.v, hnil.v] :: row 3 (rI .i64) h11.v x783 :: rs) w → dissect_coarsen_j50 x60 x782 x783 = some r3_ → Q237 .normal (fr 200 f) w := by
   intro x782 x783 h781 f w ej50_2 ej50_4 ej50_5 ej50_23 ej50_24 ej50_25 hst hM
   refine k237 _ _ (wR (Y wn rfl (yadd (et rfl ej50_25) rfl) (Y wn rfl (ym (v := iV (wa .i64 x60 1)) (e0 rfl)) (wN ?_))))
   obtain rfl := someI hM
   exact n3 _ _ _ rfl ⟨_, _, _, _, _, rfl, rfl, ej50_2, ej50_4, ej50_5, ej50_23, ej50_24, rfl, hst⟩
  refine blockQ fun Q252 qb252 => seqQ fun Q253 k253 z253 => wR (Y wn rfl (ym (v := iV x60) (et rfl e3_25)) ?_)
  obtain ⟨x784, gx784, hM3⟩ := bs hM3
  refine Y wn rfl (yIa SL_22 (et rfl e3_23) (et rfl e3_25) hst (rdI q4) gx784) (Y wn rfl (yI O_3 (e0 rfl) hst (rdI q4) gx784) (Y wn rfl (ya (v := iV x60) (e0 rfl)) (Y wn rfl (ya (v := iV x784) (e0 rfl)) (wN (k253 _ _ (seqQ fun Q254 k254 z254 => seqQ fun Q255 k255 z255 => wR (Y wn rfl (ym (v := iV x784) (e0 rfl)) (Y wn rfl (ym (v := iV x60) (e0 rfl)) (Y wn rfl (ylss (e0 rfl) (e0 rfl)) (wN (k255 _ _ ?_)))))))))))
  rcases iteS hM3 with ⟨c785, hM3⟩ | ⟨c785, hM3⟩
  ·refine condT (e0 rfl) (dT c785) (seqQ fun Q256 k256 z256 => wR (Y wn rfl (ym (v := h11.v) (et rfl e3_5)) (Y wn rfl (ym (v := iV x60) (e0 rfl)) (Y wn rfl (ym (v := h11.v) (et rfl e3_5)) (Y wn rfl (ym (v := iV x784) (e0 rfl)) ?_)))))
   obtain ⟨x786, gx786, hM3⟩ := bs hM3
   refine Y wn rfl (yIa SL_22 (e0 rfl) (e0 rfl) hst (rdO (mtR (mtR (mtR mhR)))) gx786) (Y wn rfl (yI O_3 (e0 rfl) hst (rdO (mtR (mtR (mtR mhR)))) gx786) ?_)
   obtain ⟨x787, gx787, hM3⟩ := bs hM3
   refine Y wn rfl (yIs SL_22 (e0 rfl) (e0 rfl) hst (rdO (mtR (mtR (mtR mhR)))) gx787) ?_
   replace hst := hst.pk 4 [3, 0, 0, 0] rfl
   refine YT wn rfl (r_sti (cs := [iV x786]) hst O_3 rfl (e0 rfl) (e0 rfl) rfl mkI gx787) ?_
   intro w hst
   refine wN (k256 _ _ (seqQ fun Q257 k257 z257 => ?_))
   obtain ⟨x788, gx788, hM3⟩ := bs hM3
   obtain ⟨x789, gx789, hM3⟩ := bs hM3
   obtain ⟨x790, gx790, hM3⟩ := bs hM3
   obtain ⟨x791, gx791, hM3⟩ := bs hM3
   refine wp_drawR [0, 1, 0, 0, 12, 28, 63, 127, 0, 256, 0, 1792, 3840, 8191, 16383, 32767] [15] 1 folM (by kernel_rfl) (by kernel_rfl) (by kernel_rfl) ?_
   replace hst := hst.drew
   refine DRn (l1 := [0, 1, 2, 3, 4, 5, 6, 7, 8, 9, 10, 11, 12, 13, 14]) (l2 := []) (lc := [15]) (by kernel_rfl) (by kernel_rfl) (by kernel_rfl) (Ry rfl rfl wn (yFb FL_28_1 (et rfl e3_4)) (Ry rfl rfl wn (yLb (u := h57.v) O_22 (e0 rfl) hst (mtR (mtR (mtR mhR))) rfl) (Ry rfl rfl wn (ym (v := h11.v) (et rfl e3_5)) (Ry rfl rfl wn (ym (v := iV x60) (e0 rfl)) (Ry rfl rfl wn (yIa SL_22 (e0 rfl) (e0 rfl) hst (rdO mhR) gx788) (Ry rfl rfl wn (yI O_3 (e0 rfl) hst (rdO mhR) gx788) (Ry rfl rfl wn (yIa SL_22 (e0 rfl) (e0 rfl) hst (rdO (mtR (mtR mhR))) gx789) (Ry rfl rfl wn (yI O_3 (e0 rfl) hst (rdO (mtR (mtR mhR))) gx789) (Ry rfl rfl wn (yFb FL_28_1 (et rfl e3_2)) (Ry rfl rfl wn (yLb (u := h4.v) O_22 (e0 rfl) hst (mtR mhR) rfl) (Ry rfl rfl wn (ym (v := iV x60) (e0 rfl)) (Ry rfl rfl wn (yIa SL_22 (e0 rfl) (e0 rfl) hst (rdI q2) gx790) (Ry rfl rfl wn (yI O_3 (e0 rfl) hst (rdI q2) gx790) ?_)))))))))))))
   refine Ry rfl rfl wn (yadd (e0 rfl) (e0 rfl)) (Ry rfl rfl wn (yIs SL_22 (e0 rfl) (e0 rfl) hst (rdO (mtR (mtR mhR))) gx791) (Rn QSn ?_))
   refine Lc rfl ?_ LAn
   replace hst := hst.pk 3 [2, 0, 0] rfl
   refine LT wn (r_sti (cs := [iV (wa .i64 x789 x790)]) hst O_3 rfl (e0 rfl) (e0 rfl) rfl mkI gx791) ?_
   intro w hst
   exact DRz (l1 := []) (l2 := []) (by kernel_rfl) (by kernel_rfl) (Rn QSn (k257 _ _ (wp_exit (z254 _ _ _ rfl (qb252 _ _ _ (j50 _ _ _ _ _ e3_2 e3_4 e3_5 e3_23 e3_24 e3_25 (hst.pk 4 [2, 0, 1, 0] rfl) hM3))))))
  ·refine condF (e0 rfl) (dF c785) (wp_skip (k254 _ _ (seqQ fun Q258 k258 z258 => wR (Y wn rfl (ym (v := h11.v) (et rfl e3_5)) (Y wn rfl (ym (v := iV x60) (e0 rfl)) (Y wn rfl (yFb FL_28_1 (et rfl e3_4)) (Y wn rfl (yLb (u := h57.v) O_22 (e0 rfl) hst (mtR (mtR mhR)) rfl) (Y wn rfl (yLen SL_22 (e0 rfl) hst (rdO (mtR mhR))) ?_))))))))
   obtain ⟨x792, gx792, hM3⟩ := bs hM3
   refine Y wn rfl (yIs SL_22 (e0 rfl) (e0 rfl) hst (rdO (mtR (mtR (mtR mhR)))) gx792) ?_
   replace hst := hst.pk 4 [3, 0, 0, 0] rfl
   refine YT wn rfl (r_sti (cs := [iV (x58.length : Int)]) hst O_3 rfl (e0 rfl) (e0 rfl) rfl mkI gx792) ?_
   intro w hst
   refine wN (k258 _ _ ?_)
   obtain ⟨x793, gx793, hM3⟩ := bs hM3
   obtain ⟨x796, gx796, hM3⟩ := bs hM3
   refine wp_drawR [0, 1, 0, 4, 0, 28, 60, 124, 255, 511, 1023] [7, 8, 10] 3 folM (by kernel_rfl) (by kernel_rfl) (by kernel_rfl) ?_
   replace hst := hst.drew
   refine DRn (l1 := [0, 1, 2, 3, 4, 5, 6]) (l2 := []) (lc := [7]) (by kernel_rfl) (by kernel_rfl) (by kernel_rfl) (Ry rfl rfl wn (yFb FL_28_1 (et rfl e3_4)) (Ry rfl rfl wn (yLb (u := h57.v) O_22 (e0 rfl) hst (mtR (mtR (mtR mhR))) rfl) (Ry rfl rfl wn (yFb FL_28_1 (et rfl e3_2)) (Ry rfl rfl wn (yLb (u := h4.v) O_22 (e0 rfl) hst (mtR mhR) rfl) (Ry rfl rfl wn (ym (v := iV x60) (e0 rfl)) (Ry rfl rfl wn (yIa SL_22 (e0 rfl) (e0 rfl) hst (rdI q2) gx793) (Ry rfl rfl wn (yI O_3 (e0 rfl) hst (rdI q2) gx793) (Rn QSn ?_))))))))
   refine Lc rfl ?_ LAn
   refine LH wn (rLt (n := 1) (l := [x793]) hst SL_22 [iV x793] (bp1 (e0 rfl)) rfl rfl (mks1 (cs := [iV x793]) rfl mkI mks0)) ?_
   intro h794 w hst
   refine DRn (l1 := []) (l2 := [0, 1]) (lc := [8]) (by kernel_rfl) (by kernel_rfl) (by kernel_rfl) (Rn (Sy rfl rfl wn (yFb FL_28_1 (et rfl e3_4)) rfl (Sy rfl rfl wn (yLb (u := h57.v) O_22 (e0 rfl) hst (mtR (mtR (mtR (mtR mhR)))) rfl) rfl QSn)) ?_)
   refine Lc rfl ?_ LAn
   replace hst := hst.pk 4 [3, 0, 0, 0] rfl
   refine LH wn (rAp hst SL_22 (e0 rfl) (e0 rfl) (rdO (mtR mhR)) gx796) ?_
   intro h795 w hst
   refine DRn (l1 := [9]) (l2 := []) (lc := [10]) (by kernel_rfl) (by kernel_rfl) (by kernel_rfl) (Ry rfl rfl wn (yFb FL_28_1 (et rfl e3_4)) (Rn QSn ?_))
   refine Lc rfl ?_ LAn
   replace hst := hst.pk 5 [4, 0, 0, 0, 0] rfl
   refine LT wn (r_stb1 (vals' := [hnil.v, h795.v, hnil.v]) hst O_22 (e0 rfl) (e0 rfl) rfl rfl rfl rfl) ?_
   intro w hst
   exact DRz (l1 := []) (l2 := []) (by kernel_rfl) (by kernel_rfl) (Rn QSn (qb252 _ _ _ (j50 _ _ _ _ _ e3_2 e3_4 e3_5 e3_23 e3_24 e3_25 (hst.pk 5 [4, 1, 0, 1] rfl) hM3)))
 ·refine condF (e0 rfl) (dF c754) (wp_exit (z236 _ _ _ rfl ?_))
  obtain rfl := someI hM3
  exact zz3 _ _ _ _ rfl rfl (je3_0 _ _ _ _ _ e3_2 e3_4 e3_5 hst (ho3 _ rfl))

theorem dissect_refine_ok {x1 : List (List Int)} {x3 : List Int} {x5 : List (List Int)} {x7 : List Int} {h2 : Hdr} {h4 : Hdr} {h6 : Hdr} {h8 : Hdr} {out : (List Int)} (hM : dissect_refine x1 x3 x5 x7 = some out) (q1 : imm (rS (rI .i64)) h2.v x1 ∈ ros) (q2 : imm (rI .i64) h4.v x3 ∈ ros) (q3 : imm (rS (rI .i64)) h6.v x5 ∈ ros) (hst : St w0 ros (row 3 (rI .i64) h8.v x7 :: rs) w) :
  Calls Tryz.prog 74 #[.agg #[h2.v, h4.v, h6.v], h8.v] w (fun e w => e = .returned (.tuple #[]) ∧ St w0 (ros) (row 3 (rI .i64) h8.v out :: rs) w) := by
 refine enterQ Tryz.func74 rfl Tryz.ntmps74 rfl fun Q hQ => seqQ fun Q1 k1 z1 => wR (YB wn rfl (r_box (vals := [h2.v, h4.v, h6.v]) hst (e0 rfl) rfl) ?_)
 intro b9 w hst
 refine wN (k1 _ _ (seqQ fun Q2 k2 z2 => wR (YB wn rfl (rAl hst ZT_129) ?_)))
 intro b10 w hst
 replace hst : St w0 (ros) (row 129 (rI .i64) (arrH b10 2).v [0, 0] :: box b9 28 [h2.v, h4.v, h6.v] :: row 3 (rI .i64) h8.v x7 :: rs) w := hst.boxRow rfl rfl rfl
 refine wN (k2 _ _ (seqQ fun Q3 k3 z3 => seqQ fun Q4 k4 z4 => wR (Y wn rfl (ym (v := h8.v) (e0 rfl)) (Y wn rfl (yLen SL_22 (e0 rfl) hst (rdO (mtR (mtR mhR)))) (Y wn rfl (ym (v := iV 0) rfl) (wN (k4 _ _ (blockQ fun Q5 qb5 => ?_))))))))
 obtain ⟨o1, go1, hM⟩ := bs hM
 have je1_0 : ∀ (x25 : List Int) (f : Nat → Value) (w : World), f 1 = h8.v → f 2 = (pB b9) → f 4 = .pointer (arrH b10 2).a → St w0 (ros) (row 3 (rI .i64) h8.v x7 :: box b9 28 [h2.v, h4.v, h6.v] :: row 129 (rI .i64) (arrH b10 2).v x25 :: rs) w → x25 = o1 → Q5 (.exit 0) (fr 133 f) w := by
  intro x25 f w eje1_0_1 eje1_0_2 eje1_0_4 hst ho
  subst ho
  refine qb5 _ _ _ (k3 _ _ (seqQ fun Q16 k16 z16 => wR ?_))
  obtain ⟨x26, gx26, hM⟩ := bs hM
  refine Y wn rfl (yIaA AR_129 (et rfl eje1_0_4) rfl hst (rdO (mtR (mtR mhR))) rfl gx26) (Y wn rfl (yI O_3 (e0 rfl) hst (rdO (mtR (mtR mhR))) gx26) ?_)
  obtain ⟨x27, gx27, hM⟩ := bs hM
  refine Y wn rfl (yIaA AR_129 (et rfl eje1_0_4) rfl hst (rdO (mtR (mtR mhR))) rfl gx27) (Y wn rfl (yI O_3 (e0 rfl) hst (rdO (mtR (mtR mhR))) gx27) (Y wn rfl (yadd (e0 rfl) (e0 rfl)) (Y wn rfl (ya (v := iV (wa .i64 x26 x27)) (e0 rfl)) (wN (k16 _ _ (seqQ fun Q17 k17 z17 => wR (Y wn rfl (ym (v := iV 0) rfl) (wN (k17 _ _ (blockQ fun Q18 qb18 => ?_))))))))))
  obtain ⟨o52, go52, hM⟩ := bs hM
  have je52_0 : ∀ (x558 : List Int) (f : Nat → Value) (w : World), St w0 (ros) (row 3 (rI .i64) h8.v x558 :: rs) w → .inl x558 = o52 → Q18 (.exit 2) (fr 133 f) w := by
   intro x558 f w hst ho
   subst ho
   refine qb18 _ _ _ ?_
   obtain rfl := someI hM
   exact hQ _ _ _ (fin0n Tryz.results74 ⟨rfl, hst⟩)
  have je52_1 : ∀ (x559 : List Int) (f : Nat → Value) (w : World), St w0 (ros) (row 3 (rI .i64) h8.v x559 :: rs) w → .inr x559 = o52 → Q18 .ret (fr 133 f) w := by
   intro x559 f w hst ho
   subst ho
   refine qb18 _ _ _ ?_
   obtain rfl := someI hM
   exact hQ _ _ _ (fin0r Tryz.results74 ⟨rfl, hst⟩)
  refine loopQ (fun s a w => ∃ (x290 : List Int) (x291 : List Int) (x292 : Int) (f : Nat → Value), (x290, x291, x292) = s ∧ a = fr 133 f ∧ f 1 = h8.v ∧ f 2 = (pB b9) ∧ f 4 = .pointer (arrH b10 2).a ∧ f 7 = iV (wa .i64 x26 x27) ∧ f 37 = iV x292 ∧ St w0 (ros) (row 3 (rI .i64) h8.v x290 :: box b9 28 [h2.v, h4.v, h6.v] :: row 129 (rI .i64) (arrH b10 2).v x291 :: rs) w) go52 ⟨_, _, _, _, rfl, rfl, eje1_0_1, eje1_0_2, eje1_0_4, rfl, rfl, hst⟩ ?_
  rintro _ _ w r52_ ⟨x290, x291, x292, f, rfl, rfl, e52_1, e52_2, e52_4, e52_7, e52_37, hst⟩ hM52 ho52 Q100052 n52 zz52
  refine seqQ fun Q229 k229 z229 => wR (Y wn rfl (ylss (et rfl e52_37) rfl) (wN (k229 _ _ (seqQ fun Q230 k230 z230 => ?_))))
  rcases iteS hM52 with ⟨c560, hM52⟩ | ⟨c560, hM52⟩
  ·refine condT (e0 rfl) (dT c560) (wp_skip (k230 _ _ (seqQ fun Q231 k231 z231 => blockQ fun Q232 qb232 => seqQ fun Q233 k233 z233 => wR (Y wn rfl (ya (v := .bool false) rfl) (wN (k233 _ _ (seqQ fun Q234 k234 z234 => seqQ fun Q235 k235 z235 => wR (Y wn rfl (ym (v := h8.v) (et rfl e52_1)) ?_))))))))
   refine Y wn rfl (yLen SL_22 (e0 rfl) hst (rdO mhR)) (Y wn rfl (ym (v := iV 0) rfl) (wN (k235 _ _ (blockQ fun Q236 qb236 => ?_))))
   obtain ⟨o69, go69, hM52⟩ := bs hM52
   have je69_0 : ∀ (x735 : List Int) (x736 : List Int) (x737 : Bool) (f : Nat → Value) (w : World), f 1 = h8.v → f 2 = (pB b9) → f 4 = .pointer (arrH b10 2).a → f 7 = iV (wa .i64 x26 x27) → f 8 = .bool x737 → f 37 = iV x292 → St w0 (ros) (row 3 (rI .i64) h8.v x735 :: box b9 28 [h2.v, h4.v, h6.v] :: row 129 (rI .i64) (arrH b10 2).v x736 :: rs) w → (x735, x736, x737) = o69 → Q236 (.exit 4) (fr 133 f) w := by
    intro x735 x736 x737 f w eje69_0_1 eje69_0_2 eje69_0_4 eje69_0_7 eje69_0_8 eje69_0_37 hst ho
    subst ho
    refine qb236 _ _ _ (k234 _ _ (seqQ fun Q301 k301 z301 => wR (Y wn rfl (ym (v := .bool x737) (et rfl eje69_0_8)) (Y wn rfl (ynot (e0 rfl)) (wN (k301 _ _ ?_))))))
    rcases iteS hM52 with ⟨c738, hM52⟩ | ⟨c738, hM52⟩
    ·refine condF (e0 rfl) (nF c738) (wp_skip (qb232 _ _ _ (k231 _ _ (wR (Y wn rfl (yadd (et rfl eje69_0_37) rfl) (Y wn rfl (ym (v := iV (wa .i64 x292 1)) (e0 rfl)) (wN ?_)))))))
     obtain rfl := someI hM52
     exact n52 _ _ _ rfl ⟨_, _, _, _, rfl, rfl, eje69_0_1, eje69_0_2, eje69_0_4, eje69_0_7, rfl, hst⟩
    ·refine condT (e0 rfl) (nT (bfalse c738)) (wp_ret (qb232 _ _ _ (z231 _ _ _ rfl ?_)))
     obtain rfl := someI hM52
     exact zz52 _ _ _ _ rfl rfl (je52_1 _ _ _ (hst.pk 3 [0] rfl) (ho52 _ rfl))
   refine loopQ (fun s a w => ∃ (x644 : List Int) (x645 : List Int) (x646 : Bool) (x647 : Int) (f : Nat → Value), (x644, x645, x646, x647) = s ∧ a = fr 133 f ∧ f 1 = h8.v ∧ f 2 = (pB b9) ∧ f 4 = .pointer (arrH b10 2).a ∧ f 7 = iV (wa .i64 x26 x27) ∧ f 8 = .bool x646 ∧ f 37 = iV x292 ∧ f 39 = h8.v ∧ f 40 = iV (x290.length : Int) ∧ f 41 = iV x647 ∧ St w0 (ros) (row 3 (rI .i64) h8.v x644 :: box b9 28 [h2.v, h4.v, h6.v] :: row 129 (rI .i64) (arrH b10 2).v x645 :: rs) w) go69 ⟨_, _, _, _, _, rfl, rfl, e52_1, e52_2, e52_4, e52_7, rfl, e52_37, rfl, rfl, rfl, hst⟩ ?_
   rintro _ _ w r69_ ⟨x644, x645, x646, x647, f, rfl, rfl, e69_1, e69_2, e69_4, e69_7, e69_8, e69_37, e69_39, e69_40, e69_41, hst⟩ hM69 ho69 Q100069 n69 zz69
   refine seqQ fun Q302 k302 z302 => wR (Y wn rfl (ylss (et rfl e69_41) (et rfl e69_40)) (wN (k302 _ _ (seqQ fun Q303 k303 z303 => ?_))))
   rcases iteS hM69 with ⟨c739, hM69⟩ | ⟨c739, hM69⟩
   ·refine condT (e0 rfl) (dT c739) (wp_skip (k303 _ _ (seqQ fun Q304 k304 z304 => blockQ fun Q305 qb305 => seqQ fun Q306 k306 z306 => wR (Y wn rfl (ym (v := iV x647) (et rfl e69_41)) ?_))))
    obtain ⟨x740, gx740, hM69⟩ := bs hM69
    refine Y wn rfl (yIa SL_22 (et rfl e69_39) (et rfl e69_41) hst (rdO mhR) gx740) (Y wn rfl (yI O_3 (e0 rfl) hst (rdO mhR) gx740) (Y wn rfl (ya (v := iV x647) (e0 rfl)) (Y wn rfl (ya (v := iV x740) (e0 rfl)) (wN (k306 _ _ (seqQ fun Q307 k307 z307 => wR (Y wn rfl (ya (v := iV 0) rfl) (wN (k307 _ _ (seqQ fun Q308 k308 z308 => seqQ fun Q309 k309 z309 => wR ?_))))))))))
    refine Y wn rfl (yFb FL_28_0 (et rfl e69_2)) (Y wn rfl (yFb FL_26_0 (e0 rfl)) (Y wn rfl (yLb (u := h2.v) O_24 (e0 rfl) hst (mtR mhR) rfl) (Y wn rfl (ym (v := iV x647) (e0 rfl)) ?_)))
    obtain ⟨x741, gx741, hM69⟩ := bs hM69
    refine Y wn rfl (yIa SL_24 (e0 rfl) (e0 rfl) hst (rdI q1) gx741) ?_
    obtain ⟨h742, hst⟩ := iLs hst q1 gx741
    refine Y wn rfl (yCt O_22 (e0 rfl) hst (mtF mhF) rfl) (Y wn rfl (yLen SL_22 (e0 rfl) hst (rdI mhF)) (Y wn rfl (ym (v := iV 0) rfl) (wN (k309 _ _ (blockQ fun Q310 qb310 => ?_)))))
    obtain ⟨o72, go72, hM69⟩ := bs hM69
    have je72_0 : ∀ (x781 : Int) (f : Nat → Value) (w : World), f 1 = h8.v → f 2 = (pB b9) → f 4 = .pointer (arrH b10 2).a → f 7 = iV (wa .i64 x26 x27) → f 8 = .bool x646 → f 9 = iV x647 → f 10 = iV x740 → f 11 = iV x781 → f 37 = iV x292 → f 39 = h8.v → f 40 = iV (x290.length : Int) → f 41 = iV x647 → St w0 (ros) (row 3 (rI .i64) h8.v x644 :: box b9 28 [h2.v, h4.v, h6.v] :: row 129 (rI .i64) (arrH b10 2).v x645 :: rs) w → x781 = o72 → Q310 (.exit 6) (fr 133 f) w := by
     intro x781 f w eje72_0_1 eje72_0_2 eje72_0_4 eje72_0_7 eje72_0_8 eje72_0_9 eje72_0_10 eje72_0_11 eje72_0_37 eje72_0_39 eje72_0_40 eje72_0_41 hst ho
     subst ho
     refine qb310 _ _ _ (k308 _ _ (seqQ fun Q323 k323 z323 => ?_))
     obtain ⟨r782, gr782, hM69⟩ := bs hM69
     refine joinN (n := 133) (fun f w => f 1 = h8.v ∧ f 2 = (pB b9) ∧ f 4 = .pointer (arrH b10 2).a ∧ f 7 = iV (wa .i64 x26 x27) ∧ f 8 = .bool x646 ∧ f 9 = iV x647 ∧ f 10 = iV x740 ∧ f 37 = iV x292 ∧ f 39 = h8.v ∧ f 40 = iV (x290.length : Int) ∧ f 41 = iV x647 ∧ f 102 = .bool r782 ∧ St w0 (ros) (row 3 (rI .i64) h8.v x644 :: box b9 28 [h2.v, h4.v, h6.v] :: row 129 (rI .i64) (arrH b10 2).v x645 :: rs) w) (fun j73 => ?_) ?_
     ·rcases iteS gr782 with ⟨c784, gr782⟩ | ⟨c784, gr782⟩
      ·obtain ⟨x785, gx785, gr782⟩ := bs gr782
       obtain ⟨x786, gx786, gr782⟩ := bs gr782
       have hr74 := someI gr782
       refine wp_drawR [0, 1, 3, 7, 15, 31, 63, 7, 135, 7, 903, 1927, 4095, 8191, 7, 16391, 65535, 131071] [] 0 folM (by kernel_rfl) (by kernel_rfl) (by kernel_rfl) ?_
       replace hst := hst.drew
       refine DRz (l1 := [0, 1, 2, 3, 4, 5, 6, 7, 8, 9, 10, 11, 12, 13, 14, 15, 16, 17]) (l2 := []) (by kernel_rfl) (by kernel_rfl) (Ry rfl rfl wn (ym (v := iV x781) (et rfl eje72_0_11)) (Ry rfl rfl wn (ygtr (e0 rfl) rfl) (Ry rfl rfl wn (ym (v := .bool (decide ((0 : Int) < x781))) (e0 rfl)) (Ry rfl rfl (wg rfl rfl rfl (dT c784)) (ym (v := iV x740) (et rfl eje72_0_10)) (Ry rfl rfl (wg rfl rfl rfl (dT c784)) (ysub rfl (e0 rfl)) (Ry rfl rfl (wg rfl rfl rfl (dT c784)) (yIaA AR_129 (et rfl eje72_0_4) (e0 rfl) hst (rdO (mtR (mtR mhR))) rfl gx785) (Ry rfl rfl (wg rfl rfl rfl (dT c784)) (yI O_3 (e0 rfl) hst (rdO (mtR (mtR mhR))) gx785) (Ry rfl rfl (wg rfl rfl rfl (dT c784)) (yFb FL_28_1 (et rfl eje72_0_2)) (Ry rfl rfl (wg rfl rfl rfl (dT c784)) (yLb (u := h4.v) O_22 (e0 rfl) hst (mtR mhR) rfl) (Ry rfl rfl (wg rfl rfl rfl (dT c784)) (ym (v := iV x647) (et rfl eje72_0_9)) (Ry rfl rfl (wg rfl rfl rfl (dT c784)) (yIa SL_22 (e0 rfl) (e0 rfl) hst (rdI q2) gx786) (Ry rfl rfl (wg rfl rfl rfl (dT c784)) (yI O_3 (e0 rfl) hst (rdI q2) gx786) (Ry rfl rfl (wg rfl rfl rfl (dT c784)) (yadd (e0 rfl) (e0 rfl)) ?_)))))))))))))
       exact Ry rfl rfl (wg rfl rfl rfl (dT c784)) (ymul rfl (e0 rfl)) (Ry rfl rfl (wg rfl rfl rfl (dT c784)) (ym (v := iV (wa .i64 x26 x27)) (et rfl eje72_0_7)) (Ry rfl rfl (wg rfl rfl rfl (dT c784)) (ymul rfl (e0 rfl)) (Ry rfl rfl (wg rfl rfl rfl (dT c784)) (yleq (e0 rfl) (e0 rfl)) (Ry rfl rfl wn (ypt (v := .bool r782) (e0 rfl) (dT c784) (eqv hr74 (e0 rfl))) (Rn QSn (j73 _ _ ⟨eje72_0_1, eje72_0_2, eje72_0_4, eje72_0_7, eje72_0_8, eje72_0_9, eje72_0_10, eje72_0_37, eje72_0_39, eje72_0_40, eje72_0_41, rfl, hst⟩))))))
      ·have hr75 := someI gr782
       refine wp_drawR [0, 1, 3, 7, 15, 31, 63, 7, 135, 7, 903, 1927, 4095, 8191, 7, 16391, 65535, 131071] [] 0 folM (by kernel_rfl) (by kernel_rfl) (by kernel_rfl) ?_
       replace hst := hst.drew
       refine DRz (l1 := [0, 1, 2, 3, 4, 5, 6, 7, 8, 9, 10, 11, 12, 13, 14, 15, 16, 17]) (l2 := []) (by kernel_rfl) (by kernel_rfl) (Ry rfl rfl wn (ym (v := iV x781) (et rfl eje72_0_11)) (Ry rfl rfl wn (ygtr (e0 rfl) rfl) (Ry rfl rfl wn (ym (v := .bool (decide ((0 : Int) < x781))) (e0 rfl)) (Rx rfl rfl (wx rfl rfl rfl (dF c784)) (Rx rfl rfl (wx rfl rfl rfl (dF c784)) (Rx rfl rfl (wx rfl rfl rfl (dF c784)) (Rx rfl rfl (wx rfl rfl rfl (dF c784)) (Rx rfl rfl (wx rfl rfl rfl (dF c784)) (Rx rfl rfl (wx rfl rfl rfl (dF c784)) (Rx rfl rfl (wx rfl rfl rfl (dF c784)) (Rx rfl rfl (wx rfl rfl rfl (dF c784)) (Rx rfl rfl (wx rfl rfl rfl (dF c784)) (Rx rfl rfl (wx rfl rfl rfl (dF c784)) ?_)))))))))))))
       exact Rx rfl rfl (wx rfl rfl rfl (dF c784)) (Rx rfl rfl (wx rfl rfl rfl (dF c784)) (Rx rfl rfl (wx rfl rfl rfl (dF c784)) (Rx rfl rfl (wx rfl rfl rfl (dF c784)) (Ry rfl rfl wn (ypf (v := .bool r782) (e0 rfl) (dF c784) (eqv hr75 rfl)) (Rn QSn (j73 _ _ ⟨eje72_0_1, eje72_0_2, eje72_0_4, eje72_0_7, eje72_0_8, eje72_0_9, eje72_0_10, eje72_0_37, eje72_0_39, eje72_0_40, eje72_0_41, rfl, hst⟩))))))
     rintro f w ⟨e783_1, e783_2, e783_4, e783_7, e783_8, e783_9, e783_10, e783_37, e783_39, e783_40, e783_41, e783_102, hst⟩
     refine k323 _ _ ?_
     have j76 : ∀ (x794 : List Int) (x795 : List Int) (x796 : Bool) (f : Nat → Value) (w : World), f 1 = h8.v → f 2 = (pB b9) → f 4 = .pointer (arrH b10 2).a → f 7 = iV (wa .i64 x26 x27) → f 8 = .bool x796 → f 37 = iV x292 → f 39 = h8.v → f 40 = iV (x290.length : Int) → f 41 = iV x647 → St w0 (ros) (row 3 (rI .i64) h8.v x794 :: box b9 28 [h2.v, h4.v, h6.v] :: row 129 (rI .i64) (arrH b10 2).v x795 :: rs) w → dissect_refine_j76 x647 x794 x795 x796 = some r69_ → Q305 .normal (fr 133 f) w := by
      intro x794 x795 x796 f w ej76_1 ej76_2 ej76_4 ej76_7 ej76_8 ej76_37 ej76_39 ej76_40 ej76_41 hst hM
      refine qb305 _ _ _ (k304 _ _ (wR (Y wn rfl (yadd (et rfl ej76_41) rfl) (Y wn rfl (ym (v := iV (wa .i64 x647 1)) (e0 rfl)) (wN ?_)))))
      obtain rfl := someI hM
      exact n69 _ _ _ rfl ⟨_, _, _, _, _, rfl, rfl, ej76_1, ej76_2, ej76_4, ej76_7, ej76_8, ej76_37, ej76_39, ej76_40, rfl, hst⟩
     rcases iteS hM69 with ⟨c797, hM69⟩ | ⟨c797, hM69⟩
     ·refine condT (et rfl e783_102) c797 (seqQ fun Q326 k326 z326 => wR (Y wn rfl (ym (v := h8.v) (et rfl e783_1)) (Y wn rfl (ym (v := iV x647) (et rfl e783_9)) (Y wn rfl (ym (v := iV x740) (et rfl e783_10)) (Y wn rfl (ysub rfl (e0 rfl)) ?_)))))
      obtain ⟨x798, gx798, hM69⟩ := bs hM69
      refine Y wn rfl (yIs SL_22 (e0 rfl) (e0 rfl) hst (rdO mhR) gx798) (YT wn rfl (r_sti (cs := [iV (ws .i64 1 x740)]) hst O_3 rfl (e0 rfl) (e0 rfl) rfl mkI gx798) ?_)
      intro w hst
      refine Y wn rfl (ya (v := .bool true) rfl) (wN (k326 _ _ (seqQ fun Q327 k327 z327 => ?_)))
      obtain ⟨x799, gx799, hM69⟩ := bs hM69
      obtain ⟨x800, gx800, hM69⟩ := bs hM69
      obtain ⟨x801, gx801, hM69⟩ := bs hM69
      refine wp_drawR [0, 1, 3, 0, 8, 0, 56, 120, 255, 511, 1023] [10] 1 folM (by kernel_rfl) (by kernel_rfl) (by kernel_rfl) ?_
      replace hst := hst.drew
      refine DRn (l1 := [0, 1, 2, 3, 4, 5, 6, 7, 8, 9]) (l2 := []) (lc := [10]) (by kernel_rfl) (by kernel_rfl) (by kernel_rfl) (Ry rfl rfl wn (ym (v := iV x740) (et rfl e783_10)) (Ry rfl rfl wn (yIaA AR_129 (et rfl e783_4) (e0 rfl) hst (rdO (mtR (mtR mhR))) rfl gx799) (Ry rfl rfl wn (yI O_3 (e0 rfl) hst (rdO (mtR (mtR mhR))) gx799) (Ry rfl rfl wn (yFb FL_28_1 (et rfl e783_2)) (Ry rfl rfl wn (yLb (u := h4.v) O_22 (e0 rfl) hst (mtR mhR) rfl) (Ry rfl rfl wn (ym (v := iV x647) (et rfl e783_9)) (Ry rfl rfl wn (yIa SL_22 (e0 rfl) (e0 rfl) hst (rdI q2) gx800) (Ry rfl rfl wn (yI O_3 (e0 rfl) hst (rdI q2) gx800) (Ry rfl rfl wn (ysub (e0 rfl) (e0 rfl)) (Ry rfl rfl wn (yIsA AR_129 (et rfl e783_4) (e0 rfl) hst (rdO (mtR (mtR mhR))) rfl gx801) (Rn QSn ?_)))))))))))
      refine Lc rfl ?_ LAn
      replace hst := hst.pk 3 [2, 0, 0] rfl
      refine LT wn (r_sti (cs := [iV (ws .i64 x799 x800)]) hst O_3 rfl (e0 rfl) (e0 rfl) rfl mkI gx801) ?_
      intro w hst
      refine DRz (l1 := []) (l2 := []) (by kernel_rfl) (by kernel_rfl) (Rn QSn (k327 _ _ ?_))
      obtain ⟨x802, gx802, hM69⟩ := bs hM69
      obtain ⟨x803, gx803, hM69⟩ := bs hM69
      obtain ⟨x804, gx804, hM69⟩ := bs hM69
      refine wp_drawR [0, 1, 3, 7, 0, 16, 0, 112, 240, 511, 1023, 2047] [11] 1 folM (by kernel_rfl) (by kernel_rfl) (by kernel_rfl) ?_
      replace hst := hst.drew
      refine DRn (l1 := [0, 1, 2, 3, 4, 5, 6, 7, 8, 9, 10]) (l2 := []) (lc := [11]) (by kernel_rfl) (by kernel_rfl) (by kernel_rfl) (Ry rfl rfl wn (ym (v := iV x740) (et rfl e783_10)) (Ry rfl rfl wn (ysub rfl (e0 rfl)) (Ry rfl rfl wn (yIaA AR_129 (et rfl e783_4) (e0 rfl) hst (rdO mhR) rfl gx802) (Ry rfl rfl wn (yI O_3 (e0 rfl) hst (rdO mhR) gx802) (Ry rfl rfl wn (yFb FL_28_1 (et rfl e783_2)) (Ry rfl rfl wn (yLb (u := h4.v) O_22 (e0 rfl) hst (mtR (mtR mhR)) rfl) (Ry rfl rfl wn (ym (v := iV x647) (et rfl e783_9)) (Ry rfl rfl wn (yIa SL_22 (e0 rfl) (e0 rfl) hst (rdI q2) gx803) (Ry rfl rfl wn (yI O_3 (e0 rfl) hst (rdI q2) gx803) (Ry rfl rfl wn (yadd (e0 rfl) (e0 rfl)) (Ry rfl rfl wn (yIsA AR_129 (et rfl e783_4) (e0 rfl) hst (rdO mhR) rfl gx804) (Rn QSn ?_))))))))))))
      refine Lc rfl ?_ LAn
      refine LT wn (r_sti (cs := [iV (wa .i64 x802 x803)]) hst O_3 rfl (e0 rfl) (e0 rfl) rfl mkI gx804) ?_
      intro w hst
      exact DRz (l1 := []) (l2 := []) (by kernel_rfl) (by kernel_rfl) (Rn QSn (j76 _ _ _ _ _ e783_1 e783_2 e783_4 e783_7 rfl e783_37 e783_39 e783_40 e783_41 (hst.pk 3 [1, 1, 0] rfl) hM69))
     ·exact condF (et rfl e783_102) (bfalse c797) (wp_skip (j76 _ _ _ _ _ e783_1 e783_2 e783_4 e783_7 e783_8 e783_37 e783_39 e783_40 e783_41 hst hM69))
    refine loopQ (fun s a w => ∃ (x760 : Int) (x761 : Int) (f : Nat → Value), (x760, x761) = s ∧ a = fr 133 f ∧ f 1 = h8.v ∧ f 2 = (pB b9) ∧ f 4 = .pointer (arrH b10 2).a ∧ f 7 = iV (wa .i64 x26 x27) ∧ f 8 = .bool x646 ∧ f 9 = iV x647 ∧ f 10 = iV x740 ∧ f 11 = iV x760 ∧ f 37 = iV x292 ∧ f 39 = h8.v ∧ f 40 = iV (x290.length : Int) ∧ f 41 = iV x647 ∧ f 51 = h742.v ∧ f 52 = iV (x741.length : Int) ∧ f 53 = iV x761 ∧ St w0 (imm (rI .i64) h742.v x741 :: ros) (row 3 (rI .i64) h8.v x644 :: box b9 28 [h2.v, h4.v, h6.v] :: row 129 (rI .i64) (arrH b10 2).v x645 :: rs) w) go72 ⟨_, _, _, rfl, rfl, e69_1, e69_2, e69_4, e69_7, e69_8, rfl, rfl, rfl, e69_37, e69_39, e69_40, e69_41, rfl, rfl, rfl, (hst.facts (allC mhF (allT (allT allI))))⟩ ?_
    rintro _ _ w r72_ ⟨x760, x761, f, rfl, rfl, e72_1, e72_2, e72_4, e72_7, e72_8, e72_9, e72_10, e72_11, e72_37, e72_39, e72_40, e72_41, e72_51, e72_52, e72_53, hst⟩ hM72 ho72 Q100072 n72 zz72
    refine seqQ fun Q328 k328 z328 => wR (Y wn rfl (ylss (et rfl e72_53) (et rfl e72_52)) (wN (k328 _ _ (seqQ fun Q329 k329 z329 => ?_))))
    rcases iteS hM72 with ⟨c805, hM72⟩ | ⟨c805, hM72⟩
    ·refine condT (e0 rfl) (dT c805) (wp_skip (k329 _ _ (seqQ fun Q330 k330 z330 => blockQ fun Q331 qb331 => seqQ fun Q332 k332 z332 => wR (Y wn rfl (ym (v := iV x761) (et rfl e72_53)) ?_))))
     obtain ⟨x806, gx806, hM72⟩ := bs hM72
     refine Y wn rfl (yIa SL_22 (et rfl e72_51) (et rfl e72_53) hst (rdI mhF) gx806) (Y wn rfl (yI O_3 (e0 rfl) hst (rdI mhF) gx806) (Y wn rfl (ya (v := iV x761) (e0 rfl)) (Y wn rfl (ya (v := iV x806) (e0 rfl)) (wN (k332 _ _ (seqQ fun Q333 k333 z333 => wR (Y wn rfl (ym (v := h8.v) (et rfl e72_1)) (Y wn rfl (ym (v := iV x806) (e0 rfl)) ?_))))))))
     obtain ⟨x807, gx807, hM72⟩ := bs hM72
     refine Y wn rfl (yIa SL_22 (e0 rfl) (e0 rfl) hst (rdO mhR) gx807) (Y wn rfl (yI O_3 (e0 rfl) hst (rdO mhR) gx807) (Y wn rfl (ym (v := iV x740) (et rfl e72_10)) (Y wn rfl (yneq (e0 rfl) (e0 rfl)) (wN (k333 _ _ ?_)))))
     have j77 : ∀ (x814 : Int) (f : Nat → Value) (w : World), f 1 = h8.v → f 2 = (pB b9) → f 4 = .pointer (arrH b10 2).a → f 7 = iV (wa .i64 x26 x27) → f 8 = .bool x646 → f 9 = iV x647 → f 10 = iV x740 → f 11 = iV x814 → f 37 = iV x292 → f 39 = h8.v → f 40 = iV (x290.length : Int) → f 41 = iV x647 → f 51 = h742.v → f 52 = iV (x741.length : Int) → f 53 = iV x761 → St w0 (imm (rI .i64) h742.v x741 :: ros) (row 3 (rI .i64) h8.v x644 :: box b9 28 [h2.v, h4.v, h6.v] :: row 129 (rI .i64) (arrH b10 2).v x645 :: rs) w → dissect_refine_j77 x761 x814 = some r72_ → Q331 .normal (fr 133 f) w := by
      intro x814 f w ej77_1 ej77_2 ej77_4 ej77_7 ej77_8 ej77_9 ej77_10 ej77_11 ej77_37 ej77_39 ej77_40 ej77_41 ej77_51 ej77_52 ej77_53 hst hM
      refine qb331 _ _ _ (k330 _ _ (wR (Y wn rfl (yadd (et rfl ej77_53) rfl) (Y wn rfl (ym (v := iV (wa .i64 x761 1)) (e0 rfl)) (wN ?_)))))
      obtain rfl := someI hM
      exact n72 _ _ _ rfl ⟨_, _, _, rfl, rfl, ej77_1, ej77_2, ej77_4, ej77_7, ej77_8, ej77_9, ej77_10, ej77_11, ej77_37, ej77_39, ej77_40, ej77_41, ej77_51, ej77_52, rfl, hst⟩
     rcases iteS hM72 with ⟨c815, hM72⟩ | ⟨c815, hM72⟩
     ·refine condF (e0 rfl) (nF (dT c815)) (wR (Y wn rfl (ym (v := iV x760) (et rfl e72_11)) (Y wn rfl (yFb FL_28_2 (et rfl e72_2)) (Y wn rfl (yLb (u := h6.v) O_24 (e0 rfl) hst (mtR mhR) rfl) (Y wn rfl (ym (v := iV x647) (et rfl e72_9)) ?_)))))
      obtain ⟨x816, gx816, hM72⟩ := bs hM72
      refine Y wn rfl (yIa SL_24 (e0 rfl) (e0 rfl) hst (rdI (mtF q3)) gx816) ?_
      obtain ⟨h817, hst⟩ := iLs hst (mtF q3) gx816
      refine Y wn rfl (yCt O_22 (e0 rfl) hst (mtF mhF) rfl) (Y wn rfl (ym (v := iV x761) (e0 rfl)) ?_)
      obtain ⟨x818, gx818, hM72⟩ := bs hM72
      exact Y wn rfl (yIa SL_22 (e0 rfl) (e0 rfl) hst (rdI mhF) gx818) (Y wn rfl (yI O_3 (e0 rfl) hst (rdI mhF) gx818) (Y wn rfl (ysub (e0 rfl) (e0 rfl)) (Y wn rfl (ya (v := iV (ws .i64 x760 x818)) (e0 rfl)) (wN (j77 _ _ _ e72_1 e72_2 e72_4 e72_7 e72_8 e72_9 e72_10 rfl e72_37 e72_39 e72_40 e72_41 e72_51 e72_52 e72_53 (hst.facts (allC (mtF (mtF mhF)) (allT (allT (allT allI))))) hM72)))))
     ·refine condT (e0 rfl) (nT (dF c815)) (wR (Y wn rfl (ym (v := iV x760) (et rfl e72_11)) (Y wn rfl (yFb FL_28_2 (et rfl e72_2)) (Y wn rfl (yLb (u := h6.v) O_24 (e0 rfl) hst (mtR mhR) rfl) (Y wn rfl (ym (v := iV x647) (et rfl e72_9)) ?_)))))
      obtain ⟨x819, gx819, hM72⟩ := bs hM72
      refine Y wn rfl (yIa SL_24 (e0 rfl) (e0 rfl) hst (rdI (mtF q3)) gx819) ?_
      obtain ⟨h820, hst⟩ := iLs hst (mtF q3) gx819
      refine Y wn rfl (yCt O_22 (e0 rfl) hst (mtF mhF) rfl) (Y wn rfl (ym (v := iV x761) (e0 rfl)) ?_)
      obtain ⟨x821, gx821, hM72⟩ := bs hM72
      exact Y wn rfl (yIa SL_22 (e0 rfl) (e0 rfl) hst (rdI mhF) gx821) (Y wn rfl (yI O_3 (e0 rfl) hst (rdI mhF) gx821) (Y wn rfl (yadd (e0 rfl) (e0 rfl)) (Y wn rfl (ya (v := iV (wa .i64 x760 x821)) (e0 rfl)) (wN (j77 _ _ _ e72_1 e72_2 e72_4 e72_7 e72_8 e72_9 e72_10 rfl e72_37 e72_39 e72_40 e72_41 e72_51 e72_52 e72_53 (hst.facts (allC (mtF (mtF mhF)) (allT (allT (allT allI))))) hM72)))))
    ·refine condF (e0 rfl) (dF c805) (wp_exit (z329 _ _ _ rfl ?_))
     obtain rfl := someI hM72
     exact zz72 _ _ _ _ rfl rfl (je72_0 _ _ _ e72_1 e72_2 e72_4 e72_7 e72_8 e72_9 e72_10 e72_11 e72_37 e72_39 e72_40 e72_41 (hst.facts (allT allI)) (ho72 _ rfl))
   ·refine condF (e0 rfl) (dF c739) (wp_exit (z303 _ _ _ rfl ?_))
    obtain rfl := someI hM69
    exact zz69 _ _ _ _ rfl rfl (je69_0 _ _ _ _ _ e69_1 e69_2 e69_4 e69_7 e69_8 e69_37 hst (ho69 _ rfl))
  ·refine condF (e0 rfl) (dF c560) (wp_exit (z230 _ _ _ rfl ?_))
   obtain rfl := someI hM52
   exact zz52 _ _ _ _ rfl rfl (je52_0 _ _ _ (hst.pk 3 [0] rfl) (ho52 _ rfl))
 refine loopQ (fun s a w => ∃ (x16 : List Int) (x17 : Int) (f : Nat → Value), (x16, x17) = s ∧ a = fr 133 f ∧ f 1 = h8.v ∧ f 2 = (pB b9) ∧ f 4 = .pointer (arrH b10 2).a ∧ f 14 = h8.v ∧ f 15 = iV (x7.length : Int) ∧ f 16 = iV x17 ∧ St w0 (ros) (row 3 (rI .i64) h8.v x7 :: box b9 28 [h2.v, h4.v, h6.v] :: row 129 (rI .i64) (arrH b10 2).v x16 :: rs) w) go1 ⟨_, _, _, rfl, rfl, rfl, rfl, rfl, rfl, rfl, rfl, (hst.pk 3 [2, 1, 0] rfl)⟩ ?_
 rintro _ _ w r1_ ⟨x16, x17, f, rfl, rfl, e1_1, e1_2, e1_4, e1_14, e1_15, e1_16, hst⟩ hM1 ho1 Q100001 n1 zz1
 refine seqQ fun Q334 k334 z334 => wR (Y wn rfl (ylss (et rfl e1_16) (et rfl e1_15)) (wN (k334 _ _ (seqQ fun Q335 k335 z335 => ?_))))
 rcases iteS hM1 with ⟨c822, hM1⟩ | ⟨c822, hM1⟩
 ·refine condT (e0 rfl) (dT c822) (wp_skip (k335 _ _ (seqQ fun Q336 k336 z336 => blockQ fun Q337 qb337 => seqQ fun Q338 k338 z338 => wR (Y wn rfl (ym (v := iV x17) (et rfl e1_16)) ?_))))
  obtain ⟨x823, gx823, hM1⟩ := bs hM1
  refine Y wn rfl (yIa SL_22 (et rfl e1_14) (et rfl e1_16) hst (rdO mhR) gx823) (Y wn rfl (yI O_3 (e0 rfl) hst (rdO mhR) gx823) (Y wn rfl (ya (v := iV x17) (e0 rfl)) (Y wn rfl (ya (v := iV x823) (e0 rfl)) (wN (k338 _ _ ?_)))))
  obtain ⟨x824, gx824, hM1⟩ := bs hM1
  obtain ⟨x825, gx825, hM1⟩ := bs hM1
  obtain ⟨x826, gx826, hM1⟩ := bs hM1
  refine wp_drawR [0, 1, 3, 0, 8, 0, 56, 120, 255, 511, 1023] [10] 1 folM (by kernel_rfl) (by kernel_rfl) (by kernel_rfl) ?_
  replace hst := hst.drew
  refine DRn (l1 := [0, 1, 2, 3, 4, 5, 6, 7, 8, 9]) (l2 := []) (lc := [10]) (by kernel_rfl) (by kernel_rfl) (by kernel_rfl) (Ry rfl rfl wn (ym (v := iV x823) (e0 rfl)) (Ry rfl rfl wn (yIaA AR_129 (et rfl e1_4) (e0 rfl) hst (rdO (mtR (mtR mhR))) rfl gx824) (Ry rfl rfl wn (yI O_3 (e0 rfl) hst (rdO (mtR (mtR mhR))) gx824) (Ry rfl rfl wn (yFb FL_28_1 (et rfl e1_2)) (Ry rfl rfl wn (yLb (u := h4.v) O_22 (e0 rfl) hst (mtR mhR) rfl) (Ry rfl rfl wn (ym (v := iV x17) (e0 rfl)) (Ry rfl rfl wn (yIa SL_22 (e0 rfl) (e0 rfl) hst (rdI q2) gx825) (Ry rfl rfl wn (yI O_3 (e0 rfl) hst (rdI q2) gx825) (Ry rfl rfl wn (yadd (e0 rfl) (e0 rfl)) (Ry rfl rfl wn (yIsA AR_129 (et rfl e1_4) (e0 rfl) hst (rdO (mtR (mtR mhR))) rfl gx826) (Rn QSn ?_)))))))))))
  refine Lc rfl ?_ LAn
  replace hst := hst.pk 3 [2, 0, 0] rfl
  refine LT wn (r_sti (cs := [iV (wa .i64 x824 x825)]) hst O_3 rfl (e0 rfl) (e0 rfl) rfl mkI gx826) ?_
  intro w hst
  refine DRz (l1 := []) (l2 := []) (by kernel_rfl) (by kernel_rfl) (Rn QSn (qb337 _ _ _ (k336 _ _ (wR (Y wn rfl (yadd (et rfl e1_16) rfl) (Y wn rfl (ym (v := iV (wa .i64 x17 1)) (e0 rfl)) (wN ?_)))))))
  obtain rfl := someI hM1
  exact n1 _ _ _ rfl ⟨_, _, _, rfl, rfl, e1_1, e1_2, e1_4, e1_14, e1_15, rfl, (hst.pk 3 [1, 1, 0] rfl)⟩
 ·refine condF (e0 rfl) (dF c822) (wp_exit (z335 _ _ _ rfl ?_))
  obtain rfl := someI hM1
  exact zz1 _ _ _ _ rfl rfl (je1_0 _ _ _ e1_1 e1_2 e1_4 hst (ho1 _ rfl))

theorem dissect_bisect_step {rec : (List (List Int)) → (List Int) → (List (List Int)) → Option ((List Int) × Bool)} (hrec : ∀ {w0 : World} {ros : List Fact} {rs : List Res} {w : World} {x1 : List (List Int)} {x3 : List Int} {x5 : List (List Int)} {h2 : Hdr} {h4 : Hdr} {h6 : Hdr} {out : (List Int) × Bool} (hM : rec x1 x3 x5 = some out) (q1 : imm (rS (rI .i64)) h2.v x1 ∈ ros) (q2 : imm (rI .i64) h4.v x3 ∈ ros) (q3 : imm (rS (rI .i64)) h6.v x5 ∈ ros) (hst : St w0 ros (rs) w), Calls Tryz.prog 43 #[.agg #[h2.v, h4.v, h6.v]] w (fun e w => ∃ (h100001 : Hdr), e = .returned (.tuple #[h100001.v, .bool out.2]) ∧ St w0 (ros) (row 3 (rI .i64) h100001.v out.1 :: rs) w)) {w0 : World} {ros : List Fact} {rs : List Res} {w : World} {x1 : List (List Int)} {x3 : List Int} {x5 : List (List Int)} {h2 : Hdr} {h4 : Hdr} {h6 : Hdr} {out : (List Int) × Bool} (hM : dissect_bisect_body rec x1 x3 x5 = some out) (q1 : imm (rS (rI .i64)) h2.v x1 ∈ ros) (q2 : imm (rI .i64) h4.v x3 ∈ ros) (q3 : imm (rS (rI .i64)) h6.v x5 ∈ ros) (hst : St w0 ros (rs) w) :
  Calls Tryz.prog 43 #[.agg #[h2.v, h4.v, h6.v]] w (fun e w => ∃ (h100001 : Hdr), e = .returned (.tuple #[h100001.v, .bool out.2]) ∧ St w0 (ros) (row 3 (rI .i64) h100001.v out.1 :: rs) w) := by
 refine enterQ Tryz.func43 rfl Tryz.ntmps43 rfl fun Q hQ => seqQ fun Q1 k1 z1 => wR (YB wn rfl (r_box (vals := [h2.v, h4.v, h6.v]) hst (e0 rfl) rfl) ?_)
 intro b7 w hst
 refine Y wn rfl (ya (v := hnil.v) rfl) (Y wn rfl (ya (v := .bool false) rfl) (wN (k1 _ _ (seqQ fun Q2 k2 z2 => wR (Y wn rfl (yLbs (us := [h2.v, h4.v, h6.v]) ST_28 (e0 rfl) hst mhR rfl rfl) ?_)))))
 obtain ⟨r8, gr8, hM⟩ := bs hM
 refine Yc wn rfl (yCall FN_73 (a1 (e0 rfl))) (dissect_grown_ok (hM := gr8) (hst := hst) (q1 := q1) (q2 := q2) (q3 := q3)) ?_
 rintro _ w ⟨h9, rfl, hst⟩
 refine ⟨_, rfl, ?_⟩
 refine Y wn rfl (ya (v := h9.v) (e0 rfl)) (wN (k2 _ _ (seqQ fun Q3 k3 z3 => seqQ fun Q4 k4 z4 => wR (Y wn rfl (yFb FL_28_1 (e0 rfl)) (Y wn rfl (yLb (u := h4.v) O_22 (e0 rfl) hst (mtR mhR) rfl) (Y wn rfl (yLen SL_22 (e0 rfl) hst (rdI q2)) (Y wn rfl (ygtr (e0 rfl) rfl) (wN (k4 _ _ ?_)))))))))
 have j5 : ∀ (x71 : List Int) (f : Nat → Value) (w : World), f 1 = (pB b7) → f 4 = h9.v → St w0 (ros) (box b7 28 [h2.v, h4.v, h6.v] :: row 3 (rI .i64) h9.v x71 :: rs) w → dissect_bisect_j5 x1 x3 x5 x71 = some out → Q3 .normal (fr 61 f) w := by
  intro x71 f w ej5_1 ej5_4 hst hM
  refine k3 _ _ (seqQ fun Q52 k52 z52 => wR (Y wn rfl (yLbs (us := [h2.v, h4.v, h6.v]) ST_28 (et rfl ej5_1) hst mhR rfl rfl) (Y wn rfl (ym (v := h9.v) (et rfl ej5_4)) ?_)))
  obtain ⟨r72, gr72, hM⟩ := bs hM
  replace hst := hst.pk 2 [1, 0] rfl
  refine Yc wn rfl (yCall FN_74 (a2 (e0 rfl) (e0 rfl))) (dissect_refine_ok (hM := gr72) (hst := hst) (q1 := q1) (q2 := q2) (q3 := q3)) ?_
  rintro _ w ⟨rfl, hst⟩
  refine ⟨_, rfl, ?_⟩
  refine wN (k52 _ _ (seqQ fun Q53 k53 z53 => wR (Y wn rfl (ym (v := h9.v) (et rfl ej5_4)) (Y wn rfl (ya (v := h9.v) (e0 rfl)) (Y wn rfl (ya (v := .bool true) rfl) (wN (k53 _ _ (wp_ret ?_))))))))
  obtain rfl := someI hM
  exact hQ _ _ _ (fin2r Tryz.results43 ⟨rfl, rfl⟩ ⟨rfl, rfl⟩ ⟨_, rfl, (hst.pk 2 [0] rfl)⟩)
 rcases iteS hM with ⟨c73, hM⟩ | ⟨c73, hM⟩
 ·refine condT (e0 rfl) (dT c73) (seqQ fun Q54 k54 z54 => ?_)
  obtain ⟨r74, gr74, hM⟩ := bs hM
  obtain ⟨r76, gr76, hM⟩ := bs hM
  refine joinN (n := 61) (fun f w => ∃ (b84 : Nat) (h85 : Hdr) (y86 : List Hdr) (h87 : Hdr) (h88 : Hdr) (y89 : List Hdr) (h90 : Hdr), f 1 = (pB b7) ∧ f 4 = h9.v ∧ f 5 = (pB b84) ∧ f 6 = h90.v ∧ f 7 = .bool r76.2.2.2.2 ∧ St w0 (imm (rI .i64) h87.v r76.2.1 :: ros) (box b7 28 [h2.v, h4.v, h6.v] :: row 3 (rI .i64) h9.v r8 :: row 22 rH h85.v y86 :: fam 3 (rI .i64) y86 r76.1 :: row 22 rH h88.v y89 :: fam 3 (rI .i64) y89 r76.2.2.1 :: box b84 28 [h85.v, h87.v, h88.v] :: row 3 (rI .i64) h90.v r76.2.2.2.1 :: rs) w) (fun j6 => ?_) ?_
  ·refine wp_drawR [0, 0, 2, 7, 15, 31, 31, 31, 0, 319, 895, 2047] [2, 3, 8, 9, 10, 11] 6 folM (by kernel_rfl) (by kernel_rfl) (by kernel_rfl) ?_
   replace hst := hst.drew
   refine DRn (l1 := [0, 1]) (l2 := []) (lc := [2, 8]) (by kernel_rfl) (by kernel_rfl) (by kernel_rfl) (Ry rfl rfl wn (yLbs (us := [h2.v, h4.v, h6.v]) ST_28 (e0 rfl) hst (mtR mhR) rfl rfl) (Ry rfl rfl wn (yLbs (us := [h2.v, h4.v, h6.v]) ST_28 (e0 rfl) hst (mtR mhR) rfl rfl) (Rn QSn ?_)))
   refine Lc rfl ?_ (Lc rfl ?_ LAn)
   ·refine Lk wn (yCall FN_40 (a1 (e0 rfl))) (dissect_match_ok (hM := gr74) (hst := hst) (q1 := q1) (q2 := q2) (q3 := q3)) ?_
    rintro _ w ⟨h75, rfl, hst⟩
    refine ⟨_, rfl, ?_⟩
    refine DRn (l1 := []) (l2 := [0]) (lc := [3, 8]) (by kernel_rfl) (by kernel_rfl) (by kernel_rfl) (Rn (Sy rfl rfl wn (yLbs (us := [h2.v, h4.v, h6.v]) ST_28 (e0 rfl) hst (mtR (mtR mhR)) rfl rfl) rfl QSn) ?_)
    refine Lc rfl ?_ (Lc rfl ?_ LAn)
    ·replace hst := hst.fz
     refine Lk wn (yCall FN_42 (a2 (e0 rfl) (e0 rfl))) (dissect_coarsen_ok (hM := gr76) (hst := hst) (q1 := (mtF q1)) (q2 := (mtF q2)) (q3 := (mtF q3)) (q4 := mhF)) ?_
     rintro _ w ⟨h77, y78, h79, h80, y81, h82, rfl, hst⟩
     refine ⟨_, rfl, ?_⟩
     refine DRn (l1 := [4, 5, 6, 7]) (l2 := []) (lc := [8]) (by kernel_rfl) (by kernel_rfl) (by kernel_rfl) (Ry rfl rfl wn (ym (v := .tuple #[.agg #[h77.v, h79.v, h80.v], h82.v, .bool r76.2.2.2.2]) (e0 rfl)) (Ry rfl rfl wn (yx (v := .agg #[h77.v, h79.v, h80.v]) (e0 rfl) rfl) (Ry rfl rfl wn (yx (v := h82.v) (e0 rfl) rfl) (Ry rfl rfl wn (yx (v := .bool r76.2.2.2.2) (e0 rfl) rfl) (Rn QSn ?_)))))
     refine Lc rfl ?_ LAn
     refine LB wn (rAl hst ZT_28) ?_
     intro b83 w hst
     refine DRn (l1 := []) (l2 := [4, 5, 6, 7]) (lc := [9]) (by kernel_rfl) (by kernel_rfl) (by kernel_rfl) (Rn (Sy rfl rfl wn (ym (v := .tuple #[.agg #[h77.v, h79.v, h80.v], h82.v, .bool r76.2.2.2.2]) (e0 rfl)) rfl (Sy rfl rfl wn (yx (v := .agg #[h77.v, h79.v, h80.v]) (e0 rfl) rfl) rfl (Sy rfl rfl wn (yx (v := h82.v) (e0 rfl) rfl) rfl (Sy rfl rfl wn (yx (v := .bool r76.2.2.2.2) (e0 rfl) rfl) rfl QSn)))) ?_)
     refine Lc rfl ?_ LAn
     refine LT wn (r_stbn (vals' := [h77.v, h79.v, h80.v]) (us := [h77.v, h79.v, h80.v]) hst ST_28 (e0 rfl) (e0 rfl) rfl rfl (one_of rfl) rfl) ?_
     intro w hst
     refine DRn (l1 := []) (l2 := [6, 7]) (lc := [10]) (by kernel_rfl) (by kernel_rfl) (by kernel_rfl) (Rn (Sy rfl rfl wn (yx (v := h82.v) (e0 rfl) rfl) rfl (Sy rfl rfl wn (yx (v := .bool r76.2.2.2.2) (e0 rfl) rfl) rfl QSn)) ?_)
     refine Lc rfl ?_ LAn
     refine Ly wn (ya (v := h82.v) (e0 rfl)) (DRn (l1 := []) (l2 := [7]) (lc := [11]) (by kernel_rfl) (by kernel_rfl) (by kernel_rfl) (Rn (Sy rfl rfl wn (yx (v := .bool r76.2.2.2.2) (e0 rfl) rfl) rfl QSn) ?_))
     refine Lc rfl ?_ LAn
     exact Ly wn (ya (v := .bool r76.2.2.2.2) (e0 rfl)) (DRz (l1 := []) (l2 := []) (by kernel_rfl) (by kernel_rfl) (Rn QSn (j6 _ _ ⟨_, _, _, _, _, _, _, rfl, rfl, rfl, rfl, rfl, ((hst.pk 8 [7, 6, 1, 1, 1, 1, 0, 0] rfl).facts (allC mhF (allT (allT allI))))⟩)))
    ·refine LB wn (rAl hst ZT_28) ?_
     intro b83 w hst
     refine DRn (l1 := []) (l2 := [0]) (lc := [3]) (by kernel_rfl) (by kernel_rfl) (by kernel_rfl) (Rn (Sy rfl rfl wn (yLbs (us := [h2.v, h4.v, h6.v]) ST_28 (e0 rfl) hst (mtR (mtR (mtR mhR))) rfl rfl) rfl QSn) ?_)
     refine Lc rfl ?_ LAn
     replace hst := hst.pk 2 [1, 0] rfl
     replace hst := hst.fz
     refine Lk wn (yCall FN_42 (a2 (e0 rfl) (e0 rfl))) (dissect_coarsen_ok (hM := gr76) (hst := hst) (q1 := (mtF q1)) (q2 := (mtF q2)) (q3 := (mtF q3)) (q4 := mhF)) ?_
     rintro _ w ⟨h77, y78, h79, h80, y81, h82, rfl, hst⟩
     refine ⟨_, rfl, ?_⟩
     refine DRn (l1 := [4, 5, 6, 7]) (l2 := []) (lc := [9]) (by kernel_rfl) (by kernel_rfl) (by kernel_rfl) (Ry rfl rfl wn (ym (v := .tuple #[.agg #[h77.v, h79.v, h80.v], h82.v, .bool r76.2.2.2.2]) (e0 rfl)) (Ry rfl rfl wn (yx (v := .agg #[h77.v, h79.v, h80.v]) (e0 rfl) rfl) (Ry rfl rfl wn (yx (v := h82.v) (e0 rfl) rfl) (Ry rfl rfl wn (yx (v := .bool r76.2.2.2.2) (e0 rfl) rfl) (Rn QSn ?_)))))
     refine Lc rfl ?_ LAn
     replace hst := hst.pk 6 [5, 0, 0, 0, 0, 0] rfl
     refine LT wn (r_stbn (vals' := [h77.v, h79.v, h80.v]) (us := [h77.v, h79.v, h80.v]) hst ST_28 (e0 rfl) (e0 rfl) rfl rfl (one_of rfl) rfl) ?_
     intro w hst
     refine DRn (l1 := []) (l2 := [6, 7]) (lc := [10]) (by kernel_rfl) (by kernel_rfl) (by kernel_rfl) (Rn (Sy rfl rfl wn (yx (v := h82.v) (e0 rfl) rfl) rfl (Sy rfl rfl wn (yx (v := .bool r76.2.2.2.2) (e0 rfl) rfl) rfl QSn)) ?_)
     refine Lc rfl ?_ LAn
     refine Ly wn (ya (v := h82.v) (e0 rfl)) (DRn (l1 := []) (l2 := [7]) (lc := [11]) (by kernel_rfl) (by kernel_rfl) (by kernel_rfl) (Rn (Sy rfl rfl wn (yx (v := .bool r76.2.2.2.2) (e0 rfl) rfl) rfl QSn) ?_))
     refine Lc rfl ?_ LAn
     exact Ly wn (ya (v := .bool r76.2.2.2.2) (e0 rfl)) (DRz (l1 := []) (l2 := []) (by kernel_rfl) (by kernel_rfl) (Rn QSn (j6 _ _ ⟨_, _, _, _, _, _, _, rfl, rfl, rfl, rfl, rfl, ((hst.pk 8 [7, 6, 1, 1, 1, 1, 0, 0] rfl).facts (allC mhF (allT (allT allI))))⟩)))
   ·refine LB wn (rAl hst ZT_28) ?_
    intro b83 w hst
    refine DRn (l1 := []) (l2 := [0, 1]) (lc := [2]) (by kernel_rfl) (by kernel_rfl) (by kernel_rfl) (Rn (Sy rfl rfl wn (yLbs (us := [h2.v, h4.v, h6.v]) ST_28 (e0 rfl) hst (mtR (mtR mhR)) rfl rfl) rfl (Sy rfl rfl wn (yLbs (us := [h2.v, h4.v, h6.v]) ST_28 (e0 rfl) hst (mtR (mtR mhR)) rfl rfl) rfl QSn)) ?_)
    refine Lc rfl ?_ LAn
    refine Lk wn (yCall FN_40 (a1 (e0 rfl))) (dissect_match_ok (hM := gr74) (hst := hst) (q1 := q1) (q2 := q2) (q3 := q3)) ?_
    rintro _ w ⟨h75, rfl, hst⟩
    refine ⟨_, rfl, ?_⟩
    refine DRn (l1 := []) (l2 := [0]) (lc := [3]) (by kernel_rfl) (by kernel_rfl) (by kernel_rfl) (Rn (Sy rfl rfl wn (yLbs (us := [h2.v, h4.v, h6.v]) ST_28 (e0 rfl) hst (mtR (mtR (mtR mhR))) rfl rfl) rfl QSn) ?_)
    refine Lc rfl ?_ LAn
    replace hst := hst.fz
    refine Lk wn (yCall FN_42 (a2 (e0 rfl) (e0 rfl))) (dissect_coarsen_ok (hM := gr76) (hst := hst) (q1 := (mtF q1)) (q2 := (mtF q2)) (q3 := (mtF q3)) (q4 := mhF)) ?_
    rintro _ w ⟨h77, y78, h79, h80, y81, h82, rfl, hst⟩
    refine ⟨_, rfl, ?_⟩
    refine DRn (l1 := [4, 5, 6, 7]) (l2 := []) (lc := [9]) (by kernel_rfl) (by kernel_rfl) (by kernel_rfl) (Ry rfl rfl wn (ym (v := .tuple #[.agg #[h77.v, h79.v, h80.v], h82.v, .bool r76.2.2.2.2]) (e0 rfl)) (Ry rfl rfl wn (yx (v := .agg #[h77.v, h79.v, h80.v]) (e0 rfl) rfl) (Ry rfl rfl wn (yx (v := h82.v) (e0 rfl) rfl) (Ry rfl rfl wn (yx (v := .bool r76.2.2.2.2) (e0 rfl) rfl) (Rn QSn ?_)))))
    refine Lc rfl ?_ LAn
    replace hst := hst.pk 6 [5, 0, 0, 0, 0, 0] rfl
    refine LT wn (r_stbn (vals' := [h77.v, h79.v, h80.v]) (us := [h77.v, h79.v, h80.v]) hst ST_28 (e0 rfl) (e0 rfl) rfl rfl (one_of rfl) rfl) ?_
    intro w hst
    refine DRn (l1 := []) (l2 := [6, 7]) (lc := [10]) (by kernel_rfl) (by kernel_rfl) (by kernel_rfl) (Rn (Sy rfl rfl wn (yx (v := h82.v) (e0 rfl) rfl) rfl (Sy rfl rfl wn (yx (v := .bool r76.2.2.2.2) (e0 rfl) rfl) rfl QSn)) ?_)
    refine Lc rfl ?_ LAn
    refine Ly wn (ya (v := h82.v) (e0 rfl)) (DRn (l1 := []) (l2 := [7]) (lc := [11]) (by kernel_rfl) (by kernel_rfl) (by kernel_rfl) (Rn (Sy rfl rfl wn (yx (v := .bool r76.2.2.2.2) (e0 rfl) rfl) rfl QSn) ?_))
    refine Lc rfl ?_ LAn
    exact Ly wn (ya (v := .bool r76.2.2.2.2) (e0 rfl)) (DRz (l1 := []) (l2 := []) (by kernel_rfl) (by kernel_rfl) (Rn QSn (j6 _ _ ⟨_, _, _, _, _, _, _, rfl, rfl, rfl, rfl, rfl, ((hst.pk 8 [7, 6, 1, 1, 1, 1, 0, 0] rfl).facts (allC mhF (allT (allT allI))))⟩)))
  rintro f w ⟨b84, h85, y86, h87, h88, y89, h90, e91_1, e91_4, e91_5, e91_6, e91_7, hst⟩
  refine k54 _ _ (seqQ fun Q55 k55 z55 => seqQ fun Q56 k56 z56 => wR (Y wn rfl (ym (v := .bool r76.2.2.2.2) (et rfl e91_7)) (Y wn rfl (ynot (e0 rfl)) (wN (k56 _ _ ?_)))))
  rcases iteS hM with ⟨c92, hM⟩ | ⟨c92, hM⟩
  ·refine condF (e0 rfl) (nF c92) (wp_skip (k55 _ _ (seqQ fun Q57 k57 z57 => wR (Y wn rfl (yFb FL_28_1 (et rfl e91_5)) (Y wn rfl (yLb (u := h87.v) O_22 (e0 rfl) hst (mtR (mtR (mtR (mtR (mtR (mtR mhR)))))) rfl) (Y wn rfl (yLen SL_22 (e0 rfl) hst (rdI mhF)) (Y wn rfl (yFb FL_28_1 (et rfl e91_1)) (Y wn rfl (yLb (u := h4.v) O_22 (e0 rfl) hst mhR rfl) (Y wn rfl (yLen SL_22 (e0 rfl) hst (rdI (mtF q2))) (Y wn rfl (ylss (e0 rfl) (e0 rfl)) (wN (k57 _ _ ?_))))))))))))
   have j8 : ∀ (x113 : List Int) (f : Nat → Value) (w : World), f 1 = (pB b7) → f 4 = h9.v → St w0 (ros) (box b7 28 [h2.v, h4.v, h6.v] :: row 3 (rI .i64) h9.v x113 :: rs) w → dissect_bisect_j8 x1 x3 x5 x113 = some out → Q3 .normal (fr 61 f) w := by
    intro x113 f w ej8_1 ej8_4 hst hM
    exact j5 _ _ _ ej8_1 ej8_4 hst hM
   rcases iteS hM with ⟨c114, hM⟩ | ⟨c114, hM⟩
   ·refine condT (e0 rfl) (dT c114) (seqQ fun Q79 k79 z79 => wR (Y wn rfl (yLbs (us := [h85.v, h87.v, h88.v]) ST_28 (et rfl e91_5) hst (mtR (mtR (mtR (mtR (mtR (mtR mhR)))))) rfl rfl) ?_))
    obtain ⟨r115, gr115, hM⟩ := bs hM
    replace hst := hst.pk 4 [2, 2, 0, 0] rfl
    replace hst := hst.ffz
    replace hst := hst.pk 4 [2, 2, 0, 0] rfl
    replace hst := hst.ffz
    refine Yc wn rfl (yCall FN_43 (a1 (e0 rfl))) (hrec (hM := gr115) (hst := hst) (q1 := (mtF mhF)) (q2 := (mtF (mtF mhF))) (q3 := mhF)) ?_
    rintro _ w ⟨h116, rfl, hst⟩
    refine ⟨_, rfl, ?_⟩
    refine Y wn rfl (ym (v := .tuple #[h116.v, .bool r115.2]) (e0 rfl)) (Y wn rfl (yx (v := h116.v) (e0 rfl) rfl) (Y wn rfl (yx (v := .bool r115.2) (e0 rfl) rfl) (Y wn rfl (ya (v := h116.v) (e0 rfl)) (Y wn rfl (ya (v := .bool r115.2) (e0 rfl)) (wN (k79 _ _ (seqQ fun Q80 k80 z80 => seqQ fun Q81 k81 z81 => wR (Y wn rfl (ym (v := .bool r115.2) (e0 rfl)) (Y wn rfl (ynot (e0 rfl)) (wN (k81 _ _ ?_)))))))))))
    rcases iteS hM with ⟨c117, hM⟩ | ⟨c117, hM⟩
    ·refine condF (e0 rfl) (nF c117) (wp_skip (k80 _ _ (seqQ fun Q82 k82 z82 => wR (Y wn rfl (ym (v := h90.v) (et rfl e91_6)) (Y wn rfl (yLen SL_22 (e0 rfl) hst (rdO (mtR (mtR (mtR (mtR mhR)))))) (Y wn rfl (ym (v := iV 0) rfl) (wN (k82 _ _ (blockQ fun Q83 qb83 => ?_)))))))))
     obtain ⟨o9, go9, hM⟩ := bs hM
     have je9_0 : ∀ (x130 : List Int) (f : Nat → Value) (w : World), f 1 = (pB b7) → f 4 = h9.v → St w0 (ros) (box b7 28 [h2.v, h4.v, h6.v] :: row 3 (rI .i64) h9.v x130 :: rs) w → x130 = o9 → Q83 (.exit 0) (fr 61 f) w := by
      intro x130 f w eje9_0_1 eje9_0_4 hst ho
      subst ho
      exact qb83 _ _ _ (j8 _ _ _ eje9_0_1 eje9_0_4 hst hM)
     refine loopQ (fun s a w => ∃ (x122 : List Int) (x123 : Int) (f : Nat → Value), (x122, x123) = s ∧ a = fr 61 f ∧ f 1 = (pB b7) ∧ f 4 = h9.v ∧ f 8 = h116.v ∧ f 42 = h90.v ∧ f 43 = iV (r76.2.2.2.1.length : Int) ∧ f 44 = iV x123 ∧ St w0 (ros) (box b7 28 [h2.v, h4.v, h6.v] :: row 3 (rI .i64) h9.v x122 :: row 3 (rI .i64) h116.v r115.1 :: row 3 (rI .i64) h90.v r76.2.2.2.1 :: rs) w) go9 ⟨_, _, _, rfl, rfl, e91_1, e91_4, rfl, rfl, rfl, rfl, ((hst.pk 5 [1, 1, 0, 1] rfl).facts (allT (allT (allT allI))))⟩ ?_
     rintro _ _ w r9_ ⟨x122, x123, f, rfl, rfl, e9_1, e9_4, e9_8, e9_42, e9_43, e9_44, hst⟩ hM9 ho9 Q100009 n9 zz9
     refine seqQ fun Q94 k94 z94 => wR (Y wn rfl (ylss (et rfl e9_44) (et rfl e9_43)) (wN (k94 _ _ (seqQ fun Q95 k95 z95 => ?_))))
     rcases iteS hM9 with ⟨c131, hM9⟩ | ⟨c131, hM9⟩
     ·refine condT (e0 rfl) (dT c131) (wp_skip (k95 _ _ (seqQ fun Q96 k96 z96 => blockQ fun Q97 qb97 => seqQ fun Q98 k98 z98 => wR (Y wn rfl (ym (v := iV x123) (et rfl e9_44)) ?_))))
      obtain ⟨x132, gx132, hM9⟩ := bs hM9
      refine Y wn rfl (yIa SL_22 (et rfl e9_42) (et rfl e9_44) hst (rdO (mtR (mtR (mtR mhR)))) gx132) (Y wn rfl (yI O_3 (e0 rfl) hst (rdO (mtR (mtR (mtR mhR)))) gx132) (Y wn rfl (ya (v := iV x123) (e0 rfl)) (Y wn rfl (ya (v := iV x132) (e0 rfl)) (wN (k98 _ _ (wR (Y wn rfl (ym (v := h9.v) (et rfl e9_4)) (Y wn rfl (ym (v := iV x123) (e0 rfl)) (Y wn rfl (ym (v := h116.v) (et rfl e9_8)) (Y wn rfl (ym (v := iV x132) (e0 rfl)) ?_))))))))))
      obtain ⟨x133, gx133, hM9⟩ := bs hM9
      refine Y wn rfl (yIa SL_22 (e0 rfl) (e0 rfl) hst (rdO (mtR (mtR mhR))) gx133) (Y wn rfl (yI O_3 (e0 rfl) hst (rdO (mtR (mtR mhR))) gx133) ?_)
      obtain ⟨x134, gx134, hM9⟩ := bs hM9
      refine Y wn rfl (yIs SL_22 (e0 rfl) (e0 rfl) hst (rdO (mtR mhR)) gx134) ?_
      replace hst := hst.pk 2 [1, 0] rfl
      refine YT wn rfl (r_sti (cs := [iV x133]) hst O_3 rfl (e0 rfl) (e0 rfl) rfl mkI gx134) ?_
      intro w hst
      refine wN (qb97 _ _ _ (k96 _ _ (wR (Y wn rfl (yadd (et rfl e9_44) rfl) (Y wn rfl (ym (v := iV (wa .i64 x123 1)) (e0 rfl)) (wN ?_))))))
      obtain rfl := someI hM9
      exact n9 _ _ _ rfl ⟨_, _, _, rfl, rfl, e9_1, e9_4, e9_8, e9_42, e9_43, rfl, (hst.pk 4 [1, 0, 0, 0] rfl)⟩
     ·refine condF (e0 rfl) (dF c131) (wp_exit (z95 _ _ _ rfl ?_))
      obtain rfl := someI hM9
      exact zz9 _ _ _ _ rfl rfl (je9_0 _ _ _ e9_1 e9_4 (hst.pk 4 [0, 0] rfl) (ho9 _ rfl))
    ·refine condT (e0 rfl) (nT (bfalse c117)) (seqQ fun Q99 k99 z99 => wR (Y wn rfl (ya (v := hnil.v) rfl) (Y wn rfl (ya (v := .bool false) rfl) (wN (k99 _ _ (wp_ret (z80 _ _ _ rfl (z3 _ _ _ rfl ?_))))))))
     obtain rfl := someI hM
     replace hst := hst.rowNh 3 (rI .i64)
     exact hQ _ _ _ (fin2r Tryz.results43 ⟨rfl, rfl⟩ ⟨rfl, rfl⟩ ⟨_, rfl, ((hst.pk 6 [0] rfl).facts (allT (allT (allT allI))))⟩)
   ·exact condF (e0 rfl) (dF c114) (wp_skip (j8 _ _ _ e91_1 e91_4 ((hst.pk 8 [0, 0] rfl).facts (allT allI)) hM))
  ·refine condT (e0 rfl) (nT (bfalse c92)) (seqQ fun Q100 k100 z100 => wR (Y wn rfl (ya (v := hnil.v) rfl) (Y wn rfl (ya (v := .bool false) rfl) (wN (k100 _ _ (wp_ret (z55 _ _ _ rfl (z3 _ _ _ rfl ?_))))))))
   obtain rfl := someI hM
   replace hst := hst.rowNh 3 (rI .i64)
   exact hQ _ _ _ (fin2r Tryz.results43 ⟨rfl, rfl⟩ ⟨rfl, rfl⟩ ⟨_, rfl, ((hst.pk 9 [0] rfl).facts (allT allI))⟩)
 ·exact condF (e0 rfl) (dF c73) (wp_skip (j5 _ _ _ rfl rfl (hst.pk 2 [1, 0] rfl) hM))
theorem dissect_bisect_ok_n (n : Nat) : ∀ {w0 : World} {ros : List Fact} {rs : List Res} {w : World} {x1 : List (List Int)} {x3 : List Int} {x5 : List (List Int)} {h2 : Hdr} {h4 : Hdr} {h6 : Hdr} {out : (List Int) × Bool} (hM : dissect_bisect n x1 x3 x5 = some out) (q1 : imm (rS (rI .i64)) h2.v x1 ∈ ros) (q2 : imm (rI .i64) h4.v x3 ∈ ros) (q3 : imm (rS (rI .i64)) h6.v x5 ∈ ros) (hst : St w0 ros (rs) w),
  Calls Tryz.prog 43 #[.agg #[h2.v, h4.v, h6.v]] w (fun e w => ∃ (h100001 : Hdr), e = .returned (.tuple #[h100001.v, .bool out.2]) ∧ St w0 (ros) (row 3 (rI .i64) h100001.v out.1 :: rs) w) := by
 induction n with
 | zero => intro _ _ _ _ _ _ _ _ _ _ out hM; cases hM
 | succ n ih => exact fun hM q1 q2 q3 hst => dissect_bisect_step (rec := dissect_bisect n) ih (hM := hM) (q1 := q1) (q2 := q2) (q3 := q3) (hst := hst)
theorem dissect_bisect_ok {x1 : List (List Int)} {x3 : List Int} {x5 : List (List Int)} {h2 : Hdr} {h4 : Hdr} {h6 : Hdr} {out : (List Int) × Bool} (hM : dissect_bisect FUEL x1 x3 x5 = some out) (q1 : imm (rS (rI .i64)) h2.v x1 ∈ ros) (q2 : imm (rI .i64) h4.v x3 ∈ ros) (q3 : imm (rS (rI .i64)) h6.v x5 ∈ ros) (hst : St w0 ros (rs) w) :
  Calls Tryz.prog 43 #[.agg #[h2.v, h4.v, h6.v]] w (fun e w => ∃ (h100001 : Hdr), e = .returned (.tuple #[h100001.v, .bool out.2]) ∧ St w0 (ros) (row 3 (rI .i64) h100001.v out.1 :: rs) w) := dissect_bisect_ok_n FUEL (hM := hM) (q1 := q1) (q2 := q2) (q3 := q3) (hst := hst)
end Go.Proofs.YthpeajepbffinaaGreat
