/- Walks: each function computes its model, printed. -/
import Derived.Test.YthpeajepbffinaaGreatW1
namespace Go.Proofs.YthpeajepbffinaaGreat
open Go Sx M
set_option maxRecDepth 100000
set_option maxHeartbeats 4000000
set_option linter.unusedVariables false
attribute [local irreducible] wpList Code.wp Calls DR QR QS LA LS St
variable {w0 : World} {ros : List Fact} {rs : List Res} {w : World}
theorem dissect_border_1_ok {x1 : Int} {x3 : List Int} {x6 : Int} {b2 : Nat} {h4 : Hdr} {b5 : Nat} {out : Bool} (hM : dissect_border_1 x1 x3 x6 = some out) (q1 : imm (rI .i64) h4.v x3 ∈ ros) (hst : St w0 ros (box b2 22 [h4.v] :: box b5 3 [iV x6] :: rs) w) :
  Calls Tryz.prog 121 #[iV x1, (pB b2), (pB b5)] w (fun e w => e = .returned (.bool out) ∧ St w0 (ros) (box b2 22 [h4.v] :: box b5 3 [iV x6] :: rs) w) := by
 refine enterQ Tryz.func121 rfl Tryz.ntmps121 rfl fun Q hQ => seqQ fun Q1 k1 z1 => wR (Y wn rfl (ya (v := .bool false) rfl) (wN (k1 _ _ (seqQ fun Q2 k2 z2 => ?_))))
 obtain ⟨x7, gx7, hM⟩ := bs hM
 refine wp_drawR [0, 0, 3, 7, 0, 31, 63] [6] 1 folM (by kernel_rfl) (by kernel_rfl) (by kernel_rfl) ?_
 replace hst := hst.drew
 refine DRn (l1 := [0, 1, 2, 3, 4, 5]) (l2 := []) (lc := [6]) (by kernel_rfl) (by kernel_rfl) (by kernel_rfl) (Ry rfl rfl wn (yLb (u := h4.v) O_22 (e0 rfl) hst mhR rfl) (Ry rfl rfl wn (ym (v := iV x1) (e0 rfl)) (Ry rfl rfl wn (yIa SL_22 (e0 rfl) (e0 rfl) hst (rdI q1) gx7) (Ry rfl rfl wn (yI O_3 (e0 rfl) hst (rdI q1) gx7) (Ry rfl rfl wn (yLb (u := iV x6) O_3 (e0 rfl) hst (mtR mhR) rfl) (Ry rfl rfl wn (yneq (e0 rfl) (e0 rfl)) (Rn QSn ?_)))))))
 refine Lc rfl ?_ LAn
 refine Ly wn (ya (v := .bool (!(decide (x7 = x6)))) (e0 rfl)) (DRz (l1 := []) (l2 := []) (by kernel_rfl) (by kernel_rfl) (Rn QSn (k2 _ _ (wp_ret ?_))))
 obtain rfl := someI hM
 exact hQ _ _ _ (fin1r Tryz.results121 ⟨rfl, rfl⟩ ⟨rfl, hst⟩)

theorem slices_IndexFunc_int_v2_ok {x1 : List Int} {x4 : List Int} {x7 : Int} {h2 : Hdr} {b3 : Nat} {h5 : Hdr} {b6 : Nat} {out : Int} (hM : slices_IndexFunc_int_v2 x1 x4 x7 = some out) (q1 : imm (rI .i64) h2.v x1 ∈ ros) (q2 : imm (rI .i64) h5.v x4 ∈ ros) (hst : St w0 ros (box b3 22 [h5.v] :: box b6 3 [iV x7] :: rs) w) :
  Calls Tryz.prog 80 #[h2.v, .func (.func 121) #[] #[(pB b3), (pB b6)]] w (fun e w => e = .returned (iV out) ∧ St w0 (ros) (box b3 22 [h5.v] :: box b6 3 [iV x7] :: rs) w) := by
 refine enterQ Tryz.func80 rfl Tryz.ntmps80 rfl fun Q hQ => seqQ fun Q1 k1 z1 => wR (Y wn rfl (ya (v := iV 0) rfl) (wN (k1 _ _ (seqQ fun Q2 k2 z2 => seqQ fun Q3 k3 z3 => wR (Y wn rfl (ym (v := h2.v) (e0 rfl)) (Y wn rfl (yLen SL_22 (e0 rfl) hst (rdI q1)) (Y wn rfl (ym (v := iV 0) rfl) (wN (k3 _ _ ?_)))))))))
 refine blockQ fun Q4 qb4 => ?_
 obtain ⟨o1, go1, hM⟩ := bs hM
 have je1_0 : ∀ (f : Nat → Value) (w : World), St w0 (ros) (box b3 22 [h5.v] :: box b6 3 [iV x7] :: rs) w → .inl () = o1 → Q4 (.exit 0) (fr 19 f) w := by
  intro f w hst ho
  subst ho
  refine qb4 _ _ _ (k2 _ _ (seqQ fun Q19 k19 z19 => wR (Y wn rfl (ya (v := iV (-1)) rfl) (wN (k19 _ _ (wp_ret ?_))))))
  obtain rfl := someI hM
  exact hQ _ _ _ (fin1r Tryz.results80 ⟨rfl, rfl⟩ ⟨rfl, hst⟩)
 have je1_1 : ∀ (x18 : Int) (f : Nat → Value) (w : World), f 4 = iV x18 → St w0 (ros) (box b3 22 [h5.v] :: box b6 3 [iV x7] :: rs) w → .inr x18 = o1 → Q4 .ret (fr 19 f) w := by
  intro x18 f w eje1_1_4 hst ho
  subst ho
  refine qb4 _ _ _ (z2 _ _ _ rfl ?_)
  obtain rfl := someI hM
  exact hQ _ _ _ (fin1r Tryz.results80 ⟨rfl, eje1_1_4⟩ ⟨rfl, hst⟩)
 refine loopQ (fun s a w => ∃ (x12 : Int) (f : Nat → Value), x12 = s ∧ a = fr 19 f ∧ f 0 = h2.v ∧ f 1 = .func (.func 121) #[] #[(pB b3), (pB b6)] ∧ f 7 = iV (x1.length : Int) ∧ f 8 = iV x12 ∧ St w0 (ros) (box b3 22 [h5.v] :: box b6 3 [iV x7] :: rs) w) go1 ⟨_, _, rfl, rfl, rfl, rfl, rfl, rfl, hst⟩ ?_
 rintro _ _ w r1_ ⟨x12, f, rfl, rfl, e1_0, e1_1, e1_7, e1_8, hst⟩ hM1 ho1 Q100001 n1 zz1
 refine seqQ fun Q20 k20 z20 => wR (Y wn rfl (ylss (et rfl e1_8) (et rfl e1_7)) (wN (k20 _ _ (seqQ fun Q21 k21 z21 => ?_))))
 rcases iteS hM1 with ⟨c19, hM1⟩ | ⟨c19, hM1⟩
 ·refine condT (e0 rfl) (dT c19) (wp_skip (k21 _ _ (seqQ fun Q22 k22 z22 => blockQ fun Q23 qb23 => seqQ fun Q24 k24 z24 => wR (Y wn rfl (ym (v := iV x12) (et rfl e1_8)) (Y wn rfl (ya (v := iV x12) (e0 rfl)) (wN (k24 _ _ (seqQ fun Q25 k25 z25 => wR (Y wn rfl (ym (v := .func (.func 121) #[] #[(pB b3), (pB b6)]) (et rfl e1_1)) ?_)))))))))
  refine Y wn rfl (ym (v := h2.v) (et rfl e1_0)) (Y wn rfl (ym (v := iV x12) (e0 rfl)) ?_)
  obtain ⟨x20, gx20, hM1⟩ := bs hM1
  refine Y wn rfl (yIa SL_22 (e0 rfl) (e0 rfl) hst (rdI q1) gx20) (Y wn rfl (yI O_3 (e0 rfl) hst (rdI q1) gx20) ?_)
  obtain ⟨r21, gr21, hM1⟩ := bs hM1
  refine Yc wn rfl (yCallw FN_121 (e0 rfl) (a1 (e0 rfl))) (dissect_border_1_ok (hM := gr21) (hst := hst) (q1 := q2)) ?_
  rintro _ w ⟨rfl, hst⟩
  refine ⟨_, rfl, ?_⟩
  refine wN (k25 _ _ ?_)
  rcases iteS hM1 with ⟨c22, hM1⟩ | ⟨c22, hM1⟩
  ·refine condT (e0 rfl) c22 (seqQ fun Q26 k26 z26 => wR (Y wn rfl (ym (v := iV x12) (e0 rfl)) (Y wn rfl (ya (v := iV x12) (e0 rfl)) (wN (k26 _ _ (wp_ret (qb23 _ _ _ (z22 _ _ _ rfl ?_))))))))
   obtain rfl := someI hM1
   exact zz1 _ _ _ _ rfl rfl (je1_1 _ _ _ rfl hst (ho1 _ rfl))
  ·refine condF (e0 rfl) (bfalse c22) (wp_skip (qb23 _ _ _ (k22 _ _ (wR (Y wn rfl (yadd (et rfl e1_8) rfl) (Y wn rfl (ym (v := iV (wa .i64 x12 1)) (e0 rfl)) (wN ?_)))))))
   obtain rfl := someI hM1
   exact n1 _ _ _ rfl ⟨_, _, rfl, rfl, e1_0, e1_1, e1_7, rfl, hst⟩
 ·refine condF (e0 rfl) (dF c19) (wp_exit (z21 _ _ _ rfl ?_))
  obtain rfl := someI hM1
  exact zz1 _ _ _ _ rfl rfl (je1_0 _ _ hst (ho1 _ rfl))

theorem slices_ContainsFunc_int_v2_ok {x1 : List Int} {x4 : List Int} {x7 : Int} {h2 : Hdr} {b3 : Nat} {h5 : Hdr} {b6 : Nat} {out : Bool} (hM : slices_ContainsFunc_int_v2 x1 x4 x7 = some out) (q1 : imm (rI .i64) h2.v x1 ∈ ros) (q2 : imm (rI .i64) h5.v x4 ∈ ros) (hst : St w0 ros (box b3 22 [h5.v] :: box b6 3 [iV x7] :: rs) w) :
  Calls Tryz.prog 49 #[h2.v, .func (.func 121) #[] #[(pB b3), (pB b6)]] w (fun e w => e = .returned (.bool out) ∧ St w0 (ros) (box b3 22 [h5.v] :: box b6 3 [iV x7] :: rs) w) := by
 refine enterQ Tryz.func49 rfl Tryz.ntmps49 rfl fun Q hQ => seqQ fun Q1 k1 z1 => wR (Y wn rfl (ya (v := .bool false) rfl) (wN (k1 _ _ (seqQ fun Q2 k2 z2 => wR (Y wn rfl (ym (v := h2.v) (e0 rfl)) (Y wn rfl (ym (v := .func (.func 121) #[] #[(pB b3), (pB b6)]) (e0 rfl)) ?_))))))
 obtain ⟨r8, gr8, hM⟩ := bs hM
 refine Yc wn rfl (yCall FN_80 (a2 (e0 rfl) (e0 rfl))) (slices_IndexFunc_int_v2_ok (hM := gr8) (hst := hst) (q1 := q1) (q2 := q2)) ?_
 rintro _ w ⟨rfl, hst⟩
 refine ⟨_, rfl, ?_⟩
 refine Y wn rfl (ygeq (e0 rfl) rfl) (Y wn rfl (ya (v := .bool (decide ((0 : Int) ≤ r8))) (e0 rfl)) (wN (k2 _ _ (wp_ret ?_))))
 obtain rfl := someI hM
 exact hQ _ _ _ (fin1r Tryz.results49 ⟨rfl, rfl⟩ ⟨rfl, hst⟩)

theorem dissect_border_ok {x1 : List (List Int)} {x3 : List Int} {x5 : Int} {h2 : Hdr} {h4 : Hdr} {out : (List Int)} (hM : dissect_border x1 x3 x5 = some out) (q1 : imm (rS (rI .i64)) h2.v x1 ∈ ros) (q2 : imm (rI .i64) h4.v x3 ∈ ros) (hst : St w0 ros (rs) w) :
  Calls Tryz.prog 103 #[.agg #[h2.v], h4.v, iV x5] w (fun e w => ∃ (h100001 : Hdr), e = .returned (h100001.v) ∧ St w0 (ros) (row 3 (rI .i64) h100001.v out :: rs) w) := by
 refine enterQ Tryz.func103 rfl Tryz.ntmps103 rfl fun Q hQ => seqQ fun Q1 k1 z1 => wR (YB wn rfl (r_box (vals := [h2.v]) hst (e0 rfl) rfl) ?_)
 intro b6 w hst
 refine YB wn rfl (r_box (vals := [h4.v]) hst (e0 rfl) rfl) ?_
 intro b7 w hst
 refine YB wn rfl (r_box (vals := [iV x5]) hst (e0 rfl) rfl) ?_
 intro b8 w hst
 refine Y wn rfl (ya (v := hnil.v) rfl) (wN (k1 _ _ (seqQ fun Q2 k2 z2 => wR (Y wn rfl (ya (v := hnil.v) rfl) (wN (k2 _ _ (seqQ fun Q3 k3 z3 => seqQ fun Q4 k4 z4 => wR (Y wn rfl (yFb FL_26_0 (e0 rfl)) (Y wn rfl (yLb (u := h2.v) O_24 (e0 rfl) hst (mtR (mtR mhR)) rfl) (Y wn rfl (yLen SL_24 (e0 rfl) hst (rdI q1)) ?_))))))))))
 refine Y wn rfl (ym (v := iV 0) rfl) (wN (k4 _ _ (blockQ fun Q5 qb5 => ?_)))
 obtain ⟨o9, go9, hM⟩ := bs hM
 have je9_0 : ∀ (x50 : List Int) (h49 : Hdr) (f : Nat → Value) (w : World), f 7 = h49.v → St w0 (ros) (row 3 (rI .i64) h49.v x50 :: rs) w → x50 = o9 → Q5 (.exit 0) (fr 35 f) w := by
  intro x50 h49 f w eje9_0_7 hst ho
  subst ho
  refine qb5 _ _ _ (k3 _ _ (seqQ fun Q18 k18 z18 => wR (Y wn rfl (ym (v := h49.v) (et rfl eje9_0_7)) (Y wn rfl (ya (v := h49.v) (e0 rfl)) (wN (k18 _ _ (wp_ret ?_)))))))
  obtain rfl := someI hM
  exact hQ _ _ _ (fin1r Tryz.results103 ⟨rfl, rfl⟩ ⟨_, rfl, hst⟩)
 replace hst := hst.rowNh 3 (rI .i64)
 refine loopQ (fun s a w => ∃ (x27 : List Int) (x28 : Int) (f : Nat → Value) (h26 : Hdr), (x27, x28) = s ∧ a = fr 35 f ∧ f 4 = (pB b7) ∧ f 5 = (pB b8) ∧ f 7 = h26.v ∧ f 11 = h2.v ∧ f 12 = iV (x1.length : Int) ∧ f 13 = iV x28 ∧ St w0 (ros) (box b7 22 [h4.v] :: box b8 3 [iV x5] :: row 3 (rI .i64) h26.v x27 :: rs) w) go9 ⟨_, _, _, _, rfl, rfl, rfl, rfl, rfl, rfl, rfl, rfl, (hst.pk 4 [2, 1, 0] rfl)⟩ ?_
 rintro _ _ w r9_ ⟨x27, x28, f, h26, rfl, rfl, e9_4, e9_5, e9_7, e9_11, e9_12, e9_13, hst⟩ hM9 ho9 Q100009 n9 zz9
 refine seqQ fun Q19 k19 z19 => wR (Y wn rfl (ylss (et rfl e9_13) (et rfl e9_12)) (wN (k19 _ _ (seqQ fun Q20 k20 z20 => ?_))))
 rcases iteS hM9 with ⟨c51, hM9⟩ | ⟨c51, hM9⟩
 ·refine condT (e0 rfl) (dT c51) (wp_skip (k20 _ _ (seqQ fun Q21 k21 z21 => blockQ fun Q22 qb22 => seqQ fun Q23 k23 z23 => wR (Y wn rfl (ym (v := iV x28) (et rfl e9_13)) ?_))))
  obtain ⟨x52, gx52, hM9⟩ := bs hM9
  refine Y wn rfl (yIa SL_24 (et rfl e9_11) (et rfl e9_13) hst (rdI q1) gx52) ?_
  obtain ⟨h53, hst⟩ := iLs hst q1 gx52
  refine Y wn rfl (yCt O_22 (e0 rfl) hst (mtF mhF) rfl) (Y wn rfl (ya (v := iV x28) (e0 rfl)) (Y wn rfl (ya (v := h53.v) (e0 rfl)) (wN (k23 _ _ (seqQ fun Q24 k24 z24 => ?_)))))
  obtain ⟨x54, gx54, hM9⟩ := bs hM9
  obtain ⟨r55, gr55, hM9⟩ := bs hM9
  refine joinN (n := 35) (fun f w => f 4 = (pB b7) ∧ f 5 = (pB b8) ∧ f 7 = h26.v ∧ f 8 = iV x28 ∧ f 11 = h2.v ∧ f 12 = iV (x1.length : Int) ∧ f 13 = iV x28 ∧ f 28 = .bool r55 ∧ St w0 (ros) (box b7 22 [h4.v] :: box b8 3 [iV x5] :: row 3 (rI .i64) h26.v x27 :: rs) w) (fun j10 => ?_) ?_
  ·rcases iteS gr55 with ⟨c57, gr55⟩ | ⟨c57, gr55⟩
   ·obtain ⟨r58, gr58, gr55⟩ := bs gr55
    have hr11 := someI gr55
    refine wp_drawR [0, 0, 3, 7, 0, 31, 63, 127, 127, 511, 1023] [9] 1 folM (by kernel_rfl) (by kernel_rfl) (by kernel_rfl) ?_
    replace hst := hst.drew
    refine DRn (l1 := [0, 1, 2, 3, 4, 5, 6, 7, 8]) (l2 := []) (lc := [9]) (by kernel_rfl) (by kernel_rfl) (by kernel_rfl) (Ry rfl rfl wn (yLb (u := h4.v) O_22 (et rfl e9_4) hst mhR rfl) (Ry rfl rfl wn (ym (v := iV x28) (e0 rfl)) (Ry rfl rfl wn (yIa SL_22 (e0 rfl) (e0 rfl) hst (rdI (mtF (mtF q2))) gx54) (Ry rfl rfl wn (yI O_3 (e0 rfl) hst (rdI (mtF (mtF q2))) gx54) (Ry rfl rfl wn (yLb (u := iV x5) O_3 (et rfl e9_5) hst (mtR mhR) rfl) (Ry rfl rfl wn (yeql (e0 rfl) (e0 rfl)) (Ry rfl rfl wn (ym (v := .bool (decide (x54 = x5))) (e0 rfl)) (Ry rfl rfl (wg rfl rfl rfl (dT c57)) (ym (v := h53.v) (e0 rfl)) (Ry rfl rfl (wg rfl rfl rfl (dT c57)) (ymf (vf := #[]) (vc := #[(pB b7), (pB b8)]) a0 (a2 (et rfl e9_4) (et rfl e9_5))) (Rn QSn ?_))))))))))
    refine Lc rfl ?_ LAn
    refine Lk (wg rfl rfl rfl (dT c57)) (yCall FN_49 (a2 (e0 rfl) (e0 rfl))) (slices_ContainsFunc_int_v2_ok (hM := gr58) (hst := hst) (q1 := mhF) (q2 := (mtF (mtF q2)))) ?_
    rintro _ w ⟨rfl, hst⟩
    refine ⟨_, rfl, ?_⟩
    exact DRz (l1 := [10]) (l2 := []) (by kernel_rfl) (by kernel_rfl) (Ry rfl rfl wn (ypt (v := .bool r55) (e0 rfl) (dT c57) (eqv hr11 (e0 rfl))) (Rn QSn (j10 _ _ ⟨e9_4, e9_5, e9_7, rfl, e9_11, e9_12, e9_13, rfl, (hst.facts (allT (allT allI)))⟩)))
   ·have hr12 := someI gr55
    refine wp_drawR [0, 0, 3, 7, 0, 31, 63, 127, 127, 511, 1023] [9] 1 folM (by kernel_rfl) (by kernel_rfl) (by kernel_rfl) ?_
    replace hst := hst.drew
    refine DRn (l1 := [0, 1, 2, 3, 4, 5, 6, 7, 8]) (l2 := []) (lc := [9]) (by kernel_rfl) (by kernel_rfl) (by kernel_rfl) (Ry rfl rfl wn (yLb (u := h4.v) O_22 (et rfl e9_4) hst mhR rfl) (Ry rfl rfl wn (ym (v := iV x28) (e0 rfl)) (Ry rfl rfl wn (yIa SL_22 (e0 rfl) (e0 rfl) hst (rdI (mtF (mtF q2))) gx54) (Ry rfl rfl wn (yI O_3 (e0 rfl) hst (rdI (mtF (mtF q2))) gx54) (Ry rfl rfl wn (yLb (u := iV x5) O_3 (et rfl e9_5) hst (mtR mhR) rfl) (Ry rfl rfl wn (yeql (e0 rfl) (e0 rfl)) (Ry rfl rfl wn (ym (v := .bool (decide (x54 = x5))) (e0 rfl)) (Rx rfl rfl (wx rfl rfl rfl (dF c57)) (Rx rfl rfl (wx rfl rfl rfl (dF c57)) (Rn QSn ?_))))))))))
    refine Lc rfl ?_ LAn
    exact Lx (wx rfl rfl rfl (dF c57)) (DRz (l1 := [10]) (l2 := []) (by kernel_rfl) (by kernel_rfl) (Ry rfl rfl wn (ypf (v := .bool r55) (e0 rfl) (dF c57) (eqv hr12 rfl)) (Rn QSn (j10 _ _ ⟨e9_4, e9_5, e9_7, rfl, e9_11, e9_12, e9_13, rfl, (hst.facts (allT (allT allI)))⟩))))
  rintro f w ⟨e56_4, e56_5, e56_7, e56_8, e56_11, e56_12, e56_13, e56_28, hst⟩
  refine k24 _ _ ?_
  have j13 : ∀ (x63 : List Int) (h62 : Hdr) (f : Nat → Value) (w : World), f 4 = (pB b7) → f 5 = (pB b8) → f 7 = h62.v → f 11 = h2.v → f 12 = iV (x1.length : Int) → f 13 = iV x28 → St w0 (ros) (box b7 22 [h4.v] :: box b8 3 [iV x5] :: row 3 (rI .i64) h62.v x63 :: rs) w → dissect_border_j13 x28 x63 = some r9_ → Q22 .normal (fr 35 f) w := by
   intro x63 h62 f w ej13_4 ej13_5 ej13_7 ej13_11 ej13_12 ej13_13 hst hM
   refine qb22 _ _ _ (k21 _ _ (wR (Y wn rfl (yadd (et rfl ej13_13) rfl) (Y wn rfl (ym (v := iV (wa .i64 x28 1)) (e0 rfl)) (wN ?_)))))
   obtain rfl := someI hM
   exact n9 _ _ _ rfl ⟨_, _, _, _, rfl, rfl, ej13_4, ej13_5, ej13_7, ej13_11, ej13_12, rfl, hst⟩
  rcases iteS hM9 with ⟨c64, hM9⟩ | ⟨c64, hM9⟩
  ·refine condT (et rfl e56_28) c64 (wR (Y wn rfl (ym (v := h26.v) (et rfl e56_7)) (Y wn rfl (ym (v := iV x28) (et rfl e56_8)) (YH wn rfl (rLt (n := 1) (l := [x28]) hst SL_22 [iV x28] (bp1 (e0 rfl)) rfl rfl (mks1 (cs := [iV x28]) rfl mkI mks0)) ?_))))
   intro h65 w hst
   obtain ⟨x67, gx67, hM9⟩ := bs hM9
   replace hst := hst.pk 4 [3, 0, 0, 0] rfl
   refine YH wn rfl (rAp hst SL_22 (e0 rfl) (e0 rfl) (rdO (mtR mhR)) gx67) ?_
   intro h66 w hst
   exact Y wn rfl (ya (v := h66.v) (e0 rfl)) (wN (j13 _ _ _ _ e56_4 e56_5 rfl e56_11 e56_12 e56_13 (hst.pk 4 [2, 2, 0] rfl) hM9))
  ·exact condF (et rfl e56_28) (bfalse c64) (wp_skip (j13 _ _ _ _ e56_4 e56_5 e56_7 e56_11 e56_12 e56_13 hst hM9))
 ·refine condF (e0 rfl) (dF c51) (wp_exit (z20 _ _ _ rfl ?_))
  obtain rfl := someI hM9
  exact zz9 _ _ _ _ rfl rfl (je9_0 _ _ _ _ e9_7 (hst.pk 3 [2] rfl) (ho9 _ rfl))

theorem matrix_within_ok {x1 : Int} {x2 : Int} {x3 : Int} {out : Bool} (hM : matrix_within x1 x2 x3 = some out) (hst : St w0 ros (rs) w) :
  Calls Tryz.prog 135 #[iV x1, iV x2, iV x3] w (fun e w => e = .returned (.bool out) ∧ St w0 (ros) (rs) w) := by
 refine enterQ Tryz.func135 rfl Tryz.ntmps135 rfl fun Q hQ => seqQ fun Q1 k1 z1 => wR (Y wn rfl (ya (v := .bool false) rfl) (wN (k1 _ _ (seqQ fun Q2 k2 z2 => wR (Y wn rfl (ym (v := iV x1) (e0 rfl)) (Y wn rfl (ym (v := iV x2) (e0 rfl)) (Y wn rfl (ygeq (e0 rfl) (e0 rfl)) (Y wn rfl (ym (v := .bool (decide (x2 ≤ x1))) (e0 rfl)) ?_))))))))
 refine joinW 4 (fun f w => f 14 = .bool ((decide (x2 ≤ x1)) && (decide (x1 ≤ x3))) ∧ St w0 (ros) (rs) w) (fun j1 => ?_) ?_
 ·rcases Bool.eq_false_or_eq_true (decide (x2 ≤ x1)) with c5 | c5
  ·exact Y (wg rfl rfl rfl c5) rfl (ym (v := iV x1) (e0 rfl)) (Y (wg rfl rfl rfl c5) rfl (ym (v := iV x3) (e0 rfl)) (Y (wg rfl rfl rfl c5) rfl (yleq (e0 rfl) (e0 rfl)) (Y wn rfl (ypt (v := .bool (decide (x1 ≤ x3))) (e0 rfl) c5 (e0 rfl)) (j1 _ _ ⟨(congrArg Value.bool (andT c5)), hst⟩))))
  ·exact Gn (wx rfl rfl rfl c5) rfl (Gn (wx rfl rfl rfl c5) rfl (Gn (wx rfl rfl rfl c5) rfl (Y wn rfl (ypf (v := .bool false) (e0 rfl) c5 rfl) (j1 _ _ ⟨(congrArg Value.bool (andF c5)), hst⟩))))
 rintro f w ⟨e4_14, hst⟩
 refine Y wn rfl (ya (v := .bool ((decide (x2 ≤ x1)) && (decide (x1 ≤ x3)))) (et rfl e4_14)) (wN (k2 _ _ (wp_ret ?_)))
 obtain rfl := someI hM
 exact hQ _ _ _ (fin1r Tryz.results135 ⟨rfl, rfl⟩ ⟨rfl, hst⟩)

theorem slices_IsSorted_int_ok {x1 : List Int} {h2 : Hdr} {out : Bool} (hM : slices_IsSorted_int x1 = some out) (q1 : imm (rI .i64) h2.v x1 ∈ ros) (hst : St w0 ros (rs) w) :
  Calls Tryz.prog 153 #[h2.v] w (fun e w => e = .returned (.bool out) ∧ St w0 (ros) (rs) w) := by
 refine enterQ Tryz.func153 rfl Tryz.ntmps153 rfl fun Q hQ => seqQ fun Q1 k1 z1 => wR (Y wn rfl (ya (v := .bool false) rfl) (wN (k1 _ _ (seqQ fun Q2 k2 z2 => seqQ fun Q3 k3 z3 => wR (Y wn rfl (ym (v := h2.v) (e0 rfl)) (Y wn rfl (yLen SL_22 (e0 rfl) hst (rdI q1)) (Y wn rfl (ysub (e0 rfl) rfl) (Y wn rfl (ya (v := iV (ws .i64 (x1.length : Int) 1)) (e0 rfl)) (wN ?_)))))))))
 refine k3 _ _ (blockQ fun Q4 qb4 => ?_)
 obtain ⟨o1, go1, hM⟩ := bs hM
 have je1_0 : ∀ (f : Nat → Value) (w : World), St w0 (ros) (rs) w → .inl () = o1 → Q4 (.exit 0) (fr 21 f) w := by
  intro f w hst ho
  subst ho
  refine qb4 _ _ _ (k2 _ _ (seqQ fun Q17 k17 z17 => wR (Y wn rfl (ya (v := .bool true) rfl) (wN (k17 _ _ (wp_ret ?_))))))
  obtain rfl := someI hM
  exact hQ _ _ _ (fin1r Tryz.results153 ⟨rfl, rfl⟩ ⟨rfl, hst⟩)
 have je1_1 : ∀ (f : Nat → Value) (w : World), f 2 = .bool false → St w0 (ros) (rs) w → .inr () = o1 → Q4 .ret (fr 21 f) w := by
  intro f w eje1_1_2 hst ho
  subst ho
  refine qb4 _ _ _ (z2 _ _ _ rfl ?_)
  obtain rfl := someI hM
  exact hQ _ _ _ (fin1r Tryz.results153 ⟨rfl, eje1_1_2⟩ ⟨rfl, hst⟩)
 refine loopQ (fun s a w => ∃ (x8 : Int) (f : Nat → Value), x8 = s ∧ a = fr 21 f ∧ f 0 = h2.v ∧ f 3 = iV x8 ∧ St w0 (ros) (rs) w) go1 ⟨_, _, rfl, rfl, rfl, rfl, hst⟩ ?_
 rintro _ _ w r1_ ⟨x8, f, rfl, rfl, e1_0, e1_3, hst⟩ hM1 ho1 Q100001 n1 zz1
 refine seqQ fun Q18 k18 z18 => seqQ fun Q19 k19 z19 => wR (Y wn rfl (ym (v := iV x8) (et rfl e1_3)) (Y wn rfl (ygtr (e0 rfl) rfl) (wN (k19 _ _ ?_))))
 rcases iteS hM1 with ⟨c15, hM1⟩ | ⟨c15, hM1⟩
 ·refine condT (e0 rfl) (dT c15) (wp_skip (k18 _ _ (seqQ fun Q20 k20 z20 => blockQ fun Q21 qb21 => seqQ fun Q22 k22 z22 => ?_)))
  obtain ⟨x16, gx16, hM1⟩ := bs hM1
  obtain ⟨x17, gx17, hM1⟩ := bs hM1
  obtain ⟨r18, gr18, hM1⟩ := bs hM1
  refine wp_drawR [0, 0, 3, 7, 0, 0, 32, 112, 240, 511] [9] 1 folM (by kernel_rfl) (by kernel_rfl) (by kernel_rfl) ?_
  replace hst := hst.drew
  refine DRn (l1 := [0, 1, 2, 3, 4, 5, 6, 7, 8]) (l2 := []) (lc := [9]) (by kernel_rfl) (by kernel_rfl) (by kernel_rfl) (Ry rfl rfl wn (ym (v := h2.v) (et rfl e1_0)) (Ry rfl rfl wn (ym (v := iV x8) (et rfl e1_3)) (Ry rfl rfl wn (yIa SL_22 (e0 rfl) (e0 rfl) hst (rdI q1) gx16) (Ry rfl rfl wn (yI O_3 (e0 rfl) hst (rdI q1) gx16) (Ry rfl rfl wn (ym (v := h2.v) (et rfl e1_0)) (Ry rfl rfl wn (ym (v := iV x8) (et rfl e1_3)) (Ry rfl rfl wn (ysub (e0 rfl) rfl) (Ry rfl rfl wn (yIa SL_22 (e0 rfl) (e0 rfl) hst (rdI q1) gx17) (Ry rfl rfl wn (yI O_3 (e0 rfl) hst (rdI q1) gx17) (Rn QSn ?_))))))))))
  refine Lc rfl ?_ LAn
  refine Lk wn (yCall FN_101 (a2 (e0 rfl) (e0 rfl))) (cmp_Less_int_ok (hM := gr18) (hst := hst) ) ?_
  rintro _ w ⟨rfl, hst⟩
  refine ⟨_, rfl, ?_⟩
  refine DRz (l1 := []) (l2 := []) (by kernel_rfl) (by kernel_rfl) (Rn QSn (k22 _ _ ?_))
  rcases iteS hM1 with ⟨c19, hM1⟩ | ⟨c19, hM1⟩
  ·refine condT (e0 rfl) c19 (seqQ fun Q23 k23 z23 => wR (Y wn rfl (ya (v := .bool false) rfl) (wN (k23 _ _ (wp_ret (qb21 _ _ _ (z20 _ _ _ rfl ?_)))))))
   obtain rfl := someI hM1
   exact zz1 _ _ _ _ rfl rfl (je1_1 _ _ rfl hst (ho1 _ rfl))
  ·refine condF (e0 rfl) (bfalse c19) (wp_skip (qb21 _ _ _ (k20 _ _ (wR (Y wn rfl (ym (v := iV x8) (et rfl e1_3)) (Y wn rfl (ysub (e0 rfl) rfl) (Y wn rfl (ya (v := iV (ws .i64 x8 1)) (e0 rfl)) (wN ?_))))))))
   obtain rfl := someI hM1
   exact n1 _ _ _ rfl ⟨_, _, rfl, rfl, e1_0, rfl, hst⟩
 ·refine condF (e0 rfl) (dF c15) (wp_exit (z18 _ _ _ rfl ?_))
  obtain rfl := someI hM1
  exact zz1 _ _ _ _ rfl rfl (je1_0 _ _ hst (ho1 _ rfl))

theorem matrix_columns_ok {x1 : Int} {x2 : Int} {x3 : List Int} {x5 : List Int} {x7 : List Int} {h4 : Hdr} {h6 : Hdr} {h8 : Hdr} {out : Bool} (hM : matrix_columns x1 x2 x3 x5 x7 = some out) (q1 : imm (rI .i64) h4.v x3 ∈ ros) (q2 : imm (rI .i64) h6.v x5 ∈ ros) (q3 : imm (rI .u64) h8.v x7 ∈ ros) (hst : St w0 ros (rs) w) :
  Calls Tryz.prog 136 #[.agg #[iV x1, iV x2, h4.v, h6.v, h8.v]] w (fun e w => e = .returned (.bool out) ∧ St w0 (ros) (rs) w) := by
 refine enterQ Tryz.func136 rfl Tryz.ntmps136 rfl fun Q hQ => seqQ fun Q1 k1 z1 => wR (YB wn rfl (r_box (vals := [iV x1, iV x2, h4.v, h6.v, h8.v]) hst (e0 rfl) rfl) ?_)
 intro b9 w hst
 refine Y wn rfl (ya (v := .bool false) rfl) (wN (k1 _ _ (seqQ fun Q2 k2 z2 => seqQ fun Q3 k3 z3 => ?_)))
 obtain ⟨r10, gr10, hM⟩ := bs hM
 obtain ⟨r11, gr11, hM⟩ := bs hM
 obtain ⟨r12, gr12, hM⟩ := bs hM
 obtain ⟨r13, gr13, hM⟩ := bs hM
 refine joinN (n := 84) (fun f w => f 1 = (pB b9) ∧ f 47 = .bool r13 ∧ St w0 (ros) (box b9 91 [iV x1, iV x2, h4.v, h6.v, h8.v] :: rs) w) (fun j1 => ?_) ?_
 ·rcases iteS gr10 with ⟨c15, gr10⟩ | ⟨c15, gr10⟩
  ·obtain ⟨x16, gx16, gr10⟩ := bs gr10
   have hr2 := someI gr10
   rcases iteS gr11 with ⟨c17, gr11⟩ | ⟨c17, gr11⟩
   ·have hr3 := someI gr11
    have c18 : r11 = true := hr3.symm
    rw [if_pos c18] at gr12
    have hr4 := someI gr12
    have c19 : r12 = true := hr4.symm
    rw [if_pos c19] at gr13
    have hr5 := someI gr13
    refine wp_drawR [0, 1, 3, 0, 8, 24, 63, 127, 255, 511, 1023, 2047, 4095, 8191, 16383, 32767, 65535, 131071, 262143, 524287, 1048575, 2097151, 4194303, 2097151, 10485759, 33554431, 67108863, 2097151, 136314879, 404750335, 1073741823, 2147483647, 4294967295, 8589934591, 17179869183, 34359738367, 8589934591, 77309411327, 214748364799, 549755813887, 1099511627775] [17] 1 folM (by kernel_rfl) (by kernel_rfl) (by kernel_rfl) ?_
    replace hst := hst.drew
    refine DRn (l1 := [0, 1, 2, 3, 4, 5, 6, 7, 8, 9, 10, 11, 12, 13, 14, 15, 16]) (l2 := []) (lc := [17]) (by kernel_rfl) (by kernel_rfl) (by kernel_rfl) (Ry rfl rfl wn (yFb FL_91_2 (e0 rfl)) (Ry rfl rfl wn (yLb (u := h4.v) O_22 (e0 rfl) hst mhR rfl) (Ry rfl rfl wn (yLen SL_22 (e0 rfl) hst (rdI q1)) (Ry rfl rfl wn (yFb FL_91_1 (e0 rfl)) (Ry rfl rfl wn (yLb (u := iV x2) O_3 (e0 rfl) hst mhR rfl) (Ry rfl rfl wn (yadd (e0 rfl) rfl) (Ry rfl rfl wn (yneq (e0 rfl) (e0 rfl)) (Ry rfl rfl wn (ym (v := .bool (!(decide ((x3.length : Int) = (wa .i64 x2 1))))) (e0 rfl)) (Ry rfl rfl (wg rfl rfl rfl (nF (dT c15))) (yFb FL_91_2 (e0 rfl)) (Ry rfl rfl (wg rfl rfl rfl (nF (dT c15))) (yLb (u := h4.v) O_22 (e0 rfl) hst mhR rfl) (Ry rfl rfl (wg rfl rfl rfl (nF (dT c15))) (yIa SL_22 (e0 rfl) rfl hst (rdI q1) gx16) (Ry rfl rfl (wg rfl rfl rfl (nF (dT c15))) (yI O_3 (e0 rfl) hst (rdI q1) gx16) (Ry rfl rfl (wg rfl rfl rfl (nF (dT c15))) (yneq (e0 rfl) rfl) ?_)))))))))))))
    refine Ry rfl rfl wn (ypf (v := .bool r10) (e0 rfl) (nF (dT c15)) (eqv hr2 (e0 rfl))) (Ry rfl rfl wn (ym (v := .bool r10) (e0 rfl)) (Rx rfl rfl (wx rfl rfl rfl c17) (Rx rfl rfl (wx rfl rfl rfl c17) (Rn QSn ?_))))
    refine Lc rfl ?_ LAn
    refine Lx (wx rfl rfl rfl c17) (DRz (l1 := [18, 19, 20, 21, 22, 23, 24, 25, 26, 27, 28, 29, 30, 31, 32, 33, 34, 35, 36, 37, 38, 39, 40]) (l2 := []) (by kernel_rfl) (by kernel_rfl) (Rx rfl rfl (wx rfl rfl rfl c17) (Ry rfl rfl wn (ypt (v := .bool r11) (e0 rfl) c17 (eqv hr3 rfl)) (Ry rfl rfl wn (ym (v := .bool r11) (e0 rfl)) (Rx rfl rfl (wx rfl rfl rfl c18) (Rx rfl rfl (wx rfl rfl rfl c18) (Rx rfl rfl (wx rfl rfl rfl c18) (Rx rfl rfl (wx rfl rfl rfl c18) (Rx rfl rfl (wx rfl rfl rfl c18) (Rx rfl rfl (wx rfl rfl rfl c18) (Rx rfl rfl (wx rfl rfl rfl c18) (Rx rfl rfl (wx rfl rfl rfl c18) (Rx rfl rfl (wx rfl rfl rfl c18) ?_)))))))))))))
    exact Rx rfl rfl (wx rfl rfl rfl c18) (Ry rfl rfl wn (ypt (v := .bool r12) (e0 rfl) c18 (eqv hr4 rfl)) (Ry rfl rfl wn (ym (v := .bool r12) (e0 rfl)) (Rx rfl rfl (wx rfl rfl rfl c19) (Rx rfl rfl (wx rfl rfl rfl c19) (Rx rfl rfl (wx rfl rfl rfl c19) (Rx rfl rfl (wx rfl rfl rfl c19) (Rx rfl rfl (wx rfl rfl rfl c19) (Rx rfl rfl (wx rfl rfl rfl c19) (Rx rfl rfl (wx rfl rfl rfl c19) (Ry rfl rfl wn (ypt (v := .bool r13) (e0 rfl) c19 (eqv hr5 rfl)) (Rn QSn (j1 _ _ ⟨rfl, rfl, hst⟩))))))))))))
   ·obtain ⟨r20, gr20, gr11⟩ := bs gr11
    have hr6 := someI gr11
    rcases iteS gr12 with ⟨c21, gr12⟩ | ⟨c21, gr12⟩
    ·have hr7 := someI gr12
     have c22 : r12 = true := hr7.symm
     rw [if_pos c22] at gr13
     have hr8 := someI gr13
     refine wp_drawR [0, 1, 3, 0, 8, 24, 63, 127, 255, 511, 1023, 2047, 4095, 8191, 16383, 32767, 65535, 131071, 262143, 524287, 1048575, 2097151, 4194303, 2097151, 10485759, 33554431, 67108863, 2097151, 136314879, 404750335, 1073741823, 2147483647, 4294967295, 8589934591, 17179869183, 34359738367, 8589934591, 77309411327, 214748364799, 549755813887, 1099511627775] [17] 1 folM (by kernel_rfl) (by kernel_rfl) (by kernel_rfl) ?_
     replace hst := hst.drew
     refine DRn (l1 := [0, 1, 2, 3, 4, 5, 6, 7, 8, 9, 10, 11, 12, 13, 14, 15, 16]) (l2 := []) (lc := [17]) (by kernel_rfl) (by kernel_rfl) (by kernel_rfl) (Ry rfl rfl wn (yFb FL_91_2 (e0 rfl)) (Ry rfl rfl wn (yLb (u := h4.v) O_22 (e0 rfl) hst mhR rfl) (Ry rfl rfl wn (yLen SL_22 (e0 rfl) hst (rdI q1)) (Ry rfl rfl wn (yFb FL_91_1 (e0 rfl)) (Ry rfl rfl wn (yLb (u := iV x2) O_3 (e0 rfl) hst mhR rfl) (Ry rfl rfl wn (yadd (e0 rfl) rfl) (Ry rfl rfl wn (yneq (e0 rfl) (e0 rfl)) (Ry rfl rfl wn (ym (v := .bool (!(decide ((x3.length : Int) = (wa .i64 x2 1))))) (e0 rfl)) (Ry rfl rfl (wg rfl rfl rfl (nF (dT c15))) (yFb FL_91_2 (e0 rfl)) (Ry rfl rfl (wg rfl rfl rfl (nF (dT c15))) (yLb (u := h4.v) O_22 (e0 rfl) hst mhR rfl) (Ry rfl rfl (wg rfl rfl rfl (nF (dT c15))) (yIa SL_22 (e0 rfl) rfl hst (rdI q1) gx16) (Ry rfl rfl (wg rfl rfl rfl (nF (dT c15))) (yI O_3 (e0 rfl) hst (rdI q1) gx16) (Ry rfl rfl (wg rfl rfl rfl (nF (dT c15))) (yneq (e0 rfl) rfl) ?_)))))))))))))
     refine Ry rfl rfl wn (ypf (v := .bool r10) (e0 rfl) (nF (dT c15)) (eqv hr2 (e0 rfl))) (Ry rfl rfl wn (ym (v := .bool r10) (e0 rfl)) (Ry rfl rfl (wg rfl rfl rfl (bfalse c17)) (yFb FL_91_2 (e0 rfl)) (Ry rfl rfl (wg rfl rfl rfl (bfalse c17)) (yLb (u := h4.v) O_22 (e0 rfl) hst mhR rfl) (Rn QSn ?_))))
     refine Lc rfl ?_ LAn
     refine Lk (wg rfl rfl rfl (bfalse c17)) (yCall FN_153 (a1 (e0 rfl))) (slices_IsSorted_int_ok (hM := gr20) (hst := hst) (q1 := q1)) ?_
     rintro _ w ⟨rfl, hst⟩
     refine ⟨_, rfl, ?_⟩
     refine DRz (l1 := [18, 19, 20, 21, 22, 23, 24, 25, 26, 27, 28, 29, 30, 31, 32, 33, 34, 35, 36, 37, 38, 39, 40]) (l2 := []) (by kernel_rfl) (by kernel_rfl) (Ry rfl rfl (wg rfl rfl rfl (bfalse c17)) (ynot (e0 rfl)) (Ry rfl rfl wn (ypf (v := .bool r11) (e0 rfl) (bfalse c17) (eqv hr6 (e0 rfl))) (Ry rfl rfl wn (ym (v := .bool r11) (e0 rfl)) (Rx rfl rfl (wx rfl rfl rfl c21) (Rx rfl rfl (wx rfl rfl rfl c21) (Rx rfl rfl (wx rfl rfl rfl c21) (Rx rfl rfl (wx rfl rfl rfl c21) (Rx rfl rfl (wx rfl rfl rfl c21) (Rx rfl rfl (wx rfl rfl rfl c21) (Rx rfl rfl (wx rfl rfl rfl c21) (Rx rfl rfl (wx rfl rfl rfl c21) (Rx rfl rfl (wx rfl rfl rfl c21) (Rx rfl rfl (wx rfl rfl rfl c21) ?_)))))))))))))
     exact Ry rfl rfl wn (ypt (v := .bool r12) (e0 rfl) c21 (eqv hr7 rfl)) (Ry rfl rfl wn (ym (v := .bool r12) (e0 rfl)) (Rx rfl rfl (wx rfl rfl rfl c22) (Rx rfl rfl (wx rfl rfl rfl c22) (Rx rfl rfl (wx rfl rfl rfl c22) (Rx rfl rfl (wx rfl rfl rfl c22) (Rx rfl rfl (wx rfl rfl rfl c22) (Rx rfl rfl (wx rfl rfl rfl c22) (Rx rfl rfl (wx rfl rfl rfl c22) (Ry rfl rfl wn (ypt (v := .bool r13) (e0 rfl) c22 (eqv hr8 rfl)) (Rn QSn (j1 _ _ ⟨rfl, rfl, hst⟩)))))))))))
    ·obtain ⟨x23, gx23, gr12⟩ := bs gr12
     have hr9 := someI gr12
     rcases iteS gr13 with ⟨c24, gr13⟩ | ⟨c24, gr13⟩
     ·have hr10 := someI gr13
      refine wp_drawR [0, 1, 3, 0, 8, 24, 63, 127, 255, 511, 1023, 2047, 4095, 8191, 16383, 32767, 65535, 131071, 262143, 524287, 1048575, 2097151, 4194303, 2097151, 10485759, 33554431, 67108863, 2097151, 136314879, 404750335, 1073741823, 2147483647, 4294967295, 8589934591, 17179869183, 34359738367, 8589934591, 77309411327, 214748364799, 549755813887, 1099511627775] [17] 1 folM (by kernel_rfl) (by kernel_rfl) (by kernel_rfl) ?_
      replace hst := hst.drew
      refine DRn (l1 := [0, 1, 2, 3, 4, 5, 6, 7, 8, 9, 10, 11, 12, 13, 14, 15, 16]) (l2 := []) (lc := [17]) (by kernel_rfl) (by kernel_rfl) (by kernel_rfl) (Ry rfl rfl wn (yFb FL_91_2 (e0 rfl)) (Ry rfl rfl wn (yLb (u := h4.v) O_22 (e0 rfl) hst mhR rfl) (Ry rfl rfl wn (yLen SL_22 (e0 rfl) hst (rdI q1)) (Ry rfl rfl wn (yFb FL_91_1 (e0 rfl)) (Ry rfl rfl wn (yLb (u := iV x2) O_3 (e0 rfl) hst mhR rfl) (Ry rfl rfl wn (yadd (e0 rfl) rfl) (Ry rfl rfl wn (yneq (e0 rfl) (e0 rfl)) (Ry rfl rfl wn (ym (v := .bool (!(decide ((x3.length : Int) = (wa .i64 x2 1))))) (e0 rfl)) (Ry rfl rfl (wg rfl rfl rfl (nF (dT c15))) (yFb FL_91_2 (e0 rfl)) (Ry rfl rfl (wg rfl rfl rfl (nF (dT c15))) (yLb (u := h4.v) O_22 (e0 rfl) hst mhR rfl) (Ry rfl rfl (wg rfl rfl rfl (nF (dT c15))) (yIa SL_22 (e0 rfl) rfl hst (rdI q1) gx16) (Ry rfl rfl (wg rfl rfl rfl (nF (dT c15))) (yI O_3 (e0 rfl) hst (rdI q1) gx16) (Ry rfl rfl (wg rfl rfl rfl (nF (dT c15))) (yneq (e0 rfl) rfl) ?_)))))))))))))
      refine Ry rfl rfl wn (ypf (v := .bool r10) (e0 rfl) (nF (dT c15)) (eqv hr2 (e0 rfl))) (Ry rfl rfl wn (ym (v := .bool r10) (e0 rfl)) (Ry rfl rfl (wg rfl rfl rfl (bfalse c17)) (yFb FL_91_2 (e0 rfl)) (Ry rfl rfl (wg rfl rfl rfl (bfalse c17)) (yLb (u := h4.v) O_22 (e0 rfl) hst mhR rfl) (Rn QSn ?_))))
      refine Lc rfl ?_ LAn
      refine Lk (wg rfl rfl rfl (bfalse c17)) (yCall FN_153 (a1 (e0 rfl))) (slices_IsSorted_int_ok (hM := gr20) (hst := hst) (q1 := q1)) ?_
      rintro _ w ⟨rfl, hst⟩
      refine ⟨_, rfl, ?_⟩
      refine DRz (l1 := [18, 19, 20, 21, 22, 23, 24, 25, 26, 27, 28, 29, 30, 31, 32, 33, 34, 35, 36, 37, 38, 39, 40]) (l2 := []) (by kernel_rfl) (by kernel_rfl) (Ry rfl rfl (wg rfl rfl rfl (bfalse c17)) (ynot (e0 rfl)) (Ry rfl rfl wn (ypf (v := .bool r11) (e0 rfl) (bfalse c17) (eqv hr6 (e0 rfl))) (Ry rfl rfl wn (ym (v := .bool r11) (e0 rfl)) (Ry rfl rfl (wg rfl rfl rfl (bfalse c21)) (yFb FL_91_2 (e0 rfl)) (Ry rfl rfl (wg rfl rfl rfl (bfalse c21)) (yLb (u := h4.v) O_22 (e0 rfl) hst mhR rfl) (Ry rfl rfl (wg rfl rfl rfl (bfalse c21)) (yFb FL_91_1 (e0 rfl)) (Ry rfl rfl (wg rfl rfl rfl (bfalse c21)) (yLb (u := iV x2) O_3 (e0 rfl) hst mhR rfl) (Ry rfl rfl (wg rfl rfl rfl (bfalse c21)) (yIa SL_22 (e0 rfl) (e0 rfl) hst (rdI q1) gx23) (Ry rfl rfl (wg rfl rfl rfl (bfalse c21)) (yI O_3 (e0 rfl) hst (rdI q1) gx23) (Ry rfl rfl (wg rfl rfl rfl (bfalse c21)) (yFb FL_91_3 (e0 rfl)) (Ry rfl rfl (wg rfl rfl rfl (bfalse c21)) (yLb (u := h6.v) O_22 (e0 rfl) hst mhR rfl) (Ry rfl rfl (wg rfl rfl rfl (bfalse c21)) (yLen SL_22 (e0 rfl) hst (rdI q2)) (Ry rfl rfl (wg rfl rfl rfl (bfalse c21)) (yneq (e0 rfl) (e0 rfl)) ?_)))))))))))))
      exact Ry rfl rfl wn (ypf (v := .bool r12) (e0 rfl) (bfalse c21) (eqv hr9 (e0 rfl))) (Ry rfl rfl wn (ym (v := .bool r12) (e0 rfl)) (Rx rfl rfl (wx rfl rfl rfl c24) (Rx rfl rfl (wx rfl rfl rfl c24) (Rx rfl rfl (wx rfl rfl rfl c24) (Rx rfl rfl (wx rfl rfl rfl c24) (Rx rfl rfl (wx rfl rfl rfl c24) (Rx rfl rfl (wx rfl rfl rfl c24) (Rx rfl rfl (wx rfl rfl rfl c24) (Ry rfl rfl wn (ypt (v := .bool r13) (e0 rfl) c24 (eqv hr10 rfl)) (Rn QSn (j1 _ _ ⟨rfl, rfl, hst⟩)))))))))))
     ·have hr11 := someI gr13
      refine wp_drawR [0, 1, 3, 0, 8, 24, 63, 127, 255, 511, 1023, 2047, 4095, 8191, 16383, 32767, 65535, 131071, 262143, 524287, 1048575, 2097151, 4194303, 2097151, 10485759, 33554431, 67108863, 2097151, 136314879, 404750335, 1073741823, 2147483647, 4294967295, 8589934591, 17179869183, 34359738367, 8589934591, 77309411327, 214748364799, 549755813887, 1099511627775] [17] 1 folM (by kernel_rfl) (by kernel_rfl) (by kernel_rfl) ?_
      replace hst := hst.drew
      refine DRn (l1 := [0, 1, 2, 3, 4, 5, 6, 7, 8, 9, 10, 11, 12, 13, 14, 15, 16]) (l2 := []) (lc := [17]) (by kernel_rfl) (by kernel_rfl) (by kernel_rfl) (Ry rfl rfl wn (yFb FL_91_2 (e0 rfl)) (Ry rfl rfl wn (yLb (u := h4.v) O_22 (e0 rfl) hst mhR rfl) (Ry rfl rfl wn (yLen SL_22 (e0 rfl) hst (rdI q1)) (Ry rfl rfl wn (yFb FL_91_1 (e0 rfl)) (Ry rfl rfl wn (yLb (u := iV x2) O_3 (e0 rfl) hst mhR rfl) (Ry rfl rfl wn (yadd (e0 rfl) rfl) (Ry rfl rfl wn (yneq (e0 rfl) (e0 rfl)) (Ry rfl rfl wn (ym (v := .bool (!(decide ((x3.length : Int) = (wa .i64 x2 1))))) (e0 rfl)) (Ry rfl rfl (wg rfl rfl rfl (nF (dT c15))) (yFb FL_91_2 (e0 rfl)) (Ry rfl rfl (wg rfl rfl rfl (nF (dT c15))) (yLb (u := h4.v) O_22 (e0 rfl) hst mhR rfl) (Ry rfl rfl (wg rfl rfl rfl (nF (dT c15))) (yIa SL_22 (e0 rfl) rfl hst (rdI q1) gx16) (Ry rfl rfl (wg rfl rfl rfl (nF (dT c15))) (yI O_3 (e0 rfl) hst (rdI q1) gx16) (Ry rfl rfl (wg rfl rfl rfl (nF (dT c15))) (yneq (e0 rfl) rfl) ?_)))))))))))))
      refine Ry rfl rfl wn (ypf (v := .bool r10) (e0 rfl) (nF (dT c15)) (eqv hr2 (e0 rfl))) (Ry rfl rfl wn (ym (v := .bool r10) (e0 rfl)) (Ry rfl rfl (wg rfl rfl rfl (bfalse c17)) (yFb FL_91_2 (e0 rfl)) (Ry rfl rfl (wg rfl rfl rfl (bfalse c17)) (yLb (u := h4.v) O_22 (e0 rfl) hst mhR rfl) (Rn QSn ?_))))
      refine Lc rfl ?_ LAn
      refine Lk (wg rfl rfl rfl (bfalse c17)) (yCall FN_153 (a1 (e0 rfl))) (slices_IsSorted_int_ok (hM := gr20) (hst := hst) (q1 := q1)) ?_
      rintro _ w ⟨rfl, hst⟩
      refine ⟨_, rfl, ?_⟩
      refine DRz (l1 := [18, 19, 20, 21, 22, 23, 24, 25, 26, 27, 28, 29, 30, 31, 32, 33, 34, 35, 36, 37, 38, 39, 40]) (l2 := []) (by kernel_rfl) (by kernel_rfl) (Ry rfl rfl (wg rfl rfl rfl (bfalse c17)) (ynot (e0 rfl)) (Ry rfl rfl wn (ypf (v := .bool r11) (e0 rfl) (bfalse c17) (eqv hr6 (e0 rfl))) (Ry rfl rfl wn (ym (v := .bool r11) (e0 rfl)) (Ry rfl rfl (wg rfl rfl rfl (bfalse c21)) (yFb FL_91_2 (e0 rfl)) (Ry rfl rfl (wg rfl rfl rfl (bfalse c21)) (yLb (u := h4.v) O_22 (e0 rfl) hst mhR rfl) (Ry rfl rfl (wg rfl rfl rfl (bfalse c21)) (yFb FL_91_1 (e0 rfl)) (Ry rfl rfl (wg rfl rfl rfl (bfalse c21)) (yLb (u := iV x2) O_3 (e0 rfl) hst mhR rfl) (Ry rfl rfl (wg rfl rfl rfl (bfalse c21)) (yIa SL_22 (e0 rfl) (e0 rfl) hst (rdI q1) gx23) (Ry rfl rfl (wg rfl rfl rfl (bfalse c21)) (yI O_3 (e0 rfl) hst (rdI q1) gx23) (Ry rfl rfl (wg rfl rfl rfl (bfalse c21)) (yFb FL_91_3 (e0 rfl)) (Ry rfl rfl (wg rfl rfl rfl (bfalse c21)) (yLb (u := h6.v) O_22 (e0 rfl) hst mhR rfl) (Ry rfl rfl (wg rfl rfl rfl (bfalse c21)) (yLen SL_22 (e0 rfl) hst (rdI q2)) (Ry rfl rfl (wg rfl rfl rfl (bfalse c21)) (yneq (e0 rfl) (e0 rfl)) ?_)))))))))))))
      exact Ry rfl rfl wn (ypf (v := .bool r12) (e0 rfl) (bfalse c21) (eqv hr9 (e0 rfl))) (Ry rfl rfl wn (ym (v := .bool r12) (e0 rfl)) (Ry rfl rfl (wg rfl rfl rfl (bfalse c24)) (yFb FL_91_3 (e0 rfl)) (Ry rfl rfl (wg rfl rfl rfl (bfalse c24)) (yLb (u := h6.v) O_22 (e0 rfl) hst mhR rfl) (Ry rfl rfl (wg rfl rfl rfl (bfalse c24)) (yLen SL_22 (e0 rfl) hst (rdI q2)) (Ry rfl rfl (wg rfl rfl rfl (bfalse c24)) (yFb FL_91_4 (e0 rfl)) (Ry rfl rfl (wg rfl rfl rfl (bfalse c24)) (yLb (u := h8.v) O_89 (e0 rfl) hst mhR rfl) (Ry rfl rfl (wg rfl rfl rfl (bfalse c24)) (yLen SL_89 (e0 rfl) hst (rdI q3)) (Ry rfl rfl (wg rfl rfl rfl (bfalse c24)) (yneq (e0 rfl) (e0 rfl)) (Ry rfl rfl wn (ypf (v := .bool r13) (e0 rfl) (bfalse c24) (eqv hr11 (e0 rfl))) (Rn QSn (j1 _ _ ⟨rfl, rfl, hst⟩)))))))))))
  ·have hr12 := someI gr10
   have c25 : r10 = true := hr12.symm
   rw [if_pos c25] at gr11
   have hr13 := someI gr11
   have c26 : r11 = true := hr13.symm
   rw [if_pos c26] at gr12
   have hr14 := someI gr12
   have c27 : r12 = true := hr14.symm
   rw [if_pos c27] at gr13
   have hr15 := someI gr13
   refine wp_drawR [0, 1, 3, 0, 8, 24, 63, 127, 255, 511, 1023, 2047, 4095, 8191, 16383, 32767, 65535, 131071, 262143, 524287, 1048575, 2097151, 4194303, 2097151, 10485759, 33554431, 67108863, 2097151, 136314879, 404750335, 1073741823, 2147483647, 4294967295, 8589934591, 17179869183, 34359738367, 8589934591, 77309411327, 214748364799, 549755813887, 1099511627775] [17] 1 folM (by kernel_rfl) (by kernel_rfl) (by kernel_rfl) ?_
   replace hst := hst.drew
   refine DRn (l1 := [0, 1, 2, 3, 4, 5, 6, 7, 8, 9, 10, 11, 12, 13, 14, 15, 16]) (l2 := []) (lc := [17]) (by kernel_rfl) (by kernel_rfl) (by kernel_rfl) (Ry rfl rfl wn (yFb FL_91_2 (e0 rfl)) (Ry rfl rfl wn (yLb (u := h4.v) O_22 (e0 rfl) hst mhR rfl) (Ry rfl rfl wn (yLen SL_22 (e0 rfl) hst (rdI q1)) (Ry rfl rfl wn (yFb FL_91_1 (e0 rfl)) (Ry rfl rfl wn (yLb (u := iV x2) O_3 (e0 rfl) hst mhR rfl) (Ry rfl rfl wn (yadd (e0 rfl) rfl) (Ry rfl rfl wn (yneq (e0 rfl) (e0 rfl)) (Ry rfl rfl wn (ym (v := .bool (!(decide ((x3.length : Int) = (wa .i64 x2 1))))) (e0 rfl)) (Rx rfl rfl (wx rfl rfl rfl (nT (dF c15))) (Rx rfl rfl (wx rfl rfl rfl (nT (dF c15))) (Rx rfl rfl (wx rfl rfl rfl (nT (dF c15))) (Rx rfl rfl (wx rfl rfl rfl (nT (dF c15))) (Rx rfl rfl (wx rfl rfl rfl (nT (dF c15))) ?_)))))))))))))
   refine Ry rfl rfl wn (ypt (v := .bool r10) (e0 rfl) (nT (dF c15)) (eqv hr12 rfl)) (Ry rfl rfl wn (ym (v := .bool r10) (e0 rfl)) (Rx rfl rfl (wx rfl rfl rfl c25) (Rx rfl rfl (wx rfl rfl rfl c25) (Rn QSn ?_))))
   refine Lc rfl ?_ LAn
   refine Lx (wx rfl rfl rfl c25) (DRz (l1 := [18, 19, 20, 21, 22, 23, 24, 25, 26, 27, 28, 29, 30, 31, 32, 33, 34, 35, 36, 37, 38, 39, 40]) (l2 := []) (by kernel_rfl) (by kernel_rfl) (Rx rfl rfl (wx rfl rfl rfl c25) (Ry rfl rfl wn (ypt (v := .bool r11) (e0 rfl) c25 (eqv hr13 rfl)) (Ry rfl rfl wn (ym (v := .bool r11) (e0 rfl)) (Rx rfl rfl (wx rfl rfl rfl c26) (Rx rfl rfl (wx rfl rfl rfl c26) (Rx rfl rfl (wx rfl rfl rfl c26) (Rx rfl rfl (wx rfl rfl rfl c26) (Rx rfl rfl (wx rfl rfl rfl c26) (Rx rfl rfl (wx rfl rfl rfl c26) (Rx rfl rfl (wx rfl rfl rfl c26) (Rx rfl rfl (wx rfl rfl rfl c26) (Rx rfl rfl (wx rfl rfl rfl c26) ?_)))))))))))))
   exact Rx rfl rfl (wx rfl rfl rfl c26) (Ry rfl rfl wn (ypt (v := .bool r12) (e0 rfl) c26 (eqv hr14 rfl)) (Ry rfl rfl wn (ym (v := .bool r12) (e0 rfl)) (Rx rfl rfl (wx rfl rfl rfl c27) (Rx rfl rfl (wx rfl rfl rfl c27) (Rx rfl rfl (wx rfl rfl rfl c27) (Rx rfl rfl (wx rfl rfl rfl c27) (Rx rfl rfl (wx rfl rfl rfl c27) (Rx rfl rfl (wx rfl rfl rfl c27) (Rx rfl rfl (wx rfl rfl rfl c27) (Ry rfl rfl wn (ypt (v := .bool r13) (e0 rfl) c27 (eqv hr15 rfl)) (Rn QSn (j1 _ _ ⟨rfl, rfl, hst⟩))))))))))))
 rintro f w ⟨e14_1, e14_47, hst⟩
 refine k3 _ _ ?_
 rcases iteS hM with ⟨c28, hM⟩ | ⟨c28, hM⟩
 ·refine condT (et rfl e14_47) c28 (seqQ fun Q4 k4 z4 => wR (Y wn rfl (ya (v := .bool false) rfl) (wN (k4 _ _ (wp_ret (z2 _ _ _ rfl ?_))))))
  obtain rfl := someI hM
  exact hQ _ _ _ (fin1r Tryz.results136 ⟨rfl, rfl⟩ ⟨rfl, (hst.pk 1 [] rfl)⟩)
 ·refine condF (et rfl e14_47) (bfalse c28) (wp_skip (k2 _ _ (seqQ fun Q5 k5 z5 => seqQ fun Q6 k6 z6 => wR (Y wn rfl (yFb FL_91_1 (et rfl e14_1)) (Y wn rfl (yLb (u := iV x2) O_3 (e0 rfl) hst mhR rfl) (Y wn rfl (ym (v := iV 0) rfl) (wN (k6 _ _ (blockQ fun Q7 qb7 => ?_)))))))))
  obtain ⟨o24, go24, hM⟩ := bs hM
  have je24_0 : ∀ (f : Nat → Value) (w : World), St w0 (ros) (rs) w → .inl () = o24 → Q7 (.exit 0) (fr 84 f) w := by
   intro f w hst ho
   subst ho
   refine qb7 _ _ _ (k5 _ _ (seqQ fun Q72 k72 z72 => wR (Y wn rfl (ya (v := .bool true) rfl) (wN (k72 _ _ (wp_ret ?_))))))
   obtain rfl := someI hM
   exact hQ _ _ _ (fin1r Tryz.results136 ⟨rfl, rfl⟩ ⟨rfl, hst⟩)
  have je24_1 : ∀ (f : Nat → Value) (w : World), f 2 = .bool false → St w0 (ros) (rs) w → .inr () = o24 → Q7 .ret (fr 84 f) w := by
   intro f w eje24_1_2 hst ho
   subst ho
   refine qb7 _ _ _ (z5 _ _ _ rfl ?_)
   obtain rfl := someI hM
   exact hQ _ _ _ (fin1r Tryz.results136 ⟨rfl, eje24_1_2⟩ ⟨rfl, hst⟩)
  refine loopQ (fun s a w => ∃ (x52 : Int) (f : Nat → Value), x52 = s ∧ a = fr 84 f ∧ f 1 = (pB b9) ∧ f 49 = iV x2 ∧ f 50 = iV x52 ∧ St w0 (ros) (box b9 91 [iV x1, iV x2, h4.v, h6.v, h8.v] :: rs) w) go24 ⟨_, _, rfl, rfl, e14_1, rfl, rfl, hst⟩ ?_
  rintro _ _ w r24_ ⟨x52, f, rfl, rfl, e24_1, e24_49, e24_50, hst⟩ hM24 ho24 Q100024 n24 zz24
  refine seqQ fun Q73 k73 z73 => wR (Y wn rfl (ylss (et rfl e24_50) (et rfl e24_49)) (wN (k73 _ _ (seqQ fun Q74 k74 z74 => ?_))))
  rcases iteS hM24 with ⟨c77, hM24⟩ | ⟨c77, hM24⟩
  ·refine condT (e0 rfl) (dT c77) (wp_skip (k74 _ _ (seqQ fun Q75 k75 z75 => blockQ fun Q76 qb76 => seqQ fun Q77 k77 z77 => wR (Y wn rfl (ym (v := iV x52) (et rfl e24_50)) (Y wn rfl (ya (v := iV x52) (e0 rfl)) (wN (k77 _ _ (seqQ fun Q78 k78 z78 => wR (Y wn rfl (ya (v := iV (-1)) rfl) ?_)))))))))
   refine wN (k78 _ _ (seqQ fun Q79 k79 z79 => ?_))
   obtain ⟨x78, gx78, hM24⟩ := bs hM24
   obtain ⟨x79, gx79, hM24⟩ := bs hM24
   obtain ⟨x80, gx80, hM24⟩ := bs hM24
   refine wp_drawR [0, 1, 0, 4, 0, 28, 60, 0, 128, 0, 512, 1920, 3968, 8191, 16383, 0] [] 0 folM (by kernel_rfl) (by kernel_rfl) (by kernel_rfl) ?_
   replace hst := hst.drew
   refine DRz (l1 := [0, 1, 2, 3, 4, 5, 6, 7, 8, 9, 10, 11, 12, 13, 14, 15]) (l2 := []) (by kernel_rfl) (by kernel_rfl) (Ry rfl rfl wn (yFb FL_91_3 (et rfl e24_1)) (Ry rfl rfl wn (yLb (u := h6.v) O_22 (e0 rfl) hst mhR rfl) (Ry rfl rfl wn (yFb FL_91_2 (et rfl e24_1)) (Ry rfl rfl wn (yLb (u := h4.v) O_22 (e0 rfl) hst mhR rfl) (Ry rfl rfl wn (ym (v := iV x52) (e0 rfl)) (Ry rfl rfl wn (yIa SL_22 (e0 rfl) (e0 rfl) hst (rdI q1) gx78) (Ry rfl rfl wn (yI O_3 (e0 rfl) hst (rdI q1) gx78) (Ry rfl rfl wn (yFb FL_91_2 (et rfl e24_1)) (Ry rfl rfl wn (yLb (u := h4.v) O_22 (e0 rfl) hst mhR rfl) (Ry rfl rfl wn (ym (v := iV x52) (e0 rfl)) (Ry rfl rfl wn (yadd (e0 rfl) rfl) (Ry rfl rfl wn (yIa SL_22 (e0 rfl) (e0 rfl) hst (rdI q1) gx79) (Ry rfl rfl wn (yI O_3 (e0 rfl) hst (rdI q1) gx79) ?_)))))))))))))
   refine Ry rfl rfl wn (ySl SL_22 (e0 rfl) hst (rdI q2) (.inl (congrArg some (e0 rfl))) (.inl (congrArg some (e0 rfl))) gx80) ?_
   replace hst := hst.sub q2 gx80
   refine Ry rfl rfl wn (yLen SL_22 (e0 rfl) hst (rdI mhF)) (Ry rfl rfl wn (ym (v := iV 0) rfl) (Rn QSn (k79 _ _ (blockQ fun Q80 qb80 => ?_))))
   obtain ⟨o27, go27, hM24⟩ := bs hM24
   have je27_0 : ∀ (f : Nat → Value) (w : World), f 1 = (pB b9) → f 49 = iV x2 → f 50 = iV x52 → St w0 (ros) (box b9 91 [iV x1, iV x2, h4.v, h6.v, h8.v] :: rs) w → .inl () = o27 → Q80 (.exit 2) (fr 84 f) w := by
    intro f w eje27_0_1 eje27_0_49 eje27_0_50 hst ho
    subst ho
    refine qb80 _ _ _ (qb76 _ _ _ (k75 _ _ (wR (Y wn rfl (yadd (et rfl eje27_0_50) rfl) (Y wn rfl (ym (v := iV (wa .i64 x52 1)) (e0 rfl)) (wN ?_))))))
    obtain rfl := someI hM24
    exact n24 _ _ _ rfl ⟨_, _, rfl, rfl, eje27_0_1, eje27_0_49, rfl, hst⟩
   have je27_1 : ∀ (f : Nat → Value) (w : World), f 2 = .bool false → St w0 (ros) (rs) w → .inr () = o27 → Q80 .ret (fr 84 f) w := by
    intro f w eje27_1_2 hst ho
    subst ho
    refine qb80 _ _ _ (qb76 _ _ _ (z75 _ _ _ rfl ?_))
    obtain rfl := someI hM24
    exact zz24 _ _ _ _ rfl rfl (je24_1 _ _ eje27_1_2 hst (ho24 _ rfl))
   refine loopQ (fun s a w => ∃ (x86 : Int) (x87 : Int) (f : Nat → Value), (x86, x87) = s ∧ a = fr 84 f ∧ f 1 = (pB b9) ∧ f 4 = iV x86 ∧ f 49 = iV x2 ∧ f 50 = iV x52 ∧ f 66 = (subH h6 1 x78 x79).v ∧ f 67 = iV (x80.length : Int) ∧ f 68 = iV x87 ∧ St w0 (imm (rI .i64) (subH h6 1 x78 x79).v x80 :: ros) (box b9 91 [iV x1, iV x2, h4.v, h6.v, h8.v] :: rs) w) go27 ⟨_, _, _, rfl, rfl, e24_1, rfl, e24_49, e24_50, rfl, rfl, rfl, hst⟩ ?_
   rintro _ _ w r27_ ⟨x86, x87, f, rfl, rfl, e27_1, e27_4, e27_49, e27_50, e27_66, e27_67, e27_68, hst⟩ hM27 ho27 Q100027 n27 zz27
   refine seqQ fun Q97 k97 z97 => wR (Y wn rfl (ylss (et rfl e27_68) (et rfl e27_67)) (wN (k97 _ _ (seqQ fun Q98 k98 z98 => ?_))))
   rcases iteS hM27 with ⟨c95, hM27⟩ | ⟨c95, hM27⟩
   ·refine condT (e0 rfl) (dT c95) (wp_skip (k98 _ _ (seqQ fun Q99 k99 z99 => blockQ fun Q100 qb100 => seqQ fun Q101 k101 z101 => wR ?_)))
    obtain ⟨x96, gx96, hM27⟩ := bs hM27
    refine Y wn rfl (yIa SL_22 (et rfl e27_66) (et rfl e27_68) hst (rdI mhF) gx96) (Y wn rfl (yI O_3 (e0 rfl) hst (rdI mhF) gx96) (Y wn rfl (ya (v := iV x96) (e0 rfl)) (wN (k101 _ _ (seqQ fun Q102 k102 z102 => seqQ fun Q103 k103 z103 => wR (Y wn rfl (ym (v := iV x96) (e0 rfl)) (Y wn rfl (ym (v := iV x86) (et rfl e27_4)) (Y wn rfl (yleq (e0 rfl) (e0 rfl)) (Y wn rfl (ym (v := .bool (decide (x96 ≤ x86))) (e0 rfl)) ?_)))))))))
    refine joinW 5 (fun f w => f 1 = (pB b9) ∧ f 6 = iV x96 ∧ f 49 = iV x2 ∧ f 50 = iV x52 ∧ f 66 = (subH h6 1 x78 x79).v ∧ f 67 = iV (x80.length : Int) ∧ f 68 = iV x87 ∧ f 80 = .bool ((decide (x96 ≤ x86)) || (decide (x1 ≤ x96))) ∧ St w0 (imm (rI .i64) (subH h6 1 x78 x79).v x80 :: ros) (box b9 91 [iV x1, iV x2, h4.v, h6.v, h8.v] :: rs) w) (fun j28 => ?_) ?_
    ·rcases Bool.eq_false_or_eq_true (decide (x96 ≤ x86)) with c98 | c98
     ·exact Gn (wx rfl rfl rfl c98) rfl (Gn (wx rfl rfl rfl c98) rfl (Gn (wx rfl rfl rfl c98) rfl (Gn (wx rfl rfl rfl c98) rfl (Y wn rfl (ypt (v := .bool true) (e0 rfl) c98 rfl) (j28 _ _ ⟨e27_1, rfl, e27_49, e27_50, e27_66, e27_67, e27_68, (congrArg Value.bool (orT c98)), hst⟩)))))
     ·exact Y (wg rfl rfl rfl c98) rfl (ym (v := iV x96) (e0 rfl)) (Y (wg rfl rfl rfl c98) rfl (yFb FL_91_0 (et rfl e27_1)) (Y (wg rfl rfl rfl c98) rfl (yLb (u := iV x1) O_3 (e0 rfl) hst mhR rfl) (Y (wg rfl rfl rfl c98) rfl (ygeq (e0 rfl) (e0 rfl)) (Y wn rfl (ypf (v := .bool (decide (x1 ≤ x96))) (e0 rfl) c98 (e0 rfl)) (j28 _ _ ⟨e27_1, rfl, e27_49, e27_50, e27_66, e27_67, e27_68, (congrArg Value.bool (orF c98)), hst⟩)))))
    rintro f w ⟨e97_1, e97_6, e97_49, e97_50, e97_66, e97_67, e97_68, e97_80, hst⟩
    refine wN (k103 _ _ ?_)
    rcases iteS hM27 with ⟨c99, hM27⟩ | ⟨c99, hM27⟩
    ·refine condT (et rfl e97_80) c99 (seqQ fun Q104 k104 z104 => wR (Y wn rfl (ya (v := .bool false) rfl) (wN (k104 _ _ (wp_ret (z102 _ _ _ rfl (qb100 _ _ _ (z99 _ _ _ rfl ?_))))))))
     obtain rfl := someI hM27
     exact zz27 _ _ _ _ rfl rfl (je27_1 _ _ rfl ((hst.pk 1 [] rfl).facts (allT allI)) (ho27 _ rfl))
    ·refine condF (et rfl e97_80) (bfalse c99) (wp_skip (k102 _ _ (wR (Y wn rfl (ym (v := iV x96) (et rfl e97_6)) (Y wn rfl (ya (v := iV x96) (e0 rfl)) (wN (qb100 _ _ _ (k99 _ _ (wR (Y wn rfl (yadd (et rfl e97_68) rfl) (Y wn rfl (ym (v := iV (wa .i64 x87 1)) (e0 rfl)) (wN ?_))))))))))))
     obtain rfl := someI hM27
     exact n27 _ _ _ rfl ⟨_, _, _, rfl, rfl, e97_1, rfl, e97_49, e97_50, e97_66, e97_67, rfl, hst⟩
   ·refine condF (e0 rfl) (dF c95) (wp_exit (z98 _ _ _ rfl ?_))
    obtain rfl := someI hM27
    exact zz27 _ _ _ _ rfl rfl (je27_0 _ _ e27_1 e27_49 e27_50 (hst.facts (allT allI)) (ho27 _ rfl))
  ·refine condF (e0 rfl) (dF c77) (wp_exit (z74 _ _ _ rfl ?_))
   obtain rfl := someI hM24
   exact zz24 _ _ _ _ rfl rfl (je24_0 _ _ (hst.pk 1 [] rfl) (ho24 _ rfl))

theorem float_parts_ok {x1 : Int} {out : Int × Int} (hM : float_parts x1 = some out) (hst : St w0 ros (rs) w) :
  Calls Tryz.prog 155 #[.int .u64 x1] w (fun e w => e = .returned (.tuple #[iV out.1, .int .u64 out.2]) ∧ St w0 (ros) (rs) w) := by
 refine enterQ Tryz.func155 rfl Tryz.ntmps155 rfl fun Q hQ => seqQ fun Q1 k1 z1 => wR (Y wn rfl (ya (v := iV 0) rfl) (Y wn rfl (ya (v := .int .u64 0) rfl) (wN (k1 _ _ (seqQ fun Q2 k2 z2 => wR (Y wn rfl (ym (v := .int .u64 x1) (e0 rfl)) (Y wn rfl (yshrc (e0 rfl) rfl) (Y wn rfl (yand (e0 rfl) rfl) (Y wn rfl (ycv (k' := .i64) (by kernel_rfl) (by kernel_rfl) (e0 rfl)) (Y wn rfl (ym (v := .int .u64 x1) (e0 rfl)) ?_))))))))))
 refine Y wn rfl (yand (e0 rfl) rfl) (Y wn rfl (ya (v := iV (wc .i64 (wand .u64 (wsrc .u64 x1 52) 2047))) (e0 rfl)) (Y wn rfl (ya (v := .int .u64 (wand .u64 x1 4503599627370495)) (e0 rfl)) (wN (k2 _ _ (wp_ret ?_)))))
 obtain rfl := someI hM
 exact hQ _ _ _ (fin2r Tryz.results155 ⟨rfl, rfl⟩ ⟨rfl, rfl⟩ ⟨rfl, hst⟩)

theorem float_IsFinite_ok {x1 : Int} {out : Bool} (hM : float_IsFinite x1 = some out) (hst : St w0 ros (rs) w) :
  Calls Tryz.prog 139 #[.int .u64 x1] w (fun e w => e = .returned (.bool out) ∧ St w0 (ros) (rs) w) := by
 refine enterQ Tryz.func139 rfl Tryz.ntmps139 rfl fun Q hQ => seqQ fun Q1 k1 z1 => wR (Y wn rfl (ya (v := .bool false) rfl) (wN (k1 _ _ (seqQ fun Q2 k2 z2 => wR (Y wn rfl (ym (v := .int .u64 x1) (e0 rfl)) ?_)))))
 obtain ⟨r2, gr2, hM⟩ := bs hM
 refine Yc wn rfl (yCall FN_155 (a1 (e0 rfl))) (float_parts_ok (hM := gr2) (hst := hst) ) ?_
 rintro _ w ⟨rfl, hst⟩
 refine ⟨_, rfl, ?_⟩
 refine Y wn rfl (ym (v := .tuple #[iV r2.1, .int .u64 r2.2]) (e0 rfl)) (Y wn rfl (yx (v := iV r2.1) (e0 rfl) rfl) (Y wn rfl (yx (v := .int .u64 r2.2) (e0 rfl) rfl) (Y wn rfl (ya (v := iV r2.1) (e0 rfl)) (Y wn rfl (ya (v := .int .u64 r2.2) (e0 rfl)) (wN (k2 _ _ (seqQ fun Q3 k3 z3 => wR (Y wn rfl (ym (v := iV r2.1) (e0 rfl)) (Y wn rfl (yneq (e0 rfl) rfl) (Y wn rfl (ya (v := .bool (!(decide (r2.1 = 2047)))) (e0 rfl)) (wN (k3 _ _ ?_))))))))))))
 refine wp_ret ?_
 obtain rfl := someI hM
 exact hQ _ _ _ (fin1r Tryz.results139 ⟨rfl, rfl⟩ ⟨rfl, hst⟩)

theorem matrix_Check_1_ok {x1 : Int} {out : Bool} (hM : matrix_Check_1 x1 = some out) (hst : St w0 ros (rs) w) :
  Calls Tryz.prog 138 #[.int .u64 x1] w (fun e w => e = .returned (.bool out) ∧ St w0 (ros) (rs) w) := by
 refine enterQ Tryz.func138 rfl Tryz.ntmps138 rfl fun Q hQ => seqQ fun Q1 k1 z1 => wR (Y wn rfl (ya (v := .bool false) rfl) (wN (k1 _ _ (seqQ fun Q2 k2 z2 => wR (Y wn rfl (ym (v := .int .u64 x1) (e0 rfl)) ?_)))))
 obtain ⟨r2, gr2, hM⟩ := bs hM
 refine Yc wn rfl (yCall FN_139 (a1 (e0 rfl))) (float_IsFinite_ok (hM := gr2) (hst := hst) ) ?_
 rintro _ w ⟨rfl, hst⟩
 refine ⟨_, rfl, ?_⟩
 refine Y wn rfl (ynot (e0 rfl)) (Y wn rfl (ya (v := .bool (!(r2))) (e0 rfl)) (wN (k2 _ _ (wp_ret ?_))))
 obtain rfl := someI hM
 exact hQ _ _ _ (fin1r Tryz.results138 ⟨rfl, rfl⟩ ⟨rfl, hst⟩)

theorem slices_IndexFunc_apiFloat_ok {x1 : List Int} {h2 : Hdr} {out : Int} (hM : slices_IndexFunc_apiFloat x1 = some out) (q1 : imm (rI .u64) h2.v x1 ∈ ros) (hst : St w0 ros (rs) w) :
  Calls Tryz.prog 154 #[h2.v, .func (.func 138) #[] #[]] w (fun e w => e = .returned (iV out) ∧ St w0 (ros) (rs) w) := by
 refine enterQ Tryz.func154 rfl Tryz.ntmps154 rfl fun Q hQ => seqQ fun Q1 k1 z1 => wR (Y wn rfl (ya (v := iV 0) rfl) (wN (k1 _ _ (seqQ fun Q2 k2 z2 => seqQ fun Q3 k3 z3 => wR (Y wn rfl (ym (v := h2.v) (e0 rfl)) (Y wn rfl (yLen SL_89 (e0 rfl) hst (rdI q1)) (Y wn rfl (ym (v := iV 0) rfl) (wN (k3 _ _ ?_)))))))))
 refine blockQ fun Q4 qb4 => ?_
 obtain ⟨o1, go1, hM⟩ := bs hM
 have je1_0 : ∀ (f : Nat → Value) (w : World), St w0 (ros) (rs) w → .inl () = o1 → Q4 (.exit 0) (fr 19 f) w := by
  intro f w hst ho
  subst ho
  refine qb4 _ _ _ (k2 _ _ (seqQ fun Q19 k19 z19 => wR (Y wn rfl (ya (v := iV (-1)) rfl) (wN (k19 _ _ (wp_ret ?_))))))
  obtain rfl := someI hM
  exact hQ _ _ _ (fin1r Tryz.results154 ⟨rfl, rfl⟩ ⟨rfl, hst⟩)
 have je1_1 : ∀ (x13 : Int) (f : Nat → Value) (w : World), f 4 = iV x13 → St w0 (ros) (rs) w → .inr x13 = o1 → Q4 .ret (fr 19 f) w := by
  intro x13 f w eje1_1_4 hst ho
  subst ho
  refine qb4 _ _ _ (z2 _ _ _ rfl ?_)
  obtain rfl := someI hM
  exact hQ _ _ _ (fin1r Tryz.results154 ⟨rfl, eje1_1_4⟩ ⟨rfl, hst⟩)
 refine loopQ (fun s a w => ∃ (x7 : Int) (f : Nat → Value), x7 = s ∧ a = fr 19 f ∧ f 0 = h2.v ∧ f 1 = .func (.func 138) #[] #[] ∧ f 7 = iV (x1.length : Int) ∧ f 8 = iV x7 ∧ St w0 (ros) (rs) w) go1 ⟨_, _, rfl, rfl, rfl, rfl, rfl, rfl, hst⟩ ?_
 rintro _ _ w r1_ ⟨x7, f, rfl, rfl, e1_0, e1_1, e1_7, e1_8, hst⟩ hM1 ho1 Q100001 n1 zz1
 refine seqQ fun Q20 k20 z20 => wR (Y wn rfl (ylss (et rfl e1_8) (et rfl e1_7)) (wN (k20 _ _ (seqQ fun Q21 k21 z21 => ?_))))
 rcases iteS hM1 with ⟨c14, hM1⟩ | ⟨c14, hM1⟩
 ·refine condT (e0 rfl) (dT c14) (wp_skip (k21 _ _ (seqQ fun Q22 k22 z22 => blockQ fun Q23 qb23 => seqQ fun Q24 k24 z24 => wR (Y wn rfl (ym (v := iV x7) (et rfl e1_8)) (Y wn rfl (ya (v := iV x7) (e0 rfl)) (wN (k24 _ _ (seqQ fun Q25 k25 z25 => wR (Y wn rfl (ym (v := .func (.func 138) #[] #[]) (et rfl e1_1)) ?_)))))))))
  refine Y wn rfl (ym (v := h2.v) (et rfl e1_0)) (Y wn rfl (ym (v := iV x7) (e0 rfl)) ?_)
  obtain ⟨x15, gx15, hM1⟩ := bs hM1
  refine Y wn rfl (yIa SL_89 (e0 rfl) (e0 rfl) hst (rdI q1) gx15) (Y wn rfl (yI O_82 (e0 rfl) hst (rdI q1) gx15) ?_)
  obtain ⟨r16, gr16, hM1⟩ := bs hM1
  refine Yc wn rfl (yCallw FN_138 (e0 rfl) (a1 (e0 rfl))) (matrix_Check_1_ok (hM := gr16) (hst := hst) ) ?_
  rintro _ w ⟨rfl, hst⟩
  refine ⟨_, rfl, ?_⟩
  refine wN (k25 _ _ ?_)
  rcases iteS hM1 with ⟨c17, hM1⟩ | ⟨c17, hM1⟩
  ·refine condT (e0 rfl) c17 (seqQ fun Q26 k26 z26 => wR (Y wn rfl (ym (v := iV x7) (e0 rfl)) (Y wn rfl (ya (v := iV x7) (e0 rfl)) (wN (k26 _ _ (wp_ret (qb23 _ _ _ (z22 _ _ _ rfl ?_))))))))
   obtain rfl := someI hM1
   exact zz1 _ _ _ _ rfl rfl (je1_1 _ _ _ rfl hst (ho1 _ rfl))
  ·refine condF (e0 rfl) (bfalse c17) (wp_skip (qb23 _ _ _ (k22 _ _ (wR (Y wn rfl (yadd (et rfl e1_8) rfl) (Y wn rfl (ym (v := iV (wa .i64 x7 1)) (e0 rfl)) (wN ?_)))))))
   obtain rfl := someI hM1
   exact n1 _ _ _ rfl ⟨_, _, rfl, rfl, e1_0, e1_1, e1_7, rfl, hst⟩
 ·refine condF (e0 rfl) (dF c14) (wp_exit (z21 _ _ _ rfl ?_))
  obtain rfl := someI hM1
  exact zz1 _ _ _ _ rfl rfl (je1_0 _ _ hst (ho1 _ rfl))

theorem slices_ContainsFunc_apiFloat_ok {x1 : List Int} {h2 : Hdr} {out : Bool} (hM : slices_ContainsFunc_apiFloat x1 = some out) (q1 : imm (rI .u64) h2.v x1 ∈ ros) (hst : St w0 ros (rs) w) :
  Calls Tryz.prog 137 #[h2.v, .func (.func 138) #[] #[]] w (fun e w => e = .returned (.bool out) ∧ St w0 (ros) (rs) w) := by
 refine enterQ Tryz.func137 rfl Tryz.ntmps137 rfl fun Q hQ => seqQ fun Q1 k1 z1 => wR (Y wn rfl (ya (v := .bool false) rfl) (wN (k1 _ _ (seqQ fun Q2 k2 z2 => wR (Y wn rfl (ym (v := h2.v) (e0 rfl)) (Y wn rfl (ym (v := .func (.func 138) #[] #[]) (e0 rfl)) ?_))))))
 obtain ⟨r3, gr3, hM⟩ := bs hM
 refine Yc wn rfl (yCall FN_154 (a2 (e0 rfl) (e0 rfl))) (slices_IndexFunc_apiFloat_ok (hM := gr3) (hst := hst) (q1 := q1)) ?_
 rintro _ w ⟨rfl, hst⟩
 refine ⟨_, rfl, ?_⟩
 refine Y wn rfl (ygeq (e0 rfl) rfl) (Y wn rfl (ya (v := .bool (decide ((0 : Int) ≤ r3))) (e0 rfl)) (wN (k2 _ _ (wp_ret ?_))))
 obtain rfl := someI hM
 exact hQ _ _ _ (fin1r Tryz.results137 ⟨rfl, rfl⟩ ⟨rfl, hst⟩)

theorem matrix_Check_ok {x1 : Int} {x2 : Int} {x3 : List Int} {x5 : List Int} {x7 : List Int} {h4 : Hdr} {h6 : Hdr} {h8 : Hdr} {out : Int} (hM : matrix_Check x1 x2 x3 x5 x7 = some out) (q1 : imm (rI .i64) h4.v x3 ∈ ros) (q2 : imm (rI .i64) h6.v x5 ∈ ros) (q3 : imm (rI .u64) h8.v x7 ∈ ros) (hst : St w0 ros (rs) w) :
  Calls Tryz.prog 122 #[.agg #[iV x1, iV x2, h4.v, h6.v, h8.v]] w (fun e w => e = .returned (iV out) ∧ St w0 (ros) (rs) w) := by
 refine enterQ Tryz.func122 rfl Tryz.ntmps122 rfl fun Q hQ => seqQ fun Q1 k1 z1 => wR (YB wn rfl (r_box (vals := [iV x1, iV x2, h4.v, h6.v, h8.v]) hst (e0 rfl) rfl) ?_)
 intro b9 w hst
 refine Y wn rfl (ya (v := iV 0) rfl) (wN (k1 _ _ (seqQ fun Q2 k2 z2 => blockQ fun Q3 qb3 => seqQ fun Q4 k4 z4 => wR (Y wn rfl (yFb FL_91_0 (e0 rfl)) (Y wn rfl (yLb (u := iV x1) O_3 (e0 rfl) hst mhR rfl) ?_)))))
 obtain ⟨r10, gr10, hM⟩ := bs hM
 refine Yc wn rfl (yCall FN_135 (a3 (e0 rfl) rfl rfl)) (matrix_within_ok (hM := gr10) (hst := hst) ) ?_
 rintro _ w ⟨rfl, hst⟩
 refine ⟨_, rfl, ?_⟩
 refine Y wn rfl (ynot (e0 rfl)) (Y wn rfl (ym (v := .bool (!(r10))) (e0 rfl)) ?_)
 obtain ⟨r12, gr12, hM⟩ := bs hM
 refine joinW 5 (fun f w => f 1 = (pB b9) ∧ f 13 = .bool r12 ∧ St w0 (ros) (box b9 91 [iV x1, iV x2, h4.v, h6.v, h8.v] :: rs) w) (fun j1 => ?_) ?_
 ·rcases iteS gr12 with ⟨c14, gr12⟩ | ⟨c14, gr12⟩
  ·refine Y (wg rfl rfl rfl (nF c14)) rfl (yFb FL_91_1 (e0 rfl)) (Y (wg rfl rfl rfl (nF c14)) rfl (yLb (u := iV x2) O_3 (e0 rfl) hst mhR rfl) ?_)
   obtain ⟨r15, gr15, gr12⟩ := bs gr12
   refine Yc (wg rfl rfl rfl (nF c14)) rfl (yCall FN_135 (a3 (e0 rfl) rfl rfl)) (matrix_within_ok (hM := gr15) (hst := hst) ) ?_
   rintro _ w ⟨rfl, hst⟩
   refine ⟨_, rfl, ?_⟩
   refine Y (wg rfl rfl rfl (nF c14)) rfl (ynot (e0 rfl)) (Y wn rfl (ypf (v := .bool (!(r15))) (e0 rfl) (nF c14) (e0 rfl)) ?_)
   obtain rfl := someI gr12
   exact j1 _ _ ⟨rfl, rfl, hst⟩
  ·refine Gn (wx rfl rfl rfl (nT (bfalse c14))) rfl (Gn (wx rfl rfl rfl (nT (bfalse c14))) rfl (Gn (wx rfl rfl rfl (nT (bfalse c14))) rfl (Gn (wx rfl rfl rfl (nT (bfalse c14))) rfl (Y wn rfl (ypt (v := .bool true) (e0 rfl) (nT (bfalse c14)) rfl) ?_))))
   obtain rfl := someI gr12
   exact j1 _ _ ⟨rfl, rfl, hst⟩
 rintro f w ⟨e13_1, e13_13, hst⟩
 refine Y wn rfl (ym (v := .bool r12) (et rfl e13_13)) ?_
 refine joinW 5 (fun f w => f 1 = (pB b9) ∧ f 19 = .bool (r12 || (decide ((10000 : Int) < (x5.length : Int)))) ∧ St w0 (ros) (box b9 91 [iV x1, iV x2, h4.v, h6.v, h8.v] :: rs) w) (fun j2 => ?_) ?_
 ·rcases Bool.eq_false_or_eq_true (r12) with c17 | c17
  ·exact Gn (wx rfl rfl rfl c17) rfl (Gn (wx rfl rfl rfl c17) rfl (Gn (wx rfl rfl rfl c17) rfl (Gn (wx rfl rfl rfl c17) rfl (Y wn rfl (ypt (v := .bool true) (e0 rfl) c17 rfl) (j2 _ _ ⟨e13_1, (congrArg Value.bool (orT c17)), hst⟩)))))
  ·exact Y (wg rfl rfl rfl c17) rfl (yFb FL_91_3 (et rfl e13_1)) (Y (wg rfl rfl rfl c17) rfl (yLb (u := h6.v) O_22 (e0 rfl) hst mhR rfl) (Y (wg rfl rfl rfl c17) rfl (yLen SL_22 (e0 rfl) hst (rdI q2)) (Y (wg rfl rfl rfl c17) rfl (ygtr (e0 rfl) rfl) (Y wn rfl (ypf (v := .bool (decide ((10000 : Int) < (x5.length : Int)))) (e0 rfl) c17 (e0 rfl)) (j2 _ _ ⟨e13_1, (congrArg Value.bool (orF c17)), hst⟩)))))
 rintro f w ⟨e16_1, e16_19, hst⟩
 refine Y wn rfl (ya (v := .bool (r12 || (decide ((10000 : Int) < (x5.length : Int))))) (et rfl e16_19)) (wN (k4 _ _ ?_))
 rcases iteS hM with ⟨c18, hM⟩ | ⟨c18, hM⟩
 ·refine condT (e0 rfl) c18 (seqQ fun Q5 k5 z5 => wR (Y wn rfl (ya (v := iV 6) rfl) (wN (k5 _ _ (wp_ret (qb3 _ _ _ (z2 _ _ _ rfl ?_)))))))
  obtain rfl := someI hM
  exact hQ _ _ _ (fin1r Tryz.results122 ⟨rfl, rfl⟩ ⟨rfl, (hst.pk 1 [] rfl)⟩)
 ·refine condF (e0 rfl) (bfalse c18) (seqQ fun Q6 k6 z6 => wR (Y wn rfl (yLbs (us := [iV x1, iV x2, h4.v, h6.v, h8.v]) ST_91 (et rfl e16_1) hst mhR rfl rfl) ?_))
  obtain ⟨r19, gr19, hM⟩ := bs hM
  refine Yc wn rfl (yCall FN_136 (a1 (e0 rfl))) (matrix_columns_ok (hM := gr19) (hst := hst) (q1 := q1) (q2 := q2) (q3 := q3)) ?_
  rintro _ w ⟨rfl, hst⟩
  refine ⟨_, rfl, ?_⟩
  refine Y wn rfl (ynot (e0 rfl)) (Y wn rfl (ya (v := .bool (!(r19))) (e0 rfl)) (wN (k6 _ _ ?_)))
  rcases iteS hM with ⟨c20, hM⟩ | ⟨c20, hM⟩
  ·refine condF (e0 rfl) (nF c20) (seqQ fun Q7 k7 z7 => wR (Y wn rfl (yFb FL_91_4 (et rfl e16_1)) (Y wn rfl (yLb (u := h8.v) O_89 (e0 rfl) hst mhR rfl) ?_)))
   obtain ⟨r21, gr21, hM⟩ := bs hM
   refine Yc wn rfl (yCall FN_137 (a2 (e0 rfl) rfl)) (slices_ContainsFunc_apiFloat_ok (hM := gr21) (hst := hst) (q1 := q3)) ?_
   rintro _ w ⟨rfl, hst⟩
   refine ⟨_, rfl, ?_⟩
   refine Y wn rfl (ya (v := .bool r21) (e0 rfl)) (wN (k7 _ _ ?_))
   rcases iteS hM with ⟨c22, hM⟩ | ⟨c22, hM⟩
   ·refine condT (e0 rfl) c22 (seqQ fun Q8 k8 z8 => wR (Y wn rfl (ya (v := iV 4) rfl) (wN (k8 _ _ (wp_ret (qb3 _ _ _ (z2 _ _ _ rfl ?_)))))))
    obtain rfl := someI hM
    exact hQ _ _ _ (fin1r Tryz.results122 ⟨rfl, rfl⟩ ⟨rfl, (hst.pk 1 [] rfl)⟩)
   ·refine condF (e0 rfl) (bfalse c22) (wp_skip (qb3 _ _ _ (k2 _ _ (seqQ fun Q9 k9 z9 => wR (Y wn rfl (ya (v := iV 0) rfl) (wN (k9 _ _ (wp_ret ?_))))))))
    obtain rfl := someI hM
    exact hQ _ _ _ (fin1r Tryz.results122 ⟨rfl, rfl⟩ ⟨rfl, (hst.pk 1 [] rfl)⟩)
  ·refine condT (e0 rfl) (nT (bfalse c20)) (seqQ fun Q10 k10 z10 => wR (Y wn rfl (ya (v := iV 1) rfl) (wN (k10 _ _ (wp_ret (qb3 _ _ _ (z2 _ _ _ rfl ?_)))))))
   obtain rfl := someI hM
   exact hQ _ _ _ (fin1r Tryz.results122 ⟨rfl, rfl⟩ ⟨rfl, (hst.pk 1 [] rfl)⟩)

theorem matching_Edges_ok {x1 : Int} {x2 : Int} {x3 : List Int} {x5 : List Int} {x7 : List Int} {h4 : Hdr} {h6 : Hdr} {h8 : Hdr} {out : (List (List Int))} (hM : matching_Edges x1 x2 x3 x5 x7 = some out) (q1 : imm (rI .i64) h4.v x3 ∈ ros) (q2 : imm (rI .i64) h6.v x5 ∈ ros) (q3 : imm (rI .u64) h8.v x7 ∈ ros) (hst : St w0 ros (rs) w) :
  Calls Tryz.prog 156 #[.agg #[iV x1, iV x2, h4.v, h6.v, h8.v]] w (fun e w => ∃ (h100001 : Hdr), e = .returned (h100001.v) ∧ St w0 (ros) (row 22 (rS (rI .i64)) h100001.v out :: rs) w) := by
 refine enterQ Tryz.func156 rfl Tryz.ntmps156 rfl fun Q hQ => seqQ fun Q1 k1 z1 => wR (YB wn rfl (r_box (vals := [iV x1, iV x2, h4.v, h6.v, h8.v]) hst (e0 rfl) rfl) ?_)
 intro b9 w hst
 refine Y wn rfl (ya (v := hnil.v) rfl) (wN (k1 _ _ (seqQ fun Q2 k2 z2 => wR (Y wn rfl (yFb FL_91_1 (e0 rfl)) (Y wn rfl (yLb (u := iV x2) O_3 (e0 rfl) hst mhR rfl) ?_)))))
 obtain ⟨x12, gx12, hM⟩ := bs hM
 refine YH wn rfl (rMk hst SL_24 (e0 rfl) gx12) ?_
 intro h10 w hst
 refine Y wn rfl (ya (v := h10.v) (e0 rfl)) (wN (k2 _ _ (seqQ fun Q3 k3 z3 => seqQ fun Q4 k4 z4 => wR (Y wn rfl (ym (v := h10.v) (e0 rfl)) (Y wn rfl (yLen SL_24 (e0 rfl) hst (rdO mhR)) (Y wn rfl (ym (v := iV 0) rfl) (wN (k4 _ _ (blockQ fun Q5 qb5 => ?_)))))))))
 obtain ⟨o1, go1, hM⟩ := bs hM
 have je1_0 : ∀ (x27 : List (List Int)) (f : Nat → Value) (w : World), f 3 = h10.v → St w0 (ros) (row 22 (rS (rI .i64)) h10.v x27 :: rs) w → x27 = o1 → Q5 (.exit 0) (fr 32 f) w := by
  intro x27 f w eje1_0_3 hst ho
  subst ho
  refine qb5 _ _ _ (k3 _ _ (seqQ fun Q16 k16 z16 => wR (Y wn rfl (ym (v := h10.v) (et rfl eje1_0_3)) (Y wn rfl (ya (v := h10.v) (e0 rfl)) (wN (k16 _ _ (wp_ret ?_)))))))
  obtain rfl := someI hM
  exact hQ _ _ _ (fin1r Tryz.results156 ⟨rfl, rfl⟩ ⟨_, rfl, hst⟩)
 refine loopQ (fun s a w => ∃ (x18 : List (List Int)) (x19 : Int) (f : Nat → Value), (x18, x19) = s ∧ a = fr 32 f ∧ f 1 = (pB b9) ∧ f 3 = h10.v ∧ f 9 = iV (x12.length : Int) ∧ f 10 = iV x19 ∧ St w0 (ros) (box b9 91 [iV x1, iV x2, h4.v, h6.v, h8.v] :: row 22 (rS (rI .i64)) h10.v x18 :: rs) w) go1 ⟨_, _, _, rfl, rfl, rfl, rfl, rfl, rfl, (hst.pk 2 [1, 0] rfl)⟩ ?_
 rintro _ _ w r1_ ⟨x18, x19, f, rfl, rfl, e1_1, e1_3, e1_9, e1_10, hst⟩ hM1 ho1 Q100001 n1 zz1
 refine seqQ fun Q17 k17 z17 => wR (Y wn rfl (ylss (et rfl e1_10) (et rfl e1_9)) (wN (k17 _ _ (seqQ fun Q18 k18 z18 => ?_))))
 rcases iteS hM1 with ⟨c28, hM1⟩ | ⟨c28, hM1⟩
 ·refine condT (e0 rfl) (dT c28) (wp_skip (k18 _ _ (seqQ fun Q19 k19 z19 => blockQ fun Q20 qb20 => seqQ fun Q21 k21 z21 => wR (Y wn rfl (ym (v := iV x19) (et rfl e1_10)) (Y wn rfl (ya (v := iV x19) (e0 rfl)) (wN (k21 _ _ ?_)))))))
  obtain ⟨x29, gx29, hM1⟩ := bs hM1
  obtain ⟨x30, gx30, hM1⟩ := bs hM1
  obtain ⟨x31, gx31, hM1⟩ := bs hM1
  obtain ⟨x32, gx32, hM1⟩ := bs hM1
  refine wp_drawR [0, 0, 0, 4, 0, 16, 0, 112, 240, 0, 512, 0, 2048, 7680, 15872, 32764, 65535, 131071] [17] 1 folM (by kernel_rfl) (by kernel_rfl) (by kernel_rfl) ?_
  replace hst := hst.drew
  refine DRn (l1 := [0, 1, 2, 3, 4, 5, 6, 7, 8, 9, 10, 11, 12, 13, 14, 15, 16]) (l2 := []) (lc := [17]) (by kernel_rfl) (by kernel_rfl) (by kernel_rfl) (Ry rfl rfl wn (ym (v := h10.v) (et rfl e1_3)) (Ry rfl rfl wn (ym (v := iV x19) (e0 rfl)) (Ry rfl rfl wn (yFb FL_91_3 (et rfl e1_1)) (Ry rfl rfl wn (yLb (u := h6.v) O_22 (e0 rfl) hst mhR rfl) (Ry rfl rfl wn (yFb FL_91_2 (et rfl e1_1)) (Ry rfl rfl wn (yLb (u := h4.v) O_22 (e0 rfl) hst mhR rfl) (Ry rfl rfl wn (ym (v := iV x19) (e0 rfl)) (Ry rfl rfl wn (yIa SL_22 (e0 rfl) (e0 rfl) hst (rdI q1) gx29) (Ry rfl rfl wn (yI O_3 (e0 rfl) hst (rdI q1) gx29) (Ry rfl rfl wn (yFb FL_91_2 (et rfl e1_1)) (Ry rfl rfl wn (yLb (u := h4.v) O_22 (e0 rfl) hst mhR rfl) (Ry rfl rfl wn (ym (v := iV x19) (e0 rfl)) (Ry rfl rfl wn (yadd (e0 rfl) rfl) ?_)))))))))))))
  refine Ry rfl rfl wn (yIa SL_22 (e0 rfl) (e0 rfl) hst (rdI q1) gx30) (Ry rfl rfl wn (yI O_3 (e0 rfl) hst (rdI q1) gx30) (Ry rfl rfl wn (ySl SL_22 (e0 rfl) hst (rdI q2) (.inl (congrArg some (e0 rfl))) (.inl (congrArg some (e0 rfl))) gx31) ?_))
  replace hst := hst.sub q2 gx31
  refine Ry rfl rfl wn (yIs SL_24 (e0 rfl) (e0 rfl) hst (rdO (mtR mhR)) gx32) (Rn QSn ?_)
  refine Lc rfl ?_ LAn
  replace hst := hst.pk 2 [1, 0] rfl
  refine LT wn (r_sti (cs := [(subH h6 1 x29 x30).v]) hst O_22 rfl (e0 rfl) (e0 rfl) rfl (mkS mhF) gx32) ?_
  intro w hst
  refine DRz (l1 := []) (l2 := []) (by kernel_rfl) (by kernel_rfl) (Rn QSn (qb20 _ _ _ (k19 _ _ (wR (Y wn rfl (yadd (et rfl e1_10) rfl) (Y wn rfl (ym (v := iV (wa .i64 x19 1)) (e0 rfl)) (wN ?_)))))))
  obtain rfl := someI hM1
  exact n1 _ _ _ rfl ⟨_, _, _, rfl, rfl, e1_1, e1_3, e1_9, rfl, ((hst.pk 2 [1, 0] rfl).facts (allT allI))⟩
 ·refine condF (e0 rfl) (dF c28) (wp_exit (z18 _ _ _ rfl ?_))
  obtain rfl := someI hM1
  exact zz1 _ _ _ _ rfl rfl (je1_0 _ _ _ e1_3 (hst.pk 2 [1] rfl) (ho1 _ rfl))
end Go.Proofs.YthpeajepbffinaaGreat
