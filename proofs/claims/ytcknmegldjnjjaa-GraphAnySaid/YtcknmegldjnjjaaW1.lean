/- Walks: each function computes its model, printed. -/
import Derived.Test.YtcknmegldjnjjaaW0
namespace Go.Proofs.Ytcknmegldjnjjaa
open Go Sx M
set_option maxRecDepth 100000
set_option maxHeartbeats 400000
set_option linter.unusedVariables false
attribute [local irreducible] wpList Code.wp Calls DR QR QS LA LS St
theorem sparsekit_Lists_ok {w0 : World} {ros : List Fact} {rs : List Res} {w : World} {x1 : List (List Int)} {x3 : List (List Int)} {h2 : Hdr} {h4 : Hdr} {out : Bool} (hM : sparsekit_Lists x1 x3 = some out) (q1 : imm (rS (rI .i64)) h2.v x1 ∈ ros) (q2 : imm (rS (rI .i64)) h4.v x3 ∈ ros) (hst : St w0 ros (rs) w) :
    Calls Try.prog 24 #[h2.v, h4.v] w (fun e w => e = .returned (.bool out) ∧ St w0 (ros) (rs) w) := by
  refine enterQ Try.func24 rfl Try.ntmps24 rfl fun Q hQ => ?_
  refine seqQ fun Q1 k1 z1 => ?_
  refine wp_region_lit ?_
  refine Y wn rfl (ya (v := .bool false) rfl) ?_
  refine wpList_nil ?_
  refine k1 _ _ ?_
  refine seqQ fun Q2 k2 z2 => ?_
  refine seqQ fun Q3 k3 z3 => ?_
  refine wp_region_lit ?_
  refine Y wn rfl (ym (v := h2.v) (et rfl rfl)) ?_
  refine Y wn rfl (yLen SL_25 (et rfl rfl) hst (rdI q1)) ?_
  refine Y wn rfl (ym (v := h4.v) (et rfl rfl)) ?_
  refine Y wn rfl (yLen SL_25 (et rfl rfl) hst (rdI q2)) ?_
  refine Y wn rfl (yneq (et rfl rfl) (et rfl rfl)) ?_
  refine wpList_nil ?_
  refine k3 _ _ ?_
  rcases iteS hM with ⟨c5, hM⟩ | ⟨c5, hM⟩
  · refine condF (et rfl rfl) (nF (decide_eq_true c5)) ?_
    refine wp_skip ?_
    refine k2 _ _ ?_
    refine seqQ fun Q4 k4 z4 => ?_
    refine seqQ fun Q5 k5 z5 => ?_
    refine wp_region_lit ?_
    refine Y wn rfl (ya (v := .int .i64 0) rfl) ?_
    refine wpList_nil ?_
    refine k5 _ _ ?_
    refine blockQ fun Q6 qb6 => ?_
    obtain ⟨o1, go1, hM⟩ := bs hM
    have je1_0 : ∀ (f : Nat → Value) (w : World), St w0 (ros) (rs) w → .inl () = o1 → Q6 (.exit 0) (fr 27 f) w := by
      intro f w hst ho
      subst ho
      refine qb6 _ _ _ ?_
      refine k4 _ _ ?_
      refine seqQ fun Q19 k19 z19 => ?_
      refine wp_region_lit ?_
      refine Y wn rfl (ya (v := .bool true) rfl) ?_
      refine wpList_nil ?_
      refine k19 _ _ ?_
      refine wp_ret ?_
      obtain rfl := someI hM
      exact hQ _ _ _ (fin1r Try.results24 ⟨rfl, rfl⟩ ⟨rfl, hst⟩)
    have je1_1 : ∀ (f : Nat → Value) (w : World), f 4 = .bool false → St w0 (ros) (rs) w → .inr () = o1 → Q6 .ret (fr 27 f) w := by
      intro f w eje1_1_4 hst ho
      subst ho
      refine qb6 _ _ _ ?_
      refine z4 _ _ _ rfl ?_
      obtain rfl := someI hM
      exact hQ _ _ _ (fin1r Try.results24 ⟨rfl, eje1_1_4⟩ ⟨rfl, hst⟩)
    refine loopQ (fun s a w => ∃ (x13 : Int) (f : Nat → Value), x13 = s ∧ a = fr 27 f ∧ f 0 = h2.v ∧ f 1 = h4.v ∧ f 5 = .int .i64 x13 ∧ St w0 (ros) (rs) w) go1 ⟨_, _, rfl, rfl, rfl, rfl, rfl, hst⟩ ?_
    clear hst
    rintro _ _ w r1_ ⟨x13, f, rfl, rfl, e1_0, e1_1, e1_5, hst⟩ hM1 ho1 Q100001 n1 zz1
    refine seqQ fun Q20 k20 z20 => ?_
    refine seqQ fun Q21 k21 z21 => ?_
    refine wp_region_lit ?_
    refine Y wn rfl (ym (v := .int .i64 x13) (et rfl e1_5)) ?_
    refine Y wn rfl (ym (v := h2.v) (et rfl e1_0)) ?_
    refine Y wn rfl (yLen SL_25 (et rfl rfl) hst (rdI q1)) ?_
    refine Y wn rfl (ylss (et rfl rfl) (et rfl rfl)) ?_
    refine wpList_nil ?_
    refine k21 _ _ ?_
    rcases iteS hM1 with ⟨c22, hM1⟩ | ⟨c22, hM1⟩
    · refine condT (et rfl rfl) (decide_eq_true c22) ?_
      refine wp_skip ?_
      refine k20 _ _ ?_
      refine seqQ fun Q22 k22 z22 => ?_
      refine blockQ fun Q23 qb23 => ?_
      refine seqQ fun Q24 k24 z24 => ?_
      obtain ⟨x23, gx23, hM1⟩ := bs hM1
      obtain ⟨x25, gx25, hM1⟩ := bs hM1
      obtain ⟨r27, gr27, hM1⟩ := bs hM1
      refine wp_drawR [0, 0, 3, 7, 0, 0, 48, 112, 255, 511] [8] 1 folM (by kernel_rfl) (by kernel_rfl) (by kernel_rfl) ?_
      replace hst := hst.drew
      refine DRn (l1 := [0, 1, 2, 3, 4, 5, 6, 7]) (l2 := []) (lc := [8]) (by kernel_rfl) (by kernel_rfl) (by kernel_rfl) ?_
      refine Ry rfl rfl wn (ym (v := h2.v) (et rfl e1_0)) ?_
      refine Ry rfl rfl wn (ym (v := .int .i64 x13) (et rfl e1_5)) ?_
      refine Ry rfl rfl wn (yIa SL_25 (et rfl rfl) (et rfl rfl) hst (rdI q1) gx23) ?_
      obtain ⟨h24, hst⟩ := iLs hst q1 gx23
      refine Ry rfl rfl wn (yCt O_22 (et rfl rfl) hst (mtF mhF) rfl) ?_
      refine Ry rfl rfl wn (ym (v := h4.v) (et rfl e1_1)) ?_
      refine Ry rfl rfl wn (ym (v := .int .i64 x13) (et rfl e1_5)) ?_
      refine Ry rfl rfl wn (yIa SL_25 (et rfl rfl) (et rfl rfl) hst (rdI (mtF (mtF q2))) gx25) ?_
      obtain ⟨h26, hst⟩ := iLs hst (mtF (mtF q2)) gx25
      refine Ry rfl rfl wn (yCt O_22 (et rfl rfl) hst (mtF mhF) rfl) ?_
      refine Rn QSn ?_
      refine Lc rfl ?_ LAn
      refine Lk wn (yCall FN_45 (a2 (et rfl rfl) (et rfl rfl))) (sparsekit_Ints_ok (hM := gr27) (hst := hst) (q1 := (mtF (mtF mhF))) (q2 := mhF)) ?_
      clear hst
      rintro _ w ⟨rfl, hst⟩
      refine ⟨_, rfl, ?_⟩
      refine DRz (l1 := [9]) (l2 := []) (by kernel_rfl) (by kernel_rfl) ?_
      refine Ry rfl rfl wn (ynot (et rfl rfl)) ?_
      refine Rn QSn ?_
      refine k24 _ _ ?_
      rcases iteS hM1 with ⟨c28, hM1⟩ | ⟨c28, hM1⟩
      · refine condF (et rfl rfl) (nF c28) ?_
        refine wp_skip ?_
        refine qb23 _ _ _ ?_
        refine k22 _ _ ?_
        refine wp_region_lit ?_
        refine Y wn rfl (ym (v := .int .i64 x13) (et rfl e1_5)) ?_
        refine Y wn rfl (yadd (et rfl rfl) rfl) ?_
        refine Y wn rfl (ya (v := .int .i64 (wa .i64 x13 1)) (et rfl rfl)) ?_
        refine wpList_nil ?_
        obtain rfl := someI hM1
        exact n1 _ _ _ rfl ⟨_, _, rfl, rfl, e1_0, e1_1, rfl, (hst.facts (allT (allT (allT (allT allI)))))⟩
      · refine condT (et rfl rfl) (nT (bfalse c28)) ?_
        refine seqQ fun Q25 k25 z25 => ?_
        refine wp_region_lit ?_
        refine Y wn rfl (ya (v := .bool false) rfl) ?_
        refine wpList_nil ?_
        refine k25 _ _ ?_
        refine wp_ret ?_
        refine qb23 _ _ _ ?_
        refine z22 _ _ _ rfl ?_
        obtain rfl := someI hM1
        refine zz1 _ _ _ _ rfl rfl ?_
        exact je1_1 _ _ rfl (hst.facts (allT (allT (allT (allT allI))))) (ho1 _ rfl)
    · refine condF (et rfl rfl) (decide_eq_false c22) ?_
      refine wp_exit ?_
      refine z20 _ _ _ rfl ?_
      obtain rfl := someI hM1
      refine zz1 _ _ _ _ rfl rfl ?_
      exact je1_0 _ _ hst (ho1 _ rfl)
  · refine condT (et rfl rfl) (nT (decide_eq_false c5)) ?_
    refine seqQ fun Q26 k26 z26 => ?_
    refine wp_region_lit ?_
    refine Y wn rfl (ya (v := .bool false) rfl) ?_
    refine wpList_nil ?_
    refine k26 _ _ ?_
    refine wp_ret ?_
    refine z2 _ _ _ rfl ?_
    obtain rfl := someI hM
    exact hQ _ _ _ (fin1r Try.results24 ⟨rfl, rfl⟩ ⟨rfl, hst⟩)

theorem slices_Grow_int_ok {w0 : World} {ros : List Fact} {rs : List Res} {w : World} {x1 : Int} {out : (List Int)} (hM : slices_Grow_int x1 = some out) (hst : St w0 ros (rs) w) :
    Calls Try.prog 61 #[hnil.v, .int .i64 x1] w (fun e w => ∃ (h100001 : Hdr), e = .returned (h100001.v) ∧ St w0 (ros) (row 3 (rI .i64) h100001.v out :: rs) w) := by
  refine enterQ Try.func61 rfl Try.ntmps61 rfl fun Q hQ => ?_
  refine seqQ fun Q1 k1 z1 => ?_
  refine wp_region_lit ?_
  refine Y wn rfl (ya (v := hnil.v) rfl) ?_
  refine wpList_nil ?_
  refine k1 _ _ ?_
  refine seqQ fun Q2 k2 z2 => ?_
  refine seqQ fun Q3 k3 z3 => ?_
  refine wp_region_lit ?_
  refine Y wn rfl (ym (v := .int .i64 x1) (et rfl rfl)) ?_
  refine Y wn rfl (ylss (et rfl rfl) rfl) ?_
  refine wpList_nil ?_
  refine k3 _ _ ?_
  have j1 : ∀ (f : Nat → Value) (w : World), f 0 = hnil.v → f 1 = .int .i64 x1 → St w0 (ros) (rs) w → slices_Grow_int_j1 x1 = some out → Q2 .normal (fr 27 f) w := by
    intro f w ej1_0 ej1_1 hst hM
    refine k2 _ _ ?_
    refine seqQ fun Q4 k4 z4 => ?_
    refine seqQ fun Q5 k5 z5 => ?_
    refine wp_region_lit ?_
    refine Y wn rfl (ym (v := .int .i64 x1) (et rfl ej1_1)) ?_
    refine Y wn rfl (ym (v := hnil.v) (et rfl ej1_0)) ?_
    refine Y wn rfl (yCapN (by kernel_rfl : Try.prog.underlying 22 = some (.slice 3)) (et rfl rfl)) ?_
    refine Y wn rfl (ym (v := hnil.v) (et rfl ej1_0)) ?_
    refine Y wn rfl (yLen SL_22 (et rfl rfl) hst rdN) ?_
    refine Y wn rfl (ysub (et rfl rfl) (et rfl rfl)) ?_
    refine Y wn rfl (ysub (et rfl rfl) (et rfl rfl)) ?_
    refine Y wn rfl (ya (v := .int .i64 (ws .i64 x1 (ws .i64 0 0))) (et rfl rfl)) ?_
    refine wpList_nil ?_
    refine k5 _ _ ?_
    refine seqQ fun Q6 k6 z6 => ?_
    refine wp_region_lit ?_
    refine Y wn rfl (ym (v := .int .i64 (ws .i64 x1 (ws .i64 0 0))) (et rfl rfl)) ?_
    refine Y wn rfl (ygtr (et rfl rfl) rfl) ?_
    refine wpList_nil ?_
    refine k6 _ _ ?_
    have j2 : ∀ (x7 : List Int) (h6 : Hdr) (f : Nat → Value) (w : World), f 0 = h6.v → St w0 (ros) (row 3 (rI .i64) h6.v x7 :: rs) w → slices_Grow_int_j2 x7 = some out → Q4 .normal (fr 27 f) w := by
      intro x7 h6 f w ej2_0 hst hM
      refine k4 _ _ ?_
      refine seqQ fun Q7 k7 z7 => ?_
      refine wp_region_lit ?_
      refine Y wn rfl (ym (v := h6.v) (et rfl ej2_0)) ?_
      refine Y wn rfl (ya (v := h6.v) (et rfl rfl)) ?_
      refine wpList_nil ?_
      refine k7 _ _ ?_
      refine wp_ret ?_
      obtain rfl := someI hM
      exact hQ _ _ _ (fin1r Try.results61 ⟨rfl, rfl⟩ ⟨_, rfl, hst⟩)
    rcases iteS hM with ⟨c8, hM⟩ | ⟨c8, hM⟩
    · refine condT (et rfl rfl) (decide_eq_true c8) ?_
      refine wp_region_lit ?_
      refine Y wn rfl (ym (v := hnil.v) (et rfl ej1_0)) ?_
      refine Y wn rfl (ym (v := hnil.v) (et rfl ej1_0)) ?_
      refine Y wn rfl (yCapN (by kernel_rfl : Try.prog.underlying 22 = some (.slice 3)) (et rfl rfl)) ?_
      refine Y wn rfl (ySlN SL_22 (et rfl rfl) (et rfl rfl)) ?_
      refine Y wn rfl (ym (v := .int .i64 (ws .i64 x1 (ws .i64 0 0))) (et rfl rfl)) ?_
      obtain ⟨x10, gx10, hM⟩ := bs hM
      refine YH wn rfl (rZn hst SL_22 (by kernel_rfl : Try.prog.underlying 3 = some (.int .i64)) (et rfl rfl) (et rfl rfl) gx10) ?_
      clear hst
      intro h9 w hst
      refine Y wn rfl (ym (v := hnil.v) (et rfl ej1_0)) ?_
      refine Y wn rfl (yLen SL_22 (et rfl rfl) hst rdN) ?_
      obtain ⟨x11, gx11, hM⟩ := bs hM
      refine Y wn rfl (ySl (k1 := .i64) (hi := (0 : Int)) SL_22 (et rfl rfl) hst (rdO mhR) (.inr ⟨rfl, rfl⟩) (.inl (congrArg some (et rfl rfl))) gx11) ?_
      obtain ⟨h12, eh12, hst⟩ := hst.resl gx11
      rw [← eh12]
      refine Y wn rfl (ya (v := h12.v) (et rfl rfl)) ?_
      refine wpList_nil ?_
      exact j2 _ _ _ _ rfl hst hM
    · refine condF (et rfl rfl) (decide_eq_false c8) ?_
      refine wp_skip ?_
      replace hst := hst.rowNh 3 (rI .i64)
      exact j2 _ _ _ _ ej1_0 hst hM
  rcases iteS hM with ⟨c13, hM⟩ | ⟨c13, hM⟩
  · refine condT (et rfl rfl) (decide_eq_true c13) ?_
    cases hM
  · refine condF (et rfl rfl) (decide_eq_false c13) ?_
    refine wp_skip ?_
    exact j1 _ _ rfl rfl hst hM

theorem slices_Concat_int_ok {w0 : World} {ros : List Fact} {rs : List Res} {w : World} {x1 : List (List Int)} {h2 : Hdr} {out : (List Int)} (hM : slices_Concat_int x1 = some out) (q1 : imm (rS (rI .i64)) h2.v x1 ∈ ros) (hst : St w0 ros (rs) w) :
    Calls Try.prog 39 #[h2.v] w (fun e w => ∃ (h100001 : Hdr), e = .returned (h100001.v) ∧ St w0 (ros) (row 3 (rI .i64) h100001.v out :: rs) w) := by
  refine enterQ Try.func39 rfl Try.ntmps39 rfl fun Q hQ => ?_
  refine seqQ fun Q1 k1 z1 => ?_
  refine wp_region_lit ?_
  refine Y wn rfl (ya (v := hnil.v) rfl) ?_
  refine wpList_nil ?_
  refine k1 _ _ ?_
  refine seqQ fun Q2 k2 z2 => ?_
  refine wp_region_lit ?_
  refine Y wn rfl (ya (v := .int .i64 0) rfl) ?_
  refine wpList_nil ?_
  refine k2 _ _ ?_
  refine seqQ fun Q3 k3 z3 => ?_
  refine seqQ fun Q4 k4 z4 => ?_
  refine wp_region_lit ?_
  refine Y wn rfl (ym (v := h2.v) (et rfl rfl)) ?_
  refine Y wn rfl (yLen SL_25 (et rfl rfl) hst (rdI q1)) ?_
  refine Y wn rfl (ym (v := .int .i64 0) rfl) ?_
  refine wpList_nil ?_
  refine k4 _ _ ?_
  refine blockQ fun Q5 qb5 => ?_
  obtain ⟨o3, go3, hM⟩ := bs hM
  have je3_0 : ∀ (x15 : Int) (f : Nat → Value) (w : World), f 0 = h2.v → f 3 = .int .i64 x15 → St w0 (ros) (rs) w → x15 = o3 → Q5 (.exit 0) (fr 36 f) w := by
    intro x15 f w eje3_0_0 eje3_0_3 hst ho
    subst ho
    refine qb5 _ _ _ ?_
    refine k3 _ _ ?_
    refine seqQ fun Q20 k20 z20 => ?_
    refine wp_region_lit ?_
    refine Y wn rfl (ym (v := .int .i64 x15) (et rfl eje3_0_3)) ?_
    obtain ⟨r16, gr16, hM⟩ := bs hM
    refine Yc wn rfl (yCall FN_61 (a2 rfl (et rfl rfl))) (slices_Grow_int_ok (hM := gr16) (hst := hst) ) ?_
    clear hst
    rintro _ w ⟨h17, rfl, hst⟩
    refine ⟨_, rfl, ?_⟩
    refine Y wn rfl (ya (v := h17.v) (et rfl rfl)) ?_
    refine wpList_nil ?_
    refine k20 _ _ ?_
    refine seqQ fun Q21 k21 z21 => ?_
    refine seqQ fun Q22 k22 z22 => ?_
    refine wp_region_lit ?_
    refine Y wn rfl (ym (v := h2.v) (et rfl eje3_0_0)) ?_
    refine Y wn rfl (yLen SL_25 (et rfl rfl) hst (rdI q1)) ?_
    refine Y wn rfl (ym (v := .int .i64 0) rfl) ?_
    refine wpList_nil ?_
    refine k22 _ _ ?_
    refine blockQ fun Q23 qb23 => ?_
    obtain ⟨o4, go4, hM⟩ := bs hM
    have je4_0 : ∀ (x35 : List Int) (h34 : Hdr) (f : Nat → Value) (w : World), f 6 = h34.v → St w0 (ros) (row 3 (rI .i64) h34.v x35 :: rs) w → x35 = o4 → Q23 (.exit 2) (fr 36 f) w := by
      intro x35 h34 f w eje4_0_6 hst ho
      subst ho
      refine qb23 _ _ _ ?_
      refine k21 _ _ ?_
      refine seqQ fun Q34 k34 z34 => ?_
      refine wp_region_lit ?_
      refine Y wn rfl (ym (v := h34.v) (et rfl eje4_0_6)) ?_
      refine Y wn rfl (ya (v := h34.v) (et rfl rfl)) ?_
      refine wpList_nil ?_
      refine k34 _ _ ?_
      refine wp_ret ?_
      obtain rfl := someI hM
      exact hQ _ _ _ (fin1r Try.results39 ⟨rfl, rfl⟩ ⟨_, rfl, hst⟩)
    refine loopQ (fun s a w => ∃ (x24 : List Int) (x25 : Int) (f : Nat → Value) (h23 : Hdr), (x24, x25) = s ∧ a = fr 36 f ∧ f 6 = h23.v ∧ f 25 = h2.v ∧ f 26 = .int .i64 (x1.length : Int) ∧ f 27 = .int .i64 x25 ∧ St w0 (ros) (row 3 (rI .i64) h23.v x24 :: rs) w) go4 ⟨_, _, _, _, rfl, rfl, rfl, rfl, rfl, rfl, hst⟩ ?_
    clear hst
    rintro _ _ w r4_ ⟨x24, x25, f, h23, rfl, rfl, e4_6, e4_25, e4_26, e4_27, hst⟩ hM4 ho4 Q100004 n4 zz4
    refine seqQ fun Q35 k35 z35 => ?_
    refine wp_region_lit ?_
    refine Y wn rfl (ylss (et rfl e4_27) (et rfl e4_26)) ?_
    refine wpList_nil ?_
    refine k35 _ _ ?_
    refine seqQ fun Q36 k36 z36 => ?_
    rcases iteS hM4 with ⟨c36, hM4⟩ | ⟨c36, hM4⟩
    · refine condT (et rfl rfl) (decide_eq_true c36) ?_
      refine wp_skip ?_
      refine k36 _ _ ?_
      refine seqQ fun Q37 k37 z37 => ?_
      refine blockQ fun Q38 qb38 => ?_
      refine seqQ fun Q39 k39 z39 => ?_
      refine wp_region_lit ?_
      obtain ⟨x37, gx37, hM4⟩ := bs hM4
      refine Y wn rfl (yIa SL_25 (et rfl e4_25) (et rfl e4_27) hst (rdI q1) gx37) ?_
      obtain ⟨h38, hst⟩ := iLs hst q1 gx37
      refine Y wn rfl (yCt O_22 (et rfl rfl) hst (mtF mhF) rfl) ?_
      refine Y wn rfl (ya (v := h38.v) (et rfl rfl)) ?_
      refine wpList_nil ?_
      refine k39 _ _ ?_
      refine wp_region_lit ?_
      refine Y wn rfl (ym (v := h23.v) (et rfl e4_6)) ?_
      refine Y wn rfl (ym (v := h38.v) (et rfl rfl)) ?_
      obtain ⟨x40, gx40, hM4⟩ := bs hM4
      refine YH wn rfl (rAp hst SL_22 (et rfl rfl) (et rfl rfl) (rdI mhF) gx40) ?_
      clear hst
      intro h39 w hst
      refine Y wn rfl (ya (v := h39.v) (et rfl rfl)) ?_
      refine wpList_nil ?_
      refine qb38 _ _ _ ?_
      refine k37 _ _ ?_
      refine wp_region_lit ?_
      refine Y wn rfl (yadd (et rfl e4_27) rfl) ?_
      refine Y wn rfl (ym (v := .int .i64 (wa .i64 x25 1)) (et rfl rfl)) ?_
      refine wpList_nil ?_
      obtain rfl := someI hM4
      exact n4 _ _ _ rfl ⟨_, _, _, _, rfl, rfl, rfl, e4_25, e4_26, rfl, (hst.facts (allT (allT allI)))⟩
    · refine condF (et rfl rfl) (decide_eq_false c36) ?_
      refine wp_exit ?_
      refine z36 _ _ _ rfl ?_
      obtain rfl := someI hM4
      refine zz4 _ _ _ _ rfl rfl ?_
      exact je4_0 _ _ _ _ e4_6 hst (ho4 _ rfl)
  refine loopQ (fun s a w => ∃ (x7 : Int) (x8 : Int) (f : Nat → Value), (x7, x8) = s ∧ a = fr 36 f ∧ f 0 = h2.v ∧ f 3 = .int .i64 x7 ∧ f 9 = h2.v ∧ f 10 = .int .i64 (x1.length : Int) ∧ f 11 = .int .i64 x8 ∧ St w0 (ros) (rs) w) go3 ⟨_, _, _, rfl, rfl, rfl, rfl, rfl, rfl, rfl, hst⟩ ?_
  clear hst
  rintro _ _ w r3_ ⟨x7, x8, f, rfl, rfl, e3_0, e3_3, e3_9, e3_10, e3_11, hst⟩ hM3 ho3 Q100003 n3 zz3
  refine seqQ fun Q40 k40 z40 => ?_
  refine wp_region_lit ?_
  refine Y wn rfl (ylss (et rfl e3_11) (et rfl e3_10)) ?_
  refine wpList_nil ?_
  refine k40 _ _ ?_
  refine seqQ fun Q41 k41 z41 => ?_
  rcases iteS hM3 with ⟨c41, hM3⟩ | ⟨c41, hM3⟩
  · refine condT (et rfl rfl) (decide_eq_true c41) ?_
    refine wp_skip ?_
    refine k41 _ _ ?_
    refine seqQ fun Q42 k42 z42 => ?_
    refine blockQ fun Q43 qb43 => ?_
    refine seqQ fun Q44 k44 z44 => ?_
    refine wp_region_lit ?_
    obtain ⟨x42, gx42, hM3⟩ := bs hM3
    refine Y wn rfl (yIa SL_25 (et rfl e3_9) (et rfl e3_11) hst (rdI q1) gx42) ?_
    obtain ⟨h43, hst⟩ := iLs hst q1 gx42
    refine Y wn rfl (yCt O_22 (et rfl rfl) hst (mtF mhF) rfl) ?_
    refine Y wn rfl (ya (v := h43.v) (et rfl rfl)) ?_
    refine wpList_nil ?_
    refine k44 _ _ ?_
    refine seqQ fun Q45 k45 z45 => ?_
    refine wp_region_lit ?_
    refine Y wn rfl (ym (v := .int .i64 x7) (et rfl e3_3)) ?_
    refine Y wn rfl (ym (v := h43.v) (et rfl rfl)) ?_
    refine Y wn rfl (yLen SL_22 (et rfl rfl) hst (rdI mhF)) ?_
    refine Y wn rfl (yadd (et rfl rfl) (et rfl rfl)) ?_
    refine Y wn rfl (ya (v := .int .i64 (wa .i64 x7 (x42.length : Int))) (et rfl rfl)) ?_
    refine wpList_nil ?_
    refine k45 _ _ ?_
    refine seqQ fun Q46 k46 z46 => ?_
    refine wp_region_lit ?_
    refine Y wn rfl (ym (v := .int .i64 (wa .i64 x7 (x42.length : Int))) (et rfl rfl)) ?_
    refine Y wn rfl (ylss (et rfl rfl) rfl) ?_
    refine wpList_nil ?_
    refine k46 _ _ ?_
    have j5 : ∀ (f : Nat → Value) (w : World), f 0 = h2.v → f 3 = .int .i64 (wa .i64 x7 (x42.length : Int)) → f 9 = h2.v → f 10 = .int .i64 (x1.length : Int) → f 11 = .int .i64 x8 → St w0 (ros) (rs) w → slices_Concat_int_j5 x7 x42 x8 = some r3_ → Q43 .normal (fr 36 f) w := by
      intro f w ej5_0 ej5_3 ej5_9 ej5_10 ej5_11 hst hM
      refine qb43 _ _ _ ?_
      refine k42 _ _ ?_
      refine wp_region_lit ?_
      refine Y wn rfl (yadd (et rfl ej5_11) rfl) ?_
      refine Y wn rfl (ym (v := .int .i64 (wa .i64 x8 1)) (et rfl rfl)) ?_
      refine wpList_nil ?_
      obtain rfl := someI hM
      exact n3 _ _ _ rfl ⟨_, _, _, rfl, rfl, ej5_0, ej5_3, ej5_9, ej5_10, rfl, hst⟩
    rcases iteS hM3 with ⟨c44, hM3⟩ | ⟨c44, hM3⟩
    · refine condT (et rfl rfl) (decide_eq_true c44) ?_
      cases hM3
    · refine condF (et rfl rfl) (decide_eq_false c44) ?_
      refine wp_skip ?_
      exact j5 _ _ e3_0 rfl e3_9 e3_10 e3_11 (hst.facts (allT (allT allI))) hM3
  · refine condF (et rfl rfl) (decide_eq_false c41) ?_
    refine wp_exit ?_
    refine z41 _ _ _ rfl ?_
    obtain rfl := someI hM3
    refine zz3 _ _ _ _ rfl rfl ?_
    exact je3_0 _ _ _ e3_0 e3_3 hst (ho3 _ rfl)

theorem graph_Components_ok {w0 : World} {ros : List Fact} {rs : List Res} {w : World} {x1 : List (List Int)} {h2 : Hdr} {out : (List (List Int))} (hM : graph_Components x1 = some out) (q1 : imm (rS (rI .i64)) h2.v x1 ∈ ros) (hst : St w0 ros (rs) w) :
    Calls Try.prog 14 #[.agg #[h2.v]] w (fun e w => ∃ (h100001 : Hdr), e = .returned (h100001.v) ∧ St w0 (ros) (row 22 (rS (rI .i64)) h100001.v out :: rs) w) := by
  refine enterQ Try.func14 rfl Try.ntmps14 rfl fun Q hQ => ?_
  refine seqQ fun Q1 k1 z1 => ?_
  refine wp_region_lit ?_
  refine YB wn rfl (r_box (vals := [h2.v]) hst (et rfl rfl) rfl) ?_
  clear hst
  intro b3 w hst
  refine Y wn rfl (ya (v := hnil.v) rfl) ?_
  refine wpList_nil ?_
  refine k1 _ _ ?_
  refine seqQ fun Q2 k2 z2 => ?_
  refine seqQ fun Q3 k3 z3 => ?_
  refine wp_region_lit ?_
  refine Y wn rfl (yLbs (us := [h2.v]) ST_27 (et rfl rfl) hst mhR rfl rfl) ?_
  obtain ⟨r4, gr4, hM⟩ := bs hM
  refine Yc wn rfl (yCall FN_22 (a1 (et rfl rfl))) (graph_Check_ok (hM := gr4) (hst := hst) (q1 := q1)) ?_
  clear hst
  rintro _ w ⟨rfl, hst⟩
  refine ⟨_, rfl, ?_⟩
  refine Y wn rfl (yneq (et rfl rfl) rfl) ?_
  refine wpList_nil ?_
  refine k3 _ _ ?_
  rcases iteS hM with ⟨c5, hM⟩ | ⟨c5, hM⟩
  · refine condF (et rfl rfl) (nF (decide_eq_true c5)) ?_
    refine wp_skip ?_
    refine k2 _ _ ?_
    refine seqQ fun Q4 k4 z4 => ?_
    refine wp_region_lit ?_
    refine Y wn rfl (yFb FL_27_0 (et rfl rfl)) ?_
    refine Y wn rfl (yLb (u := h2.v) O_25 (et rfl rfl) hst mhR rfl) ?_
    refine Y wn rfl (yLen SL_25 (et rfl rfl) hst (rdI q1)) ?_
    obtain ⟨x8, gx8, hM⟩ := bs hM
    refine YH wn rfl (rMk hst SL_54 (et rfl rfl) gx8) ?_
    clear hst
    intro h6 w hst
    refine Y wn rfl (ya (v := h6.v) (et rfl rfl)) ?_
    refine wpList_nil ?_
    refine k4 _ _ ?_
    refine seqQ fun Q5 k5 z5 => ?_
    refine wp_region_lit ?_
    refine Y wn rfl (ya (v := hnil.v) rfl) ?_
    refine wpList_nil ?_
    refine k5 _ _ ?_
    refine seqQ fun Q6 k6 z6 => ?_
    refine seqQ fun Q7 k7 z7 => ?_
    refine wp_region_lit ?_
    refine Y wn rfl (yFb FL_27_0 (et rfl rfl)) ?_
    refine Y wn rfl (yLb (u := h2.v) O_25 (et rfl rfl) hst (mtR mhR) rfl) ?_
    refine Y wn rfl (yLen SL_25 (et rfl rfl) hst (rdI q1)) ?_
    refine Y wn rfl (ym (v := .int .i64 0) rfl) ?_
    refine wpList_nil ?_
    refine k7 _ _ ?_
    refine blockQ fun Q8 qb8 => ?_
    obtain ⟨o9, go9, hM⟩ := bs hM
    have je9_0 : ∀ (x170 : List (List Int)) (h169 : Hdr) (f : Nat → Value) (w : World), f 4 = h169.v → St w0 (ros) (row 22 (rS (rI .i64)) h169.v x170 :: rs) w → x170 = o9 → Q8 (.exit 0) (fr 48 f) w := by
      intro x170 h169 f w eje9_0_4 hst ho
      subst ho
      refine qb8 _ _ _ ?_
      refine k6 _ _ ?_
      refine seqQ fun Q159 k159 z159 => ?_
      refine wp_region_lit ?_
      refine Y wn rfl (ym (v := h169.v) (et rfl eje9_0_4)) ?_
      refine Y wn rfl (ya (v := h169.v) (et rfl rfl)) ?_
      refine wpList_nil ?_
      refine k159 _ _ ?_
      refine wp_ret ?_
      obtain rfl := someI hM
      exact hQ _ _ _ (fin1r Try.results14 ⟨rfl, rfl⟩ ⟨_, rfl, hst⟩)
    replace hst := hst.rowNh 22 (rS (rI .i64))
    refine loopQ (fun s a w => ∃ (x85 : List Bool) (x87 : List (List Int)) (x88 : Int) (f : Nat → Value) (h86 : Hdr), (x85, x87, x88) = s ∧ a = fr 48 f ∧ f 1 = .pointer (some ⟨b3, 0, none⟩) ∧ f 3 = h6.v ∧ f 4 = h86.v ∧ f 18 = .int .i64 (x1.length : Int) ∧ f 19 = .int .i64 x88 ∧ St w0 (ros) (box b3 27 [h2.v] :: row 4 rB h6.v x85 :: row 22 (rS (rI .i64)) h86.v x87 :: rs) w) go9 ⟨_, _, _, _, _, rfl, rfl, rfl, rfl, rfl, rfl, rfl, (hst.pk 3 [2, 1, 0] rfl)⟩ ?_
    clear hst
    rintro _ _ w r9_ ⟨x85, x87, x88, f, h86, rfl, rfl, e9_1, e9_3, e9_4, e9_18, e9_19, hst⟩ hM9 ho9 Q100009 n9 zz9
    refine seqQ fun Q160 k160 z160 => ?_
    refine wp_region_lit ?_
    refine Y wn rfl (ylss (et rfl e9_19) (et rfl e9_18)) ?_
    refine wpList_nil ?_
    refine k160 _ _ ?_
    refine seqQ fun Q161 k161 z161 => ?_
    rcases iteS hM9 with ⟨c171, hM9⟩ | ⟨c171, hM9⟩
    · refine condT (et rfl rfl) (decide_eq_true c171) ?_
      refine wp_skip ?_
      refine k161 _ _ ?_
      refine seqQ fun Q162 k162 z162 => ?_
      have j12 : ∀ (x220 : List Bool) (x222 : List (List Int)) (h221 : Hdr) (f : Nat → Value) (w : World), f 1 = .pointer (some ⟨b3, 0, none⟩) → f 3 = h6.v → f 4 = h221.v → f 18 = .int .i64 (x1.length : Int) → f 19 = .int .i64 x88 → St w0 (ros) (box b3 27 [h2.v] :: row 4 rB h6.v x220 :: row 22 (rS (rI .i64)) h221.v x222 :: rs) w → graph_Components_j12 x88 x220 x222 = some r9_ → Q162 .normal (fr 48 f) w := by
        intro x220 x222 h221 f w ej12_1 ej12_3 ej12_4 ej12_18 ej12_19 hst hM
        refine k162 _ _ ?_
        refine wp_region_lit ?_
        refine Y wn rfl (yadd (et rfl ej12_19) rfl) ?_
        refine Y wn rfl (ym (v := .int .i64 (wa .i64 x88 1)) (et rfl rfl)) ?_
        refine wpList_nil ?_
        obtain rfl := someI hM
        exact n9 _ _ _ rfl ⟨_, _, _, _, _, rfl, rfl, ej12_1, ej12_3, ej12_4, ej12_18, rfl, hst⟩
      refine blockQ fun Q211 qb211 => ?_
      refine seqQ fun Q212 k212 z212 => ?_
      refine wp_region_lit ?_
      refine Y wn rfl (ym (v := .int .i64 x88) (et rfl e9_19)) ?_
      refine Y wn rfl (ya (v := .int .i64 x88) (et rfl rfl)) ?_
      refine wpList_nil ?_
      refine k212 _ _ ?_
      refine seqQ fun Q213 k213 z213 => ?_
      refine seqQ fun Q214 k214 z214 => ?_
      refine wp_region_lit ?_
      refine Y wn rfl (ym (v := h6.v) (et rfl e9_3)) ?_
      refine Y wn rfl (ym (v := .int .i64 x88) (et rfl rfl)) ?_
      obtain ⟨x223, gx223, hM9⟩ := bs hM9
      refine Y wn rfl (yIa SL_54 (et rfl rfl) (et rfl rfl) hst (rdO (mtR mhR)) gx223) ?_
      refine Y wn rfl (yB O_4 (et rfl rfl) hst (rdO (mtR mhR)) gx223) ?_
      refine wpList_nil ?_
      refine k214 _ _ ?_
      rcases iteS hM9 with ⟨c224, hM9⟩ | ⟨c224, hM9⟩
      · refine condT (et rfl rfl) c224 ?_
        refine wp_exit ?_
        refine z213 _ _ _ rfl ?_
        refine qb211 _ _ _ ?_
        exact j12 _ _ _ _ _ e9_1 e9_3 e9_4 e9_18 e9_19 hst hM9
      · refine condF (et rfl rfl) (bfalse c224) ?_
        refine wp_skip ?_
        refine k213 _ _ ?_
        refine seqQ fun Q215 k215 z215 => ?_
        refine wp_region_lit ?_
        refine Y wn rfl (yLbs (us := [h2.v]) ST_27 (et rfl e9_1) hst mhR rfl rfl) ?_
        refine Y wn rfl (ym (v := .int .i64 x88) (et rfl rfl)) ?_
        obtain ⟨r225, gr225, hM9⟩ := bs hM9
        refine Yc wn rfl (yCall FN_38 (a2 (et rfl rfl) (et rfl rfl))) (graph_levels_ok (hM := gr225) (hst := hst) (q1 := q1)) ?_
        clear hst
        rintro _ w ⟨h226, rfl, hst⟩
        refine ⟨_, rfl, ?_⟩
        obtain ⟨r227, gr227, hM9⟩ := bs hM9
        replace hst := hst.fz
        refine Yc wn rfl (yCall FN_39 (a1 (et rfl rfl))) (slices_Concat_int_ok (hM := gr227) (hst := hst) (q1 := mhF)) ?_
        clear hst
        rintro _ w ⟨h228, rfl, hst⟩
        refine ⟨_, rfl, ?_⟩
        refine Y wn rfl (ya (v := h228.v) (et rfl rfl)) ?_
        refine wpList_nil ?_
        refine k215 _ _ ?_
        refine seqQ fun Q216 k216 z216 => ?_
        refine wp_region_lit ?_
        refine Y wn rfl (ym (v := h228.v) (et rfl rfl)) ?_
        obtain ⟨r229, gr229, hM9⟩ := bs hM9
        refine Yc wn rfl (yCall FN_40 (a1 (et rfl rfl))) (sortI_ok (hM := gr229) (hst := hst) ) ?_
        clear hst
        rintro _ w ⟨rfl, hst⟩
        refine ⟨_, rfl, ?_⟩
        refine wpList_nil ?_
        refine k216 _ _ ?_
        refine seqQ fun Q217 k217 z217 => ?_
        refine seqQ fun Q218 k218 z218 => ?_
        refine wp_region_lit ?_
        refine Y wn rfl (ym (v := h228.v) (et rfl rfl)) ?_
        refine Y wn rfl (yLen SL_22 (et rfl rfl) hst (rdO mhR)) ?_
        refine Y wn rfl (ym (v := .int .i64 0) rfl) ?_
        refine wpList_nil ?_
        refine k218 _ _ ?_
        refine blockQ fun Q219 qb219 => ?_
        obtain ⟨o13, go13, hM9⟩ := bs hM9
        have je13_0 : ∀ (x240 : List Bool) (f : Nat → Value) (w : World), f 1 = .pointer (some ⟨b3, 0, none⟩) → f 3 = h6.v → f 4 = h86.v → f 6 = h228.v → f 18 = .int .i64 (x1.length : Int) → f 19 = .int .i64 x88 → St w0 (ros) (box b3 27 [h2.v] :: row 4 rB h6.v x240 :: row 22 (rS (rI .i64)) h86.v x87 :: row 3 (rI .i64) h228.v r229 :: rs) w → x240 = o13 → Q219 (.exit 2) (fr 48 f) w := by
          intro x240 f w eje13_0_1 eje13_0_3 eje13_0_4 eje13_0_6 eje13_0_18 eje13_0_19 hst ho
          subst ho
          refine qb219 _ _ _ ?_
          refine k217 _ _ ?_
          refine wp_region_lit ?_
          refine Y wn rfl (ym (v := h86.v) (et rfl eje13_0_4)) ?_
          refine Y wn rfl (ym (v := h228.v) (et rfl eje13_0_6)) ?_
          replace hst := hst.pk 4 [3, 0, 0, 0] rfl
          replace hst := hst.fz
          refine YH wn rfl (rLt (n := 1) (l := [r229]) hst SL_25 [h228.v] (bp1 (et rfl rfl)) rfl rfl (mks1 (cs := [h228.v]) rfl (mkS mhF) mks0)) ?_
          clear hst
          intro h241 w hst
          obtain ⟨x243, gx243, hM9⟩ := bs hM9
          replace hst := hst.pk 4 [3, 0, 0, 0] rfl
          refine YH wn rfl (rAp hst SL_25 (et rfl rfl) (et rfl rfl) (rdO (mtR mhR)) gx243) ?_
          clear hst
          intro h242 w hst
          refine Y wn rfl (ya (v := h242.v) (et rfl rfl)) ?_
          refine wpList_nil ?_
          refine qb211 _ _ _ ?_
          exact j12 _ _ _ _ _ eje13_0_1 eje13_0_3 rfl eje13_0_18 eje13_0_19 ((hst.pk 4 [2, 2, 0] rfl).facts (allT allI)) hM9
        refine loopQ (fun s a w => ∃ (x233 : List Bool) (x234 : Int) (f : Nat → Value), (x233, x234) = s ∧ a = fr 48 f ∧ f 1 = .pointer (some ⟨b3, 0, none⟩) ∧ f 3 = h6.v ∧ f 4 = h86.v ∧ f 6 = h228.v ∧ f 18 = .int .i64 (x1.length : Int) ∧ f 19 = .int .i64 x88 ∧ f 32 = h228.v ∧ f 33 = .int .i64 (r229.length : Int) ∧ f 34 = .int .i64 x234 ∧ St w0 (ros) (box b3 27 [h2.v] :: row 4 rB h6.v x233 :: row 22 (rS (rI .i64)) h86.v x87 :: row 3 (rI .i64) h228.v r229 :: rs) w) go13 ⟨_, _, _, rfl, rfl, e9_1, e9_3, e9_4, rfl, e9_18, e9_19, rfl, rfl, rfl, ((hst.pk 4 [1, 1, 1, 0] rfl).facts (allT allI))⟩ ?_
        clear hst
        rintro _ _ w r13_ ⟨x233, x234, f, rfl, rfl, e13_1, e13_3, e13_4, e13_6, e13_18, e13_19, e13_32, e13_33, e13_34, hst⟩ hM13 ho13 Q100013 n13 zz13
        refine seqQ fun Q230 k230 z230 => ?_
        refine wp_region_lit ?_
        refine Y wn rfl (ylss (et rfl e13_34) (et rfl e13_33)) ?_
        refine wpList_nil ?_
        refine k230 _ _ ?_
        refine seqQ fun Q231 k231 z231 => ?_
        rcases iteS hM13 with ⟨c244, hM13⟩ | ⟨c244, hM13⟩
        · refine condT (et rfl rfl) (decide_eq_true c244) ?_
          refine wp_skip ?_
          refine k231 _ _ ?_
          refine seqQ fun Q232 k232 z232 => ?_
          refine blockQ fun Q233 qb233 => ?_
          refine seqQ fun Q234 k234 z234 => ?_
          refine wp_region_lit ?_
          obtain ⟨x245, gx245, hM13⟩ := bs hM13
          refine Y wn rfl (yIa SL_22 (et rfl e13_32) (et rfl e13_34) hst (rdO (mtR (mtR (mtR mhR)))) gx245) ?_
          refine Y wn rfl (yI O_3 (et rfl rfl) hst (rdO (mtR (mtR (mtR mhR)))) gx245) ?_
          refine Y wn rfl (ya (v := .int .i64 x245) (et rfl rfl)) ?_
          refine wpList_nil ?_
          refine k234 _ _ ?_
          refine wp_region_lit ?_
          refine Y wn rfl (ym (v := h6.v) (et rfl e13_3)) ?_
          refine Y wn rfl (ym (v := .int .i64 x245) (et rfl rfl)) ?_
          obtain ⟨x246, gx246, hM13⟩ := bs hM13
          refine Y wn rfl (yIs SL_54 (et rfl rfl) (et rfl rfl) hst (rdO (mtR mhR)) gx246) ?_
          replace hst := hst.pk 2 [1, 0] rfl
          refine YT wn rfl (r_sti (cs := [.bool true]) hst O_4 rfl (et rfl rfl) rfl rfl mkB gx246) ?_
          clear hst
          intro w hst
          refine wpList_nil ?_
          refine qb233 _ _ _ ?_
          refine k232 _ _ ?_
          refine wp_region_lit ?_
          refine Y wn rfl (yadd (et rfl e13_34) rfl) ?_
          refine Y wn rfl (ym (v := .int .i64 (wa .i64 x234 1)) (et rfl rfl)) ?_
          refine wpList_nil ?_
          obtain rfl := someI hM13
          exact n13 _ _ _ rfl ⟨_, _, _, rfl, rfl, e13_1, e13_3, e13_4, e13_6, e13_18, e13_19, e13_32, e13_33, rfl, (hst.pk 4 [1, 0, 0, 0] rfl)⟩
        · refine condF (et rfl rfl) (decide_eq_false c244) ?_
          refine wp_exit ?_
          refine z231 _ _ _ rfl ?_
          obtain rfl := someI hM13
          refine zz13 _ _ _ _ rfl rfl ?_
          exact je13_0 _ _ _ e13_1 e13_3 e13_4 e13_6 e13_18 e13_19 hst (ho13 _ rfl)
    · refine condF (et rfl rfl) (decide_eq_false c171) ?_
      refine wp_exit ?_
      refine z161 _ _ _ rfl ?_
      obtain rfl := someI hM9
      refine zz9 _ _ _ _ rfl rfl ?_
      exact je9_0 _ _ _ _ e9_4 (hst.pk 3 [2] rfl) (ho9 _ rfl)
  · refine condT (et rfl rfl) (nT (decide_eq_false c5)) ?_
    refine seqQ fun Q235 k235 z235 => ?_
    refine wp_region_lit ?_
    refine Y wn rfl (ya (v := hnil.v) rfl) ?_
    refine wpList_nil ?_
    refine k235 _ _ ?_
    refine wp_ret ?_
    refine z2 _ _ _ rfl ?_
    obtain rfl := someI hM
    replace hst := hst.rowNh 22 (rS (rI .i64))
    exact hQ _ _ _ (fin1r Try.results14 ⟨rfl, rfl⟩ ⟨_, rfl, (hst.pk 2 [0] rfl)⟩)

theorem sparselaw12_awake_ok {w0 : World} {ros : List Fact} {rs : List Res} {w : World} {out : Bool} (hM : sparselaw12_awake = some out) (hst : St w0 ros (rs) w) :
    Calls Try.prog 9 #[] w (fun e w => e = .returned (.bool out) ∧ St w0 (ros) (rs) w) := by
  refine enterQ Try.func9 rfl Try.ntmps9 rfl fun Q hQ => ?_
  refine seqQ fun Q1 k1 z1 => ?_
  refine wp_region_lit ?_
  refine Y wn rfl (ya (v := .bool false) rfl) ?_
  refine wpList_nil ?_
  refine k1 _ _ ?_
  refine seqQ fun Q2 k2 z2 => ?_
  refine wp_region_lit ?_
  refine YH wn rfl (rLt (n := 1) (l := [1]) hst SL_22 [.int .i64 1] (bp1 rfl) rfl rfl (mks1 (cs := [.int .i64 1]) rfl mkI mks0)) ?_
  clear hst
  intro h1 w hst
  refine YH wn rfl (rLt (n := 2) (l := [0, 2]) hst SL_22 [.int .i64 0, .int .i64 2] (bp2 rfl rfl) rfl rfl (mks1 (cs := [.int .i64 0]) rfl mkI (mks1 (cs := [.int .i64 2]) rfl mkI mks0))) ?_
  clear hst
  intro h2 w hst
  refine YH wn rfl (rLt (n := 2) (l := [1, 3]) hst SL_22 [.int .i64 1, .int .i64 3] (bp2 rfl rfl) rfl rfl (mks1 (cs := [.int .i64 1]) rfl mkI (mks1 (cs := [.int .i64 3]) rfl mkI mks0))) ?_
  clear hst
  intro h3 w hst
  refine YH wn rfl (rLt (n := 1) (l := [2]) hst SL_22 [.int .i64 2] (bp1 rfl) rfl rfl (mks1 (cs := [.int .i64 2]) rfl mkI mks0)) ?_
  clear hst
  intro h4 w hst
  replace hst := hst.pk 4 [3, 0, 0, 0] rfl
  replace hst := hst.fz
  replace hst := hst.pk 3 [2, 0, 0] rfl
  replace hst := hst.fz
  replace hst := hst.pk 2 [1, 0] rfl
  replace hst := hst.fz
  replace hst := hst.fz
  refine YH wn rfl (rLt (n := 4) (l := [[1], [0, 2], [1, 3], [2]]) hst SL_25 [h1.v, h2.v, h3.v, h4.v] (bp4 (et rfl rfl) (et rfl rfl) (et rfl rfl) (et rfl rfl)) rfl rfl (mks1 (cs := [h1.v]) rfl (mkS (mtF (mtF (mtF mhF)))) (mks1 (cs := [h2.v]) rfl (mkS (mtF (mtF mhF))) (mks1 (cs := [h3.v]) rfl (mkS (mtF mhF)) (mks1 (cs := [h4.v]) rfl (mkS mhF) mks0))))) ?_
  clear hst
  intro h5 w hst
  refine Y wn rfl (ybuild (us := [h5.v]) [(0, h5.v)] SO_27 (bp1 (et rfl rfl)) rfl) ?_
  refine YB wn rfl (rAl hst ZT_27) ?_
  clear hst
  intro b6 w hst
  refine YT wn rfl (r_stbn (vals' := [h5.v]) (us := [h5.v]) hst ST_27 (et rfl rfl) (et rfl rfl) rfl rfl (one_of rfl) rfl) ?_
  clear hst
  intro w hst
  refine wpList_nil ?_
  refine k2 _ _ ?_
  refine seqQ fun Q3 k3 z3 => ?_
  refine wp_region_lit ?_
  refine Y wn rfl (yLbs (us := [h5.v]) ST_27 (et rfl rfl) hst mhR rfl rfl) ?_
  obtain ⟨r7, gr7, hM⟩ := bs hM
  replace hst := hst.pk 2 [1, 0] rfl
  replace hst := hst.fz
  refine Yc wn rfl (yCall FN_22 (a1 (et rfl rfl))) (graph_Check_ok (hM := gr7) (hst := hst) (q1 := mhF)) ?_
  clear hst
  rintro _ w ⟨rfl, hst⟩
  refine ⟨_, rfl, ?_⟩
  refine Y wn rfl (yeql (et rfl rfl) rfl) ?_
  refine Y wn rfl (ym (v := .bool (decide (r7 = 0))) (et rfl rfl)) ?_
  obtain ⟨r9, gr9, hM⟩ := bs hM
  refine joinW 4 (fun f w => f 1 = .pointer (some ⟨b6, 0, none⟩) ∧ f 15 = .bool r9 ∧ St w0 (imm (rS (rI .i64)) h5.v [[1], [0, 2], [1, 3], [2]] :: ros) (box b6 27 [h5.v] :: rs) w) (fun j1 => ?_) ?_
  · rcases iteS gr9 with ⟨c11, gr9⟩ | ⟨c11, gr9⟩
    · refine Y (wg rfl rfl rfl (decide_eq_true c11)) rfl (yLbs (us := [h5.v]) ST_27 (et rfl rfl) hst mhR rfl rfl) ?_
      obtain ⟨r12, gr12, gr9⟩ := bs gr9
      refine Yc (wg rfl rfl rfl (decide_eq_true c11)) rfl (yCall FN_17 (a2 (et rfl rfl) rfl)) (graph_Peripheral_ok (hM := gr12) (hst := hst) (q1 := mhF)) ?_
      clear hst
      rintro _ w ⟨rfl, hst⟩
      refine ⟨_, rfl, ?_⟩
      refine Y (wg rfl rfl rfl (decide_eq_true c11)) rfl (yeql (et rfl rfl) rfl) ?_
      refine Y wn rfl (ypt (v := .bool (decide (r12 = 3))) (et rfl rfl) (decide_eq_true c11) (et rfl rfl)) ?_
      obtain rfl := someI gr9
      exact j1 _ _ ⟨rfl, rfl, (hst.facts (allC mhF (allT (allT (allT (allT (allT allI)))))))⟩
    · refine Gn (wx rfl rfl rfl (decide_eq_false c11)) rfl ?_
      refine Gn (wx rfl rfl rfl (decide_eq_false c11)) rfl ?_
      refine Gn (wx rfl rfl rfl (decide_eq_false c11)) rfl ?_
      refine Y wn rfl (ypf (v := .bool false) (et rfl rfl) (decide_eq_false c11) rfl) ?_
      obtain rfl := someI gr9
      exact j1 _ _ ⟨rfl, rfl, (hst.facts (allC mhF (allT (allT (allT (allT (allT allI)))))))⟩
  clear hst
  rintro f w ⟨e10_1, e10_15, hst⟩
  refine Y wn rfl (ym (v := .bool r9) (et rfl e10_15)) ?_
  obtain ⟨r20, gr20, hM⟩ := bs hM
  refine joinW 8 (fun f w => f 1 = .pointer (some ⟨b6, 0, none⟩) ∧ f 24 = .bool r20 ∧ St w0 (imm (rS (rI .i64)) h5.v [[1], [0, 2], [1, 3], [2]] :: ros) (box b6 27 [h5.v] :: rs) w) (fun j2 => ?_) ?_
  · rcases iteS gr20 with ⟨c22, gr20⟩ | ⟨c22, gr20⟩
    · refine Y (wg rfl rfl rfl c22) rfl (yLbs (us := [h5.v]) ST_27 (et rfl e10_1) hst mhR rfl rfl) ?_
      obtain ⟨r23, gr23, gr20⟩ := bs gr20
      refine Yc (wg rfl rfl rfl c22) rfl (yCall FN_12 (a2 (et rfl rfl) rfl)) (graph_Levels_ok (hM := gr23) (hst := hst) (q1 := mhF)) ?_
      clear hst
      rintro _ w ⟨h24, rfl, hst⟩
      refine ⟨_, rfl, ?_⟩
      refine YH (wg rfl rfl rfl c22) rfl (rLt (n := 1) (l := [1]) hst SL_22 [.int .i64 1] (bp1 rfl) rfl rfl (mks1 (cs := [.int .i64 1]) rfl mkI mks0)) ?_
      clear hst
      intro h25 w hst
      refine YH (wg rfl rfl rfl c22) rfl (rLt (n := 2) (l := [0, 2]) hst SL_22 [.int .i64 0, .int .i64 2] (bp2 rfl rfl) rfl rfl (mks1 (cs := [.int .i64 0]) rfl mkI (mks1 (cs := [.int .i64 2]) rfl mkI mks0))) ?_
      clear hst
      intro h26 w hst
      refine YH (wg rfl rfl rfl c22) rfl (rLt (n := 1) (l := [3]) hst SL_22 [.int .i64 3] (bp1 rfl) rfl rfl (mks1 (cs := [.int .i64 3]) rfl mkI mks0)) ?_
      clear hst
      intro h27 w hst
      replace hst := hst.pk 3 [2, 0, 0] rfl
      replace hst := hst.fz
      replace hst := hst.pk 2 [1, 0] rfl
      replace hst := hst.fz
      replace hst := hst.fz
      refine YH (wg rfl rfl rfl c22) rfl (rLt (n := 3) (l := [[1], [0, 2], [3]]) hst SL_25 [h25.v, h26.v, h27.v] (bp3 (et rfl rfl) (et rfl rfl) (et rfl rfl)) rfl rfl (mks1 (cs := [h25.v]) rfl (mkS (mtF (mtF mhF))) (mks1 (cs := [h26.v]) rfl (mkS (mtF mhF)) (mks1 (cs := [h27.v]) rfl (mkS mhF) mks0)))) ?_
      clear hst
      intro h28 w hst
      obtain ⟨r29, gr29, gr20⟩ := bs gr20
      replace hst := hst.pk 2 [1, 0] rfl
      replace hst := hst.fz
      replace hst := hst.fz
      refine Yc (wg rfl rfl rfl c22) rfl (yCall FN_24 (a2 (et rfl rfl) (et rfl rfl))) (sparsekit_Lists_ok (hM := gr29) (hst := hst) (q1 := (mtF mhF)) (q2 := mhF)) ?_
      clear hst
      rintro _ w ⟨rfl, hst⟩
      refine ⟨_, rfl, ?_⟩
      refine Y wn rfl (ypt (v := .bool r29) (et rfl rfl) c22 (et rfl rfl)) ?_
      obtain rfl := someI gr20
      exact j2 _ _ ⟨e10_1, rfl, (hst.facts (allC (mtF (mtF (mtF (mtF (mtF mhF))))) (allT (allT (allT (allT (allT (allT allI))))))))⟩
    · refine Gn (wx rfl rfl rfl (bfalse c22)) rfl ?_
      refine Gn (wx rfl rfl rfl (bfalse c22)) rfl ?_
      refine Gn (wx rfl rfl rfl (bfalse c22)) rfl ?_
      refine Gn (wx rfl rfl rfl (bfalse c22)) rfl ?_
      refine Gn (wx rfl rfl rfl (bfalse c22)) rfl ?_
      refine Gn (wx rfl rfl rfl (bfalse c22)) rfl ?_
      refine Gn (wx rfl rfl rfl (bfalse c22)) rfl ?_
      refine Y wn rfl (ypf (v := .bool false) (et rfl rfl) (bfalse c22) rfl) ?_
      obtain rfl := someI gr20
      exact j2 _ _ ⟨e10_1, rfl, hst⟩
  clear hst
  rintro f w ⟨e21_1, e21_24, hst⟩
  refine Y wn rfl (ym (v := .bool r20) (et rfl e21_24)) ?_
  obtain ⟨r32, gr32, hM⟩ := bs hM
  refine joinW 5 (fun f w => f 30 = .bool r32 ∧ St w0 (ros) (rs) w) (fun j3 => ?_) ?_
  · rcases iteS gr32 with ⟨c34, gr32⟩ | ⟨c34, gr32⟩
    · refine Y (wg rfl rfl rfl c34) rfl (yLbs (us := [h5.v]) ST_27 (et rfl e21_1) hst mhR rfl rfl) ?_
      obtain ⟨r35, gr35, gr32⟩ := bs gr32
      refine Yc (wg rfl rfl rfl c34) rfl (yCall FN_14 (a1 (et rfl rfl))) (graph_Components_ok (hM := gr35) (hst := hst) (q1 := mhF)) ?_
      clear hst
      rintro _ w ⟨h36, rfl, hst⟩
      refine ⟨_, rfl, ?_⟩
      refine Y (wg rfl rfl rfl c34) rfl (yLen SL_25 (et rfl rfl) hst (rdO mhR)) ?_
      refine Y (wg rfl rfl rfl c34) rfl (yeql (et rfl rfl) rfl) ?_
      refine Y wn rfl (ypt (v := .bool (decide ((r35.length : Int) = 1))) (et rfl rfl) c34 (et rfl rfl)) ?_
      obtain rfl := someI gr32
      exact j3 _ _ ⟨rfl, ((hst.pk 2 [] rfl).facts (allT allI))⟩
    · refine Gn (wx rfl rfl rfl (bfalse c34)) rfl ?_
      refine Gn (wx rfl rfl rfl (bfalse c34)) rfl ?_
      refine Gn (wx rfl rfl rfl (bfalse c34)) rfl ?_
      refine Gn (wx rfl rfl rfl (bfalse c34)) rfl ?_
      refine Y wn rfl (ypf (v := .bool false) (et rfl rfl) (bfalse c34) rfl) ?_
      obtain rfl := someI gr32
      exact j3 _ _ ⟨rfl, ((hst.pk 1 [] rfl).facts (allT allI))⟩
  clear hst
  rintro f w ⟨e33_30, hst⟩
  refine Y wn rfl (ya (v := .bool r32) (et rfl e33_30)) ?_
  refine wpList_nil ?_
  refine k3 _ _ ?_
  refine wp_ret ?_
  obtain rfl := someI hM
  exact hQ _ _ _ (fin1r Try.results9 ⟨rfl, rfl⟩ ⟨rfl, hst⟩)

theorem sparsekit_Place_ok {w0 : World} {ros : List Fact} {rs : List Res} {w : World} {x1 : Int} {x2 : Int} {out : Int} (hM : sparsekit_Place x1 x2 = some out) (hst : St w0 ros (rs) w) :
    Calls Try.prog 10 #[.int .i64 x1, .int .i64 x2] w (fun e w => e = .returned (.int .i64 out) ∧ St w0 (ros) (rs) w) := by
  refine enterQ Try.func10 rfl Try.ntmps10 rfl fun Q hQ => ?_
  refine seqQ fun Q1 k1 z1 => ?_
  refine wp_region_lit ?_
  refine Y wn rfl (ya (v := .int .i64 0) rfl) ?_
  refine wpList_nil ?_
  refine k1 _ _ ?_
  refine seqQ fun Q2 k2 z2 => ?_
  refine wp_region_lit ?_
  refine Y wn rfl (ym (v := .int .i64 x1) (et rfl rfl)) ?_
  refine Y wn rfl (ycv (k' := .u64) (by kernel_rfl) (by kernel_rfl) (et rfl rfl)) ?_
  refine Y wn rfl (ym (v := .int .i64 x2) (et rfl rfl)) ?_
  refine Y wn rfl (ycv (k' := .u64) (by kernel_rfl) (by kernel_rfl) (et rfl rfl)) ?_
  obtain ⟨x3, gx3, hM⟩ := bs hM
  refine Y wn rfl (yrem (et rfl rfl) (et rfl rfl) gx3) ?_
  refine Y wn rfl (ycv (k' := .i64) (by kernel_rfl) (by kernel_rfl) (et rfl rfl)) ?_
  refine Y wn rfl (ya (v := .int .i64 (wc .i64 x3)) (et rfl rfl)) ?_
  refine wpList_nil ?_
  refine k2 _ _ ?_
  refine wp_ret ?_
  obtain rfl := someI hM
  exact hQ _ _ _ (fin1r Try.results10 ⟨rfl, rfl⟩ ⟨rfl, hst⟩)

theorem sparseref12_FromTable_ok {w0 : World} {ros : List Fact} {rs : List Res} {w : World} {x1 : List (List Bool)} {h2 : Hdr} {out : (List (List Int))} (hM : sparseref12_FromTable x1 = some out) (q1 : imm (rS rB) h2.v x1 ∈ ros) (hst : St w0 ros (rs) w) :
    Calls Try.prog 36 #[h2.v] w (fun e w => ∃ (h100001 : Hdr), e = .returned (.agg #[h100001.v]) ∧ St w0 (ros) (row 22 (rS (rI .i64)) h100001.v out :: rs) w) := by
  refine enterQ Try.func36 rfl Try.ntmps36 rfl fun Q hQ => ?_
  refine seqQ fun Q1 k1 z1 => ?_
  refine wp_region_lit ?_
  refine YB wn rfl (rAl hst ZT_27) ?_
  clear hst
  intro b3 w hst
  refine wpList_nil ?_
  refine k1 _ _ ?_
  refine seqQ fun Q2 k2 z2 => ?_
  refine wp_region_lit ?_
  refine YB wn rfl (rAl hst ZT_27) ?_
  clear hst
  intro b4 w hst
  refine wpList_nil ?_
  refine k2 _ _ ?_
  refine seqQ fun Q3 k3 z3 => ?_
  refine seqQ fun Q4 k4 z4 => ?_
  refine wp_region_lit ?_
  refine Y wn rfl (ya (v := .int .i64 0) rfl) ?_
  refine wpList_nil ?_
  refine k4 _ _ ?_
  refine blockQ fun Q5 qb5 => ?_
  obtain ⟨o27, go27, hM⟩ := bs hM
  have je27_0 : ∀ (x258 : List (List Int)) (h257 : Hdr) (f : Nat → Value) (w : World), f 2 = .pointer (some ⟨b3, 0, none⟩) → f 3 = .pointer (some ⟨b4, 0, none⟩) → St w0 (ros) (box b3 27 [hnil.v] :: row 22 (rS (rI .i64)) h257.v x258 :: box b4 27 [h257.v] :: rs) w → x258 = o27 → Q5 (.exit 0) (fr 51 f) w := by
    intro x258 h257 f w eje27_0_2 eje27_0_3 hst ho
    subst ho
    refine qb5 _ _ _ ?_
    refine k3 _ _ ?_
    refine seqQ fun Q52 k52 z52 => ?_
    refine wp_region_lit ?_
    refine Y wn rfl (yLbs (us := [h257.v]) ST_27 (et rfl eje27_0_3) hst (mtR (mtR mhR)) rfl rfl) ?_
    refine YT wn rfl (r_stbn (vals' := [h257.v]) (us := [h257.v]) hst ST_27 (et rfl eje27_0_2) (et rfl rfl) rfl rfl (one_of rfl) rfl) ?_
    clear hst
    intro w hst
    refine wpList_nil ?_
    refine k52 _ _ ?_
    refine wp_ret ?_
    obtain rfl := someI hM
    exact hQ _ _ _ (fin1r Try.results36 (rcs2 rfl eje27_0_2 hst mhR ST_27 rfl) ⟨_, rfl, (hst.pk 3 [1] rfl)⟩)
  replace hst := hst.rowNh 22 (rS (rI .i64))
  refine loopQ (fun s a w => ∃ (x129 : List (List Int)) (x130 : Int) (f : Nat → Value) (h128 : Hdr), (x129, x130) = s ∧ a = fr 51 f ∧ f 0 = h2.v ∧ f 2 = .pointer (some ⟨b3, 0, none⟩) ∧ f 3 = .pointer (some ⟨b4, 0, none⟩) ∧ f 4 = .int .i64 x130 ∧ St w0 (ros) (box b3 27 [hnil.v] :: row 22 (rS (rI .i64)) h128.v x129 :: box b4 27 [h128.v] :: rs) w) go27 ⟨_, _, _, _, rfl, rfl, rfl, rfl, rfl, rfl, (hst.pk 3 [2, 0, 0] rfl)⟩ ?_
  clear hst
  rintro _ _ w r27_ ⟨x129, x130, f, h128, rfl, rfl, e27_0, e27_2, e27_3, e27_4, hst⟩ hM27 ho27 Q100027 n27 zz27
  refine seqQ fun Q53 k53 z53 => ?_
  refine seqQ fun Q54 k54 z54 => ?_
  refine wp_region_lit ?_
  refine Y wn rfl (ym (v := .int .i64 x130) (et rfl e27_4)) ?_
  refine Y wn rfl (ym (v := h2.v) (et rfl e27_0)) ?_
  refine Y wn rfl (yLen SL_53 (et rfl rfl) hst (rdI q1)) ?_
  refine Y wn rfl (ylss (et rfl rfl) (et rfl rfl)) ?_
  refine wpList_nil ?_
  refine k54 _ _ ?_
  rcases iteS hM27 with ⟨c259, hM27⟩ | ⟨c259, hM27⟩
  · refine condT (et rfl rfl) (decide_eq_true c259) ?_
    refine wp_skip ?_
    refine k53 _ _ ?_
    refine seqQ fun Q55 k55 z55 => ?_
    refine blockQ fun Q56 qb56 => ?_
    refine seqQ fun Q57 k57 z57 => ?_
    refine wp_region_lit ?_
    refine Y wn rfl (ya (v := hnil.v) rfl) ?_
    refine wpList_nil ?_
    refine k57 _ _ ?_
    refine seqQ fun Q58 k58 z58 => ?_
    refine seqQ fun Q59 k59 z59 => ?_
    refine wp_region_lit ?_
    refine Y wn rfl (ya (v := .int .i64 0) rfl) ?_
    refine wpList_nil ?_
    refine k59 _ _ ?_
    refine blockQ fun Q60 qb60 => ?_
    obtain ⟨o36, go36, hM27⟩ := bs hM27
    have je36_0 : ∀ (x341 : List Int) (h340 : Hdr) (f : Nat → Value) (w : World), f 0 = h2.v → f 2 = .pointer (some ⟨b3, 0, none⟩) → f 3 = .pointer (some ⟨b4, 0, none⟩) → f 4 = .int .i64 x130 → f 5 = h340.v → St w0 (ros) (box b3 27 [hnil.v] :: row 22 (rS (rI .i64)) h128.v x129 :: box b4 27 [h128.v] :: row 3 (rI .i64) h340.v x341 :: rs) w → x341 = o36 → Q60 (.exit 2) (fr 51 f) w := by
      intro x341 h340 f w eje36_0_0 eje36_0_2 eje36_0_3 eje36_0_4 eje36_0_5 hst ho
      subst ho
      refine qb60 _ _ _ ?_
      refine k58 _ _ ?_
      refine wp_region_lit ?_
      refine Y wn rfl (yFb FL_27_0 (et rfl eje36_0_3)) ?_
      refine Y wn rfl (yLb (u := h128.v) O_25 (et rfl rfl) hst (mtR (mtR mhR)) rfl) ?_
      refine Y wn rfl (ym (v := h340.v) (et rfl eje36_0_5)) ?_
      replace hst := hst.pk 4 [3, 0, 0, 0] rfl
      replace hst := hst.fz
      refine YH wn rfl (rLt (n := 1) (l := [x341]) hst SL_25 [h340.v] (bp1 (et rfl rfl)) rfl rfl (mks1 (cs := [h340.v]) rfl (mkS mhF) mks0)) ?_
      clear hst
      intro h342 w hst
      obtain ⟨x344, gx344, hM27⟩ := bs hM27
      replace hst := hst.pk 3 [2, 0, 0] rfl
      refine YH wn rfl (rAp hst SL_25 (et rfl rfl) (et rfl rfl) (rdO (mtR mhR)) gx344) ?_
      clear hst
      intro h343 w hst
      refine Y wn rfl (yFb FL_27_0 (et rfl eje36_0_3)) ?_
      replace hst := hst.pk 4 [3, 0, 0, 0] rfl
      refine YT wn rfl (r_stb1 (vals' := [h343.v]) hst O_25 (et rfl rfl) (et rfl rfl) rfl rfl rfl rfl) ?_
      clear hst
      intro w hst
      refine wpList_nil ?_
      refine qb56 _ _ _ ?_
      refine k55 _ _ ?_
      refine wp_region_lit ?_
      refine Y wn rfl (ym (v := .int .i64 x130) (et rfl eje36_0_4)) ?_
      refine Y wn rfl (yadd (et rfl rfl) rfl) ?_
      refine Y wn rfl (ya (v := .int .i64 (wa .i64 x130 1)) (et rfl rfl)) ?_
      refine wpList_nil ?_
      obtain rfl := someI hM27
      exact n27 _ _ _ rfl ⟨_, _, _, _, rfl, rfl, eje36_0_0, eje36_0_2, eje36_0_3, rfl, ((hst.pk 4 [3, 1, 0] rfl).facts (allT allI))⟩
    replace hst := hst.rowNh 3 (rI .i64)
    refine loopQ (fun s a w => ∃ (x298 : List Int) (x299 : Int) (f : Nat → Value) (h297 : Hdr), (x298, x299) = s ∧ a = fr 51 f ∧ f 0 = h2.v ∧ f 2 = .pointer (some ⟨b3, 0, none⟩) ∧ f 3 = .pointer (some ⟨b4, 0, none⟩) ∧ f 4 = .int .i64 x130 ∧ f 5 = h297.v ∧ f 6 = .int .i64 x299 ∧ St w0 (ros) (box b3 27 [hnil.v] :: row 22 (rS (rI .i64)) h128.v x129 :: box b4 27 [h128.v] :: row 3 (rI .i64) h297.v x298 :: rs) w) go36 ⟨_, _, _, _, rfl, rfl, e27_0, e27_2, e27_3, e27_4, rfl, rfl, (hst.pk 4 [1, 1, 1, 0] rfl)⟩ ?_
    clear hst
    rintro _ _ w r36_ ⟨x298, x299, f, h297, rfl, rfl, e36_0, e36_2, e36_3, e36_4, e36_5, e36_6, hst⟩ hM36 ho36 Q100036 n36 zz36
    refine seqQ fun Q71 k71 z71 => ?_
    refine seqQ fun Q72 k72 z72 => ?_
    refine wp_region_lit ?_
    refine Y wn rfl (ym (v := .int .i64 x299) (et rfl e36_6)) ?_
    refine Y wn rfl (ym (v := h2.v) (et rfl e36_0)) ?_
    refine Y wn rfl (yLen SL_53 (et rfl rfl) hst (rdI q1)) ?_
    refine Y wn rfl (ylss (et rfl rfl) (et rfl rfl)) ?_
    refine wpList_nil ?_
    refine k72 _ _ ?_
    rcases iteS hM36 with ⟨c345, hM36⟩ | ⟨c345, hM36⟩
    · refine condT (et rfl rfl) (decide_eq_true c345) ?_
      refine wp_skip ?_
      refine k71 _ _ ?_
      refine seqQ fun Q73 k73 z73 => ?_
      refine blockQ fun Q74 qb74 => ?_
      refine seqQ fun Q75 k75 z75 => ?_
      refine wp_region_lit ?_
      refine Y wn rfl (ym (v := .int .i64 x130) (et rfl e36_4)) ?_
      refine Y wn rfl (ym (v := .int .i64 x299) (et rfl e36_6)) ?_
      refine Y wn rfl (yneq (et rfl rfl) (et rfl rfl)) ?_
      refine Y wn rfl (ym (v := .bool (!(decide (x130 = x299)))) (et rfl rfl)) ?_
      obtain ⟨r358, gr358, hM36⟩ := bs hM36
      refine joinW 17 (fun f w => f 0 = h2.v ∧ f 2 = .pointer (some ⟨b3, 0, none⟩) ∧ f 3 = .pointer (some ⟨b4, 0, none⟩) ∧ f 4 = .int .i64 x130 ∧ f 5 = h297.v ∧ f 6 = .int .i64 x299 ∧ f 39 = .bool r358 ∧ St w0 (ros) (box b3 27 [hnil.v] :: row 22 (rS (rI .i64)) h128.v x129 :: box b4 27 [h128.v] :: row 3 (rI .i64) h297.v x298 :: rs) w) (fun j38 => ?_) ?_
      · rcases iteS gr358 with ⟨c360, gr358⟩ | ⟨c360, gr358⟩
        · refine Gn (wx rfl rfl rfl (nF (decide_eq_true c360))) rfl ?_
          refine Gn (wx rfl rfl rfl (nF (decide_eq_true c360))) rfl ?_
          refine Gn (wx rfl rfl rfl (nF (decide_eq_true c360))) rfl ?_
          refine Gn (wx rfl rfl rfl (nF (decide_eq_true c360))) rfl ?_
          refine Gn (wx rfl rfl rfl (nF (decide_eq_true c360))) rfl ?_
          refine Gn (wx rfl rfl rfl (nF (decide_eq_true c360))) rfl ?_
          refine Gn (wx rfl rfl rfl (nF (decide_eq_true c360))) rfl ?_
          refine Gn (wx rfl rfl rfl (nF (decide_eq_true c360))) rfl ?_
          refine Gn (wxu rfl rfl rfl) rfl ?_
          refine Gn (wxu rfl rfl rfl) rfl ?_
          refine Gn (wxu rfl rfl rfl) rfl ?_
          refine Gn (wxu rfl rfl rfl) rfl ?_
          refine Gn (wxu rfl rfl rfl) rfl ?_
          refine Gn (wxu rfl rfl rfl) rfl ?_
          refine Gn (wxu rfl rfl rfl) rfl ?_
          refine Gn (wx rfl rfl rfl (nF (decide_eq_true c360))) rfl ?_
          refine Y wn rfl (ypf (v := .bool false) (et rfl rfl) (nF (decide_eq_true c360)) rfl) ?_
          obtain rfl := someI gr358
          exact j38 _ _ ⟨e36_0, e36_2, e36_3, e36_4, e36_5, e36_6, rfl, hst⟩
        · refine Y (wg rfl rfl rfl (nT (decide_eq_false c360))) rfl (ym (v := h2.v) (et rfl e36_0)) ?_
          refine Y (wg rfl rfl rfl (nT (decide_eq_false c360))) rfl (ym (v := .int .i64 x130) (et rfl e36_4)) ?_
          obtain ⟨x361, gx361, gr358⟩ := bs gr358
          refine Y (wg rfl rfl rfl (nT (decide_eq_false c360))) rfl (yIa SL_53 (et rfl rfl) (et rfl rfl) hst (rdI q1) gx361) ?_
          obtain ⟨h362, hst⟩ := iLs hst q1 gx361
          refine Y (wg rfl rfl rfl (nT (decide_eq_false c360))) rfl (yCt O_54 (et rfl rfl) hst (mtF mhF) rfl) ?_
          refine Y (wg rfl rfl rfl (nT (decide_eq_false c360))) rfl (ym (v := .int .i64 x299) (et rfl e36_6)) ?_
          obtain ⟨x363, gx363, gr358⟩ := bs gr358
          refine Y (wg rfl rfl rfl (nT (decide_eq_false c360))) rfl (yIa SL_54 (et rfl rfl) (et rfl rfl) hst (rdI mhF) gx363) ?_
          refine Y (wg rfl rfl rfl (nT (decide_eq_false c360))) rfl (yB O_4 (et rfl rfl) hst (rdI mhF) gx363) ?_
          refine Y (wg rfl rfl rfl (nT (decide_eq_false c360))) rfl (ym (v := .bool x363) (et rfl rfl)) ?_
          obtain ⟨r367, gr367, gr358⟩ := bs gr358
          refine joinW 8 (fun f w => f 0 = h2.v ∧ f 2 = .pointer (some ⟨b3, 0, none⟩) ∧ f 3 = .pointer (some ⟨b4, 0, none⟩) ∧ f 4 = .int .i64 x130 ∧ f 5 = h297.v ∧ f 6 = .int .i64 x299 ∧ f 22 = .bool (!(decide (x130 = x299))) ∧ f 23 = h2.v ∧ f 24 = .int .i64 x130 ∧ f 26 = h362.v ∧ f 27 = .int .i64 x299 ∧ f 29 = .bool x363 ∧ f 30 = .bool x363 ∧ f 38 = .bool r367 ∧ St w0 (imm rB h362.v x361 :: ros) (box b3 27 [hnil.v] :: row 22 (rS (rI .i64)) h128.v x129 :: box b4 27 [h128.v] :: row 3 (rI .i64) h297.v x298 :: rs) w) (fun j39 => ?_) ?_
          · rcases iteS gr367 with ⟨c369, gr367⟩ | ⟨c369, gr367⟩
            · refine Gn (wx rfl rfl rfl c369) rfl ?_
              refine Gn (wx rfl rfl rfl c369) rfl ?_
              refine Gn (wx rfl rfl rfl c369) rfl ?_
              refine Gn (wx rfl rfl rfl c369) rfl ?_
              refine Gn (wx rfl rfl rfl c369) rfl ?_
              refine Gn (wx rfl rfl rfl c369) rfl ?_
              refine Gn (wx rfl rfl rfl c369) rfl ?_
              refine Y (wg rfl rfl rfl (nT (decide_eq_false c360))) rfl (ypt (v := .bool true) (et rfl rfl) c369 rfl) ?_
              obtain rfl := someI gr367
              exact j39 _ _ ⟨e36_0, e36_2, e36_3, e36_4, e36_5, e36_6, rfl, rfl, rfl, rfl, rfl, rfl, rfl, rfl, (hst.facts (allC mhF (allT (allT allI))))⟩
            · refine Y (wg rfl rfl rfl (bfalse c369)) rfl (ym (v := h2.v) (et rfl e36_0)) ?_
              refine Y (wg rfl rfl rfl (bfalse c369)) rfl (ym (v := .int .i64 x299) (et rfl e36_6)) ?_
              obtain ⟨x370, gx370, gr367⟩ := bs gr367
              refine Y (wg rfl rfl rfl (bfalse c369)) rfl (yIa SL_53 (et rfl rfl) (et rfl rfl) hst (rdI (mtF (mtF q1))) gx370) ?_
              obtain ⟨h371, hst⟩ := iLs hst (mtF (mtF q1)) gx370
              refine Y (wg rfl rfl rfl (bfalse c369)) rfl (yCt O_54 (et rfl rfl) hst (mtF mhF) rfl) ?_
              refine Y (wg rfl rfl rfl (bfalse c369)) rfl (ym (v := .int .i64 x130) (et rfl e36_4)) ?_
              obtain ⟨x372, gx372, gr367⟩ := bs gr367
              refine Y (wg rfl rfl rfl (bfalse c369)) rfl (yIa SL_54 (et rfl rfl) (et rfl rfl) hst (rdI mhF) gx372) ?_
              refine Y (wg rfl rfl rfl (bfalse c369)) rfl (yB O_4 (et rfl rfl) hst (rdI mhF) gx372) ?_
              refine Y (wg rfl rfl rfl (nT (decide_eq_false c360))) rfl (ypf (v := .bool x372) (et rfl rfl) (bfalse c369) (et rfl rfl)) ?_
              obtain rfl := someI gr367
              exact j39 _ _ ⟨e36_0, e36_2, e36_3, e36_4, e36_5, e36_6, rfl, rfl, rfl, rfl, rfl, rfl, rfl, rfl, (hst.facts (allC (mtF (mtF mhF)) (allT (allT (allT (allT allI))))))⟩
          clear hst
          rintro f w ⟨e368_0, e368_2, e368_3, e368_4, e368_5, e368_6, e368_22, e368_23, e368_24, e368_26, e368_27, e368_29, e368_30, e368_38, hst⟩
          refine Y wn rfl (ypt (v := .bool r367) (et rfl e368_22) (nT (decide_eq_false c360)) (et rfl e368_38)) ?_
          obtain rfl := someI gr358
          exact j38 _ _ ⟨e368_0, e368_2, e368_3, e368_4, e368_5, e368_6, rfl, (hst.facts (allT allI))⟩
      clear hst
      rintro f w ⟨e359_0, e359_2, e359_3, e359_4, e359_5, e359_6, e359_39, hst⟩
      refine wpList_nil ?_
      refine k75 _ _ ?_
      have j40 : ∀ (x377 : List Int) (h376 : Hdr) (f : Nat → Value) (w : World), f 0 = h2.v → f 2 = .pointer (some ⟨b3, 0, none⟩) → f 3 = .pointer (some ⟨b4, 0, none⟩) → f 4 = .int .i64 x130 → f 5 = h376.v → f 6 = .int .i64 x299 → St w0 (ros) (box b3 27 [hnil.v] :: row 22 (rS (rI .i64)) h128.v x129 :: box b4 27 [h128.v] :: row 3 (rI .i64) h376.v x377 :: rs) w → sparseref12_FromTable_j40 x299 x377 = some r36_ → Q74 .normal (fr 51 f) w := by
        intro x377 h376 f w ej40_0 ej40_2 ej40_3 ej40_4 ej40_5 ej40_6 hst hM
        refine qb74 _ _ _ ?_
        refine k73 _ _ ?_
        refine wp_region_lit ?_
        refine Y wn rfl (ym (v := .int .i64 x299) (et rfl ej40_6)) ?_
        refine Y wn rfl (yadd (et rfl rfl) rfl) ?_
        refine Y wn rfl (ya (v := .int .i64 (wa .i64 x299 1)) (et rfl rfl)) ?_
        refine wpList_nil ?_
        obtain rfl := someI hM
        exact n36 _ _ _ rfl ⟨_, _, _, _, rfl, rfl, ej40_0, ej40_2, ej40_3, ej40_4, ej40_5, rfl, hst⟩
      rcases iteS hM36 with ⟨c378, hM36⟩ | ⟨c378, hM36⟩
      · refine condT (et rfl e359_39) c378 ?_
        refine wp_region_lit ?_
        refine Y wn rfl (ym (v := h297.v) (et rfl e359_5)) ?_
        refine Y wn rfl (ym (v := .int .i64 x299) (et rfl e359_6)) ?_
        refine YH wn rfl (rLt (n := 1) (l := [x299]) hst SL_22 [.int .i64 x299] (bp1 (et rfl rfl)) rfl rfl (mks1 (cs := [.int .i64 x299]) rfl mkI mks0)) ?_
        clear hst
        intro h379 w hst
        obtain ⟨x381, gx381, hM36⟩ := bs hM36
        replace hst := hst.pk 5 [4, 0, 0, 0, 0] rfl
        refine YH wn rfl (rAp hst SL_22 (et rfl rfl) (et rfl rfl) (rdO (mtR mhR)) gx381) ?_
        clear hst
        intro h380 w hst
        refine Y wn rfl (ya (v := h380.v) (et rfl rfl)) ?_
        refine wpList_nil ?_
        exact j40 _ _ _ _ e359_0 e359_2 e359_3 e359_4 rfl e359_6 (hst.pk 5 [2, 2, 2, 0] rfl) hM36
      · refine condF (et rfl e359_39) (bfalse c378) ?_
        refine wp_skip ?_
        exact j40 _ _ _ _ e359_0 e359_2 e359_3 e359_4 e359_5 e359_6 hst hM36
    · refine condF (et rfl rfl) (decide_eq_false c345) ?_
      refine wp_exit ?_
      refine z71 _ _ _ rfl ?_
      obtain rfl := someI hM36
      refine zz36 _ _ _ _ rfl rfl ?_
      exact je36_0 _ _ _ _ e36_0 e36_2 e36_3 e36_4 e36_5 hst (ho36 _ rfl)
  · refine condF (et rfl rfl) (decide_eq_false c259) ?_
    refine wp_exit ?_
    refine z53 _ _ _ rfl ?_
    obtain rfl := someI hM27
    refine zz27 _ _ _ _ rfl rfl ?_
    exact je27_0 _ _ _ _ e27_2 e27_3 hst (ho27 _ rfl)

theorem sparsemake_Graph_ok {w0 : World} {ros : List Fact} {rs : List Res} {w : World} {x1 : Int} {x2 : List Int} {h3 : Hdr} {out : (List (List Int))} (hM : sparsemake_Graph x1 x2 = some out) (q1 : imm (rI .i64) h3.v x2 ∈ ros) (hst : St w0 ros (rs) w) :
    Calls Try.prog 11 #[.int .i64 x1, h3.v] w (fun e w => ∃ (h100001 : Hdr), e = .returned (.agg #[h100001.v]) ∧ St w0 (ros) (row 22 (rS (rI .i64)) h100001.v out :: rs) w) := by
  refine enterQ Try.func11 rfl Try.ntmps11 rfl fun Q hQ => ?_
  refine seqQ fun Q1 k1 z1 => ?_
  refine wp_region_lit ?_
  refine YB wn rfl (rAl hst ZT_27) ?_
  clear hst
  intro b4 w hst
  refine wpList_nil ?_
  refine k1 _ _ ?_
  refine seqQ fun Q2 k2 z2 => ?_
  refine wp_region_lit ?_
  refine Y wn rfl (ya (v := hnil.v) rfl) ?_
  refine wpList_nil ?_
  refine k2 _ _ ?_
  refine seqQ fun Q3 k3 z3 => ?_
  refine seqQ fun Q4 k4 z4 => ?_
  refine wp_region_lit ?_
  refine Y wn rfl (ya (v := .int .i64 0) rfl) ?_
  refine wpList_nil ?_
  refine k4 _ _ ?_
  refine blockQ fun Q5 qb5 => ?_
  obtain ⟨o1, go1, hM⟩ := bs hM
  have je1_0 : ∀ (x33 : List (List Bool)) (h31 : Hdr) (y32 : List Hdr) (f : Nat → Value) (w : World), f 0 = .int .i64 x1 → f 1 = h3.v → f 4 = .pointer (some ⟨b4, 0, none⟩) → f 5 = h31.v → St w0 (ros) (box b4 27 [hnil.v] :: row 54 rH h31.v y32 :: fam 4 rB y32 x33 :: rs) w → x33 = o1 → Q5 (.exit 0) (fr 48 f) w := by
    intro x33 h31 y32 f w eje1_0_0 eje1_0_1 eje1_0_4 eje1_0_5 hst ho
    subst ho
    refine qb5 _ _ _ ?_
    refine k3 _ _ ?_
    refine seqQ fun Q14 k14 z14 => ?_
    refine seqQ fun Q15 k15 z15 => ?_
    refine wp_region_lit ?_
    refine Y wn rfl (ya (v := .int .i64 0) rfl) ?_
    refine wpList_nil ?_
    refine k15 _ _ ?_
    refine blockQ fun Q16 qb16 => ?_
    obtain ⟨o4, go4, hM⟩ := bs hM
    have je4_0 : ∀ (x60 : List (List Bool)) (f : Nat → Value) (w : World), f 4 = .pointer (some ⟨b4, 0, none⟩) → f 5 = h31.v → St w0 (ros) (box b4 27 [hnil.v] :: row 54 rH h31.v y32 :: fam 4 rB y32 x60 :: rs) w → x60 = o4 → Q16 (.exit 2) (fr 48 f) w := by
      intro x60 f w eje4_0_4 eje4_0_5 hst ho
      subst ho
      refine qb16 _ _ _ ?_
      refine k14 _ _ ?_
      refine seqQ fun Q25 k25 z25 => ?_
      refine wp_region_lit ?_
      refine Y wn rfl (ym (v := h31.v) (et rfl eje4_0_5)) ?_
      obtain ⟨r61, gr61, hM⟩ := bs hM
      replace hst := hst.pk 3 [1, 1, 0] rfl
      replace hst := hst.ffz
      refine Yc wn rfl (yCall FN_36 (a1 (et rfl rfl))) (sparseref12_FromTable_ok (hM := gr61) (hst := hst) (q1 := mhF)) ?_
      clear hst
      rintro _ w ⟨h62, rfl, hst⟩
      refine ⟨_, rfl, ?_⟩
      replace hst := hst.pk 2 [1, 0] rfl
      refine YT wn rfl (r_stbn (vals' := [h62.v]) (us := [h62.v]) hst ST_27 (et rfl eje4_0_4) (et rfl rfl) rfl rfl (one_of rfl) rfl) ?_
      clear hst
      intro w hst
      refine wpList_nil ?_
      refine k25 _ _ ?_
      refine wp_ret ?_
      obtain rfl := someI hM
      exact hQ _ _ _ (fin1r Try.results11 (rcs2 rfl eje4_0_4 hst mhR ST_27 rfl) ⟨_, rfl, ((hst.pk 2 [1] rfl).facts (allT allI))⟩)
    refine loopQ (fun s a w => ∃ (x45 : List (List Bool)) (x46 : Int) (f : Nat → Value), (x45, x46) = s ∧ a = fr 48 f ∧ f 0 = .int .i64 x1 ∧ f 1 = h3.v ∧ f 4 = .pointer (some ⟨b4, 0, none⟩) ∧ f 5 = h31.v ∧ f 7 = .int .i64 x46 ∧ St w0 (ros) (box b4 27 [hnil.v] :: row 54 rH h31.v y32 :: fam 4 rB y32 x45 :: rs) w) go4 ⟨_, _, _, rfl, rfl, eje1_0_0, eje1_0_1, eje1_0_4, eje1_0_5, rfl, hst⟩ ?_
    clear hst
    rintro _ _ w r4_ ⟨x45, x46, f, rfl, rfl, e4_0, e4_1, e4_4, e4_5, e4_7, hst⟩ hM4 ho4 Q100004 n4 zz4
    refine seqQ fun Q26 k26 z26 => ?_
    refine seqQ fun Q27 k27 z27 => ?_
    refine wp_region_lit ?_
    refine Y wn rfl (ym (v := .int .i64 x46) (et rfl e4_7)) ?_
    refine Y wn rfl (yadd (et rfl rfl) rfl) ?_
    refine Y wn rfl (ym (v := h3.v) (et rfl e4_1)) ?_
    refine Y wn rfl (yLen SL_22 (et rfl rfl) hst (rdI q1)) ?_
    refine Y wn rfl (ylss (et rfl rfl) (et rfl rfl)) ?_
    refine Y wn rfl (ym (v := .bool (decide ((wa .i64 x46 1) < (x2.length : Int)))) (et rfl rfl)) ?_
    refine joinW 3 (fun f w => f 0 = .int .i64 x1 ∧ f 1 = h3.v ∧ f 4 = .pointer (some ⟨b4, 0, none⟩) ∧ f 5 = h31.v ∧ f 7 = .int .i64 x46 ∧ f 26 = .bool ((decide ((wa .i64 x46 1) < (x2.length : Int))) && (decide ((0 : Int) < x1))) ∧ St w0 (ros) (box b4 27 [hnil.v] :: row 54 rH h31.v y32 :: fam 4 rB y32 x45 :: rs) w) (fun j5 => ?_) ?_
    · rcases Bool.eq_false_or_eq_true (decide ((wa .i64 x46 1) < (x2.length : Int))) with c64 | c64
      · refine Y (wg rfl rfl rfl c64) rfl (ym (v := .int .i64 x1) (et rfl e4_0)) ?_
        refine Y (wg rfl rfl rfl c64) rfl (ygtr (et rfl rfl) rfl) ?_
        refine Y wn rfl (ypt (v := .bool (decide ((0 : Int) < x1))) (et rfl rfl) c64 (et rfl rfl)) ?_
        exact j5 _ _ ⟨e4_0, e4_1, e4_4, e4_5, e4_7, (congrArg Value.bool (andT c64)), hst⟩
      · refine Gn (wx rfl rfl rfl c64) rfl ?_
        refine Gn (wx rfl rfl rfl c64) rfl ?_
        refine Y wn rfl (ypf (v := .bool false) (et rfl rfl) c64 rfl) ?_
        exact j5 _ _ ⟨e4_0, e4_1, e4_4, e4_5, e4_7, (congrArg Value.bool (andF c64)), hst⟩
    clear hst
    rintro f w ⟨e63_0, e63_1, e63_4, e63_5, e63_7, e63_26, hst⟩
    refine wpList_nil ?_
    refine k27 _ _ ?_
    rcases iteS hM4 with ⟨c65, hM4⟩ | ⟨c65, hM4⟩
    · refine condT (et rfl e63_26) c65 ?_
      refine wp_skip ?_
      refine k26 _ _ ?_
      refine seqQ fun Q28 k28 z28 => ?_
      refine blockQ fun Q29 qb29 => ?_
      obtain ⟨x66, gx66, hM4⟩ := bs hM4
      obtain ⟨r67, gr67, hM4⟩ := bs hM4
      obtain ⟨x68, gx68, hM4⟩ := bs hM4
      obtain ⟨x70, gx70, hM4⟩ := bs hM4
      obtain ⟨r71, gr71, hM4⟩ := bs hM4
      obtain ⟨x72, gx72, hM4⟩ := bs hM4
      obtain ⟨x73, gx73, hM4⟩ := bs hM4
      refine wp_drawR [0, 0, 0, 6, 14, 0, 62, 127, 255, 0, 0, 1024, 3584, 7680, 0, 32382, 65535, 131071] [6, 15, 17] 3 folM (by kernel_rfl) (by kernel_rfl) (by kernel_rfl) ?_
      replace hst := hst.drew
      refine DRn (l1 := [0, 1, 2, 3, 4, 5, 9, 10, 11, 12, 13, 14]) (l2 := []) (lc := [6]) (by kernel_rfl) (by kernel_rfl) (by kernel_rfl) ?_
      refine Ry rfl rfl wn (ym (v := h31.v) (et rfl e63_5)) ?_
      refine Ry rfl rfl wn (ym (v := h3.v) (et rfl e63_1)) ?_
      refine Ry rfl rfl wn (ym (v := .int .i64 x46) (et rfl e63_7)) ?_
      refine Ry rfl rfl wn (yIa SL_22 (et rfl rfl) (et rfl rfl) hst (rdI q1) gx66) ?_
      refine Ry rfl rfl wn (yI O_3 (et rfl rfl) hst (rdI q1) gx66) ?_
      refine Ry rfl rfl wn (ym (v := .int .i64 x1) (et rfl e63_0)) ?_
      refine Ry rfl rfl wn (ym (v := h3.v) (et rfl e63_1)) ?_
      refine Ry rfl rfl wn (ym (v := .int .i64 x46) (et rfl e63_7)) ?_
      refine Ry rfl rfl wn (yadd (et rfl rfl) rfl) ?_
      refine Ry rfl rfl wn (yIa SL_22 (et rfl rfl) (et rfl rfl) hst (rdI q1) gx70) ?_
      refine Ry rfl rfl wn (yI O_3 (et rfl rfl) hst (rdI q1) gx70) ?_
      refine Ry rfl rfl wn (ym (v := .int .i64 x1) (et rfl e63_0)) ?_
      refine Rn QSn ?_
      refine Lc rfl ?_ LAn
      refine Lk wn (yCall FN_10 (a2 (et rfl rfl) (et rfl rfl))) (sparsekit_Place_ok (hM := gr67) (hst := hst) ) ?_
      clear hst
      rintro _ w ⟨rfl, hst⟩
      refine ⟨_, rfl, ?_⟩
      refine DRn (l1 := [7, 8]) (l2 := [0, 9, 10, 11, 12, 13, 14]) (lc := [15]) (by kernel_rfl) (by kernel_rfl) (by kernel_rfl) ?_
      obtain ⟨h69, gh69⟩ := hst.famI (mtR (mtR mhR)) gx68
      refine Ry rfl rfl wn (yIa SLH_53 (et rfl rfl) (et rfl rfl) hst (rdO (mtR mhR)) gh69) ?_
      refine Ry rfl rfl wn (yF1 O_54 (et rfl rfl) hst (rdO (mtR mhR)) gh69 rfl) ?_
      refine Rn (Sy rfl rfl wn (ym (v := h31.v) (et rfl e63_5)) rfl (Sy rfl rfl wn (ym (v := h3.v) (et rfl e63_1)) rfl (Sy rfl rfl wn (ym (v := .int .i64 x46) (et rfl e63_7)) rfl (Sy rfl rfl wn (yadd (et rfl rfl) rfl) rfl (Sy rfl rfl wn (yIa SL_22 (et rfl rfl) (et rfl rfl) hst (rdI q1) gx70) rfl (Sy rfl rfl wn (yI O_3 (et rfl rfl) hst (rdI q1) gx70) rfl (Sy rfl rfl wn (ym (v := .int .i64 x1) (et rfl e63_0)) rfl QSn))))))) ?_
      refine Lc rfl ?_ LAn
      refine Lk wn (yCall FN_10 (a2 (et rfl rfl) (et rfl rfl))) (sparsekit_Place_ok (hM := gr71) (hst := hst) ) ?_
      clear hst
      rintro _ w ⟨rfl, hst⟩
      refine ⟨_, rfl, ?_⟩
      refine DRn (l1 := [16]) (l2 := [0, 7, 8]) (lc := [17]) (by kernel_rfl) (by kernel_rfl) (by kernel_rfl) ?_
      refine Ry rfl rfl wn (yIs SL_54 (et rfl rfl) (et rfl rfl) hst (rdF (mtR (mtR mhR)) gh69 gx68) gx72) ?_
      refine Rn (Sy rfl rfl wn (ym (v := h31.v) (et rfl e63_5)) rfl (Sy rfl rfl wn (yIa SLH_53 (et rfl rfl) (et rfl rfl) hst (rdO (mtR mhR)) gh69) rfl (Sy rfl rfl wn (yF1 O_54 (et rfl rfl) hst (rdO (mtR mhR)) gh69 rfl) rfl QSn))) ?_
      refine Lc rfl ?_ LAn
      replace hst := hst.pk 3 [2, 0, 0] rfl
      refine LT wn (r_sti (cs := [.bool true]) (hst.foc gh69 gx68) O_4 rfl (et rfl rfl) rfl rfl mkB gx72) ?_
      clear hst
      intro w hst
      replace hst := hst.unfoc' gh69 gx73
      refine DRz (l1 := []) (l2 := []) (by kernel_rfl) (by kernel_rfl) ?_
      refine Rn QSn ?_
      refine qb29 _ _ _ ?_
      refine k28 _ _ ?_
      refine wp_region_lit ?_
      refine Y wn rfl (ym (v := .int .i64 x46) (et rfl e63_7)) ?_
      refine Y wn rfl (yadd (et rfl rfl) rfl) ?_
      refine Y wn rfl (ya (v := .int .i64 (wa .i64 x46 2)) (et rfl rfl)) ?_
      refine wpList_nil ?_
      obtain rfl := someI hM4
      exact n4 _ _ _ rfl ⟨_, _, _, rfl, rfl, e63_0, e63_1, e63_4, e63_5, rfl, (hst.pk 3 [1, 1, 0] rfl)⟩
    · refine condF (et rfl e63_26) (bfalse c65) ?_
      refine wp_exit ?_
      refine z26 _ _ _ rfl ?_
      obtain rfl := someI hM4
      refine zz4 _ _ _ _ rfl rfl ?_
      exact je4_0 _ _ _ e63_4 e63_5 hst (ho4 _ rfl)
  replace hst := ((hst.rowNh 54 rH).fNew 4 rB).pk 2 [1, 0] rfl
  refine loopQ (fun s a w => ∃ (x16 : List (List Bool)) (x17 : Int) (f : Nat → Value) (h14 : Hdr) (y15 : List Hdr), (x16, x17) = s ∧ a = fr 48 f ∧ f 0 = .int .i64 x1 ∧ f 1 = h3.v ∧ f 4 = .pointer (some ⟨b4, 0, none⟩) ∧ f 5 = h14.v ∧ f 6 = .int .i64 x17 ∧ St w0 (ros) (box b4 27 [hnil.v] :: row 54 rH h14.v y15 :: fam 4 rB y15 x16 :: rs) w) go1 ⟨_, _, _, _, _, rfl, rfl, rfl, rfl, rfl, rfl, rfl, (hst.pk 3 [2, 0, 0] rfl)⟩ ?_
  clear hst
  rintro _ _ w r1_ ⟨x16, x17, f, h14, y15, rfl, rfl, e1_0, e1_1, e1_4, e1_5, e1_6, hst⟩ hM1 ho1 Q100001 n1 zz1
  refine seqQ fun Q30 k30 z30 => ?_
  refine seqQ fun Q31 k31 z31 => ?_
  refine wp_region_lit ?_
  refine Y wn rfl (ym (v := .int .i64 x17) (et rfl e1_6)) ?_
  refine Y wn rfl (ym (v := .int .i64 x1) (et rfl e1_0)) ?_
  refine Y wn rfl (ylss (et rfl rfl) (et rfl rfl)) ?_
  refine wpList_nil ?_
  refine k31 _ _ ?_
  rcases iteS hM1 with ⟨c74, hM1⟩ | ⟨c74, hM1⟩
  · refine condT (et rfl rfl) (decide_eq_true c74) ?_
    refine wp_skip ?_
    refine k30 _ _ ?_
    refine seqQ fun Q32 k32 z32 => ?_
    refine blockQ fun Q33 qb33 => ?_
    refine wp_region_lit ?_
    refine Y wn rfl (ym (v := h14.v) (et rfl e1_5)) ?_
    refine Y wn rfl (ym (v := .int .i64 x1) (et rfl e1_0)) ?_
    obtain ⟨x77, gx77, hM1⟩ := bs hM1
    refine YH wn rfl (rMk hst SL_54 (et rfl rfl) gx77) ?_
    clear hst
    intro h75 w hst
    refine YH wn rfl (rLt (n := 1) (l := [h75]) hst SLH_53 [h75.v] (bp1 (et rfl rfl)) rfl rfl (mks1 rfl (mkF rfl) mks0)) ?_
    clear hst
    intro h78 w hst
    obtain ⟨x81, gx81, hM1⟩ := bs hM1
    replace hst := hst.pk 4 [3, 0, 0, 0] rfl
    obtain ⟨y82, ey82, gy82⟩ := app_rep gx81 (hst.famL (mtR (mtR (mtR (mtR mhR))))) (show [h75].length = [x77].length from rfl)
    refine YH wn rfl (rAp hst SLH_53 (et rfl rfl) (et rfl rfl) (rdO (mtR mhR)) gy82) ?_
    clear hst
    intro h80 w hst
    replace hst := hst.pk 5 [2, 3, 0, 0, 0] rfl
    replace hst := hst.fPush
    rw [← ey82, ← (app_some gx81).1] at hst
    refine Y wn rfl (ya (v := h80.v) (et rfl rfl)) ?_
    refine wpList_nil ?_
    refine qb33 _ _ _ ?_
    refine k32 _ _ ?_
    refine wp_region_lit ?_
    refine Y wn rfl (ym (v := .int .i64 x17) (et rfl e1_6)) ?_
    refine Y wn rfl (yadd (et rfl rfl) rfl) ?_
    refine Y wn rfl (ya (v := .int .i64 (wa .i64 x17 1)) (et rfl rfl)) ?_
    refine wpList_nil ?_
    obtain rfl := someI hM1
    exact n1 _ _ _ rfl ⟨_, _, _, _, _, rfl, rfl, e1_0, e1_1, e1_4, rfl, rfl, (hst.pk 4 [3, 1, 0] rfl)⟩
  · refine condF (et rfl rfl) (decide_eq_false c74) ?_
    refine wp_exit ?_
    refine z30 _ _ _ rfl ?_
    obtain rfl := someI hM1
    refine zz1 _ _ _ _ rfl rfl ?_
    exact je1_0 _ _ _ _ _ e1_0 e1_1 e1_4 e1_5 hst (ho1 _ rfl)

theorem sparsekit_In_ok {w0 : World} {ros : List Fact} {rs : List Res} {w : World} {x1 : List Int} {x3 : Int} {h2 : Hdr} {out : Bool} (hM : sparsekit_In x1 x3 = some out) (q1 : imm (rI .i64) h2.v x1 ∈ ros) (hst : St w0 ros (rs) w) :
    Calls Try.prog 18 #[h2.v, .int .i64 x3] w (fun e w => e = .returned (.bool out) ∧ St w0 (ros) (rs) w) := by
  refine enterQ Try.func18 rfl Try.ntmps18 rfl fun Q hQ => ?_
  refine seqQ fun Q1 k1 z1 => ?_
  refine wp_region_lit ?_
  refine Y wn rfl (ya (v := .bool false) rfl) ?_
  refine wpList_nil ?_
  refine k1 _ _ ?_
  refine seqQ fun Q2 k2 z2 => ?_
  refine seqQ fun Q3 k3 z3 => ?_
  refine wp_region_lit ?_
  refine Y wn rfl (ya (v := .int .i64 0) rfl) ?_
  refine wpList_nil ?_
  refine k3 _ _ ?_
  refine blockQ fun Q4 qb4 => ?_
  obtain ⟨o1, go1, hM⟩ := bs hM
  have je1_0 : ∀ (f : Nat → Value) (w : World), St w0 (ros) (rs) w → .inl () = o1 → Q4 (.exit 0) (fr 18 f) w := by
    intro f w hst ho
    subst ho
    refine qb4 _ _ _ ?_
    refine k2 _ _ ?_
    refine seqQ fun Q17 k17 z17 => ?_
    refine wp_region_lit ?_
    refine Y wn rfl (ya (v := .bool false) rfl) ?_
    refine wpList_nil ?_
    refine k17 _ _ ?_
    refine wp_ret ?_
    obtain rfl := someI hM
    exact hQ _ _ _ (fin1r Try.results18 ⟨rfl, rfl⟩ ⟨rfl, hst⟩)
  have je1_1 : ∀ (f : Nat → Value) (w : World), f 4 = .bool true → St w0 (ros) (rs) w → .inr () = o1 → Q4 .ret (fr 18 f) w := by
    intro f w eje1_1_4 hst ho
    subst ho
    refine qb4 _ _ _ ?_
    refine z2 _ _ _ rfl ?_
    obtain rfl := someI hM
    exact hQ _ _ _ (fin1r Try.results18 ⟨rfl, eje1_1_4⟩ ⟨rfl, hst⟩)
  refine loopQ (fun s a w => ∃ (x7 : Int) (f : Nat → Value), x7 = s ∧ a = fr 18 f ∧ f 0 = h2.v ∧ f 1 = .int .i64 x3 ∧ f 5 = .int .i64 x7 ∧ St w0 (ros) (rs) w) go1 ⟨_, _, rfl, rfl, rfl, rfl, rfl, hst⟩ ?_
  clear hst
  rintro _ _ w r1_ ⟨x7, f, rfl, rfl, e1_0, e1_1, e1_5, hst⟩ hM1 ho1 Q100001 n1 zz1
  refine seqQ fun Q18 k18 z18 => ?_
  refine seqQ fun Q19 k19 z19 => ?_
  refine wp_region_lit ?_
  refine Y wn rfl (ym (v := .int .i64 x7) (et rfl e1_5)) ?_
  refine Y wn rfl (ym (v := h2.v) (et rfl e1_0)) ?_
  refine Y wn rfl (yLen SL_22 (et rfl rfl) hst (rdI q1)) ?_
  refine Y wn rfl (ylss (et rfl rfl) (et rfl rfl)) ?_
  refine wpList_nil ?_
  refine k19 _ _ ?_
  rcases iteS hM1 with ⟨c12, hM1⟩ | ⟨c12, hM1⟩
  · refine condT (et rfl rfl) (decide_eq_true c12) ?_
    refine wp_skip ?_
    refine k18 _ _ ?_
    refine seqQ fun Q20 k20 z20 => ?_
    refine blockQ fun Q21 qb21 => ?_
    refine seqQ fun Q22 k22 z22 => ?_
    refine wp_region_lit ?_
    refine Y wn rfl (ym (v := h2.v) (et rfl e1_0)) ?_
    refine Y wn rfl (ym (v := .int .i64 x7) (et rfl e1_5)) ?_
    obtain ⟨x13, gx13, hM1⟩ := bs hM1
    refine Y wn rfl (yIa SL_22 (et rfl rfl) (et rfl rfl) hst (rdI q1) gx13) ?_
    refine Y wn rfl (yI O_3 (et rfl rfl) hst (rdI q1) gx13) ?_
    refine Y wn rfl (ym (v := .int .i64 x3) (et rfl e1_1)) ?_
    refine Y wn rfl (yeql (et rfl rfl) (et rfl rfl)) ?_
    refine wpList_nil ?_
    refine k22 _ _ ?_
    rcases iteS hM1 with ⟨c14, hM1⟩ | ⟨c14, hM1⟩
    · refine condT (et rfl rfl) (decide_eq_true c14) ?_
      refine seqQ fun Q23 k23 z23 => ?_
      refine wp_region_lit ?_
      refine Y wn rfl (ya (v := .bool true) rfl) ?_
      refine wpList_nil ?_
      refine k23 _ _ ?_
      refine wp_ret ?_
      refine qb21 _ _ _ ?_
      refine z20 _ _ _ rfl ?_
      obtain rfl := someI hM1
      refine zz1 _ _ _ _ rfl rfl ?_
      exact je1_1 _ _ rfl hst (ho1 _ rfl)
    · refine condF (et rfl rfl) (decide_eq_false c14) ?_
      refine wp_skip ?_
      refine qb21 _ _ _ ?_
      refine k20 _ _ ?_
      refine wp_region_lit ?_
      refine Y wn rfl (ym (v := .int .i64 x7) (et rfl e1_5)) ?_
      refine Y wn rfl (yadd (et rfl rfl) rfl) ?_
      refine Y wn rfl (ya (v := .int .i64 (wa .i64 x7 1)) (et rfl rfl)) ?_
      refine wpList_nil ?_
      obtain rfl := someI hM1
      exact n1 _ _ _ rfl ⟨_, _, rfl, rfl, e1_0, e1_1, rfl, hst⟩
  · refine condF (et rfl rfl) (decide_eq_false c12) ?_
    refine wp_exit ?_
    refine z18 _ _ _ rfl ?_
    obtain rfl := someI hM1
    refine zz1 _ _ _ _ rfl rfl ?_
    exact je1_0 _ _ hst (ho1 _ rfl)

theorem sparselaw12_GraphPeripheral_ok {w0 : World} {ros : List Fact} {rs : List Res} {w : World} {x1 : Int} {x2 : List Int} {x4 : Int} {h3 : Hdr} {out : Bool} (hM : sparselaw12_GraphPeripheral x1 x2 x4 = some out) (q1 : imm (rI .i64) h3.v x2 ∈ ros) (hst : St w0 ros (rs) w) :
    Calls Try.prog 5 #[.int .i64 x1, h3.v, .int .i64 x4] w (fun e w => e = .returned (.bool out) ∧ St w0 (ros) (rs) w) := by
  refine enterQ Try.func5 rfl Try.ntmps5 rfl fun Q hQ => ?_
  refine seqQ fun Q1 k1 z1 => ?_
  refine wp_region_lit ?_
  refine Y wn rfl (ya (v := .bool false) rfl) ?_
  refine wpList_nil ?_
  refine k1 _ _ ?_
  refine seqQ fun Q2 k2 z2 => ?_
  refine seqQ fun Q3 k3 z3 => ?_
  refine wp_region_lit ?_
  refine Y wn rfl (ym (v := h3.v) (et rfl rfl)) ?_
  refine Y wn rfl (yLen SL_22 (et rfl rfl) hst (rdI q1)) ?_
  refine Y wn rfl (ygtr (et rfl rfl) rfl) ?_
  refine wpList_nil ?_
  refine k3 _ _ ?_
  rcases iteS hM with ⟨c5, hM⟩ | ⟨c5, hM⟩
  · refine condT (et rfl rfl) (decide_eq_true c5) ?_
    refine seqQ fun Q4 k4 z4 => ?_
    refine wp_region_lit ?_
    obtain ⟨r6, gr6, hM⟩ := bs hM
    refine Yc wn rfl (yCall FN_9 a0) (sparselaw12_awake_ok (hM := gr6) (hst := hst) ) ?_
    clear hst
    rintro _ w ⟨rfl, hst⟩
    refine ⟨_, rfl, ?_⟩
    refine Y wn rfl (ya (v := .bool r6) (et rfl rfl)) ?_
    refine wpList_nil ?_
    refine k4 _ _ ?_
    refine wp_ret ?_
    refine z2 _ _ _ rfl ?_
    obtain rfl := someI hM
    exact hQ _ _ _ (fin1r Try.results5 ⟨rfl, rfl⟩ ⟨rfl, hst⟩)
  · refine condF (et rfl rfl) (decide_eq_false c5) ?_
    refine wp_skip ?_
    refine k2 _ _ ?_
    refine seqQ fun Q5 k5 z5 => ?_
    refine wp_region_lit ?_
    refine Y wn rfl (ym (v := .int .i64 x1) (et rfl rfl)) ?_
    obtain ⟨r7, gr7, hM⟩ := bs hM
    refine Yc wn rfl (yCall FN_10 (a2 (et rfl rfl) rfl)) (sparsekit_Place_ok (hM := gr7) (hst := hst) ) ?_
    clear hst
    rintro _ w ⟨rfl, hst⟩
    refine ⟨_, rfl, ?_⟩
    refine Y wn rfl (yadd rfl (et rfl rfl)) ?_
    refine Y wn rfl (ya (v := .int .i64 (wa .i64 1 r7)) (et rfl rfl)) ?_
    refine wpList_nil ?_
    refine k5 _ _ ?_
    refine seqQ fun Q6 k6 z6 => ?_
    refine wp_region_lit ?_
    refine Y wn rfl (ym (v := .int .i64 (wa .i64 1 r7)) (et rfl rfl)) ?_
    refine Y wn rfl (ym (v := h3.v) (et rfl rfl)) ?_
    obtain ⟨r8, gr8, hM⟩ := bs hM
    refine Yc wn rfl (yCall FN_11 (a2 (et rfl rfl) (et rfl rfl))) (sparsemake_Graph_ok (hM := gr8) (hst := hst) (q1 := q1)) ?_
    clear hst
    rintro _ w ⟨h9, rfl, hst⟩
    refine ⟨_, rfl, ?_⟩
    refine YB wn rfl (rAl hst ZT_27) ?_
    clear hst
    intro b10 w hst
    refine YT wn rfl (r_stbn (vals' := [h9.v]) (us := [h9.v]) hst ST_27 (et rfl rfl) (et rfl rfl) rfl rfl (one_of rfl) rfl) ?_
    clear hst
    intro w hst
    refine wpList_nil ?_
    refine k6 _ _ ?_
    refine seqQ fun Q7 k7 z7 => ?_
    refine wp_region_lit ?_
    refine Y wn rfl (ym (v := .int .i64 x4) (et rfl rfl)) ?_
    refine Y wn rfl (ym (v := .int .i64 (wa .i64 1 r7)) (et rfl rfl)) ?_
    obtain ⟨r11, gr11, hM⟩ := bs hM
    refine Yc wn rfl (yCall FN_10 (a2 (et rfl rfl) (et rfl rfl))) (sparsekit_Place_ok (hM := gr11) (hst := hst) ) ?_
    clear hst
    rintro _ w ⟨rfl, hst⟩
    refine ⟨_, rfl, ?_⟩
    refine Y wn rfl (ya (v := .int .i64 r11) (et rfl rfl)) ?_
    refine wpList_nil ?_
    refine k7 _ _ ?_
    refine seqQ fun Q8 k8 z8 => ?_
    refine wp_region_lit ?_
    refine Y wn rfl (yLbs (us := [h9.v]) ST_27 (et rfl rfl) hst mhR rfl rfl) ?_
    refine Y wn rfl (ym (v := .int .i64 r11) (et rfl rfl)) ?_
    obtain ⟨r12, gr12, hM⟩ := bs hM
    replace hst := hst.pk 2 [1, 0] rfl
    replace hst := hst.fz
    refine Yc wn rfl (yCall FN_17 (a2 (et rfl rfl) (et rfl rfl))) (graph_Peripheral_ok (hM := gr12) (hst := hst) (q1 := mhF)) ?_
    clear hst
    rintro _ w ⟨rfl, hst⟩
    refine ⟨_, rfl, ?_⟩
    refine Y wn rfl (ya (v := .int .i64 r12) (et rfl rfl)) ?_
    refine wpList_nil ?_
    refine k8 _ _ ?_
    refine seqQ fun Q9 k9 z9 => ?_
    refine seqQ fun Q10 k10 z10 => ?_
    refine wp_region_lit ?_
    refine Y wn rfl (ym (v := .int .i64 r12) (et rfl rfl)) ?_
    refine Y wn rfl (ylss (et rfl rfl) rfl) ?_
    refine Y wn rfl (ym (v := .bool (decide (r12 < 0))) (et rfl rfl)) ?_
    refine joinW 4 (fun f w => f 2 = .int .i64 r11 ∧ f 7 = .pointer (some ⟨b10, 0, none⟩) ∧ f 8 = .int .i64 r12 ∧ f 35 = .bool ((decide (r12 < 0)) || (decide ((wa .i64 1 r7) ≤ r12))) ∧ St w0 (imm (rS (rI .i64)) h9.v r8 :: ros) (box b10 27 [h9.v] :: rs) w) (fun j1 => ?_) ?_
    · rcases Bool.eq_false_or_eq_true (decide (r12 < 0)) with c14 | c14
      · refine Gn (wx rfl rfl rfl c14) rfl ?_
        refine Gn (wx rfl rfl rfl c14) rfl ?_
        refine Gn (wx rfl rfl rfl c14) rfl ?_
        refine Y wn rfl (ypt (v := .bool true) (et rfl rfl) c14 rfl) ?_
        exact j1 _ _ ⟨rfl, rfl, rfl, (congrArg Value.bool (orT c14)), hst⟩
      · refine Y (wg rfl rfl rfl c14) rfl (ym (v := .int .i64 r12) (et rfl rfl)) ?_
        refine Y (wg rfl rfl rfl c14) rfl (ym (v := .int .i64 (wa .i64 1 r7)) (et rfl rfl)) ?_
        refine Y (wg rfl rfl rfl c14) rfl (ygeq (et rfl rfl) (et rfl rfl)) ?_
        refine Y wn rfl (ypf (v := .bool (decide ((wa .i64 1 r7) ≤ r12))) (et rfl rfl) c14 (et rfl rfl)) ?_
        exact j1 _ _ ⟨rfl, rfl, rfl, (congrArg Value.bool (orF c14)), hst⟩
    clear hst
    rintro f w ⟨e13_2, e13_7, e13_8, e13_35, hst⟩
    refine Y wn rfl (ym (v := .bool ((decide (r12 < 0)) || (decide ((wa .i64 1 r7) ≤ r12)))) (et rfl e13_35)) ?_
    obtain ⟨r16, gr16, hM⟩ := bs hM
    refine joinW 6 (fun f w => f 2 = .int .i64 r11 ∧ f 7 = .pointer (some ⟨b10, 0, none⟩) ∧ f 8 = .int .i64 r12 ∧ f 42 = .bool r16 ∧ St w0 (imm (rS (rI .i64)) h9.v r8 :: ros) (box b10 27 [h9.v] :: rs) w) (fun j2 => ?_) ?_
    · rcases iteS gr16 with ⟨c18, gr16⟩ | ⟨c18, gr16⟩
      · refine Gn (wx rfl rfl rfl c18) rfl ?_
        refine Gn (wx rfl rfl rfl c18) rfl ?_
        refine Gn (wx rfl rfl rfl c18) rfl ?_
        refine Gn (wx rfl rfl rfl c18) rfl ?_
        refine Gn (wx rfl rfl rfl c18) rfl ?_
        refine Y wn rfl (ypt (v := .bool true) (et rfl rfl) c18 rfl) ?_
        obtain rfl := someI gr16
        exact j2 _ _ ⟨e13_2, e13_7, e13_8, rfl, hst⟩
      · refine Y (wg rfl rfl rfl (bfalse c18)) rfl (yLbs (us := [h9.v]) ST_27 (et rfl e13_7) hst mhR rfl rfl) ?_
        refine Y (wg rfl rfl rfl (bfalse c18)) rfl (ym (v := .int .i64 r12) (et rfl e13_8)) ?_
        obtain ⟨r19, gr19, gr16⟩ := bs gr16
        refine Yc (wg rfl rfl rfl (bfalse c18)) rfl (yCall FN_17 (a2 (et rfl rfl) (et rfl rfl))) (graph_Peripheral_ok (hM := gr19) (hst := hst) (q1 := mhF)) ?_
        clear hst
        rintro _ w ⟨rfl, hst⟩
        refine ⟨_, rfl, ?_⟩
        refine Y (wg rfl rfl rfl (bfalse c18)) rfl (ym (v := .int .i64 r12) (et rfl e13_8)) ?_
        refine Y (wg rfl rfl rfl (bfalse c18)) rfl (yneq (et rfl rfl) (et rfl rfl)) ?_
        refine Y wn rfl (ypf (v := .bool (!(decide (r19 = r12)))) (et rfl rfl) (bfalse c18) (et rfl rfl)) ?_
        obtain rfl := someI gr16
        exact j2 _ _ ⟨e13_2, e13_7, e13_8, rfl, hst⟩
    clear hst
    rintro f w ⟨e17_2, e17_7, e17_8, e17_42, hst⟩
    refine wpList_nil ?_
    refine k10 _ _ ?_
    rcases iteS hM with ⟨c20, hM⟩ | ⟨c20, hM⟩
    · refine condT (et rfl e17_42) c20 ?_
      refine seqQ fun Q11 k11 z11 => ?_
      refine wp_region_lit ?_
      refine Y wn rfl (ya (v := .bool false) rfl) ?_
      refine wpList_nil ?_
      refine k11 _ _ ?_
      refine wp_ret ?_
      refine z9 _ _ _ rfl ?_
      obtain rfl := someI hM
      exact hQ _ _ _ (fin1r Try.results5 ⟨rfl, rfl⟩ ⟨rfl, ((hst.pk 1 [] rfl).facts (allT allI))⟩)
    · refine condF (et rfl e17_42) (bfalse c20) ?_
      refine wp_skip ?_
      refine k9 _ _ ?_
      refine seqQ fun Q12 k12 z12 => ?_
      obtain ⟨r21, gr21, hM⟩ := bs hM
      obtain ⟨r23, gr23, hM⟩ := bs hM
      refine wp_drawR [0, 0, 3, 0, 0, 31, 63, 127] [2, 5, 6, 7] 4 folM (by kernel_rfl) (by kernel_rfl) (by kernel_rfl) ?_
      replace hst := hst.drew
      refine DRn (l1 := [0, 1, 3, 4]) (l2 := []) (lc := [2]) (by kernel_rfl) (by kernel_rfl) (by kernel_rfl) ?_
      refine Ry rfl rfl wn (yLbs (us := [h9.v]) ST_27 (et rfl e17_7) hst mhR rfl rfl) ?_
      refine Ry rfl rfl wn (ym (v := .int .i64 r11) (et rfl e17_2)) ?_
      refine Ry rfl rfl wn (yLbs (us := [h9.v]) ST_27 (et rfl e17_7) hst mhR rfl rfl) ?_
      refine Ry rfl rfl wn (ym (v := .int .i64 r12) (et rfl e17_8)) ?_
      refine Rn QSn ?_
      refine Lc rfl ?_ LAn
      refine Lk wn (yCall FN_12 (a2 (et rfl rfl) (et rfl rfl))) (graph_Levels_ok (hM := gr21) (hst := hst) (q1 := mhF)) ?_
      clear hst
      rintro _ w ⟨h22, rfl, hst⟩
      refine ⟨_, rfl, ?_⟩
      refine DRn (l1 := []) (l2 := [3, 4]) (lc := [5]) (by kernel_rfl) (by kernel_rfl) (by kernel_rfl) ?_
      refine Rn (Sy rfl rfl wn (yLbs (us := [h9.v]) ST_27 (et rfl e17_7) hst (mtR mhR) rfl rfl) rfl (Sy rfl rfl wn (ym (v := .int .i64 r12) (et rfl e17_8)) rfl QSn)) ?_
      refine Lc rfl ?_ LAn
      refine Lk wn (yCall FN_12 (a2 (et rfl rfl) (et rfl rfl))) (graph_Levels_ok (hM := gr23) (hst := hst) (q1 := mhF)) ?_
      clear hst
      rintro _ w ⟨h24, rfl, hst⟩
      refine ⟨_, rfl, ?_⟩
      refine DRn (l1 := []) (l2 := []) (lc := [6]) (by kernel_rfl) (by kernel_rfl) (by kernel_rfl) ?_
      refine Rn QSn ?_
      refine Lc rfl ?_ LAn
      refine Ly wn (ya (v := h22.v) (et rfl rfl)) ?_
      refine DRn (l1 := []) (l2 := []) (lc := [7]) (by kernel_rfl) (by kernel_rfl) (by kernel_rfl) ?_
      refine Rn QSn ?_
      refine Lc rfl ?_ LAn
      refine Ly wn (ya (v := h24.v) (et rfl rfl)) ?_
      refine DRz (l1 := []) (l2 := []) (by kernel_rfl) (by kernel_rfl) ?_
      refine Rn QSn ?_
      refine k12 _ _ ?_
      refine seqQ fun Q13 k13 z13 => ?_
      refine seqQ fun Q14 k14 z14 => ?_
      refine wp_region_lit ?_
      refine Y wn rfl (ym (v := h22.v) (et rfl rfl)) ?_
      refine Y wn rfl (yLen SL_25 (et rfl rfl) hst (rdO (mtR mhR))) ?_
      refine Y wn rfl (yeql (et rfl rfl) rfl) ?_
      refine Y wn rfl (ym (v := .bool (decide ((r21.length : Int) = 0))) (et rfl rfl)) ?_
      refine joinW 6 (fun f w => f 8 = .int .i64 r12 ∧ f 9 = h22.v ∧ f 58 = .bool ((decide ((r21.length : Int) = 0)) || (decide ((r23.length : Int) < (r21.length : Int)))) ∧ St w0 (ros) (row 22 (rS (rI .i64)) h22.v r21 :: rs) w) (fun j3 => ?_) ?_
      · rcases Bool.eq_false_or_eq_true (decide ((r21.length : Int) = 0)) with c26 | c26
        · refine Gn (wx rfl rfl rfl c26) rfl ?_
          refine Gn (wx rfl rfl rfl c26) rfl ?_
          refine Gn (wx rfl rfl rfl c26) rfl ?_
          refine Gn (wx rfl rfl rfl c26) rfl ?_
          refine Gn (wx rfl rfl rfl c26) rfl ?_
          refine Y wn rfl (ypt (v := .bool true) (et rfl rfl) c26 rfl) ?_
          exact j3 _ _ ⟨e17_8, rfl, (congrArg Value.bool (orT c26)), ((hst.pk 3 [1] rfl).facts (allT allI))⟩
        · refine Y (wg rfl rfl rfl c26) rfl (ym (v := h24.v) (et rfl rfl)) ?_
          refine Y (wg rfl rfl rfl c26) rfl (yLen SL_25 (et rfl rfl) hst (rdO mhR)) ?_
          refine Y (wg rfl rfl rfl c26) rfl (ym (v := h22.v) (et rfl rfl)) ?_
          refine Y (wg rfl rfl rfl c26) rfl (yLen SL_25 (et rfl rfl) hst (rdO (mtR mhR))) ?_
          refine Y (wg rfl rfl rfl c26) rfl (ylss (et rfl rfl) (et rfl rfl)) ?_
          refine Y wn rfl (ypf (v := .bool (decide ((r23.length : Int) < (r21.length : Int)))) (et rfl rfl) c26 (et rfl rfl)) ?_
          exact j3 _ _ ⟨e17_8, rfl, (congrArg Value.bool (orF c26)), ((hst.pk 3 [1] rfl).facts (allT allI))⟩
      clear hst
      rintro f w ⟨e25_8, e25_9, e25_58, hst⟩
      refine wpList_nil ?_
      refine k14 _ _ ?_
      rcases iteS hM with ⟨c27, hM⟩ | ⟨c27, hM⟩
      · refine condT (et rfl e25_58) c27 ?_
        refine seqQ fun Q15 k15 z15 => ?_
        refine wp_region_lit ?_
        refine Y wn rfl (ya (v := .bool false) rfl) ?_
        refine wpList_nil ?_
        refine k15 _ _ ?_
        refine wp_ret ?_
        refine z13 _ _ _ rfl ?_
        obtain rfl := someI hM
        exact hQ _ _ _ (fin1r Try.results5 ⟨rfl, rfl⟩ ⟨rfl, (hst.pk 1 [] rfl)⟩)
      · refine condF (et rfl e25_58) (bfalse c27) ?_
        refine wp_skip ?_
        refine k13 _ _ ?_
        refine seqQ fun Q16 k16 z16 => ?_
        refine wp_region_lit ?_
        refine Y wn rfl (ya (v := .bool false) rfl) ?_
        refine wpList_nil ?_
        refine k16 _ _ ?_
        refine seqQ fun Q17 k17 z17 => ?_
        refine seqQ fun Q18 k18 z18 => ?_
        refine wp_region_lit ?_
        refine Y wn rfl (ya (v := .int .i64 0) rfl) ?_
        refine wpList_nil ?_
        refine k18 _ _ ?_
        refine blockQ fun Q19 qb19 => ?_
        obtain ⟨o5, go5, hM⟩ := bs hM
        have je5_0 : ∀ (x46 : Bool) (f : Nat → Value) (w : World), f 11 = .bool x46 → St w0 (ros) (rs) w → x46 = o5 → Q19 (.exit 0) (fr 78 f) w := by
          intro x46 f w eje5_0_11 hst ho
          subst ho
          refine qb19 _ _ _ ?_
          refine k17 _ _ ?_
          refine seqQ fun Q28 k28 z28 => ?_
          refine wp_region_lit ?_
          refine Y wn rfl (ym (v := .bool x46) (et rfl eje5_0_11)) ?_
          refine Y wn rfl (ym (v := .bool x46) (et rfl rfl)) ?_
          obtain ⟨r48, gr48, hM⟩ := bs hM
          refine joinW 2 (fun f w => f 77 = .bool r48 ∧ St w0 (ros) (rs) w) (fun j6 => ?_) ?_
          · rcases iteS gr48 with ⟨c50, gr48⟩ | ⟨c50, gr48⟩
            · obtain ⟨r51, gr51, gr48⟩ := bs gr48
              refine Yc (wg rfl rfl rfl c50) rfl (yCall FN_9 a0) (sparselaw12_awake_ok (hM := gr51) (hst := hst) ) ?_
              clear hst
              rintro _ w ⟨rfl, hst⟩
              refine ⟨_, rfl, ?_⟩
              refine Y wn rfl (ypt (v := .bool r51) (et rfl rfl) c50 (et rfl rfl)) ?_
              obtain rfl := someI gr48
              exact j6 _ _ ⟨rfl, hst⟩
            · refine Gn (wx rfl rfl rfl (bfalse c50)) rfl ?_
              refine Y wn rfl (ypf (v := .bool false) (et rfl rfl) (bfalse c50) rfl) ?_
              obtain rfl := someI gr48
              exact j6 _ _ ⟨rfl, hst⟩
          clear hst
          rintro f w ⟨e49_77, hst⟩
          refine Y wn rfl (ya (v := .bool r48) (et rfl e49_77)) ?_
          refine wpList_nil ?_
          refine k28 _ _ ?_
          refine wp_ret ?_
          obtain rfl := someI hM
          exact hQ _ _ _ (fin1r Try.results5 ⟨rfl, rfl⟩ ⟨rfl, hst⟩)
        refine loopQ (fun s a w => ∃ (x32 : Bool) (x33 : Int) (f : Nat → Value), (x32, x33) = s ∧ a = fr 78 f ∧ f 8 = .int .i64 r12 ∧ f 9 = h22.v ∧ f 11 = .bool x32 ∧ f 12 = .int .i64 x33 ∧ St w0 (ros) (row 22 (rS (rI .i64)) h22.v r21 :: rs) w) go5 ⟨_, _, _, rfl, rfl, e25_8, e25_9, rfl, rfl, hst⟩ ?_
        clear hst
        rintro _ _ w r5_ ⟨x32, x33, f, rfl, rfl, e5_8, e5_9, e5_11, e5_12, hst⟩ hM5 ho5 Q100005 n5 zz5
        refine seqQ fun Q29 k29 z29 => ?_
        refine seqQ fun Q30 k30 z30 => ?_
        refine wp_region_lit ?_
        refine Y wn rfl (ym (v := .int .i64 x33) (et rfl e5_12)) ?_
        refine Y wn rfl (ym (v := h22.v) (et rfl e5_9)) ?_
        refine Y wn rfl (yLen SL_25 (et rfl rfl) hst (rdO mhR)) ?_
        refine Y wn rfl (ylss (et rfl rfl) (et rfl rfl)) ?_
        refine wpList_nil ?_
        refine k30 _ _ ?_
        rcases iteS hM5 with ⟨c52, hM5⟩ | ⟨c52, hM5⟩
        · refine condT (et rfl rfl) (decide_eq_true c52) ?_
          refine wp_skip ?_
          refine k29 _ _ ?_
          refine seqQ fun Q31 k31 z31 => ?_
          refine blockQ fun Q32 qb32 => ?_
          refine wp_region_lit ?_
          refine Y wn rfl (ym (v := .bool x32) (et rfl e5_11)) ?_
          refine Y wn rfl (ym (v := .bool x32) (et rfl rfl)) ?_
          obtain ⟨r56, gr56, hM5⟩ := bs hM5
          refine joinW 7 (fun f w => f 8 = .int .i64 r12 ∧ f 9 = h22.v ∧ f 12 = .int .i64 x33 ∧ f 73 = .bool r56 ∧ St w0 (ros) (row 22 (rS (rI .i64)) h22.v r21 :: rs) w) (fun j7 => ?_) ?_
          · rcases iteS gr56 with ⟨c58, gr56⟩ | ⟨c58, gr56⟩
            · refine Gn (wx rfl rfl rfl c58) rfl ?_
              refine Gn (wx rfl rfl rfl c58) rfl ?_
              refine Gn (wx rfl rfl rfl c58) rfl ?_
              refine Gn (wx rfl rfl rfl c58) rfl ?_
              refine Gn (wx rfl rfl rfl c58) rfl ?_
              refine Gn (wx rfl rfl rfl c58) rfl ?_
              refine Y wn rfl (ypt (v := .bool true) (et rfl rfl) c58 rfl) ?_
              obtain rfl := someI gr56
              exact j7 _ _ ⟨e5_8, e5_9, e5_12, rfl, hst⟩
            · refine Y (wg rfl rfl rfl (bfalse c58)) rfl (ym (v := h22.v) (et rfl e5_9)) ?_
              refine Y (wg rfl rfl rfl (bfalse c58)) rfl (ym (v := .int .i64 x33) (et rfl e5_12)) ?_
              obtain ⟨x59, gx59, gr56⟩ := bs gr56
              refine Y (wg rfl rfl rfl (bfalse c58)) rfl (yIa SL_25 (et rfl rfl) (et rfl rfl) hst (rdO mhR) gx59) ?_
              obtain ⟨h60, ch60, hst⟩ := rLs hst (rdO mhR) gx59
              refine Y (wg rfl rfl rfl (bfalse c58)) rfl (yCe O_22 (et rfl rfl) ch60 rfl) ?_
              refine Y (wg rfl rfl rfl (bfalse c58)) rfl (ym (v := .int .i64 r12) (et rfl e5_8)) ?_
              obtain ⟨r61, gr61, gr56⟩ := bs gr56
              refine Yc (wg rfl rfl rfl (bfalse c58)) rfl (yCall FN_18 (a2 (et rfl rfl) (et rfl rfl))) (sparsekit_In_ok (hM := gr61) (hst := hst) (q1 := mhF)) ?_
              clear hst
              rintro _ w ⟨rfl, hst⟩
              refine ⟨_, rfl, ?_⟩
              refine Y wn rfl (ypf (v := .bool r61) (et rfl rfl) (bfalse c58) (et rfl rfl)) ?_
              obtain rfl := someI gr56
              exact j7 _ _ ⟨e5_8, e5_9, e5_12, rfl, (hst.facts (allT allI))⟩
          clear hst
          rintro f w ⟨e57_8, e57_9, e57_12, e57_73, hst⟩
          refine Y wn rfl (ya (v := .bool r56) (et rfl e57_73)) ?_
          refine wpList_nil ?_
          refine qb32 _ _ _ ?_
          refine k31 _ _ ?_
          refine wp_region_lit ?_
          refine Y wn rfl (ym (v := .int .i64 x33) (et rfl e57_12)) ?_
          refine Y wn rfl (yadd (et rfl rfl) rfl) ?_
          refine Y wn rfl (ya (v := .int .i64 (wa .i64 x33 1)) (et rfl rfl)) ?_
          refine wpList_nil ?_
          obtain rfl := someI hM5
          exact n5 _ _ _ rfl ⟨_, _, _, rfl, rfl, e57_8, e57_9, rfl, rfl, hst⟩
        · refine condF (et rfl rfl) (decide_eq_false c52) ?_
          refine wp_exit ?_
          refine z29 _ _ _ rfl ?_
          obtain rfl := someI hM5
          refine zz5 _ _ _ _ rfl rfl ?_
          exact je5_0 _ _ _ e5_11 (hst.pk 1 [] rfl) (ho5 _ rfl)

theorem sparsekit_Shuffle_ok {w0 : World} {ros : List Fact} {rs : List Res} {w : World} {x1 : List Int} {x3 : Int} {h2 : Hdr} {out : (List Int)} (hM : sparsekit_Shuffle x1 x3 = some out) (q1 : imm (rI .i64) h2.v x1 ∈ ros) (hst : St w0 ros (rs) w) :
    Calls Try.prog 19 #[h2.v, .int .i64 x3] w (fun e w => ∃ (h100001 : Hdr), e = .returned (h100001.v) ∧ St w0 (ros) (row 3 (rI .i64) h100001.v out :: rs) w) := by
  refine enterQ Try.func19 rfl Try.ntmps19 rfl fun Q hQ => ?_
  refine seqQ fun Q1 k1 z1 => ?_
  refine wp_region_lit ?_
  refine Y wn rfl (ya (v := hnil.v) rfl) ?_
  refine wpList_nil ?_
  refine k1 _ _ ?_
  refine seqQ fun Q2 k2 z2 => ?_
  refine wp_region_lit ?_
  refine Y wn rfl (ya (v := hnil.v) rfl) ?_
  refine wpList_nil ?_
  refine k2 _ _ ?_
  refine seqQ fun Q3 k3 z3 => ?_
  refine seqQ fun Q4 k4 z4 => ?_
  refine wp_region_lit ?_
  refine Y wn rfl (ya (v := .int .i64 0) rfl) ?_
  refine wpList_nil ?_
  refine k4 _ _ ?_
  refine blockQ fun Q5 qb5 => ?_
  obtain ⟨o1, go1, hM⟩ := bs hM
  have je1_0 : ∀ (x19 : List Int) (h18 : Hdr) (f : Nat → Value) (w : World), f 0 = h2.v → f 1 = .int .i64 x3 → f 5 = h18.v → St w0 (ros) (row 3 (rI .i64) h18.v x19 :: rs) w → x19 = o1 → Q5 (.exit 0) (fr 51 f) w := by
    intro x19 h18 f w eje1_0_0 eje1_0_1 eje1_0_5 hst ho
    subst ho
    refine qb5 _ _ _ ?_
    refine k3 _ _ ?_
    refine seqQ fun Q14 k14 z14 => ?_
    refine wp_region_lit ?_
    refine Y wn rfl (ya (v := hnil.v) rfl) ?_
    refine wpList_nil ?_
    refine k14 _ _ ?_
    refine seqQ fun Q15 k15 z15 => ?_
    refine seqQ fun Q16 k16 z16 => ?_
    refine wp_region_lit ?_
    refine Y wn rfl (ya (v := .int .i64 0) rfl) ?_
    refine wpList_nil ?_
    refine k16 _ _ ?_
    refine blockQ fun Q17 qb17 => ?_
    obtain ⟨o4, go4, hM⟩ := bs hM
    have je4_0 : ∀ (x61 : List Int) (h60 : Hdr) (f : Nat → Value) (w : World), f 7 = h60.v → St w0 (ros) (row 3 (rI .i64) h60.v x61 :: rs) w → x61 = o4 → Q17 (.exit 2) (fr 51 f) w := by
      intro x61 h60 f w eje4_0_7 hst ho
      subst ho
      refine qb17 _ _ _ ?_
      refine k15 _ _ ?_
      refine seqQ fun Q34 k34 z34 => ?_
      refine wp_region_lit ?_
      refine Y wn rfl (ym (v := h60.v) (et rfl eje4_0_7)) ?_
      refine Y wn rfl (ya (v := h60.v) (et rfl rfl)) ?_
      refine wpList_nil ?_
      refine k34 _ _ ?_
      refine wp_ret ?_
      obtain rfl := someI hM
      exact hQ _ _ _ (fin1r Try.results19 ⟨rfl, rfl⟩ ⟨_, rfl, hst⟩)
    replace hst := hst.rowNh 3 (rI .i64)
    refine loopQ (fun s a w => ∃ (x36 : List Int) (x38 : List Int) (x39 : Int) (f : Nat → Value) (h35 : Hdr) (h37 : Hdr), (x36, x38, x39) = s ∧ a = fr 51 f ∧ f 0 = h2.v ∧ f 1 = .int .i64 x3 ∧ f 5 = h35.v ∧ f 7 = h37.v ∧ f 8 = .int .i64 x39 ∧ St w0 (ros) (row 3 (rI .i64) h35.v x36 :: row 3 (rI .i64) h37.v x38 :: rs) w) go4 ⟨_, _, _, _, _, _, rfl, rfl, eje1_0_0, eje1_0_1, eje1_0_5, rfl, rfl, (hst.pk 2 [1, 0] rfl)⟩ ?_
    clear hst
    rintro _ _ w r4_ ⟨x36, x38, x39, f, h35, h37, rfl, rfl, e4_0, e4_1, e4_5, e4_7, e4_8, hst⟩ hM4 ho4 Q100004 n4 zz4
    refine seqQ fun Q35 k35 z35 => ?_
    refine seqQ fun Q36 k36 z36 => ?_
    refine wp_region_lit ?_
    refine Y wn rfl (ym (v := .int .i64 x39) (et rfl e4_8)) ?_
    refine Y wn rfl (ym (v := .int .i64 x3) (et rfl e4_1)) ?_
    refine Y wn rfl (ylss (et rfl rfl) (et rfl rfl)) ?_
    refine wpList_nil ?_
    refine k36 _ _ ?_
    rcases iteS hM4 with ⟨c62, hM4⟩ | ⟨c62, hM4⟩
    · refine condT (et rfl rfl) (decide_eq_true c62) ?_
      refine wp_skip ?_
      refine k35 _ _ ?_
      refine seqQ fun Q37 k37 z37 => ?_
      refine blockQ fun Q38 qb38 => ?_
      refine seqQ fun Q39 k39 z39 => ?_
      refine wp_region_lit ?_
      refine Y wn rfl (ya (v := .int .i64 0) rfl) ?_
      refine wpList_nil ?_
      refine k39 _ _ ?_
      refine seqQ fun Q40 k40 z40 => ?_
      refine seqQ fun Q41 k41 z41 => ?_
      refine wp_region_lit ?_
      refine Y wn rfl (ym (v := .int .i64 x39) (et rfl e4_8)) ?_
      refine Y wn rfl (ym (v := h2.v) (et rfl e4_0)) ?_
      refine Y wn rfl (yLen SL_22 (et rfl rfl) hst (rdI q1)) ?_
      refine Y wn rfl (ylss (et rfl rfl) (et rfl rfl)) ?_
      refine wpList_nil ?_
      refine k41 _ _ ?_
      have j5 : ∀ (x65 : Int) (f : Nat → Value) (w : World), f 0 = h2.v → f 1 = .int .i64 x3 → f 5 = h35.v → f 7 = h37.v → f 8 = .int .i64 x39 → f 9 = .int .i64 x65 → St w0 (ros) (row 3 (rI .i64) h35.v x36 :: row 3 (rI .i64) h37.v x38 :: rs) w → sparsekit_Shuffle_j5 x36 x38 x39 x65 = some r4_ → Q40 .normal (fr 51 f) w := by
        intro x65 f w ej5_0 ej5_1 ej5_5 ej5_7 ej5_8 ej5_9 hst hM
        refine k40 _ _ ?_
        refine seqQ fun Q42 k42 z42 => ?_
        refine wp_region_lit ?_
        refine Y wn rfl (ym (v := h37.v) (et rfl ej5_7)) ?_
        refine Y wn rfl (ym (v := h35.v) (et rfl ej5_5)) ?_
        refine Y wn rfl (ym (v := .int .i64 x65) (et rfl ej5_9)) ?_
        obtain ⟨x66, gx66, hM⟩ := bs hM
        refine Y wn rfl (yIa SL_22 (et rfl rfl) (et rfl rfl) hst (rdO mhR) gx66) ?_
        refine Y wn rfl (yI O_3 (et rfl rfl) hst (rdO mhR) gx66) ?_
        refine YH wn rfl (rLt (n := 1) (l := [x66]) hst SL_22 [.int .i64 x66] (bp1 (et rfl rfl)) rfl rfl (mks1 (cs := [.int .i64 x66]) rfl mkI mks0)) ?_
        clear hst
        intro h67 w hst
        obtain ⟨x69, gx69, hM⟩ := bs hM
        replace hst := hst.pk 3 [2, 0, 0] rfl
        refine YH wn rfl (rAp hst SL_22 (et rfl rfl) (et rfl rfl) (rdO (mtR mhR)) gx69) ?_
        clear hst
        intro h68 w hst
        refine Y wn rfl (ya (v := h68.v) (et rfl rfl)) ?_
        refine wpList_nil ?_
        refine k42 _ _ ?_
        obtain ⟨x70, gx70, hM⟩ := bs hM
        obtain ⟨x71, gx71, hM⟩ := bs hM
        obtain ⟨x73, gx73, hM⟩ := bs hM
        refine wp_drawR [0, 0, 3, 0, 0, 16, 56, 127, 255] [7, 8] 2 folM (by kernel_rfl) (by kernel_rfl) (by kernel_rfl) ?_
        replace hst := hst.drew
        refine DRn (l1 := [0, 1, 2, 3, 4, 5, 6]) (l2 := []) (lc := [7]) (by kernel_rfl) (by kernel_rfl) (by kernel_rfl) ?_
        refine Ry rfl rfl wn (ym (v := h35.v) (et rfl ej5_5)) ?_
        refine Ry rfl rfl wn (ym (v := .int .i64 x65) (et rfl ej5_9)) ?_
        refine Ry rfl rfl wn (ySl (k1 := .i64) SL_22 (et rfl rfl) hst (rdO (mtR (mtR mhR))) (.inr ⟨rfl, rfl⟩) (.inl (congrArg some (et rfl rfl))) gx70) ?_
        refine Ry rfl rfl wn (ym (v := h35.v) (et rfl ej5_5)) ?_
        refine Ry rfl rfl wn (ym (v := .int .i64 x65) (et rfl ej5_9)) ?_
        refine Ry rfl rfl wn (yadd (et rfl rfl) rfl) ?_
        refine Ry rfl rfl wn (ySl (k2 := .i64) SL_22 (et rfl rfl) hst (rdO (mtR (mtR mhR))) (.inl (congrArg some (et rfl rfl))) (.inr ⟨rfl, rfl⟩) gx71) ?_
        refine Rn QSn ?_
        refine Lc rfl ?_ LAn
        replace hst := hst.pk 3 [2, 0, 0] rfl
        refine LH wn (rAp2 hst SL_22 (et rfl rfl) (et rfl rfl) gx70 gx71 gx73) ?_
        clear hst
        intro h72 w hst
        refine DRn (l1 := []) (l2 := []) (lc := [8]) (by kernel_rfl) (by kernel_rfl) (by kernel_rfl) ?_
        refine Rn QSn ?_
        refine Lc rfl ?_ LAn
        refine Ly wn (ya (v := h72.v) (et rfl rfl)) ?_
        refine DRz (l1 := []) (l2 := []) (by kernel_rfl) (by kernel_rfl) ?_
        refine Rn QSn ?_
        refine qb38 _ _ _ ?_
        refine k37 _ _ ?_
        refine wp_region_lit ?_
        refine Y wn rfl (ym (v := .int .i64 x39) (et rfl ej5_8)) ?_
        refine Y wn rfl (yadd (et rfl rfl) rfl) ?_
        refine Y wn rfl (ya (v := .int .i64 (wa .i64 x39 1)) (et rfl rfl)) ?_
        refine wpList_nil ?_
        obtain rfl := someI hM
        exact n4 _ _ _ rfl ⟨_, _, _, _, _, _, rfl, rfl, ej5_0, ej5_1, rfl, rfl, rfl, (hst.pk 3 [0, 0] rfl)⟩
      rcases iteS hM4 with ⟨c74, hM4⟩ | ⟨c74, hM4⟩
      · refine condT (et rfl rfl) (decide_eq_true c74) ?_
        refine wp_region_lit ?_
        refine Y wn rfl (ym (v := h2.v) (et rfl e4_0)) ?_
        refine Y wn rfl (ym (v := .int .i64 x39) (et rfl e4_8)) ?_
        obtain ⟨x75, gx75, hM4⟩ := bs hM4
        refine Y wn rfl (yIa SL_22 (et rfl rfl) (et rfl rfl) hst (rdI q1) gx75) ?_
        refine Y wn rfl (yI O_3 (et rfl rfl) hst (rdI q1) gx75) ?_
        refine Y wn rfl (ym (v := h35.v) (et rfl e4_5)) ?_
        refine Y wn rfl (yLen SL_22 (et rfl rfl) hst (rdO mhR)) ?_
        obtain ⟨r76, gr76, hM4⟩ := bs hM4
        refine Yc wn rfl (yCall FN_10 (a2 (et rfl rfl) (et rfl rfl))) (sparsekit_Place_ok (hM := gr76) (hst := hst) ) ?_
        clear hst
        rintro _ w ⟨rfl, hst⟩
        refine ⟨_, rfl, ?_⟩
        refine Y wn rfl (ya (v := .int .i64 r76) (et rfl rfl)) ?_
        refine wpList_nil ?_
        exact j5 _ _ _ e4_0 e4_1 e4_5 e4_7 e4_8 rfl hst hM4
      · refine condF (et rfl rfl) (decide_eq_false c74) ?_
        refine wp_skip ?_
        exact j5 _ _ _ e4_0 e4_1 e4_5 e4_7 e4_8 rfl hst hM4
    · refine condF (et rfl rfl) (decide_eq_false c62) ?_
      refine wp_exit ?_
      refine z35 _ _ _ rfl ?_
      obtain rfl := someI hM4
      refine zz4 _ _ _ _ rfl rfl ?_
      exact je4_0 _ _ _ _ e4_7 (hst.pk 2 [1] rfl) (ho4 _ rfl)
  replace hst := hst.rowNh 3 (rI .i64)
  refine loopQ (fun s a w => ∃ (x9 : List Int) (x10 : Int) (f : Nat → Value) (h8 : Hdr), (x9, x10) = s ∧ a = fr 51 f ∧ f 0 = h2.v ∧ f 1 = .int .i64 x3 ∧ f 5 = h8.v ∧ f 6 = .int .i64 x10 ∧ St w0 (ros) (row 3 (rI .i64) h8.v x9 :: rs) w) go1 ⟨_, _, _, _, rfl, rfl, rfl, rfl, rfl, rfl, hst⟩ ?_
  clear hst
  rintro _ _ w r1_ ⟨x9, x10, f, h8, rfl, rfl, e1_0, e1_1, e1_5, e1_6, hst⟩ hM1 ho1 Q100001 n1 zz1
  refine seqQ fun Q43 k43 z43 => ?_
  refine seqQ fun Q44 k44 z44 => ?_
  refine wp_region_lit ?_
  refine Y wn rfl (ym (v := .int .i64 x10) (et rfl e1_6)) ?_
  refine Y wn rfl (ym (v := .int .i64 x3) (et rfl e1_1)) ?_
  refine Y wn rfl (ylss (et rfl rfl) (et rfl rfl)) ?_
  refine wpList_nil ?_
  refine k44 _ _ ?_
  rcases iteS hM1 with ⟨c77, hM1⟩ | ⟨c77, hM1⟩
  · refine condT (et rfl rfl) (decide_eq_true c77) ?_
    refine wp_skip ?_
    refine k43 _ _ ?_
    refine seqQ fun Q45 k45 z45 => ?_
    refine blockQ fun Q46 qb46 => ?_
    refine wp_region_lit ?_
    refine Y wn rfl (ym (v := h8.v) (et rfl e1_5)) ?_
    refine Y wn rfl (ym (v := .int .i64 x10) (et rfl e1_6)) ?_
    refine YH wn rfl (rLt (n := 1) (l := [x10]) hst SL_22 [.int .i64 x10] (bp1 (et rfl rfl)) rfl rfl (mks1 (cs := [.int .i64 x10]) rfl mkI mks0)) ?_
    clear hst
    intro h78 w hst
    obtain ⟨x80, gx80, hM1⟩ := bs hM1
    replace hst := hst.pk 2 [1, 0] rfl
    refine YH wn rfl (rAp hst SL_22 (et rfl rfl) (et rfl rfl) (rdO (mtR mhR)) gx80) ?_
    clear hst
    intro h79 w hst
    refine Y wn rfl (ya (v := h79.v) (et rfl rfl)) ?_
    refine wpList_nil ?_
    refine qb46 _ _ _ ?_
    refine k45 _ _ ?_
    refine wp_region_lit ?_
    refine Y wn rfl (ym (v := .int .i64 x10) (et rfl e1_6)) ?_
    refine Y wn rfl (yadd (et rfl rfl) rfl) ?_
    refine Y wn rfl (ya (v := .int .i64 (wa .i64 x10 1)) (et rfl rfl)) ?_
    refine wpList_nil ?_
    obtain rfl := someI hM1
    exact n1 _ _ _ rfl ⟨_, _, _, _, rfl, rfl, e1_0, e1_1, rfl, rfl, (hst.pk 2 [0] rfl)⟩
  · refine condF (et rfl rfl) (decide_eq_false c77) ?_
    refine wp_exit ?_
    refine z43 _ _ _ rfl ?_
    obtain rfl := someI hM1
    refine zz1 _ _ _ _ rfl rfl ?_
    exact je1_0 _ _ _ _ e1_0 e1_1 e1_5 hst (ho1 _ rfl)

theorem graph_Permuted_1_ok {w0 : World} {ros : List Fact} {rs : List Res} {w : World} {x1 : Int} {x3 : List (List Int)} {b2 : Nat} {h4 : Hdr} {out : Bool} (hM : graph_Permuted_1 x1 x3 = some out) (q1 : imm (rS (rI .i64)) h4.v x3 ∈ ros) (hst : St w0 ros (box b2 27 [h4.v] :: rs) w) :
    Calls Try.prog 64 #[.int .i64 x1, .pointer (some ⟨b2, 0, none⟩)] w (fun e w => e = .returned (.bool out) ∧ St w0 (ros) (box b2 27 [h4.v] :: rs) w) := by
  refine enterQ Try.func64 rfl Try.ntmps64 rfl fun Q hQ => ?_
  refine seqQ fun Q1 k1 z1 => ?_
  refine wp_region_lit ?_
  refine Y wn rfl (ya (v := .bool false) rfl) ?_
  refine wpList_nil ?_
  refine k1 _ _ ?_
  refine seqQ fun Q2 k2 z2 => ?_
  refine wp_region_lit ?_
  refine Y wn rfl (yLbs (us := [h4.v]) ST_27 (et rfl rfl) hst mhR rfl rfl) ?_
  refine Y wn rfl (ym (v := .int .i64 x1) (et rfl rfl)) ?_
  obtain ⟨r5, gr5, hM⟩ := bs hM
  refine Yc wn rfl (yCall FN_37 (a2 (et rfl rfl) (et rfl rfl))) (graph_vertex_ok (hM := gr5) (hst := hst) (q1 := q1)) ?_
  clear hst
  rintro _ w ⟨rfl, hst⟩
  refine ⟨_, rfl, ?_⟩
  refine Y wn rfl (ynot (et rfl rfl)) ?_
  refine Y wn rfl (ya (v := .bool (!(r5))) (et rfl rfl)) ?_
  refine wpList_nil ?_
  refine k2 _ _ ?_
  refine wp_ret ?_
  obtain rfl := someI hM
  exact hQ _ _ _ (fin1r Try.results64 ⟨rfl, rfl⟩ ⟨rfl, hst⟩)
end Go.Proofs.Ytcknmegldjnjjaa
