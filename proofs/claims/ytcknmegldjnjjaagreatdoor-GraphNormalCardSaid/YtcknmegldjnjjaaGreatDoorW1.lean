/- Walks: each function computes its model, printed. -/
import Derived.Test.YtcknmegldjnjjaaGreatDoorW0
namespace Go.Proofs.YtcknmegldjnjjaaGreatDoor
open Go Sx M
set_option maxRecDepth 100000
set_option maxHeartbeats 400000
set_option linter.unusedVariables false
attribute [local irreducible] wpList Code.wp Calls DR QR QS LA LS St
theorem sparsekit_Lists_ok {w0 : World} {ros : List Fact} {rs : List Res} {w : World} {x1 : List (List Int)} {x3 : List (List Int)} {h2 : Hdr} {h4 : Hdr} {out : Bool} (hM : sparsekit_Lists x1 x3 = some out) (q1 : imm (rS (rI .i64)) h2.v x1 ∈ ros) (q2 : imm (rS (rI .i64)) h4.v x3 ∈ ros) (hst : St w0 ros (rs) w) :
    Calls Tryz.prog 20 #[h2.v, h4.v] w (fun e w => e = .returned (.bool out) ∧ St w0 (ros) (rs) w) := by
  refine enterQ Tryz.func20 rfl Tryz.ntmps20 rfl fun Q hQ => ?_
  refine seqQ fun Q1 k1 z1 => ?_
  refine wp_region_lit ?_
  refine Y wn rfl (ya (v := .bool false) rfl) ?_
  refine wpList_nil ?_
  refine k1 _ _ ?_
  refine seqQ fun Q2 k2 z2 => ?_
  refine seqQ fun Q3 k3 z3 => ?_
  refine wp_region_lit ?_
  refine Y wn rfl (ym (v := h2.v) (et rfl rfl)) ?_
  refine Y wn rfl (yLen SL_29 (et rfl rfl) hst (rdI q1)) ?_
  refine Y wn rfl (ym (v := h4.v) (et rfl rfl)) ?_
  refine Y wn rfl (yLen SL_29 (et rfl rfl) hst (rdI q2)) ?_
  refine Y wn rfl (yneq (et rfl rfl) (et rfl rfl)) ?_
  refine wpList_nil ?_
  refine k3 _ _ ?_
  rcases iteS hM with ⟨c5, hM⟩ | ⟨c5, hM⟩
  · refine condF (et rfl rfl) (nF (decide_eq_true c5)) ?_
    refine wp_skip ?_
    refine k2 _ _ ?_
    refine seqQ fun Q4 k4 z4 => ?_
    refine seqQ fun Q5 k5 z5 => ?_
    refine wp_region_lit ?_
    refine Y wn rfl (ya (v := .int .i64 0) rfl) ?_
    refine wpList_nil ?_
    refine k5 _ _ ?_
    refine blockQ fun Q6 qb6 => ?_
    obtain ⟨o1, go1, hM⟩ := bs hM
    have je1_0 : ∀ (f : Nat → Value) (w : World), St w0 (ros) (rs) w → .inl () = o1 → Q6 (.exit 0) (fr 27 f) w := by
      intro f w hst ho
      subst ho
      refine qb6 _ _ _ ?_
      refine k4 _ _ ?_
      refine seqQ fun Q19 k19 z19 => ?_
      refine wp_region_lit ?_
      refine Y wn rfl (ya (v := .bool true) rfl) ?_
      refine wpList_nil ?_
      refine k19 _ _ ?_
      refine wp_ret ?_
      obtain rfl := someI hM
      exact hQ _ _ _ (fin1r Tryz.results20 ⟨rfl, rfl⟩ ⟨rfl, hst⟩)
    have je1_1 : ∀ (f : Nat → Value) (w : World), f 4 = .bool false → St w0 (ros) (rs) w → .inr () = o1 → Q6 .ret (fr 27 f) w := by
      intro f w eje1_1_4 hst ho
      subst ho
      refine qb6 _ _ _ ?_
      refine z4 _ _ _ rfl ?_
      obtain rfl := someI hM
      exact hQ _ _ _ (fin1r Tryz.results20 ⟨rfl, eje1_1_4⟩ ⟨rfl, hst⟩)
    refine loopQ (fun s a w => ∃ (x13 : Int) (f : Nat → Value), x13 = s ∧ a = fr 27 f ∧ f 0 = h2.v ∧ f 1 = h4.v ∧ f 5 = .int .i64 x13 ∧ St w0 (ros) (rs) w) go1 ⟨_, _, rfl, rfl, rfl, rfl, rfl, hst⟩ ?_
    clear hst
    rintro _ _ w r1_ ⟨x13, f, rfl, rfl, e1_0, e1_1, e1_5, hst⟩ hM1 ho1 Q100001 n1 zz1
    refine seqQ fun Q20 k20 z20 => ?_
    refine seqQ fun Q21 k21 z21 => ?_
    refine wp_region_lit ?_
    refine Y wn rfl (ym (v := .int .i64 x13) (et rfl e1_5)) ?_
    refine Y wn rfl (ym (v := h2.v) (et rfl e1_0)) ?_
    refine Y wn rfl (yLen SL_29 (et rfl rfl) hst (rdI q1)) ?_
    refine Y wn rfl (ylss (et rfl rfl) (et rfl rfl)) ?_
    refine wpList_nil ?_
    refine k21 _ _ ?_
    rcases iteS hM1 with ⟨c22, hM1⟩ | ⟨c22, hM1⟩
    · refine condT (et rfl rfl) (decide_eq_true c22) ?_
      refine wp_skip ?_
      refine k20 _ _ ?_
      refine seqQ fun Q22 k22 z22 => ?_
      refine blockQ fun Q23 qb23 => ?_
      refine seqQ fun Q24 k24 z24 => ?_
      obtain ⟨x23, gx23, hM1⟩ := bs hM1
      obtain ⟨x25, gx25, hM1⟩ := bs hM1
      obtain ⟨r27, gr27, hM1⟩ := bs hM1
      refine wp_drawR [0, 0, 3, 7, 0, 0, 48, 112, 255, 511] [8] 1 folM (by kernel_rfl) (by kernel_rfl) (by kernel_rfl) ?_
      replace hst := hst.drew
      refine DRn (l1 := [0, 1, 2, 3, 4, 5, 6, 7]) (l2 := []) (lc := [8]) (by kernel_rfl) (by kernel_rfl) (by kernel_rfl) ?_
      refine Ry rfl rfl wn (ym (v := h2.v) (et rfl e1_0)) ?_
      refine Ry rfl rfl wn (ym (v := .int .i64 x13) (et rfl e1_5)) ?_
      refine Ry rfl rfl wn (yIa SL_29 (et rfl rfl) (et rfl rfl) hst (rdI q1) gx23) ?_
      obtain ⟨h24, hst⟩ := iLs hst q1 gx23
      refine Ry rfl rfl wn (yCt O_22 (et rfl rfl) hst (mtF mhF) rfl) ?_
      refine Ry rfl rfl wn (ym (v := h4.v) (et rfl e1_1)) ?_
      refine Ry rfl rfl wn (ym (v := .int .i64 x13) (et rfl e1_5)) ?_
      refine Ry rfl rfl wn (yIa SL_29 (et rfl rfl) (et rfl rfl) hst (rdI (mtF (mtF q2))) gx25) ?_
      obtain ⟨h26, hst⟩ := iLs hst (mtF (mtF q2)) gx25
      refine Ry rfl rfl wn (yCt O_22 (et rfl rfl) hst (mtF mhF) rfl) ?_
      refine Rn QSn ?_
      refine Lc rfl ?_ LAn
      refine Lk wn (yCall FN_42 (a2 (et rfl rfl) (et rfl rfl))) (sparsekit_Ints_ok (hM := gr27) (hst := hst) (q1 := (mtF (mtF mhF))) (q2 := mhF)) ?_
      clear hst
      rintro _ w ⟨rfl, hst⟩
      refine ⟨_, rfl, ?_⟩
      refine DRz (l1 := [9]) (l2 := []) (by kernel_rfl) (by kernel_rfl) ?_
      refine Ry rfl rfl wn (ynot (et rfl rfl)) ?_
      refine Rn QSn ?_
      refine k24 _ _ ?_
      rcases iteS hM1 with ⟨c28, hM1⟩ | ⟨c28, hM1⟩
      · refine condF (et rfl rfl) (nF c28) ?_
        refine wp_skip ?_
        refine qb23 _ _ _ ?_
        refine k22 _ _ ?_
        refine wp_region_lit ?_
        refine Y wn rfl (ym (v := .int .i64 x13) (et rfl e1_5)) ?_
        refine Y wn rfl (yadd (et rfl rfl) rfl) ?_
        refine Y wn rfl (ya (v := .int .i64 (wa .i64 x13 1)) (et rfl rfl)) ?_
        refine wpList_nil ?_
        obtain rfl := someI hM1
        exact n1 _ _ _ rfl ⟨_, _, rfl, rfl, e1_0, e1_1, rfl, (hst.facts (allT (allT (allT (allT allI)))))⟩
      · refine condT (et rfl rfl) (nT (bfalse c28)) ?_
        refine seqQ fun Q25 k25 z25 => ?_
        refine wp_region_lit ?_
        refine Y wn rfl (ya (v := .bool false) rfl) ?_
        refine wpList_nil ?_
        refine k25 _ _ ?_
        refine wp_ret ?_
        refine qb23 _ _ _ ?_
        refine z22 _ _ _ rfl ?_
        obtain rfl := someI hM1
        refine zz1 _ _ _ _ rfl rfl ?_
        exact je1_1 _ _ rfl (hst.facts (allT (allT (allT (allT allI))))) (ho1 _ rfl)
    · refine condF (et rfl rfl) (decide_eq_false c22) ?_
      refine wp_exit ?_
      refine z20 _ _ _ rfl ?_
      obtain rfl := someI hM1
      refine zz1 _ _ _ _ rfl rfl ?_
      exact je1_0 _ _ hst (ho1 _ rfl)
  · refine condT (et rfl rfl) (nT (decide_eq_false c5)) ?_
    refine seqQ fun Q26 k26 z26 => ?_
    refine wp_region_lit ?_
    refine Y wn rfl (ya (v := .bool false) rfl) ?_
    refine wpList_nil ?_
    refine k26 _ _ ?_
    refine wp_ret ?_
    refine z2 _ _ _ rfl ?_
    obtain rfl := someI hM
    exact hQ _ _ _ (fin1r Tryz.results20 ⟨rfl, rfl⟩ ⟨rfl, hst⟩)

theorem slices_Grow_int_ok {w0 : World} {ros : List Fact} {rs : List Res} {w : World} {x1 : Int} {out : (List Int)} (hM : slices_Grow_int x1 = some out) (hst : St w0 ros (rs) w) :
    Calls Tryz.prog 59 #[hnil.v, .int .i64 x1] w (fun e w => ∃ (h100001 : Hdr), e = .returned (h100001.v) ∧ St w0 (ros) (row 3 (rI .i64) h100001.v out :: rs) w) := by
  refine enterQ Tryz.func59 rfl Tryz.ntmps59 rfl fun Q hQ => ?_
  refine seqQ fun Q1 k1 z1 => ?_
  refine wp_region_lit ?_
  refine Y wn rfl (ya (v := hnil.v) rfl) ?_
  refine wpList_nil ?_
  refine k1 _ _ ?_
  refine seqQ fun Q2 k2 z2 => ?_
  refine seqQ fun Q3 k3 z3 => ?_
  refine wp_region_lit ?_
  refine Y wn rfl (ym (v := .int .i64 x1) (et rfl rfl)) ?_
  refine Y wn rfl (ylss (et rfl rfl) rfl) ?_
  refine wpList_nil ?_
  refine k3 _ _ ?_
  have j1 : ∀ (f : Nat → Value) (w : World), f 0 = hnil.v → f 1 = .int .i64 x1 → St w0 (ros) (rs) w → slices_Grow_int_j1 x1 = some out → Q2 .normal (fr 27 f) w := by
    intro f w ej1_0 ej1_1 hst hM
    refine k2 _ _ ?_
    refine seqQ fun Q4 k4 z4 => ?_
    refine seqQ fun Q5 k5 z5 => ?_
    refine wp_region_lit ?_
    refine Y wn rfl (ym (v := .int .i64 x1) (et rfl ej1_1)) ?_
    refine Y wn rfl (ym (v := hnil.v) (et rfl ej1_0)) ?_
    refine Y wn rfl (yCapN (by kernel_rfl : Tryz.prog.underlying 22 = some (.slice 3)) (et rfl rfl)) ?_
    refine Y wn rfl (ym (v := hnil.v) (et rfl ej1_0)) ?_
    refine Y wn rfl (yLen SL_22 (et rfl rfl) hst rdN) ?_
    refine Y wn rfl (ysub (et rfl rfl) (et rfl rfl)) ?_
    refine Y wn rfl (ysub (et rfl rfl) (et rfl rfl)) ?_
    refine Y wn rfl (ya (v := .int .i64 (ws .i64 x1 (ws .i64 0 0))) (et rfl rfl)) ?_
    refine wpList_nil ?_
    refine k5 _ _ ?_
    refine seqQ fun Q6 k6 z6 => ?_
    refine wp_region_lit ?_
    refine Y wn rfl (ym (v := .int .i64 (ws .i64 x1 (ws .i64 0 0))) (et rfl rfl)) ?_
    refine Y wn rfl (ygtr (et rfl rfl) rfl) ?_
    refine wpList_nil ?_
    refine k6 _ _ ?_
    have j2 : ∀ (x7 : List Int) (h6 : Hdr) (f : Nat → Value) (w : World), f 0 = h6.v → St w0 (ros) (row 3 (rI .i64) h6.v x7 :: rs) w → slices_Grow_int_j2 x7 = some out → Q4 .normal (fr 27 f) w := by
      intro x7 h6 f w ej2_0 hst hM
      refine k4 _ _ ?_
      refine seqQ fun Q7 k7 z7 => ?_
      refine wp_region_lit ?_
      refine Y wn rfl (ym (v := h6.v) (et rfl ej2_0)) ?_
      refine Y wn rfl (ya (v := h6.v) (et rfl rfl)) ?_
      refine wpList_nil ?_
      refine k7 _ _ ?_
      refine wp_ret ?_
      obtain rfl := someI hM
      exact hQ _ _ _ (fin1r Tryz.results59 ⟨rfl, rfl⟩ ⟨_, rfl, hst⟩)
    rcases iteS hM with ⟨c8, hM⟩ | ⟨c8, hM⟩
    · refine condT (et rfl rfl) (decide_eq_true c8) ?_
      refine wp_region_lit ?_
      refine Y wn rfl (ym (v := hnil.v) (et rfl ej1_0)) ?_
      refine Y wn rfl (ym (v := hnil.v) (et rfl ej1_0)) ?_
      refine Y wn rfl (yCapN (by kernel_rfl : Tryz.prog.underlying 22 = some (.slice 3)) (et rfl rfl)) ?_
      refine Y wn rfl (ySlN SL_22 (et rfl rfl) (et rfl rfl)) ?_
      refine Y wn rfl (ym (v := .int .i64 (ws .i64 x1 (ws .i64 0 0))) (et rfl rfl)) ?_
      obtain ⟨x10, gx10, hM⟩ := bs hM
      refine YH wn rfl (rZn hst SL_22 (by kernel_rfl : Tryz.prog.underlying 3 = some (.int .i64)) (et rfl rfl) (et rfl rfl) gx10) ?_
      clear hst
      intro h9 w hst
      refine Y wn rfl (ym (v := hnil.v) (et rfl ej1_0)) ?_
      refine Y wn rfl (yLen SL_22 (et rfl rfl) hst rdN) ?_
      obtain ⟨x11, gx11, hM⟩ := bs hM
      refine Y wn rfl (ySl (k1 := .i64) (hi := (0 : Int)) SL_22 (et rfl rfl) hst (rdO mhR) (.inr ⟨rfl, rfl⟩) (.inl (congrArg some (et rfl rfl))) gx11) ?_
      obtain ⟨h12, eh12, hst⟩ := hst.resl gx11
      rw [← eh12]
      refine Y wn rfl (ya (v := h12.v) (et rfl rfl)) ?_
      refine wpList_nil ?_
      exact j2 _ _ _ _ rfl hst hM
    · refine condF (et rfl rfl) (decide_eq_false c8) ?_
      refine wp_skip ?_
      replace hst := hst.rowNh 3 (rI .i64)
      exact j2 _ _ _ _ ej1_0 hst hM
  rcases iteS hM with ⟨c13, hM⟩ | ⟨c13, hM⟩
  · refine condT (et rfl rfl) (decide_eq_true c13) ?_
    cases hM
  · refine condF (et rfl rfl) (decide_eq_false c13) ?_
    refine wp_skip ?_
    exact j1 _ _ rfl rfl hst hM

theorem slices_Concat_int_ok {w0 : World} {ros : List Fact} {rs : List Res} {w : World} {x1 : List (List Int)} {h2 : Hdr} {out : (List Int)} (hM : slices_Concat_int x1 = some out) (q1 : imm (rS (rI .i64)) h2.v x1 ∈ ros) (hst : St w0 ros (rs) w) :
    Calls Tryz.prog 43 #[h2.v] w (fun e w => ∃ (h100001 : Hdr), e = .returned (h100001.v) ∧ St w0 (ros) (row 3 (rI .i64) h100001.v out :: rs) w) := by
  refine enterQ Tryz.func43 rfl Tryz.ntmps43 rfl fun Q hQ => ?_
  refine seqQ fun Q1 k1 z1 => ?_
  refine wp_region_lit ?_
  refine Y wn rfl (ya (v := hnil.v) rfl) ?_
  refine wpList_nil ?_
  refine k1 _ _ ?_
  refine seqQ fun Q2 k2 z2 => ?_
  refine wp_region_lit ?_
  refine Y wn rfl (ya (v := .int .i64 0) rfl) ?_
  refine wpList_nil ?_
  refine k2 _ _ ?_
  refine seqQ fun Q3 k3 z3 => ?_
  refine seqQ fun Q4 k4 z4 => ?_
  refine wp_region_lit ?_
  refine Y wn rfl (ym (v := h2.v) (et rfl rfl)) ?_
  refine Y wn rfl (yLen SL_29 (et rfl rfl) hst (rdI q1)) ?_
  refine Y wn rfl (ym (v := .int .i64 0) rfl) ?_
  refine wpList_nil ?_
  refine k4 _ _ ?_
  refine blockQ fun Q5 qb5 => ?_
  obtain ⟨o3, go3, hM⟩ := bs hM
  have je3_0 : ∀ (x15 : Int) (f : Nat → Value) (w : World), f 0 = h2.v → f 3 = .int .i64 x15 → St w0 (ros) (rs) w → x15 = o3 → Q5 (.exit 0) (fr 36 f) w := by
    intro x15 f w eje3_0_0 eje3_0_3 hst ho
    subst ho
    refine qb5 _ _ _ ?_
    refine k3 _ _ ?_
    refine seqQ fun Q20 k20 z20 => ?_
    refine wp_region_lit ?_
    refine Y wn rfl (ym (v := .int .i64 x15) (et rfl eje3_0_3)) ?_
    obtain ⟨r16, gr16, hM⟩ := bs hM
    refine Yc wn rfl (yCall FN_59 (a2 rfl (et rfl rfl))) (slices_Grow_int_ok (hM := gr16) (hst := hst) ) ?_
    clear hst
    rintro _ w ⟨h17, rfl, hst⟩
    refine ⟨_, rfl, ?_⟩
    refine Y wn rfl (ya (v := h17.v) (et rfl rfl)) ?_
    refine wpList_nil ?_
    refine k20 _ _ ?_
    refine seqQ fun Q21 k21 z21 => ?_
    refine seqQ fun Q22 k22 z22 => ?_
    refine wp_region_lit ?_
    refine Y wn rfl (ym (v := h2.v) (et rfl eje3_0_0)) ?_
    refine Y wn rfl (yLen SL_29 (et rfl rfl) hst (rdI q1)) ?_
    refine Y wn rfl (ym (v := .int .i64 0) rfl) ?_
    refine wpList_nil ?_
    refine k22 _ _ ?_
    refine blockQ fun Q23 qb23 => ?_
    obtain ⟨o4, go4, hM⟩ := bs hM
    have je4_0 : ∀ (x35 : List Int) (h34 : Hdr) (f : Nat → Value) (w : World), f 6 = h34.v → St w0 (ros) (row 3 (rI .i64) h34.v x35 :: rs) w → x35 = o4 → Q23 (.exit 2) (fr 36 f) w := by
      intro x35 h34 f w eje4_0_6 hst ho
      subst ho
      refine qb23 _ _ _ ?_
      refine k21 _ _ ?_
      refine seqQ fun Q34 k34 z34 => ?_
      refine wp_region_lit ?_
      refine Y wn rfl (ym (v := h34.v) (et rfl eje4_0_6)) ?_
      refine Y wn rfl (ya (v := h34.v) (et rfl rfl)) ?_
      refine wpList_nil ?_
      refine k34 _ _ ?_
      refine wp_ret ?_
      obtain rfl := someI hM
      exact hQ _ _ _ (fin1r Tryz.results43 ⟨rfl, rfl⟩ ⟨_, rfl, hst⟩)
    refine loopQ (fun s a w => ∃ (x24 : List Int) (x25 : Int) (f : Nat → Value) (h23 : Hdr), (x24, x25) = s ∧ a = fr 36 f ∧ f 6 = h23.v ∧ f 25 = h2.v ∧ f 26 = .int .i64 (x1.length : Int) ∧ f 27 = .int .i64 x25 ∧ St w0 (ros) (row 3 (rI .i64) h23.v x24 :: rs) w) go4 ⟨_, _, _, _, rfl, rfl, rfl, rfl, rfl, rfl, hst⟩ ?_
    clear hst
    rintro _ _ w r4_ ⟨x24, x25, f, h23, rfl, rfl, e4_6, e4_25, e4_26, e4_27, hst⟩ hM4 ho4 Q100004 n4 zz4
    refine seqQ fun Q35 k35 z35 => ?_
    refine wp_region_lit ?_
    refine Y wn rfl (ylss (et rfl e4_27) (et rfl e4_26)) ?_
    refine wpList_nil ?_
    refine k35 _ _ ?_
    refine seqQ fun Q36 k36 z36 => ?_
    rcases iteS hM4 with ⟨c36, hM4⟩ | ⟨c36, hM4⟩
    · refine condT (et rfl rfl) (decide_eq_true c36) ?_
      refine wp_skip ?_
      refine k36 _ _ ?_
      refine seqQ fun Q37 k37 z37 => ?_
      refine blockQ fun Q38 qb38 => ?_
      refine seqQ fun Q39 k39 z39 => ?_
      refine wp_region_lit ?_
      obtain ⟨x37, gx37, hM4⟩ := bs hM4
      refine Y wn rfl (yIa SL_29 (et rfl e4_25) (et rfl e4_27) hst (rdI q1) gx37) ?_
      obtain ⟨h38, hst⟩ := iLs hst q1 gx37
      refine Y wn rfl (yCt O_22 (et rfl rfl) hst (mtF mhF) rfl) ?_
      refine Y wn rfl (ya (v := h38.v) (et rfl rfl)) ?_
      refine wpList_nil ?_
      refine k39 _ _ ?_
      refine wp_region_lit ?_
      refine Y wn rfl (ym (v := h23.v) (et rfl e4_6)) ?_
      refine Y wn rfl (ym (v := h38.v) (et rfl rfl)) ?_
      obtain ⟨x40, gx40, hM4⟩ := bs hM4
      refine YH wn rfl (rAp hst SL_22 (et rfl rfl) (et rfl rfl) (rdI mhF) gx40) ?_
      clear hst
      intro h39 w hst
      refine Y wn rfl (ya (v := h39.v) (et rfl rfl)) ?_
      refine wpList_nil ?_
      refine qb38 _ _ _ ?_
      refine k37 _ _ ?_
      refine wp_region_lit ?_
      refine Y wn rfl (yadd (et rfl e4_27) rfl) ?_
      refine Y wn rfl (ym (v := .int .i64 (wa .i64 x25 1)) (et rfl rfl)) ?_
      refine wpList_nil ?_
      obtain rfl := someI hM4
      exact n4 _ _ _ rfl ⟨_, _, _, _, rfl, rfl, rfl, e4_25, e4_26, rfl, (hst.facts (allT (allT allI)))⟩
    · refine condF (et rfl rfl) (decide_eq_false c36) ?_
      refine wp_exit ?_
      refine z36 _ _ _ rfl ?_
      obtain rfl := someI hM4
      refine zz4 _ _ _ _ rfl rfl ?_
      exact je4_0 _ _ _ _ e4_6 hst (ho4 _ rfl)
  refine loopQ (fun s a w => ∃ (x7 : Int) (x8 : Int) (f : Nat → Value), (x7, x8) = s ∧ a = fr 36 f ∧ f 0 = h2.v ∧ f 3 = .int .i64 x7 ∧ f 9 = h2.v ∧ f 10 = .int .i64 (x1.length : Int) ∧ f 11 = .int .i64 x8 ∧ St w0 (ros) (rs) w) go3 ⟨_, _, _, rfl, rfl, rfl, rfl, rfl, rfl, rfl, hst⟩ ?_
  clear hst
  rintro _ _ w r3_ ⟨x7, x8, f, rfl, rfl, e3_0, e3_3, e3_9, e3_10, e3_11, hst⟩ hM3 ho3 Q100003 n3 zz3
  refine seqQ fun Q40 k40 z40 => ?_
  refine wp_region_lit ?_
  refine Y wn rfl (ylss (et rfl e3_11) (et rfl e3_10)) ?_
  refine wpList_nil ?_
  refine k40 _ _ ?_
  refine seqQ fun Q41 k41 z41 => ?_
  rcases iteS hM3 with ⟨c41, hM3⟩ | ⟨c41, hM3⟩
  · refine condT (et rfl rfl) (decide_eq_true c41) ?_
    refine wp_skip ?_
    refine k41 _ _ ?_
    refine seqQ fun Q42 k42 z42 => ?_
    refine blockQ fun Q43 qb43 => ?_
    refine seqQ fun Q44 k44 z44 => ?_
    refine wp_region_lit ?_
    obtain ⟨x42, gx42, hM3⟩ := bs hM3
    refine Y wn rfl (yIa SL_29 (et rfl e3_9) (et rfl e3_11) hst (rdI q1) gx42) ?_
    obtain ⟨h43, hst⟩ := iLs hst q1 gx42
    refine Y wn rfl (yCt O_22 (et rfl rfl) hst (mtF mhF) rfl) ?_
    refine Y wn rfl (ya (v := h43.v) (et rfl rfl)) ?_
    refine wpList_nil ?_
    refine k44 _ _ ?_
    refine seqQ fun Q45 k45 z45 => ?_
    refine wp_region_lit ?_
    refine Y wn rfl (ym (v := .int .i64 x7) (et rfl e3_3)) ?_
    refine Y wn rfl (ym (v := h43.v) (et rfl rfl)) ?_
    refine Y wn rfl (yLen SL_22 (et rfl rfl) hst (rdI mhF)) ?_
    refine Y wn rfl (yadd (et rfl rfl) (et rfl rfl)) ?_
    refine Y wn rfl (ya (v := .int .i64 (wa .i64 x7 (x42.length : Int))) (et rfl rfl)) ?_
    refine wpList_nil ?_
    refine k45 _ _ ?_
    refine seqQ fun Q46 k46 z46 => ?_
    refine wp_region_lit ?_
    refine Y wn rfl (ym (v := .int .i64 (wa .i64 x7 (x42.length : Int))) (et rfl rfl)) ?_
    refine Y wn rfl (ylss (et rfl rfl) rfl) ?_
    refine wpList_nil ?_
    refine k46 _ _ ?_
    have j5 : ∀ (f : Nat → Value) (w : World), f 0 = h2.v → f 3 = .int .i64 (wa .i64 x7 (x42.length : Int)) → f 9 = h2.v → f 10 = .int .i64 (x1.length : Int) → f 11 = .int .i64 x8 → St w0 (ros) (rs) w → slices_Concat_int_j5 x7 x42 x8 = some r3_ → Q43 .normal (fr 36 f) w := by
      intro f w ej5_0 ej5_3 ej5_9 ej5_10 ej5_11 hst hM
      refine qb43 _ _ _ ?_
      refine k42 _ _ ?_
      refine wp_region_lit ?_
      refine Y wn rfl (yadd (et rfl ej5_11) rfl) ?_
      refine Y wn rfl (ym (v := .int .i64 (wa .i64 x8 1)) (et rfl rfl)) ?_
      refine wpList_nil ?_
      obtain rfl := someI hM
      exact n3 _ _ _ rfl ⟨_, _, _, rfl, rfl, ej5_0, ej5_3, ej5_9, ej5_10, rfl, hst⟩
    rcases iteS hM3 with ⟨c44, hM3⟩ | ⟨c44, hM3⟩
    · refine condT (et rfl rfl) (decide_eq_true c44) ?_
      cases hM3
    · refine condF (et rfl rfl) (decide_eq_false c44) ?_
      refine wp_skip ?_
      exact j5 _ _ e3_0 rfl e3_9 e3_10 e3_11 (hst.facts (allT (allT allI))) hM3
  · refine condF (et rfl rfl) (decide_eq_false c41) ?_
    refine wp_exit ?_
    refine z41 _ _ _ rfl ?_
    obtain rfl := someI hM3
    refine zz3 _ _ _ _ rfl rfl ?_
    exact je3_0 _ _ _ e3_0 e3_3 hst (ho3 _ rfl)

theorem graph_Components_ok {w0 : World} {ros : List Fact} {rs : List Res} {w : World} {x1 : List (List Int)} {h2 : Hdr} {out : (List (List Int))} (hM : graph_Components x1 = some out) (q1 : imm (rS (rI .i64)) h2.v x1 ∈ ros) (hst : St w0 ros (rs) w) :
    Calls Tryz.prog 22 #[.agg #[h2.v]] w (fun e w => ∃ (h100001 : Hdr), e = .returned (h100001.v) ∧ St w0 (ros) (row 22 (rS (rI .i64)) h100001.v out :: rs) w) := by
  refine enterQ Tryz.func22 rfl Tryz.ntmps22 rfl fun Q hQ => ?_
  refine seqQ fun Q1 k1 z1 => ?_
  refine wp_region_lit ?_
  refine YB wn rfl (r_box (vals := [h2.v]) hst (et rfl rfl) rfl) ?_
  clear hst
  intro b3 w hst
  refine Y wn rfl (ya (v := hnil.v) rfl) ?_
  refine wpList_nil ?_
  refine k1 _ _ ?_
  refine seqQ fun Q2 k2 z2 => ?_
  refine seqQ fun Q3 k3 z3 => ?_
  refine wp_region_lit ?_
  refine Y wn rfl (yLbs (us := [h2.v]) ST_31 (et rfl rfl) hst mhR rfl rfl) ?_
  obtain ⟨r4, gr4, hM⟩ := bs hM
  refine Yc wn rfl (yCall FN_18 (a1 (et rfl rfl))) (graph_Check_ok (hM := gr4) (hst := hst) (q1 := q1)) ?_
  clear hst
  rintro _ w ⟨rfl, hst⟩
  refine ⟨_, rfl, ?_⟩
  refine Y wn rfl (yneq (et rfl rfl) rfl) ?_
  refine wpList_nil ?_
  refine k3 _ _ ?_
  rcases iteS hM with ⟨c5, hM⟩ | ⟨c5, hM⟩
  · refine condF (et rfl rfl) (nF (decide_eq_true c5)) ?_
    refine wp_skip ?_
    refine k2 _ _ ?_
    refine seqQ fun Q4 k4 z4 => ?_
    refine wp_region_lit ?_
    refine Y wn rfl (yFb FL_31_0 (et rfl rfl)) ?_
    refine Y wn rfl (yLb (u := h2.v) O_29 (et rfl rfl) hst mhR rfl) ?_
    refine Y wn rfl (yLen SL_29 (et rfl rfl) hst (rdI q1)) ?_
    obtain ⟨x8, gx8, hM⟩ := bs hM
    refine YH wn rfl (rMk hst SL_76 (et rfl rfl) gx8) ?_
    clear hst
    intro h6 w hst
    refine Y wn rfl (ya (v := h6.v) (et rfl rfl)) ?_
    refine wpList_nil ?_
    refine k4 _ _ ?_
    refine seqQ fun Q5 k5 z5 => ?_
    refine wp_region_lit ?_
    refine Y wn rfl (ya (v := hnil.v) rfl) ?_
    refine wpList_nil ?_
    refine k5 _ _ ?_
    refine seqQ fun Q6 k6 z6 => ?_
    refine seqQ fun Q7 k7 z7 => ?_
    refine wp_region_lit ?_
    refine Y wn rfl (yFb FL_31_0 (et rfl rfl)) ?_
    refine Y wn rfl (yLb (u := h2.v) O_29 (et rfl rfl) hst (mtR mhR) rfl) ?_
    refine Y wn rfl (yLen SL_29 (et rfl rfl) hst (rdI q1)) ?_
    refine Y wn rfl (ym (v := .int .i64 0) rfl) ?_
    refine wpList_nil ?_
    refine k7 _ _ ?_
    refine blockQ fun Q8 qb8 => ?_
    obtain ⟨o9, go9, hM⟩ := bs hM
    have je9_0 : ∀ (x170 : List (List Int)) (h169 : Hdr) (f : Nat → Value) (w : World), f 4 = h169.v → St w0 (ros) (row 22 (rS (rI .i64)) h169.v x170 :: rs) w → x170 = o9 → Q8 (.exit 0) (fr 48 f) w := by
      intro x170 h169 f w eje9_0_4 hst ho
      subst ho
      refine qb8 _ _ _ ?_
      refine k6 _ _ ?_
      refine seqQ fun Q159 k159 z159 => ?_
      refine wp_region_lit ?_
      refine Y wn rfl (ym (v := h169.v) (et rfl eje9_0_4)) ?_
      refine Y wn rfl (ya (v := h169.v) (et rfl rfl)) ?_
      refine wpList_nil ?_
      refine k159 _ _ ?_
      refine wp_ret ?_
      obtain rfl := someI hM
      exact hQ _ _ _ (fin1r Tryz.results22 ⟨rfl, rfl⟩ ⟨_, rfl, hst⟩)
    replace hst := hst.rowNh 22 (rS (rI .i64))
    refine loopQ (fun s a w => ∃ (x85 : List Bool) (x87 : List (List Int)) (x88 : Int) (f : Nat → Value) (h86 : Hdr), (x85, x87, x88) = s ∧ a = fr 48 f ∧ f 1 = .pointer (some ⟨b3, 0, none⟩) ∧ f 3 = h6.v ∧ f 4 = h86.v ∧ f 18 = .int .i64 (x1.length : Int) ∧ f 19 = .int .i64 x88 ∧ St w0 (ros) (box b3 31 [h2.v] :: row 4 rB h6.v x85 :: row 22 (rS (rI .i64)) h86.v x87 :: rs) w) go9 ⟨_, _, _, _, _, rfl, rfl, rfl, rfl, rfl, rfl, rfl, (hst.pk 3 [2, 1, 0] rfl)⟩ ?_
    clear hst
    rintro _ _ w r9_ ⟨x85, x87, x88, f, h86, rfl, rfl, e9_1, e9_3, e9_4, e9_18, e9_19, hst⟩ hM9 ho9 Q100009 n9 zz9
    refine seqQ fun Q160 k160 z160 => ?_
    refine wp_region_lit ?_
    refine Y wn rfl (ylss (et rfl e9_19) (et rfl e9_18)) ?_
    refine wpList_nil ?_
    refine k160 _ _ ?_
    refine seqQ fun Q161 k161 z161 => ?_
    rcases iteS hM9 with ⟨c171, hM9⟩ | ⟨c171, hM9⟩
    · refine condT (et rfl rfl) (decide_eq_true c171) ?_
      refine wp_skip ?_
      refine k161 _ _ ?_
      refine seqQ fun Q162 k162 z162 => ?_
      have j12 : ∀ (x220 : List Bool) (x222 : List (List Int)) (h221 : Hdr) (f : Nat → Value) (w : World), f 1 = .pointer (some ⟨b3, 0, none⟩) → f 3 = h6.v → f 4 = h221.v → f 18 = .int .i64 (x1.length : Int) → f 19 = .int .i64 x88 → St w0 (ros) (box b3 31 [h2.v] :: row 4 rB h6.v x220 :: row 22 (rS (rI .i64)) h221.v x222 :: rs) w → graph_Components_j12 x88 x220 x222 = some r9_ → Q162 .normal (fr 48 f) w := by
        intro x220 x222 h221 f w ej12_1 ej12_3 ej12_4 ej12_18 ej12_19 hst hM
        refine k162 _ _ ?_
        refine wp_region_lit ?_
        refine Y wn rfl (yadd (et rfl ej12_19) rfl) ?_
        refine Y wn rfl (ym (v := .int .i64 (wa .i64 x88 1)) (et rfl rfl)) ?_
        refine wpList_nil ?_
        obtain rfl := someI hM
        exact n9 _ _ _ rfl ⟨_, _, _, _, _, rfl, rfl, ej12_1, ej12_3, ej12_4, ej12_18, rfl, hst⟩
      refine blockQ fun Q211 qb211 => ?_
      refine seqQ fun Q212 k212 z212 => ?_
      refine wp_region_lit ?_
      refine Y wn rfl (ym (v := .int .i64 x88) (et rfl e9_19)) ?_
      refine Y wn rfl (ya (v := .int .i64 x88) (et rfl rfl)) ?_
      refine wpList_nil ?_
      refine k212 _ _ ?_
      refine seqQ fun Q213 k213 z213 => ?_
      refine seqQ fun Q214 k214 z214 => ?_
      refine wp_region_lit ?_
      refine Y wn rfl (ym (v := h6.v) (et rfl e9_3)) ?_
      refine Y wn rfl (ym (v := .int .i64 x88) (et rfl rfl)) ?_
      obtain ⟨x223, gx223, hM9⟩ := bs hM9
      refine Y wn rfl (yIa SL_76 (et rfl rfl) (et rfl rfl) hst (rdO (mtR mhR)) gx223) ?_
      refine Y wn rfl (yB O_4 (et rfl rfl) hst (rdO (mtR mhR)) gx223) ?_
      refine wpList_nil ?_
      refine k214 _ _ ?_
      rcases iteS hM9 with ⟨c224, hM9⟩ | ⟨c224, hM9⟩
      · refine condT (et rfl rfl) c224 ?_
        refine wp_exit ?_
        refine z213 _ _ _ rfl ?_
        refine qb211 _ _ _ ?_
        exact j12 _ _ _ _ _ e9_1 e9_3 e9_4 e9_18 e9_19 hst hM9
      · refine condF (et rfl rfl) (bfalse c224) ?_
        refine wp_skip ?_
        refine k213 _ _ ?_
        refine seqQ fun Q215 k215 z215 => ?_
        refine wp_region_lit ?_
        refine Y wn rfl (yLbs (us := [h2.v]) ST_31 (et rfl e9_1) hst mhR rfl rfl) ?_
        refine Y wn rfl (ym (v := .int .i64 x88) (et rfl rfl)) ?_
        obtain ⟨r225, gr225, hM9⟩ := bs hM9
        refine Yc wn rfl (yCall FN_41 (a2 (et rfl rfl) (et rfl rfl))) (graph_levels_ok (hM := gr225) (hst := hst) (q1 := q1)) ?_
        clear hst
        rintro _ w ⟨h226, rfl, hst⟩
        refine ⟨_, rfl, ?_⟩
        obtain ⟨r227, gr227, hM9⟩ := bs hM9
        replace hst := hst.fz
        refine Yc wn rfl (yCall FN_43 (a1 (et rfl rfl))) (slices_Concat_int_ok (hM := gr227) (hst := hst) (q1 := mhF)) ?_
        clear hst
        rintro _ w ⟨h228, rfl, hst⟩
        refine ⟨_, rfl, ?_⟩
        refine Y wn rfl (ya (v := h228.v) (et rfl rfl)) ?_
        refine wpList_nil ?_
        refine k215 _ _ ?_
        refine seqQ fun Q216 k216 z216 => ?_
        refine wp_region_lit ?_
        refine Y wn rfl (ym (v := h228.v) (et rfl rfl)) ?_
        obtain ⟨r229, gr229, hM9⟩ := bs hM9
        refine Yc wn rfl (yCall FN_44 (a1 (et rfl rfl))) (sortI_ok (hM := gr229) (hst := hst) ) ?_
        clear hst
        rintro _ w ⟨rfl, hst⟩
        refine ⟨_, rfl, ?_⟩
        refine wpList_nil ?_
        refine k216 _ _ ?_
        refine seqQ fun Q217 k217 z217 => ?_
        refine seqQ fun Q218 k218 z218 => ?_
        refine wp_region_lit ?_
        refine Y wn rfl (ym (v := h228.v) (et rfl rfl)) ?_
        refine Y wn rfl (yLen SL_22 (et rfl rfl) hst (rdO mhR)) ?_
        refine Y wn rfl (ym (v := .int .i64 0) rfl) ?_
        refine wpList_nil ?_
        refine k218 _ _ ?_
        refine blockQ fun Q219 qb219 => ?_
        obtain ⟨o13, go13, hM9⟩ := bs hM9
        have je13_0 : ∀ (x240 : List Bool) (f : Nat → Value) (w : World), f 1 = .pointer (some ⟨b3, 0, none⟩) → f 3 = h6.v → f 4 = h86.v → f 6 = h228.v → f 18 = .int .i64 (x1.length : Int) → f 19 = .int .i64 x88 → St w0 (ros) (box b3 31 [h2.v] :: row 4 rB h6.v x240 :: row 22 (rS (rI .i64)) h86.v x87 :: row 3 (rI .i64) h228.v r229 :: rs) w → x240 = o13 → Q219 (.exit 2) (fr 48 f) w := by
          intro x240 f w eje13_0_1 eje13_0_3 eje13_0_4 eje13_0_6 eje13_0_18 eje13_0_19 hst ho
          subst ho
          refine qb219 _ _ _ ?_
          refine k217 _ _ ?_
          refine wp_region_lit ?_
          refine Y wn rfl (ym (v := h86.v) (et rfl eje13_0_4)) ?_
          refine Y wn rfl (ym (v := h228.v) (et rfl eje13_0_6)) ?_
          replace hst := hst.pk 4 [3, 0, 0, 0] rfl
          replace hst := hst.fz
          refine YH wn rfl (rLt (n := 1) (l := [r229]) hst SL_29 [h228.v] (bp1 (et rfl rfl)) rfl rfl (mks1 (cs := [h228.v]) rfl (mkS mhF) mks0)) ?_
          clear hst
          intro h241 w hst
          obtain ⟨x243, gx243, hM9⟩ := bs hM9
          replace hst := hst.pk 4 [3, 0, 0, 0] rfl
          refine YH wn rfl (rAp hst SL_29 (et rfl rfl) (et rfl rfl) (rdO (mtR mhR)) gx243) ?_
          clear hst
          intro h242 w hst
          refine Y wn rfl (ya (v := h242.v) (et rfl rfl)) ?_
          refine wpList_nil ?_
          refine qb211 _ _ _ ?_
          exact j12 _ _ _ _ _ eje13_0_1 eje13_0_3 rfl eje13_0_18 eje13_0_19 ((hst.pk 4 [2, 2, 0] rfl).facts (allT allI)) hM9
        refine loopQ (fun s a w => ∃ (x233 : List Bool) (x234 : Int) (f : Nat → Value), (x233, x234) = s ∧ a = fr 48 f ∧ f 1 = .pointer (some ⟨b3, 0, none⟩) ∧ f 3 = h6.v ∧ f 4 = h86.v ∧ f 6 = h228.v ∧ f 18 = .int .i64 (x1.length : Int) ∧ f 19 = .int .i64 x88 ∧ f 32 = h228.v ∧ f 33 = .int .i64 (r229.length : Int) ∧ f 34 = .int .i64 x234 ∧ St w0 (ros) (box b3 31 [h2.v] :: row 4 rB h6.v x233 :: row 22 (rS (rI .i64)) h86.v x87 :: row 3 (rI .i64) h228.v r229 :: rs) w) go13 ⟨_, _, _, rfl, rfl, e9_1, e9_3, e9_4, rfl, e9_18, e9_19, rfl, rfl, rfl, ((hst.pk 4 [1, 1, 1, 0] rfl).facts (allT allI))⟩ ?_
        clear hst
        rintro _ _ w r13_ ⟨x233, x234, f, rfl, rfl, e13_1, e13_3, e13_4, e13_6, e13_18, e13_19, e13_32, e13_33, e13_34, hst⟩ hM13 ho13 Q100013 n13 zz13
        refine seqQ fun Q230 k230 z230 => ?_
        refine wp_region_lit ?_
        refine Y wn rfl (ylss (et rfl e13_34) (et rfl e13_33)) ?_
        refine wpList_nil ?_
        refine k230 _ _ ?_
        refine seqQ fun Q231 k231 z231 => ?_
        rcases iteS hM13 with ⟨c244, hM13⟩ | ⟨c244, hM13⟩
        · refine condT (et rfl rfl) (decide_eq_true c244) ?_
          refine wp_skip ?_
          refine k231 _ _ ?_
          refine seqQ fun Q232 k232 z232 => ?_
          refine blockQ fun Q233 qb233 => ?_
          refine seqQ fun Q234 k234 z234 => ?_
          refine wp_region_lit ?_
          obtain ⟨x245, gx245, hM13⟩ := bs hM13
          refine Y wn rfl (yIa SL_22 (et rfl e13_32) (et rfl e13_34) hst (rdO (mtR (mtR (mtR mhR)))) gx245) ?_
          refine Y wn rfl (yI O_3 (et rfl rfl) hst (rdO (mtR (mtR (mtR mhR)))) gx245) ?_
          refine Y wn rfl (ya (v := .int .i64 x245) (et rfl rfl)) ?_
          refine wpList_nil ?_
          refine k234 _ _ ?_
          refine wp_region_lit ?_
          refine Y wn rfl (ym (v := h6.v) (et rfl e13_3)) ?_
          refine Y wn rfl (ym (v := .int .i64 x245) (et rfl rfl)) ?_
          obtain ⟨x246, gx246, hM13⟩ := bs hM13
          refine Y wn rfl (yIs SL_76 (et rfl rfl) (et rfl rfl) hst (rdO (mtR mhR)) gx246) ?_
          replace hst := hst.pk 2 [1, 0] rfl
          refine YT wn rfl (r_sti (cs := [.bool true]) hst O_4 rfl (et rfl rfl) rfl rfl mkB gx246) ?_
          clear hst
          intro w hst
          refine wpList_nil ?_
          refine qb233 _ _ _ ?_
          refine k232 _ _ ?_
          refine wp_region_lit ?_
          refine Y wn rfl (yadd (et rfl e13_34) rfl) ?_
          refine Y wn rfl (ym (v := .int .i64 (wa .i64 x234 1)) (et rfl rfl)) ?_
          refine wpList_nil ?_
          obtain rfl := someI hM13
          exact n13 _ _ _ rfl ⟨_, _, _, rfl, rfl, e13_1, e13_3, e13_4, e13_6, e13_18, e13_19, e13_32, e13_33, rfl, (hst.pk 4 [1, 0, 0, 0] rfl)⟩
        · refine condF (et rfl rfl) (decide_eq_false c244) ?_
          refine wp_exit ?_
          refine z231 _ _ _ rfl ?_
          obtain rfl := someI hM13
          refine zz13 _ _ _ _ rfl rfl ?_
          exact je13_0 _ _ _ e13_1 e13_3 e13_4 e13_6 e13_18 e13_19 hst (ho13 _ rfl)
    · refine condF (et rfl rfl) (decide_eq_false c171) ?_
      refine wp_exit ?_
      refine z161 _ _ _ rfl ?_
      obtain rfl := someI hM9
      refine zz9 _ _ _ _ rfl rfl ?_
      exact je9_0 _ _ _ _ e9_4 (hst.pk 3 [2] rfl) (ho9 _ rfl)
  · refine condT (et rfl rfl) (nT (decide_eq_false c5)) ?_
    refine seqQ fun Q235 k235 z235 => ?_
    refine wp_region_lit ?_
    refine Y wn rfl (ya (v := hnil.v) rfl) ?_
    refine wpList_nil ?_
    refine k235 _ _ ?_
    refine wp_ret ?_
    refine z2 _ _ _ rfl ?_
    obtain rfl := someI hM
    replace hst := hst.rowNh 22 (rS (rI .i64))
    exact hQ _ _ _ (fin1r Tryz.results22 ⟨rfl, rfl⟩ ⟨_, rfl, (hst.pk 2 [0] rfl)⟩)

theorem sparselaw12_awake_ok {w0 : World} {ros : List Fact} {rs : List Res} {w : World} {out : Bool} (hM : sparselaw12_awake = some out) (hst : St w0 ros (rs) w) :
    Calls Tryz.prog 5 #[] w (fun e w => e = .returned (.bool out) ∧ St w0 (ros) (rs) w) := by
  refine enterQ Tryz.func5 rfl Tryz.ntmps5 rfl fun Q hQ => ?_
  refine seqQ fun Q1 k1 z1 => ?_
  refine wp_region_lit ?_
  refine Y wn rfl (ya (v := .bool false) rfl) ?_
  refine wpList_nil ?_
  refine k1 _ _ ?_
  refine seqQ fun Q2 k2 z2 => ?_
  refine wp_region_lit ?_
  refine YH wn rfl (rLt (n := 1) (l := [1]) hst SL_22 [.int .i64 1] (bp1 rfl) rfl rfl (mks1 (cs := [.int .i64 1]) rfl mkI mks0)) ?_
  clear hst
  intro h1 w hst
  refine YH wn rfl (rLt (n := 2) (l := [0, 2]) hst SL_22 [.int .i64 0, .int .i64 2] (bp2 rfl rfl) rfl rfl (mks1 (cs := [.int .i64 0]) rfl mkI (mks1 (cs := [.int .i64 2]) rfl mkI mks0))) ?_
  clear hst
  intro h2 w hst
  refine YH wn rfl (rLt (n := 2) (l := [1, 3]) hst SL_22 [.int .i64 1, .int .i64 3] (bp2 rfl rfl) rfl rfl (mks1 (cs := [.int .i64 1]) rfl mkI (mks1 (cs := [.int .i64 3]) rfl mkI mks0))) ?_
  clear hst
  intro h3 w hst
  refine YH wn rfl (rLt (n := 1) (l := [2]) hst SL_22 [.int .i64 2] (bp1 rfl) rfl rfl (mks1 (cs := [.int .i64 2]) rfl mkI mks0)) ?_
  clear hst
  intro h4 w hst
  replace hst := hst.pk 4 [3, 0, 0, 0] rfl
  replace hst := hst.fz
  replace hst := hst.pk 3 [2, 0, 0] rfl
  replace hst := hst.fz
  replace hst := hst.pk 2 [1, 0] rfl
  replace hst := hst.fz
  replace hst := hst.fz
  refine YH wn rfl (rLt (n := 4) (l := [[1], [0, 2], [1, 3], [2]]) hst SL_29 [h1.v, h2.v, h3.v, h4.v] (bp4 (et rfl rfl) (et rfl rfl) (et rfl rfl) (et rfl rfl)) rfl rfl (mks1 (cs := [h1.v]) rfl (mkS (mtF (mtF (mtF mhF)))) (mks1 (cs := [h2.v]) rfl (mkS (mtF (mtF mhF))) (mks1 (cs := [h3.v]) rfl (mkS (mtF mhF)) (mks1 (cs := [h4.v]) rfl (mkS mhF) mks0))))) ?_
  clear hst
  intro h5 w hst
  refine Y wn rfl (ybuild (us := [h5.v]) [(0, h5.v)] SO_31 (bp1 (et rfl rfl)) rfl) ?_
  refine YB wn rfl (rAl hst ZT_31) ?_
  clear hst
  intro b6 w hst
  refine YT wn rfl (r_stbn (vals' := [h5.v]) (us := [h5.v]) hst ST_31 (et rfl rfl) (et rfl rfl) rfl rfl (one_of rfl) rfl) ?_
  clear hst
  intro w hst
  refine wpList_nil ?_
  refine k2 _ _ ?_
  refine seqQ fun Q3 k3 z3 => ?_
  refine wp_region_lit ?_
  refine Y wn rfl (yLbs (us := [h5.v]) ST_31 (et rfl rfl) hst mhR rfl rfl) ?_
  obtain ⟨r7, gr7, hM⟩ := bs hM
  replace hst := hst.pk 2 [1, 0] rfl
  replace hst := hst.fz
  refine Yc wn rfl (yCall FN_18 (a1 (et rfl rfl))) (graph_Check_ok (hM := gr7) (hst := hst) (q1 := mhF)) ?_
  clear hst
  rintro _ w ⟨rfl, hst⟩
  refine ⟨_, rfl, ?_⟩
  refine Y wn rfl (yeql (et rfl rfl) rfl) ?_
  refine Y wn rfl (ym (v := .bool (decide (r7 = 0))) (et rfl rfl)) ?_
  obtain ⟨r9, gr9, hM⟩ := bs hM
  refine joinW 4 (fun f w => f 1 = .pointer (some ⟨b6, 0, none⟩) ∧ f 15 = .bool r9 ∧ St w0 (imm (rS (rI .i64)) h5.v [[1], [0, 2], [1, 3], [2]] :: ros) (box b6 31 [h5.v] :: rs) w) (fun j1 => ?_) ?_
  · rcases iteS gr9 with ⟨c11, gr9⟩ | ⟨c11, gr9⟩
    · refine Y (wg rfl rfl rfl (decide_eq_true c11)) rfl (yLbs (us := [h5.v]) ST_31 (et rfl rfl) hst mhR rfl rfl) ?_
      obtain ⟨r12, gr12, gr9⟩ := bs gr9
      refine Yc (wg rfl rfl rfl (decide_eq_true c11)) rfl (yCall FN_19 (a2 (et rfl rfl) rfl)) (graph_Peripheral_ok (hM := gr12) (hst := hst) (q1 := mhF)) ?_
      clear hst
      rintro _ w ⟨rfl, hst⟩
      refine ⟨_, rfl, ?_⟩
      refine Y (wg rfl rfl rfl (decide_eq_true c11)) rfl (yeql (et rfl rfl) rfl) ?_
      refine Y wn rfl (ypt (v := .bool (decide (r12 = 3))) (et rfl rfl) (decide_eq_true c11) (et rfl rfl)) ?_
      obtain rfl := someI gr9
      exact j1 _ _ ⟨rfl, rfl, (hst.facts (allC mhF (allT (allT (allT (allT (allT allI)))))))⟩
    · refine Gn (wx rfl rfl rfl (decide_eq_false c11)) rfl ?_
      refine Gn (wx rfl rfl rfl (decide_eq_false c11)) rfl ?_
      refine Gn (wx rfl rfl rfl (decide_eq_false c11)) rfl ?_
      refine Y wn rfl (ypf (v := .bool false) (et rfl rfl) (decide_eq_false c11) rfl) ?_
      obtain rfl := someI gr9
      exact j1 _ _ ⟨rfl, rfl, (hst.facts (allC mhF (allT (allT (allT (allT (allT allI)))))))⟩
  clear hst
  rintro f w ⟨e10_1, e10_15, hst⟩
  refine Y wn rfl (ym (v := .bool r9) (et rfl e10_15)) ?_
  obtain ⟨r20, gr20, hM⟩ := bs hM
  refine joinW 8 (fun f w => f 1 = .pointer (some ⟨b6, 0, none⟩) ∧ f 24 = .bool r20 ∧ St w0 (imm (rS (rI .i64)) h5.v [[1], [0, 2], [1, 3], [2]] :: ros) (box b6 31 [h5.v] :: rs) w) (fun j2 => ?_) ?_
  · rcases iteS gr20 with ⟨c22, gr20⟩ | ⟨c22, gr20⟩
    · refine Y (wg rfl rfl rfl c22) rfl (yLbs (us := [h5.v]) ST_31 (et rfl e10_1) hst mhR rfl rfl) ?_
      obtain ⟨r23, gr23, gr20⟩ := bs gr20
      refine Yc (wg rfl rfl rfl c22) rfl (yCall FN_21 (a2 (et rfl rfl) rfl)) (graph_Levels_ok (hM := gr23) (hst := hst) (q1 := mhF)) ?_
      clear hst
      rintro _ w ⟨h24, rfl, hst⟩
      refine ⟨_, rfl, ?_⟩
      refine YH (wg rfl rfl rfl c22) rfl (rLt (n := 1) (l := [1]) hst SL_22 [.int .i64 1] (bp1 rfl) rfl rfl (mks1 (cs := [.int .i64 1]) rfl mkI mks0)) ?_
      clear hst
      intro h25 w hst
      refine YH (wg rfl rfl rfl c22) rfl (rLt (n := 2) (l := [0, 2]) hst SL_22 [.int .i64 0, .int .i64 2] (bp2 rfl rfl) rfl rfl (mks1 (cs := [.int .i64 0]) rfl mkI (mks1 (cs := [.int .i64 2]) rfl mkI mks0))) ?_
      clear hst
      intro h26 w hst
      refine YH (wg rfl rfl rfl c22) rfl (rLt (n := 1) (l := [3]) hst SL_22 [.int .i64 3] (bp1 rfl) rfl rfl (mks1 (cs := [.int .i64 3]) rfl mkI mks0)) ?_
      clear hst
      intro h27 w hst
      replace hst := hst.pk 3 [2, 0, 0] rfl
      replace hst := hst.fz
      replace hst := hst.pk 2 [1, 0] rfl
      replace hst := hst.fz
      replace hst := hst.fz
      refine YH (wg rfl rfl rfl c22) rfl (rLt (n := 3) (l := [[1], [0, 2], [3]]) hst SL_29 [h25.v, h26.v, h27.v] (bp3 (et rfl rfl) (et rfl rfl) (et rfl rfl)) rfl rfl (mks1 (cs := [h25.v]) rfl (mkS (mtF (mtF mhF))) (mks1 (cs := [h26.v]) rfl (mkS (mtF mhF)) (mks1 (cs := [h27.v]) rfl (mkS mhF) mks0)))) ?_
      clear hst
      intro h28 w hst
      obtain ⟨r29, gr29, gr20⟩ := bs gr20
      replace hst := hst.pk 2 [1, 0] rfl
      replace hst := hst.fz
      replace hst := hst.fz
      refine Yc (wg rfl rfl rfl c22) rfl (yCall FN_20 (a2 (et rfl rfl) (et rfl rfl))) (sparsekit_Lists_ok (hM := gr29) (hst := hst) (q1 := (mtF mhF)) (q2 := mhF)) ?_
      clear hst
      rintro _ w ⟨rfl, hst⟩
      refine ⟨_, rfl, ?_⟩
      refine Y wn rfl (ypt (v := .bool r29) (et rfl rfl) c22 (et rfl rfl)) ?_
      obtain rfl := someI gr20
      exact j2 _ _ ⟨e10_1, rfl, (hst.facts (allC (mtF (mtF (mtF (mtF (mtF mhF))))) (allT (allT (allT (allT (allT (allT allI))))))))⟩
    · refine Gn (wx rfl rfl rfl (bfalse c22)) rfl ?_
      refine Gn (wx rfl rfl rfl (bfalse c22)) rfl ?_
      refine Gn (wx rfl rfl rfl (bfalse c22)) rfl ?_
      refine Gn (wx rfl rfl rfl (bfalse c22)) rfl ?_
      refine Gn (wx rfl rfl rfl (bfalse c22)) rfl ?_
      refine Gn (wx rfl rfl rfl (bfalse c22)) rfl ?_
      refine Gn (wx rfl rfl rfl (bfalse c22)) rfl ?_
      refine Y wn rfl (ypf (v := .bool false) (et rfl rfl) (bfalse c22) rfl) ?_
      obtain rfl := someI gr20
      exact j2 _ _ ⟨e10_1, rfl, hst⟩
  clear hst
  rintro f w ⟨e21_1, e21_24, hst⟩
  refine Y wn rfl (ym (v := .bool r20) (et rfl e21_24)) ?_
  obtain ⟨r32, gr32, hM⟩ := bs hM
  refine joinW 5 (fun f w => f 30 = .bool r32 ∧ St w0 (ros) (rs) w) (fun j3 => ?_) ?_
  · rcases iteS gr32 with ⟨c34, gr32⟩ | ⟨c34, gr32⟩
    · refine Y (wg rfl rfl rfl c34) rfl (yLbs (us := [h5.v]) ST_31 (et rfl e21_1) hst mhR rfl rfl) ?_
      obtain ⟨r35, gr35, gr32⟩ := bs gr32
      refine Yc (wg rfl rfl rfl c34) rfl (yCall FN_22 (a1 (et rfl rfl))) (graph_Components_ok (hM := gr35) (hst := hst) (q1 := mhF)) ?_
      clear hst
      rintro _ w ⟨h36, rfl, hst⟩
      refine ⟨_, rfl, ?_⟩
      refine Y (wg rfl rfl rfl c34) rfl (yLen SL_29 (et rfl rfl) hst (rdO mhR)) ?_
      refine Y (wg rfl rfl rfl c34) rfl (yeql (et rfl rfl) rfl) ?_
      refine Y wn rfl (ypt (v := .bool (decide ((r35.length : Int) = 1))) (et rfl rfl) c34 (et rfl rfl)) ?_
      obtain rfl := someI gr32
      exact j3 _ _ ⟨rfl, ((hst.pk 2 [] rfl).facts (allT allI))⟩
    · refine Gn (wx rfl rfl rfl (bfalse c34)) rfl ?_
      refine Gn (wx rfl rfl rfl (bfalse c34)) rfl ?_
      refine Gn (wx rfl rfl rfl (bfalse c34)) rfl ?_
      refine Gn (wx rfl rfl rfl (bfalse c34)) rfl ?_
      refine Y wn rfl (ypf (v := .bool false) (et rfl rfl) (bfalse c34) rfl) ?_
      obtain rfl := someI gr32
      exact j3 _ _ ⟨rfl, ((hst.pk 1 [] rfl).facts (allT allI))⟩
  clear hst
  rintro f w ⟨e33_30, hst⟩
  refine Y wn rfl (ya (v := .bool r32) (et rfl e33_30)) ?_
  refine wpList_nil ?_
  refine k3 _ _ ?_
  refine wp_ret ?_
  obtain rfl := someI hM
  exact hQ _ _ _ (fin1r Tryz.results5 ⟨rfl, rfl⟩ ⟨rfl, hst⟩)

theorem sparsekit_Place_ok {w0 : World} {ros : List Fact} {rs : List Res} {w : World} {x1 : Int} {x2 : Int} {out : Int} (hM : sparsekit_Place x1 x2 = some out) (hst : St w0 ros (rs) w) :
    Calls Tryz.prog 6 #[.int .i64 x1, .int .i64 x2] w (fun e w => e = .returned (.int .i64 out) ∧ St w0 (ros) (rs) w) := by
  refine enterQ Tryz.func6 rfl Tryz.ntmps6 rfl fun Q hQ => ?_
  refine seqQ fun Q1 k1 z1 => ?_
  refine wp_region_lit ?_
  refine Y wn rfl (ya (v := .int .i64 0) rfl) ?_
  refine wpList_nil ?_
  refine k1 _ _ ?_
  refine seqQ fun Q2 k2 z2 => ?_
  refine wp_region_lit ?_
  refine Y wn rfl (ym (v := .int .i64 x1) (et rfl rfl)) ?_
  refine Y wn rfl (ycv (k' := .u64) (by kernel_rfl) (by kernel_rfl) (et rfl rfl)) ?_
  refine Y wn rfl (ym (v := .int .i64 x2) (et rfl rfl)) ?_
  refine Y wn rfl (ycv (k' := .u64) (by kernel_rfl) (by kernel_rfl) (et rfl rfl)) ?_
  obtain ⟨x3, gx3, hM⟩ := bs hM
  refine Y wn rfl (yrem (et rfl rfl) (et rfl rfl) gx3) ?_
  refine Y wn rfl (ycv (k' := .i64) (by kernel_rfl) (by kernel_rfl) (et rfl rfl)) ?_
  refine Y wn rfl (ya (v := .int .i64 (wc .i64 x3)) (et rfl rfl)) ?_
  refine wpList_nil ?_
  refine k2 _ _ ?_
  refine wp_ret ?_
  obtain rfl := someI hM
  exact hQ _ _ _ (fin1r Tryz.results6 ⟨rfl, rfl⟩ ⟨rfl, hst⟩)

theorem sparseref01_trim_ok {w0 : World} {ros : List Fact} {rs : List Res} {w : World} {x1 : List Int} {h2 : Hdr} {out : (List Int)} (hM : sparseref01_trim x1 = some out) (q1 : imm (rI .u32) h2.v x1 ∈ ros) (hst : St w0 ros (rs) w) :
    Calls Tryz.prog 112 #[h2.v] w (fun e w => ∃ (h100001 : Hdr), e = .returned (h100001.v) ∧ St w0 (ros) (row 127 (rI .u32) h100001.v out :: rs) w) := by
  refine enterQ Tryz.func112 rfl Tryz.ntmps112 rfl fun Q hQ => ?_
  refine seqQ fun Q1 k1 z1 => ?_
  refine wp_region_lit ?_
  refine Y wn rfl (ya (v := hnil.v) rfl) ?_
  refine wpList_nil ?_
  refine k1 _ _ ?_
  refine seqQ fun Q2 k2 z2 => ?_
  refine wp_region_lit ?_
  refine Y wn rfl (ym (v := h2.v) (et rfl rfl)) ?_
  refine Y wn rfl (yLen SL_80 (et rfl rfl) hst (rdI q1)) ?_
  refine Y wn rfl (ya (v := .int .i64 (x1.length : Int)) (et rfl rfl)) ?_
  refine wpList_nil ?_
  refine k2 _ _ ?_
  refine seqQ fun Q3 k3 z3 => ?_
  refine blockQ fun Q4 qb4 => ?_
  obtain ⟨o3, go3, hM⟩ := bs hM
  have je3_0 : ∀ (x17 : Int) (f : Nat → Value) (w : World), f 0 = h2.v → f 3 = .int .i64 x17 → St w0 (ros) (rs) w → x17 = o3 → Q4 (.exit 0) (fr 33 f) w := by
    intro x17 f w eje3_0_0 eje3_0_3 hst ho
    subst ho
    refine qb4 _ _ _ ?_
    refine k3 _ _ ?_
    refine seqQ fun Q11 k11 z11 => ?_
    refine wp_region_lit ?_
    refine Y wn rfl (ya (v := hnil.v) rfl) ?_
    refine wpList_nil ?_
    refine k11 _ _ ?_
    refine seqQ fun Q12 k12 z12 => ?_
    refine seqQ fun Q13 k13 z13 => ?_
    refine wp_region_lit ?_
    refine Y wn rfl (ya (v := .int .i64 0) rfl) ?_
    refine wpList_nil ?_
    refine k13 _ _ ?_
    refine blockQ fun Q14 qb14 => ?_
    obtain ⟨o4, go4, hM⟩ := bs hM
    have je4_0 : ∀ (x35 : List Int) (h34 : Hdr) (f : Nat → Value) (w : World), f 4 = h34.v → St w0 (ros) (row 127 (rI .u32) h34.v x35 :: rs) w → x35 = o4 → Q14 (.exit 2) (fr 33 f) w := by
      intro x35 h34 f w eje4_0_4 hst ho
      subst ho
      refine qb14 _ _ _ ?_
      refine k12 _ _ ?_
      refine seqQ fun Q23 k23 z23 => ?_
      refine wp_region_lit ?_
      refine Y wn rfl (ym (v := h34.v) (et rfl eje4_0_4)) ?_
      refine Y wn rfl (ya (v := h34.v) (et rfl rfl)) ?_
      refine wpList_nil ?_
      refine k23 _ _ ?_
      refine wp_ret ?_
      obtain rfl := someI hM
      exact hQ _ _ _ (fin1r Tryz.results112 ⟨rfl, rfl⟩ ⟨_, rfl, hst⟩)
    replace hst := hst.rowNh 127 (rI .u32)
    refine loopQ (fun s a w => ∃ (x24 : List Int) (x25 : Int) (f : Nat → Value) (h23 : Hdr), (x24, x25) = s ∧ a = fr 33 f ∧ f 0 = h2.v ∧ f 3 = .int .i64 x17 ∧ f 4 = h23.v ∧ f 5 = .int .i64 x25 ∧ St w0 (ros) (row 127 (rI .u32) h23.v x24 :: rs) w) go4 ⟨_, _, _, _, rfl, rfl, eje3_0_0, eje3_0_3, rfl, rfl, hst⟩ ?_
    clear hst
    rintro _ _ w r4_ ⟨x24, x25, f, h23, rfl, rfl, e4_0, e4_3, e4_4, e4_5, hst⟩ hM4 ho4 Q100004 n4 zz4
    refine seqQ fun Q24 k24 z24 => ?_
    refine seqQ fun Q25 k25 z25 => ?_
    refine wp_region_lit ?_
    refine Y wn rfl (ym (v := .int .i64 x25) (et rfl e4_5)) ?_
    refine Y wn rfl (ym (v := .int .i64 x17) (et rfl e4_3)) ?_
    refine Y wn rfl (ylss (et rfl rfl) (et rfl rfl)) ?_
    refine wpList_nil ?_
    refine k25 _ _ ?_
    rcases iteS hM4 with ⟨c36, hM4⟩ | ⟨c36, hM4⟩
    · refine condT (et rfl rfl) (decide_eq_true c36) ?_
      refine wp_skip ?_
      refine k24 _ _ ?_
      refine seqQ fun Q26 k26 z26 => ?_
      refine blockQ fun Q27 qb27 => ?_
      refine wp_region_lit ?_
      refine Y wn rfl (ym (v := h23.v) (et rfl e4_4)) ?_
      refine Y wn rfl (ym (v := h2.v) (et rfl e4_0)) ?_
      refine Y wn rfl (ym (v := .int .i64 x25) (et rfl e4_5)) ?_
      obtain ⟨x37, gx37, hM4⟩ := bs hM4
      refine Y wn rfl (yIa SL_80 (et rfl rfl) (et rfl rfl) hst (rdI q1) gx37) ?_
      refine Y wn rfl (yI O_127 (et rfl rfl) hst (rdI q1) gx37) ?_
      refine YH wn rfl (rLt (n := 1) (l := [x37]) hst SL_80 [.int .u32 x37] (bp1 (et rfl rfl)) rfl rfl (mks1 (cs := [.int .u32 x37]) rfl mkI mks0)) ?_
      clear hst
      intro h38 w hst
      obtain ⟨x40, gx40, hM4⟩ := bs hM4
      replace hst := hst.pk 2 [1, 0] rfl
      refine YH wn rfl (rAp hst SL_80 (et rfl rfl) (et rfl rfl) (rdO (mtR mhR)) gx40) ?_
      clear hst
      intro h39 w hst
      refine Y wn rfl (ya (v := h39.v) (et rfl rfl)) ?_
      refine wpList_nil ?_
      refine qb27 _ _ _ ?_
      refine k26 _ _ ?_
      refine wp_region_lit ?_
      refine Y wn rfl (ym (v := .int .i64 x25) (et rfl e4_5)) ?_
      refine Y wn rfl (yadd (et rfl rfl) rfl) ?_
      refine Y wn rfl (ya (v := .int .i64 (wa .i64 x25 1)) (et rfl rfl)) ?_
      refine wpList_nil ?_
      obtain rfl := someI hM4
      exact n4 _ _ _ rfl ⟨_, _, _, _, rfl, rfl, e4_0, e4_3, rfl, rfl, (hst.pk 2 [0] rfl)⟩
    · refine condF (et rfl rfl) (decide_eq_false c36) ?_
      refine wp_exit ?_
      refine z24 _ _ _ rfl ?_
      obtain rfl := someI hM4
      refine zz4 _ _ _ _ rfl rfl ?_
      exact je4_0 _ _ _ _ e4_4 hst (ho4 _ rfl)
  refine loopQ (fun s a w => ∃ (x9 : Int) (f : Nat → Value), x9 = s ∧ a = fr 33 f ∧ f 0 = h2.v ∧ f 3 = .int .i64 x9 ∧ St w0 (ros) (rs) w) go3 ⟨_, _, rfl, rfl, rfl, rfl, hst⟩ ?_
  clear hst
  rintro _ _ w r3_ ⟨x9, f, rfl, rfl, e3_0, e3_3, hst⟩ hM3 ho3 Q100003 n3 zz3
  refine seqQ fun Q28 k28 z28 => ?_
  refine seqQ fun Q29 k29 z29 => ?_
  refine wp_region_lit ?_
  refine Y wn rfl (ym (v := .int .i64 x9) (et rfl e3_3)) ?_
  refine Y wn rfl (ygtr (et rfl rfl) rfl) ?_
  refine Y wn rfl (ym (v := .bool (decide ((0 : Int) < x9))) (et rfl rfl)) ?_
  obtain ⟨r42, gr42, hM3⟩ := bs hM3
  refine joinW 7 (fun f w => f 0 = h2.v ∧ f 3 = .int .i64 x9 ∧ f 17 = .bool r42 ∧ St w0 (ros) (rs) w) (fun j5 => ?_) ?_
  · rcases iteS gr42 with ⟨c44, gr42⟩ | ⟨c44, gr42⟩
    · refine Y (wg rfl rfl rfl (decide_eq_true c44)) rfl (ym (v := h2.v) (et rfl e3_0)) ?_
      refine Y (wg rfl rfl rfl (decide_eq_true c44)) rfl (ym (v := .int .i64 x9) (et rfl e3_3)) ?_
      refine Y (wg rfl rfl rfl (decide_eq_true c44)) rfl (ysub (et rfl rfl) rfl) ?_
      obtain ⟨x45, gx45, gr42⟩ := bs gr42
      refine Y (wg rfl rfl rfl (decide_eq_true c44)) rfl (yIa SL_80 (et rfl rfl) (et rfl rfl) hst (rdI q1) gx45) ?_
      refine Y (wg rfl rfl rfl (decide_eq_true c44)) rfl (yI O_127 (et rfl rfl) hst (rdI q1) gx45) ?_
      refine Y (wg rfl rfl rfl (decide_eq_true c44)) rfl (yeql (et rfl rfl) rfl) ?_
      refine Y wn rfl (ypt (v := .bool (decide (x45 = 0))) (et rfl rfl) (decide_eq_true c44) (et rfl rfl)) ?_
      obtain rfl := someI gr42
      exact j5 _ _ ⟨e3_0, e3_3, rfl, hst⟩
    · refine Gn (wx rfl rfl rfl (decide_eq_false c44)) rfl ?_
      refine Gn (wx rfl rfl rfl (decide_eq_false c44)) rfl ?_
      refine Gn (wx rfl rfl rfl (decide_eq_false c44)) rfl ?_
      refine Gn (wx rfl rfl rfl (decide_eq_false c44)) rfl ?_
      refine Gn (wx rfl rfl rfl (decide_eq_false c44)) rfl ?_
      refine Gn (wx rfl rfl rfl (decide_eq_false c44)) rfl ?_
      refine Y wn rfl (ypf (v := .bool false) (et rfl rfl) (decide_eq_false c44) rfl) ?_
      obtain rfl := someI gr42
      exact j5 _ _ ⟨e3_0, e3_3, rfl, hst⟩
  clear hst
  rintro f w ⟨e43_0, e43_3, e43_17, hst⟩
  refine wpList_nil ?_
  refine k29 _ _ ?_
  rcases iteS hM3 with ⟨c46, hM3⟩ | ⟨c46, hM3⟩
  · refine condT (et rfl e43_17) c46 ?_
    refine wp_skip ?_
    refine k28 _ _ ?_
    refine blockQ fun Q30 qb30 => ?_
    refine wp_region_lit ?_
    refine Y wn rfl (ym (v := .int .i64 x9) (et rfl e43_3)) ?_
    refine Y wn rfl (ysub (et rfl rfl) rfl) ?_
    refine Y wn rfl (ya (v := .int .i64 (ws .i64 x9 1)) (et rfl rfl)) ?_
    refine wpList_nil ?_
    refine qb30 _ _ _ ?_
    obtain rfl := someI hM3
    exact n3 _ _ _ rfl ⟨_, _, rfl, rfl, e43_0, rfl, hst⟩
  · refine condF (et rfl e43_17) (bfalse c46) ?_
    refine wp_exit ?_
    refine z28 _ _ _ rfl ?_
    obtain rfl := someI hM3
    refine zz3 _ _ _ _ rfl rfl ?_
    exact je3_0 _ _ _ e43_0 e43_3 hst (ho3 _ rfl)

theorem sparseref01_make1_ok {w0 : World} {ros : List Fact} {rs : List Res} {w : World} {x1 : Bool} {x2 : List Int} {h3 : Hdr} {out : Bool × (List Int)} (hM : sparseref01_make1 x1 x2 = some out) (q1 : imm (rI .u32) h3.v x2 ∈ ros) (hst : St w0 ros (rs) w) :
    Calls Tryz.prog 100 #[.bool x1, h3.v] w (fun e w => ∃ (h100002 : Hdr), e = .returned (.agg #[.bool out.1, h100002.v]) ∧ St w0 (ros) (row 127 (rI .u32) h100002.v out.2 :: rs) w) := by
  refine enterQ Tryz.func100 rfl Tryz.ntmps100 rfl fun Q hQ => ?_
  refine seqQ fun Q1 k1 z1 => ?_
  refine wp_region_lit ?_
  refine YB wn rfl (rAl hst ZT_82) ?_
  clear hst
  intro b4 w hst
  refine wpList_nil ?_
  refine k1 _ _ ?_
  refine seqQ fun Q2 k2 z2 => ?_
  refine wp_region_lit ?_
  refine Y wn rfl (ym (v := h3.v) (et rfl rfl)) ?_
  obtain ⟨r5, gr5, hM⟩ := bs hM
  refine Yc wn rfl (yCall FN_112 (a1 (et rfl rfl))) (sparseref01_trim_ok (hM := gr5) (hst := hst) (q1 := q1)) ?_
  clear hst
  rintro _ w ⟨h6, rfl, hst⟩
  refine ⟨_, rfl, ?_⟩
  refine Y wn rfl (ya (v := h6.v) (et rfl rfl)) ?_
  refine wpList_nil ?_
  refine k2 _ _ ?_
  refine seqQ fun Q3 k3 z3 => ?_
  refine wp_region_lit ?_
  refine Y wn rfl (ym (v := .bool x1) (et rfl rfl)) ?_
  refine Y wn rfl (ym (v := .bool x1) (et rfl rfl)) ?_
  refine joinW 4 (fun f w => f 1 = h6.v ∧ f 4 = .pointer (some ⟨b4, 0, none⟩) ∧ f 12 = .bool (x1 && (decide ((0 : Int) < (r5.length : Int)))) ∧ St w0 (ros) (row 127 (rI .u32) h6.v r5 :: box b4 82 [.bool false, hnil.v] :: rs) w) (fun j1 => ?_) ?_
  · rcases Bool.eq_false_or_eq_true (x1) with c8 | c8
    · refine Y (wg rfl rfl rfl c8) rfl (ym (v := h6.v) (et rfl rfl)) ?_
      refine Y (wg rfl rfl rfl c8) rfl (yLen SL_80 (et rfl rfl) hst (rdO mhR)) ?_
      refine Y (wg rfl rfl rfl c8) rfl (ygtr (et rfl rfl) rfl) ?_
      refine Y wn rfl (ypt (v := .bool (decide ((0 : Int) < (r5.length : Int)))) (et rfl rfl) c8 (et rfl rfl)) ?_
      exact j1 _ _ ⟨rfl, rfl, (congrArg Value.bool (andT c8)), hst⟩
    · refine Gn (wx rfl rfl rfl c8) rfl ?_
      refine Gn (wx rfl rfl rfl c8) rfl ?_
      refine Gn (wx rfl rfl rfl c8) rfl ?_
      refine Y wn rfl (ypf (v := .bool false) (et rfl rfl) c8 rfl) ?_
      exact j1 _ _ ⟨rfl, rfl, (congrArg Value.bool (andF c8)), hst⟩
  clear hst
  rintro f w ⟨e7_1, e7_4, e7_12, hst⟩
  refine Y wn rfl (ym (v := h6.v) (et rfl e7_1)) ?_
  refine Y wn rfl (ybuild (us := [.bool (x1 && (decide ((0 : Int) < (r5.length : Int)))), h6.v]) [(0, .bool (x1 && (decide ((0 : Int) < (r5.length : Int))))), (1, h6.v)] SO_82 (bp2 (et rfl e7_12) (et rfl rfl)) rfl) ?_
  replace hst := hst.pk 2 [1, 0] rfl
  refine YT wn rfl (r_stbn (vals' := [.bool (x1 && (decide ((0 : Int) < (r5.length : Int)))), h6.v]) (us := [.bool (x1 && (decide ((0 : Int) < (r5.length : Int)))), h6.v]) hst ST_82 (et rfl e7_4) (et rfl rfl) rfl rfl (one_of rfl) rfl) ?_
  clear hst
  intro w hst
  refine wpList_nil ?_
  refine k3 _ _ ?_
  refine wp_ret ?_
  obtain rfl := someI hM
  exact hQ _ _ _ (fin1r Tryz.results100 (rcs2 rfl e7_4 hst mhR ST_82 rfl) ⟨_, rfl, (hst.pk 2 [1] rfl)⟩)

theorem sparseref01_FromInt_ok {w0 : World} {ros : List Fact} {rs : List Res} {w : World} {x1 : Int} {out : Bool × (List Int)} (hM : sparseref01_FromInt x1 = some out) (hst : St w0 ros (rs) w) :
    Calls Tryz.prog 68 #[.int .i64 x1] w (fun e w => ∃ (h100002 : Hdr), e = .returned (.agg #[.bool out.1, h100002.v]) ∧ St w0 (ros) (row 127 (rI .u32) h100002.v out.2 :: rs) w) := by
  refine enterQ Tryz.func68 rfl Tryz.ntmps68 rfl fun Q hQ => ?_
  refine seqQ fun Q1 k1 z1 => ?_
  refine wp_region_lit ?_
  refine YB wn rfl (rAl hst ZT_82) ?_
  clear hst
  intro b2 w hst
  refine wpList_nil ?_
  refine k1 _ _ ?_
  refine seqQ fun Q2 k2 z2 => ?_
  refine wp_region_lit ?_
  refine Y wn rfl (ym (v := .int .i64 x1) (et rfl rfl)) ?_
  refine Y wn rfl (ycv (k' := .u64) (by kernel_rfl) (by kernel_rfl) (et rfl rfl)) ?_
  refine Y wn rfl (ya (v := .int .u64 (wc .u64 x1)) (et rfl rfl)) ?_
  refine wpList_nil ?_
  refine k2 _ _ ?_
  refine seqQ fun Q3 k3 z3 => ?_
  refine seqQ fun Q4 k4 z4 => ?_
  refine wp_region_lit ?_
  refine Y wn rfl (ym (v := .int .i64 x1) (et rfl rfl)) ?_
  refine Y wn rfl (ylss (et rfl rfl) rfl) ?_
  refine wpList_nil ?_
  refine k4 _ _ ?_
  have j1 : ∀ (x3 : Int) (f : Nat → Value) (w : World), f 0 = .int .i64 x1 → f 2 = .pointer (some ⟨b2, 0, none⟩) → f 3 = .int .u64 x3 → St w0 (ros) (box b2 82 [.bool false, hnil.v] :: rs) w → sparseref01_FromInt_j1 x1 x3 = some out → Q3 .normal (fr 22 f) w := by
    intro x3 f w ej1_0 ej1_2 ej1_3 hst hM
    refine k3 _ _ ?_
    refine seqQ fun Q5 k5 z5 => ?_
    refine wp_region_lit ?_
    refine Y wn rfl (ym (v := .int .i64 x1) (et rfl ej1_0)) ?_
    refine Y wn rfl (ylss (et rfl rfl) rfl) ?_
    refine Y wn rfl (ym (v := .int .u64 x3) (et rfl ej1_3)) ?_
    refine Y wn rfl (ycv (k' := .u32) (by kernel_rfl) (by kernel_rfl) (et rfl rfl)) ?_
    refine Y wn rfl (ym (v := .int .u64 x3) (et rfl ej1_3)) ?_
    refine Y wn rfl (yshrc (et rfl rfl) rfl) ?_
    refine Y wn rfl (ycv (k' := .u32) (by kernel_rfl) (by kernel_rfl) (et rfl rfl)) ?_
    refine YH wn rfl (rLt (n := 2) (l := [wc .u32 x3, wc .u32 (wsrc .u64 x3 32)]) hst SL_80 [.int .u32 (wc .u32 x3), .int .u32 (wc .u32 (wsrc .u64 x3 32))] (bp2 (et rfl rfl) (et rfl rfl)) rfl rfl (mks1 (cs := [.int .u32 (wc .u32 x3)]) rfl mkI (mks1 (cs := [.int .u32 (wc .u32 (wsrc .u64 x3 32))]) rfl mkI mks0))) ?_
    clear hst
    intro h4 w hst
    obtain ⟨r5, gr5, hM⟩ := bs hM
    replace hst := hst.fz
    refine Yc wn rfl (yCall FN_100 (a2 (et rfl rfl) (et rfl rfl))) (sparseref01_make1_ok (hM := gr5) (hst := hst) (q1 := mhF)) ?_
    clear hst
    rintro _ w ⟨h6, rfl, hst⟩
    refine ⟨_, rfl, ?_⟩
    replace hst := hst.pk 2 [1, 0] rfl
    refine YT wn rfl (r_stbn (vals' := [.bool r5.1, h6.v]) (us := [.bool r5.1, h6.v]) hst ST_82 (et rfl ej1_2) (et rfl rfl) rfl rfl (one_of rfl) rfl) ?_
    clear hst
    intro w hst
    refine wpList_nil ?_
    refine k5 _ _ ?_
    refine wp_ret ?_
    obtain rfl := someI hM
    exact hQ _ _ _ (fin1r Tryz.results68 (rcs2 rfl ej1_2 hst mhR ST_82 rfl) ⟨_, rfl, ((hst.pk 2 [1] rfl).facts (allT allI))⟩)
  rcases iteS hM with ⟨c7, hM⟩ | ⟨c7, hM⟩
  · refine condT (et rfl rfl) (decide_eq_true c7) ?_
    refine wp_region_lit ?_
    refine Y wn rfl (ym (v := .int .i64 x1) (et rfl rfl)) ?_
    refine Y wn rfl (yadd (et rfl rfl) rfl) ?_
    refine Y wn rfl (yneg (et rfl rfl)) ?_
    refine Y wn rfl (ycv (k' := .u64) (by kernel_rfl) (by kernel_rfl) (et rfl rfl)) ?_
    refine Y wn rfl (yadd (et rfl rfl) rfl) ?_
    refine Y wn rfl (ya (v := .int .u64 (wa .u64 (wc .u64 (wneg .i64 (wa .i64 x1 1))) 1)) (et rfl rfl)) ?_
    refine wpList_nil ?_
    exact j1 _ _ _ rfl rfl rfl hst hM
  · refine condF (et rfl rfl) (decide_eq_false c7) ?_
    refine wp_skip ?_
    exact j1 _ _ _ rfl rfl rfl hst hM

theorem sparseref01_Norm_ok {w0 : World} {ros : List Fact} {rs : List Res} {w : World} {x1 : Bool} {x2 : List Int} {h3 : Hdr} {out : Bool × (List Int)} (hM : sparseref01_Norm x1 x2 = some out) (q1 : imm (rI .u32) h3.v x2 ∈ ros) (hst : St w0 ros (rs) w) :
    Calls Tryz.prog 93 #[.agg #[.bool x1, h3.v]] w (fun e w => ∃ (h100002 : Hdr), e = .returned (.agg #[.bool out.1, h100002.v]) ∧ St w0 (ros) (row 127 (rI .u32) h100002.v out.2 :: rs) w) := by
  refine enterQ Tryz.func93 rfl Tryz.ntmps93 rfl fun Q hQ => ?_
  refine seqQ fun Q1 k1 z1 => ?_
  refine wp_region_lit ?_
  refine YB wn rfl (r_box (vals := [.bool x1, h3.v]) hst (et rfl rfl) rfl) ?_
  clear hst
  intro b4 w hst
  refine YB wn rfl (rAl hst ZT_82) ?_
  clear hst
  intro b5 w hst
  refine wpList_nil ?_
  refine k1 _ _ ?_
  refine seqQ fun Q2 k2 z2 => ?_
  refine wp_region_lit ?_
  refine Y wn rfl (yFb FL_82_0 (et rfl rfl)) ?_
  refine Y wn rfl (yLb (u := .bool x1) O_4 (et rfl rfl) hst (mtR mhR) rfl) ?_
  refine Y wn rfl (yFb FL_82_1 (et rfl rfl)) ?_
  refine Y wn rfl (yLb (u := h3.v) O_80 (et rfl rfl) hst (mtR mhR) rfl) ?_
  obtain ⟨r6, gr6, hM⟩ := bs hM
  refine Yc wn rfl (yCall FN_100 (a2 (et rfl rfl) (et rfl rfl))) (sparseref01_make1_ok (hM := gr6) (hst := hst) (q1 := q1)) ?_
  clear hst
  rintro _ w ⟨h7, rfl, hst⟩
  refine ⟨_, rfl, ?_⟩
  replace hst := hst.pk 2 [1, 0] rfl
  refine YT wn rfl (r_stbn (vals' := [.bool r6.1, h7.v]) (us := [.bool r6.1, h7.v]) hst ST_82 (et rfl rfl) (et rfl rfl) rfl rfl (one_of rfl) rfl) ?_
  clear hst
  intro w hst
  refine wpList_nil ?_
  refine k2 _ _ ?_
  refine wp_ret ?_
  obtain rfl := someI hM
  exact hQ _ _ _ (fin1r Tryz.results93 (rcs2 rfl rfl hst mhR ST_82 rfl) ⟨_, rfl, (hst.pk 3 [1] rfl)⟩)

theorem sparseref02_Bad_ok {w0 : World} {ros : List Fact} {rs : List Res} {w : World} {out : Bool × Bool × Int} (hM : sparseref02_Bad = some out) (hst : St w0 ros (rs) w) :
    Calls Tryz.prog 66 #[] w (fun e w => e = .returned (.agg #[.bool out.1, .bool out.2.1, hnil.v, .int .i64 out.2.2]) ∧ St w0 (ros) (rs) w) := by
  refine enterQ Tryz.func66 rfl Tryz.ntmps66 rfl fun Q hQ => ?_
  refine seqQ fun Q1 k1 z1 => ?_
  refine wp_region_lit ?_
  refine YB wn rfl (rAl hst ZT_84) ?_
  clear hst
  intro b1 w hst
  refine wpList_nil ?_
  refine k1 _ _ ?_
  refine seqQ fun Q2 k2 z2 => ?_
  refine wp_region_lit ?_
  refine Y wn rfl (ybuild (us := [.bool true, .bool false, hnil.v, .int .i64 0]) [(0, .bool true)] SO_84 (bp1 rfl) rfl) ?_
  refine YT wn rfl (r_stbn (vals' := [.bool true, .bool false, hnil.v, .int .i64 0]) (us := [.bool true, .bool false, hnil.v, .int .i64 0]) hst ST_84 (et rfl rfl) (et rfl rfl) rfl rfl (one_of rfl) rfl) ?_
  clear hst
  intro w hst
  refine wpList_nil ?_
  refine k2 _ _ ?_
  refine wp_ret ?_
  obtain rfl := someI hM
  exact hQ _ _ _ (fin1r Tryz.results66 (rcs2 rfl rfl hst mhR ST_84 rfl) ⟨rfl, (hst.pk 1 [] rfl)⟩)

theorem sparseref01_TrailingZeros_ok {w0 : World} {ros : List Fact} {rs : List Res} {w : World} {x1 : Bool} {x2 : List Int} {h3 : Hdr} {out : Int} (hM : sparseref01_TrailingZeros x1 x2 = some out) (q1 : imm (rI .u32) h3.v x2 ∈ ros) (q2 : globF ∈ ros) (hst : St w0 ros (rs) w) :
    Calls Tryz.prog 101 #[.agg #[.bool x1, h3.v]] w (fun e w => e = .returned (.int .i64 out) ∧ St w0 (ros) (rs) w) := by
  refine enterQ Tryz.func101 rfl Tryz.ntmps101 rfl fun Q hQ => ?_
  refine seqQ fun Q1 k1 z1 => ?_
  refine wp_region_lit ?_
  refine YB wn rfl (r_box (vals := [.bool x1, h3.v]) hst (et rfl rfl) rfl) ?_
  clear hst
  intro b4 w hst
  refine Y wn rfl (ya (v := .int .i64 0) rfl) ?_
  refine wpList_nil ?_
  refine k1 _ _ ?_
  refine seqQ fun Q2 k2 z2 => ?_
  refine wp_region_lit ?_
  refine Y wn rfl (yFb FL_82_1 (et rfl rfl)) ?_
  refine Y wn rfl (yLb (u := h3.v) O_80 (et rfl rfl) hst mhR rfl) ?_
  obtain ⟨r5, gr5, hM⟩ := bs hM
  refine Yc wn rfl (yCall FN_112 (a1 (et rfl rfl))) (sparseref01_trim_ok (hM := gr5) (hst := hst) (q1 := q1)) ?_
  clear hst
  rintro _ w ⟨h6, rfl, hst⟩
  refine ⟨_, rfl, ?_⟩
  refine Y wn rfl (ya (v := h6.v) (et rfl rfl)) ?_
  refine wpList_nil ?_
  refine k2 _ _ ?_
  refine seqQ fun Q3 k3 z3 => ?_
  refine seqQ fun Q4 k4 z4 => ?_
  refine wp_region_lit ?_
  refine Y wn rfl (ya (v := .int .i64 0) rfl) ?_
  refine wpList_nil ?_
  refine k4 _ _ ?_
  refine blockQ fun Q5 qb5 => ?_
  obtain ⟨o1, go1, hM⟩ := bs hM
  have je1_0 : ∀ (f : Nat → Value) (w : World), St w0 (ros) (rs) w → .inl () = o1 → Q5 (.exit 0) (fr 27 f) w := by
    intro f w hst ho
    subst ho
    refine qb5 _ _ _ ?_
    refine k3 _ _ ?_
    refine seqQ fun Q18 k18 z18 => ?_
    refine wp_region_lit ?_
    refine Y wn rfl (ya (v := .int .i64 0) rfl) ?_
    refine wpList_nil ?_
    refine k18 _ _ ?_
    refine wp_ret ?_
    obtain rfl := someI hM
    exact hQ _ _ _ (fin1r Tryz.results101 ⟨rfl, rfl⟩ ⟨rfl, hst⟩)
  have je1_1 : ∀ (x19 : Int) (f : Nat → Value) (w : World), f 2 = .int .i64 x19 → St w0 (ros) (rs) w → .inr x19 = o1 → Q5 .ret (fr 27 f) w := by
    intro x19 f w eje1_1_2 hst ho
    subst ho
    refine qb5 _ _ _ ?_
    refine z3 _ _ _ rfl ?_
    obtain rfl := someI hM
    exact hQ _ _ _ (fin1r Tryz.results101 ⟨rfl, eje1_1_2⟩ ⟨rfl, hst⟩)
  refine loopQ (fun s a w => ∃ (x12 : Int) (f : Nat → Value), x12 = s ∧ a = fr 27 f ∧ f 3 = h6.v ∧ f 4 = .int .i64 x12 ∧ St w0 (ros) (row 127 (rI .u32) h6.v r5 :: rs) w) go1 ⟨_, _, rfl, rfl, rfl, rfl, (hst.pk 2 [0] rfl)⟩ ?_
  clear hst
  rintro _ _ w r1_ ⟨x12, f, rfl, rfl, e1_3, e1_4, hst⟩ hM1 ho1 Q100001 n1 zz1
  refine seqQ fun Q19 k19 z19 => ?_
  refine seqQ fun Q20 k20 z20 => ?_
  refine wp_region_lit ?_
  refine Y wn rfl (ym (v := .int .i64 x12) (et rfl e1_4)) ?_
  refine Y wn rfl (ym (v := h6.v) (et rfl e1_3)) ?_
  refine Y wn rfl (yLen SL_80 (et rfl rfl) hst (rdO mhR)) ?_
  refine Y wn rfl (ylss (et rfl rfl) (et rfl rfl)) ?_
  refine wpList_nil ?_
  refine k20 _ _ ?_
  rcases iteS hM1 with ⟨c20, hM1⟩ | ⟨c20, hM1⟩
  · refine condT (et rfl rfl) (decide_eq_true c20) ?_
    refine wp_skip ?_
    refine k19 _ _ ?_
    refine seqQ fun Q21 k21 z21 => ?_
    refine blockQ fun Q22 qb22 => ?_
    refine seqQ fun Q23 k23 z23 => ?_
    refine wp_region_lit ?_
    refine Y wn rfl (ym (v := h6.v) (et rfl e1_3)) ?_
    refine Y wn rfl (ym (v := .int .i64 x12) (et rfl e1_4)) ?_
    obtain ⟨x21, gx21, hM1⟩ := bs hM1
    refine Y wn rfl (yIa SL_80 (et rfl rfl) (et rfl rfl) hst (rdO mhR) gx21) ?_
    refine Y wn rfl (yI O_127 (et rfl rfl) hst (rdO mhR) gx21) ?_
    refine Y wn rfl (yneq (et rfl rfl) rfl) ?_
    refine wpList_nil ?_
    refine k23 _ _ ?_
    rcases iteS hM1 with ⟨c22, hM1⟩ | ⟨c22, hM1⟩
    · refine condF (et rfl rfl) (nF (decide_eq_true c22)) ?_
      refine wp_skip ?_
      refine qb22 _ _ _ ?_
      refine k21 _ _ ?_
      refine wp_region_lit ?_
      refine Y wn rfl (ym (v := .int .i64 x12) (et rfl e1_4)) ?_
      refine Y wn rfl (yadd (et rfl rfl) rfl) ?_
      refine Y wn rfl (ya (v := .int .i64 (wa .i64 x12 1)) (et rfl rfl)) ?_
      refine wpList_nil ?_
      obtain rfl := someI hM1
      exact n1 _ _ _ rfl ⟨_, _, rfl, rfl, e1_3, rfl, hst⟩
    · refine condT (et rfl rfl) (nT (decide_eq_false c22)) ?_
      refine seqQ fun Q24 k24 z24 => ?_
      refine wp_region_lit ?_
      refine Y wn rfl (ym (v := .int .i64 x12) (et rfl e1_4)) ?_
      refine Y wn rfl (ymul rfl (et rfl rfl)) ?_
      refine Y wn rfl (ym (v := h6.v) (et rfl e1_3)) ?_
      refine Y wn rfl (ym (v := .int .i64 x12) (et rfl e1_4)) ?_
      obtain ⟨x23, gx23, hM1⟩ := bs hM1
      refine Y wn rfl (yIa SL_80 (et rfl rfl) (et rfl rfl) hst (rdO mhR) gx23) ?_
      refine Y wn rfl (yI O_127 (et rfl rfl) hst (rdO mhR) gx23) ?_
      obtain ⟨r24, gr24, hM1⟩ := bs hM1
      refine Yc wn rfl (yCall FN_119 (a1 (et rfl rfl))) (tz32_ok (hM := gr24) (hst := hst) (q1 := q2)) ?_
      clear hst
      rintro _ w ⟨rfl, hst⟩
      refine ⟨_, rfl, ?_⟩
      refine Y wn rfl (yadd (et rfl rfl) (et rfl rfl)) ?_
      refine Y wn rfl (ya (v := .int .i64 (wa .i64 (wm .i64 32 x12) r24)) (et rfl rfl)) ?_
      refine wpList_nil ?_
      refine k24 _ _ ?_
      refine wp_ret ?_
      refine qb22 _ _ _ ?_
      refine z21 _ _ _ rfl ?_
      obtain rfl := someI hM1
      refine zz1 _ _ _ _ rfl rfl ?_
      exact je1_1 _ _ _ rfl (hst.pk 1 [] rfl) (ho1 _ rfl)
  · refine condF (et rfl rfl) (decide_eq_false c20) ?_
    refine wp_exit ?_
    refine z19 _ _ _ rfl ?_
    obtain rfl := someI hM1
    refine zz1 _ _ _ _ rfl rfl ?_
    exact je1_0 _ _ (hst.pk 1 [] rfl) (ho1 _ rfl)
end Go.Proofs.YtcknmegldjnjjaaGreatDoor
