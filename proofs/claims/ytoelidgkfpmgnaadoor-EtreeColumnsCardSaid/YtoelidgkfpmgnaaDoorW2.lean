/- Walks: each function computes its model, printed. -/
import Derived.Test.YtoelidgkfpmgnaaDoorW1
namespace Go.Proofs.YtoelidgkfpmgnaaDoor
open Go Sx M
set_option maxRecDepth 100000
set_option maxHeartbeats 400000
set_option linter.unusedVariables false
attribute [local irreducible] wpList Code.wp Calls DR QR QS LA LS St
theorem sparseref01_cmpMag_ok {w0 : World} {ros : List Fact} {rs : List Res} {w : World} {x1 : List Int} {x3 : List Int} {h2 : Hdr} {h4 : Hdr} {out : Int} (hM : sparseref01_cmpMag x1 x3 = some out) (q1 : imm (rI .u32) h2.v x1 ∈ ros) (q2 : imm (rI .u32) h4.v x3 ∈ ros) (hst : St w0 ros (rs) w) :
    Calls Tryd.prog 71 #[h2.v, h4.v] w (fun e w => e = .returned (.int .i64 out) ∧ St w0 (ros) (rs) w) := by
  refine enterQ Tryd.func71 rfl Tryd.ntmps71 rfl fun Q hQ => ?_
  refine seqQ fun Q1 k1 z1 => ?_
  refine wp_region_lit ?_
  refine Y wn rfl (ya (v := .int .i64 0) rfl) ?_
  refine wpList_nil ?_
  refine k1 _ _ ?_
  refine seqQ fun Q2 k2 z2 => ?_
  refine seqQ fun Q3 k3 z3 => ?_
  refine wp_region_lit ?_
  refine Y wn rfl (ym (v := h2.v) (et rfl rfl)) ?_
  refine Y wn rfl (yLen SL_66 (et rfl rfl) hst (rdI q1)) ?_
  refine Y wn rfl (ym (v := h4.v) (et rfl rfl)) ?_
  refine Y wn rfl (yLen SL_66 (et rfl rfl) hst (rdI q2)) ?_
  refine Y wn rfl (yneq (et rfl rfl) (et rfl rfl)) ?_
  refine wpList_nil ?_
  refine k3 _ _ ?_
  rcases iteS hM with ⟨c5, hM⟩ | ⟨c5, hM⟩
  · refine condF (et rfl rfl) (nF (decide_eq_true c5)) ?_
    refine wp_skip ?_
    refine k2 _ _ ?_
    refine seqQ fun Q4 k4 z4 => ?_
    refine seqQ fun Q5 k5 z5 => ?_
    refine wp_region_lit ?_
    refine Y wn rfl (ym (v := h2.v) (et rfl rfl)) ?_
    refine Y wn rfl (yLen SL_66 (et rfl rfl) hst (rdI q1)) ?_
    refine Y wn rfl (ysub (et rfl rfl) rfl) ?_
    refine Y wn rfl (ya (v := .int .i64 (ws .i64 (x1.length : Int) 1)) (et rfl rfl)) ?_
    refine wpList_nil ?_
    refine k5 _ _ ?_
    refine blockQ fun Q6 qb6 => ?_
    obtain ⟨o1, go1, hM⟩ := bs hM
    have je1_0 : ∀ (f : Nat → Value) (w : World), St w0 (ros) (rs) w → .inl () = o1 → Q6 (.exit 0) (fr 41 f) w := by
      intro f w hst ho
      subst ho
      refine qb6 _ _ _ ?_
      refine k4 _ _ ?_
      refine seqQ fun Q25 k25 z25 => ?_
      refine wp_region_lit ?_
      refine Y wn rfl (ya (v := .int .i64 0) rfl) ?_
      refine wpList_nil ?_
      refine k25 _ _ ?_
      refine wp_ret ?_
      obtain rfl := someI hM
      exact hQ _ _ _ (fin1r Tryd.results71 ⟨rfl, rfl⟩ ⟨rfl, hst⟩)
    have je1_1 : ∀ (x22 : Int) (f : Nat → Value) (w : World), f 4 = .int .i64 x22 → St w0 (ros) (rs) w → .inr x22 = o1 → Q6 .ret (fr 41 f) w := by
      intro x22 f w eje1_1_4 hst ho
      subst ho
      refine qb6 _ _ _ ?_
      refine z4 _ _ _ rfl ?_
      obtain rfl := someI hM
      exact hQ _ _ _ (fin1r Tryd.results71 ⟨rfl, eje1_1_4⟩ ⟨rfl, hst⟩)
    refine loopQ (fun s a w => ∃ (x13 : Int) (f : Nat → Value), x13 = s ∧ a = fr 41 f ∧ f 0 = h2.v ∧ f 1 = h4.v ∧ f 5 = .int .i64 x13 ∧ St w0 (ros) (rs) w) go1 ⟨_, _, rfl, rfl, rfl, rfl, rfl, hst⟩ ?_
    clear hst
    rintro _ _ w r1_ ⟨x13, f, rfl, rfl, e1_0, e1_1, e1_5, hst⟩ hM1 ho1 Q100001 n1 zz1
    refine seqQ fun Q26 k26 z26 => ?_
    refine seqQ fun Q27 k27 z27 => ?_
    refine wp_region_lit ?_
    refine Y wn rfl (ym (v := .int .i64 x13) (et rfl e1_5)) ?_
    refine Y wn rfl (ygeq (et rfl rfl) rfl) ?_
    refine wpList_nil ?_
    refine k27 _ _ ?_
    rcases iteS hM1 with ⟨c23, hM1⟩ | ⟨c23, hM1⟩
    · refine condT (et rfl rfl) (decide_eq_true c23) ?_
      refine wp_skip ?_
      refine k26 _ _ ?_
      refine seqQ fun Q28 k28 z28 => ?_
      refine blockQ fun Q29 qb29 => ?_
      refine seqQ fun Q30 k30 z30 => ?_
      obtain ⟨x24, gx24, hM1⟩ := bs hM1
      obtain ⟨x25, gx25, hM1⟩ := bs hM1
      refine wp_drawR [0, 0, 3, 7, 0, 0, 48, 112, 255] [] 0 folM (by kernel_rfl) (by kernel_rfl) (by kernel_rfl) ?_
      replace hst := hst.drew
      refine DRz (l1 := [0, 1, 2, 3, 4, 5, 6, 7, 8]) (l2 := []) (by kernel_rfl) (by kernel_rfl) ?_
      refine Ry rfl rfl wn (ym (v := h2.v) (et rfl e1_0)) ?_
      refine Ry rfl rfl wn (ym (v := .int .i64 x13) (et rfl e1_5)) ?_
      refine Ry rfl rfl wn (yIa SL_66 (et rfl rfl) (et rfl rfl) hst (rdI q1) gx24) ?_
      refine Ry rfl rfl wn (yI O_100 (et rfl rfl) hst (rdI q1) gx24) ?_
      refine Ry rfl rfl wn (ym (v := h4.v) (et rfl e1_1)) ?_
      refine Ry rfl rfl wn (ym (v := .int .i64 x13) (et rfl e1_5)) ?_
      refine Ry rfl rfl wn (yIa SL_66 (et rfl rfl) (et rfl rfl) hst (rdI q2) gx25) ?_
      refine Ry rfl rfl wn (yI O_100 (et rfl rfl) hst (rdI q2) gx25) ?_
      refine Ry rfl rfl wn (yneq (et rfl rfl) (et rfl rfl)) ?_
      refine Rn QSn ?_
      refine k30 _ _ ?_
      rcases iteS hM1 with ⟨c26, hM1⟩ | ⟨c26, hM1⟩
      · refine condF (et rfl rfl) (nF (decide_eq_true c26)) ?_
        refine wp_skip ?_
        refine qb29 _ _ _ ?_
        refine k28 _ _ ?_
        refine wp_region_lit ?_
        refine Y wn rfl (ym (v := .int .i64 x13) (et rfl e1_5)) ?_
        refine Y wn rfl (ysub (et rfl rfl) rfl) ?_
        refine Y wn rfl (ya (v := .int .i64 (ws .i64 x13 1)) (et rfl rfl)) ?_
        refine wpList_nil ?_
        obtain rfl := someI hM1
        exact n1 _ _ _ rfl ⟨_, _, rfl, rfl, e1_0, e1_1, rfl, hst⟩
      · refine condT (et rfl rfl) (nT (decide_eq_false c26)) ?_
        refine seqQ fun Q31 k31 z31 => ?_
        refine seqQ fun Q32 k32 z32 => ?_
        obtain ⟨x27, gx27, hM1⟩ := bs hM1
        obtain ⟨x28, gx28, hM1⟩ := bs hM1
        refine wp_drawR [0, 0, 3, 7, 0, 0, 48, 112, 255] [] 0 folM (by kernel_rfl) (by kernel_rfl) (by kernel_rfl) ?_
        replace hst := hst.drew
        refine DRz (l1 := [0, 1, 2, 3, 4, 5, 6, 7, 8]) (l2 := []) (by kernel_rfl) (by kernel_rfl) ?_
        refine Ry rfl rfl wn (ym (v := h2.v) (et rfl e1_0)) ?_
        refine Ry rfl rfl wn (ym (v := .int .i64 x13) (et rfl e1_5)) ?_
        refine Ry rfl rfl wn (yIa SL_66 (et rfl rfl) (et rfl rfl) hst (rdI q1) gx27) ?_
        refine Ry rfl rfl wn (yI O_100 (et rfl rfl) hst (rdI q1) gx27) ?_
        refine Ry rfl rfl wn (ym (v := h4.v) (et rfl e1_1)) ?_
        refine Ry rfl rfl wn (ym (v := .int .i64 x13) (et rfl e1_5)) ?_
        refine Ry rfl rfl wn (yIa SL_66 (et rfl rfl) (et rfl rfl) hst (rdI q2) gx28) ?_
        refine Ry rfl rfl wn (yI O_100 (et rfl rfl) hst (rdI q2) gx28) ?_
        refine Ry rfl rfl wn (ylss (et rfl rfl) (et rfl rfl)) ?_
        refine Rn QSn ?_
        refine k32 _ _ ?_
        rcases iteS hM1 with ⟨c29, hM1⟩ | ⟨c29, hM1⟩
        · refine condT (et rfl rfl) (decide_eq_true c29) ?_
          refine seqQ fun Q33 k33 z33 => ?_
          refine wp_region_lit ?_
          refine Y wn rfl (ya (v := .int .i64 (-1)) rfl) ?_
          refine wpList_nil ?_
          refine k33 _ _ ?_
          refine wp_ret ?_
          refine z31 _ _ _ rfl ?_
          refine qb29 _ _ _ ?_
          refine z28 _ _ _ rfl ?_
          obtain rfl := someI hM1
          refine zz1 _ _ _ _ rfl rfl ?_
          exact je1_1 _ _ _ rfl hst (ho1 _ rfl)
        · refine condF (et rfl rfl) (decide_eq_false c29) ?_
          refine wp_skip ?_
          refine k31 _ _ ?_
          refine seqQ fun Q34 k34 z34 => ?_
          refine wp_region_lit ?_
          refine Y wn rfl (ya (v := .int .i64 1) rfl) ?_
          refine wpList_nil ?_
          refine k34 _ _ ?_
          refine wp_ret ?_
          refine qb29 _ _ _ ?_
          refine z28 _ _ _ rfl ?_
          obtain rfl := someI hM1
          refine zz1 _ _ _ _ rfl rfl ?_
          exact je1_1 _ _ _ rfl hst (ho1 _ rfl)
    · refine condF (et rfl rfl) (decide_eq_false c23) ?_
      refine wp_exit ?_
      refine z26 _ _ _ rfl ?_
      obtain rfl := someI hM1
      refine zz1 _ _ _ _ rfl rfl ?_
      exact je1_0 _ _ hst (ho1 _ rfl)
  · refine condT (et rfl rfl) (nT (decide_eq_false c5)) ?_
    refine seqQ fun Q35 k35 z35 => ?_
    refine seqQ fun Q36 k36 z36 => ?_
    refine wp_region_lit ?_
    refine Y wn rfl (ym (v := h2.v) (et rfl rfl)) ?_
    refine Y wn rfl (yLen SL_66 (et rfl rfl) hst (rdI q1)) ?_
    refine Y wn rfl (ym (v := h4.v) (et rfl rfl)) ?_
    refine Y wn rfl (yLen SL_66 (et rfl rfl) hst (rdI q2)) ?_
    refine Y wn rfl (ylss (et rfl rfl) (et rfl rfl)) ?_
    refine wpList_nil ?_
    refine k36 _ _ ?_
    rcases iteS hM with ⟨c30, hM⟩ | ⟨c30, hM⟩
    · refine condT (et rfl rfl) (decide_eq_true c30) ?_
      refine seqQ fun Q37 k37 z37 => ?_
      refine wp_region_lit ?_
      refine Y wn rfl (ya (v := .int .i64 (-1)) rfl) ?_
      refine wpList_nil ?_
      refine k37 _ _ ?_
      refine wp_ret ?_
      refine z35 _ _ _ rfl ?_
      refine z2 _ _ _ rfl ?_
      obtain rfl := someI hM
      exact hQ _ _ _ (fin1r Tryd.results71 ⟨rfl, rfl⟩ ⟨rfl, hst⟩)
    · refine condF (et rfl rfl) (decide_eq_false c30) ?_
      refine wp_skip ?_
      refine k35 _ _ ?_
      refine seqQ fun Q38 k38 z38 => ?_
      refine wp_region_lit ?_
      refine Y wn rfl (ya (v := .int .i64 1) rfl) ?_
      refine wpList_nil ?_
      refine k38 _ _ ?_
      refine wp_ret ?_
      refine z2 _ _ _ rfl ?_
      obtain rfl := someI hM
      exact hQ _ _ _ (fin1r Tryd.results71 ⟨rfl, rfl⟩ ⟨rfl, hst⟩)

theorem sparseref01_subMag_ok {w0 : World} {ros : List Fact} {rs : List Res} {w : World} {x1 : List Int} {x3 : List Int} {h2 : Hdr} {h4 : Hdr} {out : (List Int)} (hM : sparseref01_subMag x1 x3 = some out) (q1 : imm (rI .u32) h2.v x1 ∈ ros) (q2 : imm (rI .u32) h4.v x3 ∈ ros) (hst : St w0 ros (rs) w) :
    Calls Tryd.prog 72 #[h2.v, h4.v] w (fun e w => ∃ (h100001 : Hdr), e = .returned (h100001.v) ∧ St w0 (ros) (row 100 (rI .u32) h100001.v out :: rs) w) := by
  refine enterQ Tryd.func72 rfl Tryd.ntmps72 rfl fun Q hQ => ?_
  refine seqQ fun Q1 k1 z1 => ?_
  refine wp_region_lit ?_
  refine Y wn rfl (ya (v := hnil.v) rfl) ?_
  refine wpList_nil ?_
  refine k1 _ _ ?_
  refine seqQ fun Q2 k2 z2 => ?_
  refine wp_region_lit ?_
  refine Y wn rfl (ya (v := hnil.v) rfl) ?_
  refine wpList_nil ?_
  refine k2 _ _ ?_
  refine seqQ fun Q3 k3 z3 => ?_
  refine wp_region_lit ?_
  refine Y wn rfl (ya (v := .int .u64 0) rfl) ?_
  refine wpList_nil ?_
  refine k3 _ _ ?_
  refine seqQ fun Q4 k4 z4 => ?_
  refine seqQ fun Q5 k5 z5 => ?_
  refine wp_region_lit ?_
  refine Y wn rfl (ya (v := .int .i64 0) rfl) ?_
  refine wpList_nil ?_
  refine k5 _ _ ?_
  refine blockQ fun Q6 qb6 => ?_
  obtain ⟨o3, go3, hM⟩ := bs hM
  have je3_0 : ∀ (x32 : List Int) (h31 : Hdr) (f : Nat → Value) (w : World), f 5 = h31.v → St w0 (ros) (row 100 (rI .u32) h31.v x32 :: rs) w → x32 = o3 → Q6 (.exit 0) (fr 41 f) w := by
    intro x32 h31 f w eje3_0_5 hst ho
    subst ho
    refine qb6 _ _ _ ?_
    refine k4 _ _ ?_
    refine seqQ fun Q23 k23 z23 => ?_
    refine wp_region_lit ?_
    refine Y wn rfl (ym (v := h31.v) (et rfl eje3_0_5)) ?_
    refine Y wn rfl (ya (v := h31.v) (et rfl rfl)) ?_
    refine wpList_nil ?_
    refine k23 _ _ ?_
    refine wp_ret ?_
    obtain rfl := someI hM
    exact hQ _ _ _ (fin1r Tryd.results72 ⟨rfl, rfl⟩ ⟨_, rfl, hst⟩)
  replace hst := hst.rowNh 100 (rI .u32)
  refine loopQ (fun s a w => ∃ (x15 : List Int) (x16 : Int) (x17 : Int) (f : Nat → Value) (h14 : Hdr), (x15, x16, x17) = s ∧ a = fr 41 f ∧ f 0 = h2.v ∧ f 1 = h4.v ∧ f 5 = h14.v ∧ f 6 = .int .u64 x16 ∧ f 7 = .int .i64 x17 ∧ St w0 (ros) (row 100 (rI .u32) h14.v x15 :: rs) w) go3 ⟨_, _, _, _, _, rfl, rfl, rfl, rfl, rfl, rfl, rfl, hst⟩ ?_
  clear hst
  rintro _ _ w r3_ ⟨x15, x16, x17, f, h14, rfl, rfl, e3_0, e3_1, e3_5, e3_6, e3_7, hst⟩ hM3 ho3 Q100003 n3 zz3
  refine seqQ fun Q24 k24 z24 => ?_
  refine seqQ fun Q25 k25 z25 => ?_
  refine wp_region_lit ?_
  refine Y wn rfl (ym (v := .int .i64 x17) (et rfl e3_7)) ?_
  refine Y wn rfl (ym (v := h2.v) (et rfl e3_0)) ?_
  refine Y wn rfl (yLen SL_66 (et rfl rfl) hst (rdI q1)) ?_
  refine Y wn rfl (ylss (et rfl rfl) (et rfl rfl)) ?_
  refine wpList_nil ?_
  refine k25 _ _ ?_
  rcases iteS hM3 with ⟨c33, hM3⟩ | ⟨c33, hM3⟩
  · refine condT (et rfl rfl) (decide_eq_true c33) ?_
    refine wp_skip ?_
    refine k24 _ _ ?_
    refine seqQ fun Q26 k26 z26 => ?_
    refine blockQ fun Q27 qb27 => ?_
    refine seqQ fun Q28 k28 z28 => ?_
    refine wp_region_lit ?_
    refine Y wn rfl (ym (v := h2.v) (et rfl e3_0)) ?_
    refine Y wn rfl (ym (v := .int .i64 x17) (et rfl e3_7)) ?_
    obtain ⟨x34, gx34, hM3⟩ := bs hM3
    refine Y wn rfl (yIa SL_66 (et rfl rfl) (et rfl rfl) hst (rdI q1) gx34) ?_
    refine Y wn rfl (yI O_100 (et rfl rfl) hst (rdI q1) gx34) ?_
    refine Y wn rfl (ycv (k' := .u64) (by kernel_rfl) (by kernel_rfl) (et rfl rfl)) ?_
    refine Y wn rfl (ym (v := .int .u64 x16) (et rfl e3_6)) ?_
    refine Y wn rfl (ysub (et rfl rfl) (et rfl rfl)) ?_
    refine Y wn rfl (ya (v := .int .u64 (ws .u64 (wc .u64 x34) x16)) (et rfl rfl)) ?_
    refine wpList_nil ?_
    refine k28 _ _ ?_
    refine seqQ fun Q29 k29 z29 => ?_
    refine seqQ fun Q30 k30 z30 => ?_
    refine wp_region_lit ?_
    refine Y wn rfl (ym (v := .int .i64 x17) (et rfl e3_7)) ?_
    refine Y wn rfl (ym (v := h4.v) (et rfl e3_1)) ?_
    refine Y wn rfl (yLen SL_66 (et rfl rfl) hst (rdI q2)) ?_
    refine Y wn rfl (ylss (et rfl rfl) (et rfl rfl)) ?_
    refine wpList_nil ?_
    refine k30 _ _ ?_
    have j4 : ∀ (x36 : Int) (f : Nat → Value) (w : World), f 0 = h2.v → f 1 = h4.v → f 5 = h14.v → f 7 = .int .i64 x17 → f 8 = .int .u64 x36 → St w0 (ros) (row 100 (rI .u32) h14.v x15 :: rs) w → sparseref01_subMag_j4 x15 x17 x36 = some r3_ → Q29 .normal (fr 41 f) w := by
      intro x36 f w ej4_0 ej4_1 ej4_5 ej4_7 ej4_8 hst hM
      refine k29 _ _ ?_
      refine seqQ fun Q31 k31 z31 => ?_
      refine wp_region_lit ?_
      refine Y wn rfl (ym (v := h14.v) (et rfl ej4_5)) ?_
      refine Y wn rfl (ym (v := .int .u64 x36) (et rfl ej4_8)) ?_
      refine Y wn rfl (ycv (k' := .u32) (by kernel_rfl) (by kernel_rfl) (et rfl rfl)) ?_
      refine YH wn rfl (rLt (n := 1) (l := [wc .u32 x36]) hst SL_66 [.int .u32 (wc .u32 x36)] (bp1 (et rfl rfl)) rfl rfl (mks1 (cs := [.int .u32 (wc .u32 x36)]) rfl mkI mks0)) ?_
      clear hst
      intro h37 w hst
      obtain ⟨x39, gx39, hM⟩ := bs hM
      replace hst := hst.pk 2 [1, 0] rfl
      refine YH wn rfl (rAp hst SL_66 (et rfl rfl) (et rfl rfl) (rdO (mtR mhR)) gx39) ?_
      clear hst
      intro h38 w hst
      refine Y wn rfl (ya (v := h38.v) (et rfl rfl)) ?_
      refine wpList_nil ?_
      refine k31 _ _ ?_
      refine wp_region_lit ?_
      refine Y wn rfl (ym (v := .int .u64 x36) (et rfl ej4_8)) ?_
      refine Y wn rfl (yshrc (et rfl rfl) rfl) ?_
      refine Y wn rfl (ya (v := .int .u64 (wsrc .u64 x36 63)) (et rfl rfl)) ?_
      refine wpList_nil ?_
      refine qb27 _ _ _ ?_
      refine k26 _ _ ?_
      refine wp_region_lit ?_
      refine Y wn rfl (ym (v := .int .i64 x17) (et rfl ej4_7)) ?_
      refine Y wn rfl (yadd (et rfl rfl) rfl) ?_
      refine Y wn rfl (ya (v := .int .i64 (wa .i64 x17 1)) (et rfl rfl)) ?_
      refine wpList_nil ?_
      obtain rfl := someI hM
      exact n3 _ _ _ rfl ⟨_, _, _, _, _, rfl, rfl, ej4_0, ej4_1, rfl, rfl, rfl, (hst.pk 2 [0] rfl)⟩
    rcases iteS hM3 with ⟨c40, hM3⟩ | ⟨c40, hM3⟩
    · refine condT (et rfl rfl) (decide_eq_true c40) ?_
      refine wp_region_lit ?_
      refine Y wn rfl (ym (v := .int .u64 (ws .u64 (wc .u64 x34) x16)) (et rfl rfl)) ?_
      refine Y wn rfl (ym (v := h4.v) (et rfl e3_1)) ?_
      refine Y wn rfl (ym (v := .int .i64 x17) (et rfl e3_7)) ?_
      obtain ⟨x41, gx41, hM3⟩ := bs hM3
      refine Y wn rfl (yIa SL_66 (et rfl rfl) (et rfl rfl) hst (rdI q2) gx41) ?_
      refine Y wn rfl (yI O_100 (et rfl rfl) hst (rdI q2) gx41) ?_
      refine Y wn rfl (ycv (k' := .u64) (by kernel_rfl) (by kernel_rfl) (et rfl rfl)) ?_
      refine Y wn rfl (ysub (et rfl rfl) (et rfl rfl)) ?_
      refine Y wn rfl (ya (v := .int .u64 (ws .u64 (ws .u64 (wc .u64 x34) x16) (wc .u64 x41))) (et rfl rfl)) ?_
      refine wpList_nil ?_
      exact j4 _ _ _ e3_0 e3_1 e3_5 e3_7 rfl hst hM3
    · refine condF (et rfl rfl) (decide_eq_false c40) ?_
      refine wp_skip ?_
      exact j4 _ _ _ e3_0 e3_1 e3_5 e3_7 rfl hst hM3
  · refine condF (et rfl rfl) (decide_eq_false c33) ?_
    refine wp_exit ?_
    refine z24 _ _ _ rfl ?_
    obtain rfl := someI hM3
    refine zz3 _ _ _ _ rfl rfl ?_
    exact je3_0 _ _ _ _ e3_5 hst (ho3 _ rfl)

theorem sparseref01_Add_ok {w0 : World} {ros : List Fact} {rs : List Res} {w : World} {x1 : Bool} {x2 : List Int} {x4 : Bool} {x5 : List Int} {h3 : Hdr} {h6 : Hdr} {out : Bool × (List Int)} (hM : sparseref01_Add x1 x2 x4 x5 = some out) (q1 : imm (rI .u32) h3.v x2 ∈ ros) (q2 : imm (rI .u32) h6.v x5 ∈ ros) (hst : St w0 ros (rs) w) :
    Calls Tryd.prog 64 #[.agg #[.bool x1, h3.v], .agg #[.bool x4, h6.v]] w (fun e w => ∃ (h100002 : Hdr), e = .returned (.agg #[.bool out.1, h100002.v]) ∧ St w0 (ros) (row 100 (rI .u32) h100002.v out.2 :: rs) w) := by
  refine enterQ Tryd.func64 rfl Tryd.ntmps64 rfl fun Q hQ => ?_
  refine seqQ fun Q1 k1 z1 => ?_
  refine wp_region_lit ?_
  refine YB wn rfl (r_box (vals := [.bool x1, h3.v]) hst (et rfl rfl) rfl) ?_
  clear hst
  intro b7 w hst
  refine YB wn rfl (r_box (vals := [.bool x4, h6.v]) hst (et rfl rfl) rfl) ?_
  clear hst
  intro b8 w hst
  refine YB wn rfl (rAl hst ZT_68) ?_
  clear hst
  intro b9 w hst
  refine wpList_nil ?_
  refine k1 _ _ ?_
  refine seqQ fun Q2 k2 z2 => ?_
  obtain ⟨r10, gr10, hM⟩ := bs hM
  obtain ⟨r12, gr12, hM⟩ := bs hM
  refine wp_drawR [0, 1, 3, 0, 8, 31, 63, 127] [2, 5, 6, 7] 4 folM (by kernel_rfl) (by kernel_rfl) (by kernel_rfl) ?_
  replace hst := hst.drew
  refine DRn (l1 := [0, 1, 3, 4]) (l2 := []) (lc := [2]) (by kernel_rfl) (by kernel_rfl) (by kernel_rfl) ?_
  refine Ry rfl rfl wn (yFb FL_68_1 (et rfl rfl)) ?_
  refine Ry rfl rfl wn (yLb (u := h3.v) O_66 (et rfl rfl) hst (mtR (mtR mhR)) rfl) ?_
  refine Ry rfl rfl wn (yFb FL_68_1 (et rfl rfl)) ?_
  refine Ry rfl rfl wn (yLb (u := h6.v) O_66 (et rfl rfl) hst (mtR mhR) rfl) ?_
  refine Rn QSn ?_
  refine Lc rfl ?_ LAn
  refine Lk wn (yCall FN_60 (a1 (et rfl rfl))) (sparseref01_trim_ok (hM := gr10) (hst := hst) (q1 := q1)) ?_
  clear hst
  rintro _ w ⟨h11, rfl, hst⟩
  refine ⟨_, rfl, ?_⟩
  refine DRn (l1 := []) (l2 := [3, 4]) (lc := [5]) (by kernel_rfl) (by kernel_rfl) (by kernel_rfl) ?_
  refine Rn (Sy rfl rfl wn (yFb FL_68_1 (et rfl rfl)) rfl (Sy rfl rfl wn (yLb (u := h6.v) O_66 (et rfl rfl) hst (mtR (mtR mhR)) rfl) rfl QSn)) ?_
  refine Lc rfl ?_ LAn
  refine Lk wn (yCall FN_60 (a1 (et rfl rfl))) (sparseref01_trim_ok (hM := gr12) (hst := hst) (q1 := q2)) ?_
  clear hst
  rintro _ w ⟨h13, rfl, hst⟩
  refine ⟨_, rfl, ?_⟩
  refine DRn (l1 := []) (l2 := []) (lc := [6]) (by kernel_rfl) (by kernel_rfl) (by kernel_rfl) ?_
  refine Rn QSn ?_
  refine Lc rfl ?_ LAn
  refine Ly wn (ya (v := h11.v) (et rfl rfl)) ?_
  refine DRn (l1 := []) (l2 := []) (lc := [7]) (by kernel_rfl) (by kernel_rfl) (by kernel_rfl) ?_
  refine Rn QSn ?_
  refine Lc rfl ?_ LAn
  refine Ly wn (ya (v := h13.v) (et rfl rfl)) ?_
  refine DRz (l1 := []) (l2 := []) (by kernel_rfl) (by kernel_rfl) ?_
  refine Rn QSn ?_
  refine k2 _ _ ?_
  refine seqQ fun Q3 k3 z3 => ?_
  refine seqQ fun Q4 k4 z4 => ?_
  refine wp_region_lit ?_
  refine Y wn rfl (yFb FL_68_0 (et rfl rfl)) ?_
  refine Y wn rfl (yLb (u := .bool x1) O_4 (et rfl rfl) hst (mtR (mtR (mtR (mtR mhR)))) rfl) ?_
  refine Y wn rfl (yFb FL_68_0 (et rfl rfl)) ?_
  refine Y wn rfl (yLb (u := .bool x4) O_4 (et rfl rfl) hst (mtR (mtR (mtR mhR))) rfl) ?_
  refine Y wn rfl (yeqb (by kernel_rfl) (et rfl rfl) (et rfl rfl)) ?_
  refine wpList_nil ?_
  refine k4 _ _ ?_
  rcases iteS hM with ⟨c14, hM⟩ | ⟨c14, hM⟩
  · refine condT (et rfl rfl) c14 ?_
    refine seqQ fun Q5 k5 z5 => ?_
    obtain ⟨r15, gr15, hM⟩ := bs hM
    obtain ⟨r17, gr17, hM⟩ := bs hM
    refine wp_drawR [0, 1, 0, 0, 12, 31, 63] [4, 5, 6] 3 folM (by kernel_rfl) (by kernel_rfl) (by kernel_rfl) ?_
    replace hst := hst.drew
    refine DRn (l1 := [0, 1, 2, 3]) (l2 := []) (lc := [4]) (by kernel_rfl) (by kernel_rfl) (by kernel_rfl) ?_
    refine Ry rfl rfl wn (yFb FL_68_0 (et rfl rfl)) ?_
    refine Ry rfl rfl wn (yLb (u := .bool x1) O_4 (et rfl rfl) hst (mtR (mtR (mtR (mtR mhR)))) rfl) ?_
    refine Ry rfl rfl wn (ym (v := h11.v) (et rfl rfl)) ?_
    refine Ry rfl rfl wn (ym (v := h13.v) (et rfl rfl)) ?_
    refine Rn QSn ?_
    refine Lc rfl ?_ LAn
    replace hst := hst.pk 2 [1, 0] rfl
    replace hst := hst.fz
    replace hst := hst.fz
    refine Lk wn (yCall FN_70 (a2 (et rfl rfl) (et rfl rfl))) (sparseref01_addMag_ok (hM := gr15) (hst := hst) (q1 := (mtF mhF)) (q2 := mhF)) ?_
    clear hst
    rintro _ w ⟨h16, rfl, hst⟩
    refine ⟨_, rfl, ?_⟩
    refine DRn (l1 := []) (l2 := [0, 1]) (lc := [5]) (by kernel_rfl) (by kernel_rfl) (by kernel_rfl) ?_
    refine Rn (Sy rfl rfl wn (yFb FL_68_0 (et rfl rfl)) rfl (Sy rfl rfl wn (yLb (u := .bool x1) O_4 (et rfl rfl) hst (mtR (mtR (mtR mhR))) rfl) rfl QSn)) ?_
    refine Lc rfl ?_ LAn
    replace hst := hst.fz
    refine Lk wn (yCall FN_55 (a2 (et rfl rfl) (et rfl rfl))) (sparseref01_make1_ok (hM := gr17) (hst := hst) (q1 := mhF)) ?_
    clear hst
    rintro _ w ⟨h18, rfl, hst⟩
    refine ⟨_, rfl, ?_⟩
    refine DRn (l1 := []) (l2 := []) (lc := [6]) (by kernel_rfl) (by kernel_rfl) (by kernel_rfl) ?_
    refine Rn QSn ?_
    refine Lc rfl ?_ LAn
    replace hst := hst.pk 2 [1, 0] rfl
    refine LT wn (r_stbn (vals' := [.bool r17.1, h18.v]) (us := [.bool r17.1, h18.v]) hst ST_68 (et rfl rfl) (et rfl rfl) rfl rfl (one_of rfl) rfl) ?_
    clear hst
    intro w hst
    refine DRz (l1 := []) (l2 := []) (by kernel_rfl) (by kernel_rfl) ?_
    refine Rn QSn ?_
    refine k5 _ _ ?_
    refine wp_ret ?_
    refine z3 _ _ _ rfl ?_
    obtain rfl := someI hM
    exact hQ _ _ _ (fin1r Tryd.results64 (rcs2 rfl rfl hst mhR ST_68 rfl) ⟨_, rfl, ((hst.pk 4 [1] rfl).facts (allT (allT (allT allI))))⟩)
  · refine condF (et rfl rfl) (bfalse c14) ?_
    refine wp_skip ?_
    refine k3 _ _ ?_
    refine seqQ fun Q6 k6 z6 => ?_
    refine seqQ fun Q7 k7 z7 => ?_
    refine wp_region_lit ?_
    refine Y wn rfl (ym (v := h11.v) (et rfl rfl)) ?_
    refine Y wn rfl (ym (v := h13.v) (et rfl rfl)) ?_
    obtain ⟨r19, gr19, hM⟩ := bs hM
    replace hst := hst.pk 2 [1, 0] rfl
    replace hst := hst.fz
    replace hst := hst.fz
    refine Yc wn rfl (yCall FN_71 (a2 (et rfl rfl) (et rfl rfl))) (sparseref01_cmpMag_ok (hM := gr19) (hst := hst) (q1 := (mtF mhF)) (q2 := mhF)) ?_
    clear hst
    rintro _ w ⟨rfl, hst⟩
    refine ⟨_, rfl, ?_⟩
    refine Y wn rfl (ygeq (et rfl rfl) rfl) ?_
    refine wpList_nil ?_
    refine k7 _ _ ?_
    rcases iteS hM with ⟨c20, hM⟩ | ⟨c20, hM⟩
    · refine condT (et rfl rfl) (decide_eq_true c20) ?_
      refine seqQ fun Q8 k8 z8 => ?_
      obtain ⟨r21, gr21, hM⟩ := bs hM
      obtain ⟨r23, gr23, hM⟩ := bs hM
      refine wp_drawR [0, 1, 0, 0, 12, 31, 63] [4, 5, 6] 3 folM (by kernel_rfl) (by kernel_rfl) (by kernel_rfl) ?_
      replace hst := hst.drew
      refine DRn (l1 := [0, 1, 2, 3]) (l2 := []) (lc := [4]) (by kernel_rfl) (by kernel_rfl) (by kernel_rfl) ?_
      refine Ry rfl rfl wn (yFb FL_68_0 (et rfl rfl)) ?_
      refine Ry rfl rfl wn (yLb (u := .bool x1) O_4 (et rfl rfl) hst (mtR (mtR mhR)) rfl) ?_
      refine Ry rfl rfl wn (ym (v := h11.v) (et rfl rfl)) ?_
      refine Ry rfl rfl wn (ym (v := h13.v) (et rfl rfl)) ?_
      refine Rn QSn ?_
      refine Lc rfl ?_ LAn
      refine Lk wn (yCall FN_72 (a2 (et rfl rfl) (et rfl rfl))) (sparseref01_subMag_ok (hM := gr21) (hst := hst) (q1 := (mtF mhF)) (q2 := mhF)) ?_
      clear hst
      rintro _ w ⟨h22, rfl, hst⟩
      refine ⟨_, rfl, ?_⟩
      refine DRn (l1 := []) (l2 := [0, 1]) (lc := [5]) (by kernel_rfl) (by kernel_rfl) (by kernel_rfl) ?_
      refine Rn (Sy rfl rfl wn (yFb FL_68_0 (et rfl rfl)) rfl (Sy rfl rfl wn (yLb (u := .bool x1) O_4 (et rfl rfl) hst (mtR (mtR (mtR mhR))) rfl) rfl QSn)) ?_
      refine Lc rfl ?_ LAn
      replace hst := hst.fz
      refine Lk wn (yCall FN_55 (a2 (et rfl rfl) (et rfl rfl))) (sparseref01_make1_ok (hM := gr23) (hst := hst) (q1 := mhF)) ?_
      clear hst
      rintro _ w ⟨h24, rfl, hst⟩
      refine ⟨_, rfl, ?_⟩
      refine DRn (l1 := []) (l2 := []) (lc := [6]) (by kernel_rfl) (by kernel_rfl) (by kernel_rfl) ?_
      refine Rn QSn ?_
      refine Lc rfl ?_ LAn
      replace hst := hst.pk 2 [1, 0] rfl
      refine LT wn (r_stbn (vals' := [.bool r23.1, h24.v]) (us := [.bool r23.1, h24.v]) hst ST_68 (et rfl rfl) (et rfl rfl) rfl rfl (one_of rfl) rfl) ?_
      clear hst
      intro w hst
      refine DRz (l1 := []) (l2 := []) (by kernel_rfl) (by kernel_rfl) ?_
      refine Rn QSn ?_
      refine k8 _ _ ?_
      refine wp_ret ?_
      refine z6 _ _ _ rfl ?_
      obtain rfl := someI hM
      exact hQ _ _ _ (fin1r Tryd.results64 (rcs2 rfl rfl hst mhR ST_68 rfl) ⟨_, rfl, ((hst.pk 4 [1] rfl).facts (allT (allT (allT allI))))⟩)
    · refine condF (et rfl rfl) (decide_eq_false c20) ?_
      refine wp_skip ?_
      refine k6 _ _ ?_
      refine seqQ fun Q9 k9 z9 => ?_
      obtain ⟨r25, gr25, hM⟩ := bs hM
      obtain ⟨r27, gr27, hM⟩ := bs hM
      refine wp_drawR [0, 1, 0, 0, 12, 31, 63] [4, 5, 6] 3 folM (by kernel_rfl) (by kernel_rfl) (by kernel_rfl) ?_
      replace hst := hst.drew
      refine DRn (l1 := [0, 1, 2, 3]) (l2 := []) (lc := [4]) (by kernel_rfl) (by kernel_rfl) (by kernel_rfl) ?_
      refine Ry rfl rfl wn (yFb FL_68_0 (et rfl rfl)) ?_
      refine Ry rfl rfl wn (yLb (u := .bool x4) O_4 (et rfl rfl) hst (mtR mhR) rfl) ?_
      refine Ry rfl rfl wn (ym (v := h13.v) (et rfl rfl)) ?_
      refine Ry rfl rfl wn (ym (v := h11.v) (et rfl rfl)) ?_
      refine Rn QSn ?_
      refine Lc rfl ?_ LAn
      refine Lk wn (yCall FN_72 (a2 (et rfl rfl) (et rfl rfl))) (sparseref01_subMag_ok (hM := gr25) (hst := hst) (q1 := mhF) (q2 := (mtF mhF))) ?_
      clear hst
      rintro _ w ⟨h26, rfl, hst⟩
      refine ⟨_, rfl, ?_⟩
      refine DRn (l1 := []) (l2 := [0, 1]) (lc := [5]) (by kernel_rfl) (by kernel_rfl) (by kernel_rfl) ?_
      refine Rn (Sy rfl rfl wn (yFb FL_68_0 (et rfl rfl)) rfl (Sy rfl rfl wn (yLb (u := .bool x4) O_4 (et rfl rfl) hst (mtR (mtR mhR)) rfl) rfl QSn)) ?_
      refine Lc rfl ?_ LAn
      replace hst := hst.fz
      refine Lk wn (yCall FN_55 (a2 (et rfl rfl) (et rfl rfl))) (sparseref01_make1_ok (hM := gr27) (hst := hst) (q1 := mhF)) ?_
      clear hst
      rintro _ w ⟨h28, rfl, hst⟩
      refine ⟨_, rfl, ?_⟩
      refine DRn (l1 := []) (l2 := []) (lc := [6]) (by kernel_rfl) (by kernel_rfl) (by kernel_rfl) ?_
      refine Rn QSn ?_
      refine Lc rfl ?_ LAn
      replace hst := hst.pk 2 [1, 0] rfl
      refine LT wn (r_stbn (vals' := [.bool r27.1, h28.v]) (us := [.bool r27.1, h28.v]) hst ST_68 (et rfl rfl) (et rfl rfl) rfl rfl (one_of rfl) rfl) ?_
      clear hst
      intro w hst
      refine DRz (l1 := []) (l2 := []) (by kernel_rfl) (by kernel_rfl) ?_
      refine Rn QSn ?_
      refine k9 _ _ ?_
      refine wp_ret ?_
      obtain rfl := someI hM
      exact hQ _ _ _ (fin1r Tryd.results64 (rcs2 rfl rfl hst mhR ST_68 rfl) ⟨_, rfl, ((hst.pk 4 [1] rfl).facts (allT (allT (allT allI))))⟩)

theorem sparseref01_Sub_ok {w0 : World} {ros : List Fact} {rs : List Res} {w : World} {x1 : Bool} {x2 : List Int} {x4 : Bool} {x5 : List Int} {h3 : Hdr} {h6 : Hdr} {out : Bool × (List Int)} (hM : sparseref01_Sub x1 x2 x4 x5 = some out) (q1 : imm (rI .u32) h3.v x2 ∈ ros) (q2 : imm (rI .u32) h6.v x5 ∈ ros) (hst : St w0 ros (rs) w) :
    Calls Tryd.prog 67 #[.agg #[.bool x1, h3.v], .agg #[.bool x4, h6.v]] w (fun e w => ∃ (h100002 : Hdr), e = .returned (.agg #[.bool out.1, h100002.v]) ∧ St w0 (ros) (row 100 (rI .u32) h100002.v out.2 :: rs) w) := by
  refine enterQ Tryd.func67 rfl Tryd.ntmps67 rfl fun Q hQ => ?_
  refine seqQ fun Q1 k1 z1 => ?_
  refine wp_region_lit ?_
  refine YB wn rfl (r_box (vals := [.bool x1, h3.v]) hst (et rfl rfl) rfl) ?_
  clear hst
  intro b7 w hst
  refine YB wn rfl (r_box (vals := [.bool x4, h6.v]) hst (et rfl rfl) rfl) ?_
  clear hst
  intro b8 w hst
  refine YB wn rfl (rAl hst ZT_68) ?_
  clear hst
  intro b9 w hst
  refine wpList_nil ?_
  refine k1 _ _ ?_
  refine seqQ fun Q2 k2 z2 => ?_
  obtain ⟨r10, gr10, hM⟩ := bs hM
  obtain ⟨r12, gr12, hM⟩ := bs hM
  refine wp_drawR [0, 0, 2, 7, 15] [2, 3, 4] 3 folM (by kernel_rfl) (by kernel_rfl) (by kernel_rfl) ?_
  replace hst := hst.drew
  refine DRn (l1 := [0, 1]) (l2 := []) (lc := [2]) (by kernel_rfl) (by kernel_rfl) (by kernel_rfl) ?_
  refine Ry rfl rfl wn (yLbs (us := [.bool x1, h3.v]) ST_68 (et rfl rfl) hst (mtR (mtR mhR)) rfl rfl) ?_
  refine Ry rfl rfl wn (yLbs (us := [.bool x4, h6.v]) ST_68 (et rfl rfl) hst (mtR mhR) rfl rfl) ?_
  refine Rn QSn ?_
  refine Lc rfl ?_ LAn
  refine Lk wn (yCall FN_73 (a1 (et rfl rfl))) (sparseref01_Neg_ok (hM := gr10) (hst := hst) (q1 := q2)) ?_
  clear hst
  rintro _ w ⟨h11, rfl, hst⟩
  refine ⟨_, rfl, ?_⟩
  refine DRn (l1 := []) (l2 := [0]) (lc := [3]) (by kernel_rfl) (by kernel_rfl) (by kernel_rfl) ?_
  refine Rn (Sy rfl rfl wn (yLbs (us := [.bool x1, h3.v]) ST_68 (et rfl rfl) hst (mtR (mtR (mtR mhR))) rfl rfl) rfl QSn) ?_
  refine Lc rfl ?_ LAn
  replace hst := hst.fz
  refine Lk wn (yCall FN_64 (a2 (et rfl rfl) (et rfl rfl))) (sparseref01_Add_ok (hM := gr12) (hst := hst) (q1 := (mtF q1)) (q2 := mhF)) ?_
  clear hst
  rintro _ w ⟨h13, rfl, hst⟩
  refine ⟨_, rfl, ?_⟩
  refine DRn (l1 := []) (l2 := []) (lc := [4]) (by kernel_rfl) (by kernel_rfl) (by kernel_rfl) ?_
  refine Rn QSn ?_
  refine Lc rfl ?_ LAn
  replace hst := hst.pk 2 [1, 0] rfl
  refine LT wn (r_stbn (vals' := [.bool r12.1, h13.v]) (us := [.bool r12.1, h13.v]) hst ST_68 (et rfl rfl) (et rfl rfl) rfl rfl (one_of rfl) rfl) ?_
  clear hst
  intro w hst
  refine DRz (l1 := []) (l2 := []) (by kernel_rfl) (by kernel_rfl) ?_
  refine Rn QSn ?_
  refine k2 _ _ ?_
  refine wp_ret ?_
  obtain rfl := someI hM
  exact hQ _ _ _ (fin1r Tryd.results67 (rcs2 rfl rfl hst mhR ST_68 rfl) ⟨_, rfl, ((hst.pk 4 [1] rfl).facts (allT allI))⟩)

theorem sparseref01_Shift_ok {w0 : World} {ros : List Fact} {rs : List Res} {w : World} {x1 : Bool} {x2 : List Int} {x4 : Int} {h3 : Hdr} {out : Bool × (List Int)} (hM : sparseref01_Shift x1 x2 x4 = some out) (q1 : imm (rI .u32) h3.v x2 ∈ ros) (hst : St w0 ros (rs) w) :
    Calls Tryd.prog 52 #[.agg #[.bool x1, h3.v], .int .i64 x4] w (fun e w => ∃ (h100002 : Hdr), e = .returned (.agg #[.bool out.1, h100002.v]) ∧ St w0 (ros) (row 100 (rI .u32) h100002.v out.2 :: rs) w) := by
  refine enterQ Tryd.func52 rfl Tryd.ntmps52 rfl fun Q hQ => ?_
  refine seqQ fun Q1 k1 z1 => ?_
  refine wp_region_lit ?_
  refine YB wn rfl (r_box (vals := [.bool x1, h3.v]) hst (et rfl rfl) rfl) ?_
  clear hst
  intro b5 w hst
  refine YB wn rfl (rAl hst ZT_68) ?_
  clear hst
  intro b6 w hst
  refine wpList_nil ?_
  refine k1 _ _ ?_
  refine seqQ fun Q2 k2 z2 => ?_
  refine wp_region_lit ?_
  refine Y wn rfl (yLbs (us := [.bool x1, h3.v]) ST_68 (et rfl rfl) hst (mtR mhR) rfl rfl) ?_
  obtain ⟨r7, gr7, hM⟩ := bs hM
  refine Yc wn rfl (yCall FN_48 (a1 (et rfl rfl))) (sparseref01_Norm_ok (hM := gr7) (hst := hst) (q1 := q1)) ?_
  clear hst
  rintro _ w ⟨h8, rfl, hst⟩
  refine ⟨_, rfl, ?_⟩
  replace hst := hst.pk 3 [2, 0, 0] rfl
  refine YT wn rfl (r_stbn (vals' := [.bool r7.1, h8.v]) (us := [.bool r7.1, h8.v]) hst ST_68 (et rfl rfl) (et rfl rfl) rfl rfl (one_of rfl) rfl) ?_
  clear hst
  intro w hst
  refine wpList_nil ?_
  refine k2 _ _ ?_
  refine seqQ fun Q3 k3 z3 => ?_
  refine seqQ fun Q4 k4 z4 => ?_
  refine wp_region_lit ?_
  refine Y wn rfl (ym (v := .int .i64 x4) (et rfl rfl)) ?_
  refine Y wn rfl (ygeq (et rfl rfl) rfl) ?_
  refine wpList_nil ?_
  refine k4 _ _ ?_
  rcases iteS hM with ⟨c9, hM⟩ | ⟨c9, hM⟩
  · refine condT (et rfl rfl) (decide_eq_true c9) ?_
    refine seqQ fun Q5 k5 z5 => ?_
    obtain ⟨r10, gr10, hM⟩ := bs hM
    obtain ⟨r12, gr12, hM⟩ := bs hM
    refine wp_drawR [0, 1, 0, 4, 0, 28, 63, 127] [5, 6, 7] 3 folM (by kernel_rfl) (by kernel_rfl) (by kernel_rfl) ?_
    replace hst := hst.drew
    refine DRn (l1 := [0, 1, 2, 3, 4]) (l2 := []) (lc := [5]) (by kernel_rfl) (by kernel_rfl) (by kernel_rfl) ?_
    refine Ry rfl rfl wn (yFb FL_68_0 (et rfl rfl)) ?_
    refine Ry rfl rfl wn (yLb (u := .bool r7.1) O_4 (et rfl rfl) hst mhR rfl) ?_
    refine Ry rfl rfl wn (yFb FL_68_1 (et rfl rfl)) ?_
    refine Ry rfl rfl wn (yLb (u := h8.v) O_66 (et rfl rfl) hst mhR rfl) ?_
    refine Ry rfl rfl wn (ym (v := .int .i64 x4) (et rfl rfl)) ?_
    refine Rn QSn ?_
    refine Lc rfl ?_ LAn
    replace hst := hst.pk 2 [1, 0] rfl
    replace hst := hst.fz
    refine Lk wn (yCall FN_65 (a2 (et rfl rfl) (et rfl rfl))) (sparseref01_shl_ok (hM := gr10) (hst := hst) (q1 := mhF)) ?_
    clear hst
    rintro _ w ⟨h11, rfl, hst⟩
    refine ⟨_, rfl, ?_⟩
    refine DRn (l1 := []) (l2 := [0, 1]) (lc := [6]) (by kernel_rfl) (by kernel_rfl) (by kernel_rfl) ?_
    refine Rn (Sy rfl rfl wn (yFb FL_68_0 (et rfl rfl)) rfl (Sy rfl rfl wn (yLb (u := .bool r7.1) O_4 (et rfl rfl) hst (mtR mhR) rfl) rfl QSn)) ?_
    refine Lc rfl ?_ LAn
    replace hst := hst.fz
    refine Lk wn (yCall FN_55 (a2 (et rfl rfl) (et rfl rfl))) (sparseref01_make1_ok (hM := gr12) (hst := hst) (q1 := mhF)) ?_
    clear hst
    rintro _ w ⟨h13, rfl, hst⟩
    refine ⟨_, rfl, ?_⟩
    refine DRn (l1 := []) (l2 := []) (lc := [7]) (by kernel_rfl) (by kernel_rfl) (by kernel_rfl) ?_
    refine Rn QSn ?_
    refine Lc rfl ?_ LAn
    replace hst := hst.pk 3 [2, 0, 0] rfl
    refine LT wn (r_stbn (vals' := [.bool r12.1, h13.v]) (us := [.bool r12.1, h13.v]) hst ST_68 (et rfl rfl) (et rfl rfl) rfl rfl (one_of rfl) rfl) ?_
    clear hst
    intro w hst
    refine DRz (l1 := []) (l2 := []) (by kernel_rfl) (by kernel_rfl) ?_
    refine Rn QSn ?_
    refine k5 _ _ ?_
    refine wp_ret ?_
    refine z3 _ _ _ rfl ?_
    obtain rfl := someI hM
    exact hQ _ _ _ (fin1r Tryd.results52 (rcs2 rfl rfl hst mhR ST_68 rfl) ⟨_, rfl, ((hst.pk 3 [1] rfl).facts (allT (allT allI)))⟩)
  · refine condF (et rfl rfl) (decide_eq_false c9) ?_
    refine wp_skip ?_
    refine k3 _ _ ?_
    refine seqQ fun Q6 k6 z6 => ?_
    refine wp_region_lit ?_
    refine Y wn rfl (yFb FL_68_1 (et rfl rfl)) ?_
    refine Y wn rfl (yLb (u := h8.v) O_66 (et rfl rfl) hst mhR rfl) ?_
    refine Y wn rfl (ym (v := .int .i64 x4) (et rfl rfl)) ?_
    refine Y wn rfl (yneg (et rfl rfl)) ?_
    obtain ⟨r14, gr14, hM⟩ := bs hM
    replace hst := hst.pk 2 [1, 0] rfl
    replace hst := hst.fz
    refine Yc wn rfl (yCall FN_66 (a2 (et rfl rfl) (et rfl rfl))) (sparseref01_shr_ok (hM := gr14) (hst := hst) (q1 := mhF)) ?_
    clear hst
    rintro _ w ⟨h15, rfl, hst⟩
    refine ⟨_, rfl, ?_⟩
    refine Y wn rfl (ym (v := .tuple #[h15.v, .bool r14.2]) (et rfl rfl)) ?_
    refine Y wn rfl (yx (v := h15.v) (et rfl rfl) rfl) ?_
    refine Y wn rfl (yx (v := .bool r14.2) (et rfl rfl) rfl) ?_
    refine Y wn rfl (ya (v := h15.v) (et rfl rfl)) ?_
    refine Y wn rfl (ya (v := .bool r14.2) (et rfl rfl)) ?_
    refine wpList_nil ?_
    refine k6 _ _ ?_
    refine seqQ fun Q7 k7 z7 => ?_
    refine wp_region_lit ?_
    refine Y wn rfl (yFb FL_68_0 (et rfl rfl)) ?_
    refine Y wn rfl (yLb (u := .bool r7.1) O_4 (et rfl rfl) hst (mtR mhR) rfl) ?_
    refine Y wn rfl (ym (v := h15.v) (et rfl rfl)) ?_
    obtain ⟨r16, gr16, hM⟩ := bs hM
    replace hst := hst.fz
    refine Yc wn rfl (yCall FN_55 (a2 (et rfl rfl) (et rfl rfl))) (sparseref01_make1_ok (hM := gr16) (hst := hst) (q1 := mhF)) ?_
    clear hst
    rintro _ w ⟨h17, rfl, hst⟩
    refine ⟨_, rfl, ?_⟩
    refine YB wn rfl (rAl hst ZT_68) ?_
    clear hst
    intro b18 w hst
    refine YT wn rfl (r_stbn (vals' := [.bool r16.1, h17.v]) (us := [.bool r16.1, h17.v]) hst ST_68 (et rfl rfl) (et rfl rfl) rfl rfl (one_of rfl) rfl) ?_
    clear hst
    intro w hst
    refine wpList_nil ?_
    refine k7 _ _ ?_
    refine seqQ fun Q8 k8 z8 => ?_
    refine seqQ fun Q9 k9 z9 => ?_
    refine wp_region_lit ?_
    refine Y wn rfl (yFb FL_68_0 (et rfl rfl)) ?_
    refine Y wn rfl (yLb (u := .bool r7.1) O_4 (et rfl rfl) hst (mtR (mtR mhR)) rfl) ?_
    refine Y wn rfl (ym (v := .bool r7.1) (et rfl rfl)) ?_
    refine joinW 2 (fun f w => f 4 = .pointer (some ⟨b6, 0, none⟩) ∧ f 7 = .pointer (some ⟨b18, 0, none⟩) ∧ f 35 = .bool (r7.1 && r14.2) ∧ St w0 (ros) (box b6 68 [.bool false, hnil.v] :: row 100 (rI .u32) h17.v r16.2 :: box b18 68 [.bool r16.1, h17.v] :: rs) w) (fun j1 => ?_) ?_
    · rcases Bool.eq_false_or_eq_true (r7.1) with c20 | c20
      · refine Y (wg rfl rfl rfl c20) rfl (ym (v := .bool r14.2) (et rfl rfl)) ?_
        refine Y wn rfl (ypt (v := .bool r14.2) (et rfl rfl) c20 (et rfl rfl)) ?_
        exact j1 _ _ ⟨rfl, rfl, (congrArg Value.bool (andT c20)), ((hst.pk 4 [3, 1, 0] rfl).facts (allT (allT allI)))⟩
      · refine Gn (wx rfl rfl rfl c20) rfl ?_
        refine Y wn rfl (ypf (v := .bool false) (et rfl rfl) c20 rfl) ?_
        exact j1 _ _ ⟨rfl, rfl, (congrArg Value.bool (andF c20)), ((hst.pk 4 [3, 1, 0] rfl).facts (allT (allT allI)))⟩
    clear hst
    rintro f w ⟨e19_4, e19_7, e19_35, hst⟩
    refine wpList_nil ?_
    refine k9 _ _ ?_
    have j2 : ∀ (x25 : Bool) (x27 : List Int) (h26 : Hdr) (f : Nat → Value) (w : World), f 4 = .pointer (some ⟨b6, 0, none⟩) → f 7 = .pointer (some ⟨b18, 0, none⟩) → St w0 (ros) (box b6 68 [.bool false, hnil.v] :: row 100 (rI .u32) h26.v x27 :: box b18 68 [.bool x25, h26.v] :: rs) w → sparseref01_Shift_j2 x25 x27 = some out → Q8 .normal (fr 40 f) w := by
      intro x25 x27 h26 f w ej2_4 ej2_7 hst hM
      refine k8 _ _ ?_
      refine seqQ fun Q10 k10 z10 => ?_
      refine wp_region_lit ?_
      refine Y wn rfl (yLbs (us := [.bool x25, h26.v]) ST_68 (et rfl ej2_7) hst (mtR (mtR mhR)) rfl rfl) ?_
      refine YT wn rfl (r_stbn (vals' := [.bool x25, h26.v]) (us := [.bool x25, h26.v]) hst ST_68 (et rfl ej2_4) (et rfl rfl) rfl rfl (one_of rfl) rfl) ?_
      clear hst
      intro w hst
      refine wpList_nil ?_
      refine k10 _ _ ?_
      refine wp_ret ?_
      obtain rfl := someI hM
      exact hQ _ _ _ (fin1r Tryd.results52 (rcs2 rfl ej2_4 hst mhR ST_68 rfl) ⟨_, rfl, (hst.pk 3 [1] rfl)⟩)
    rcases iteS hM with ⟨c28, hM⟩ | ⟨c28, hM⟩
    · refine condT (et rfl e19_35) c28 ?_
      obtain ⟨r29, gr29, hM⟩ := bs hM
      obtain ⟨r31, gr31, hM⟩ := bs hM
      refine wp_drawR [0, 0, 3, 7] [1, 2, 3] 3 folM (by kernel_rfl) (by kernel_rfl) (by kernel_rfl) ?_
      replace hst := hst.drew
      refine DRn (l1 := [0]) (l2 := []) (lc := [1]) (by kernel_rfl) (by kernel_rfl) (by kernel_rfl) ?_
      refine Ry rfl rfl wn (yLbs (us := [.bool r16.1, h17.v]) ST_68 (et rfl e19_7) hst (mtR (mtR mhR)) rfl rfl) ?_
      refine Rn QSn ?_
      refine Lc rfl ?_ LAn
      refine Lk wn (yCall FN_43 (a1 rfl)) (sparseref01_FromInt_ok (hM := gr29) (hst := hst) ) ?_
      clear hst
      rintro _ w ⟨h30, rfl, hst⟩
      refine ⟨_, rfl, ?_⟩
      refine DRn (l1 := []) (l2 := [0]) (lc := [2]) (by kernel_rfl) (by kernel_rfl) (by kernel_rfl) ?_
      refine Rn (Sy rfl rfl wn (yLbs (us := [.bool r16.1, h17.v]) ST_68 (et rfl e19_7) hst (mtR (mtR (mtR mhR))) rfl rfl) rfl QSn) ?_
      refine Lc rfl ?_ LAn
      replace hst := hst.pk 3 [2, 0, 0] rfl
      replace hst := hst.fz
      replace hst := hst.fz
      refine Lk wn (yCall FN_67 (a2 (et rfl rfl) (et rfl rfl))) (sparseref01_Sub_ok (hM := gr31) (hst := hst) (q1 := (mtF mhF)) (q2 := mhF)) ?_
      clear hst
      rintro _ w ⟨h32, rfl, hst⟩
      refine ⟨_, rfl, ?_⟩
      refine DRn (l1 := []) (l2 := []) (lc := [3]) (by kernel_rfl) (by kernel_rfl) (by kernel_rfl) ?_
      refine Rn QSn ?_
      refine Lc rfl ?_ LAn
      replace hst := hst.pk 3 [2, 0, 0] rfl
      refine LT wn (r_stbn (vals' := [.bool r31.1, h32.v]) (us := [.bool r31.1, h32.v]) hst ST_68 (et rfl e19_7) (et rfl rfl) rfl rfl (one_of rfl) rfl) ?_
      clear hst
      intro w hst
      refine DRz (l1 := []) (l2 := []) (by kernel_rfl) (by kernel_rfl) ?_
      refine Rn QSn ?_
      exact j2 _ _ _ _ _ e19_4 e19_7 ((hst.pk 3 [2, 1, 0] rfl).facts (allT (allT allI))) hM
    · refine condF (et rfl e19_35) (bfalse c28) ?_
      refine wp_skip ?_
      exact j2 _ _ _ _ _ e19_4 e19_7 hst hM

theorem sparseref02_down_ok {w0 : World} {ros : List Fact} {rs : List Res} {w : World} {x1 : Bool} {x2 : List Int} {x4 : Int} {h3 : Hdr} {out : Bool × (List Int)} (hM : sparseref02_down x1 x2 x4 = some out) (q1 : imm (rI .u32) h3.v x2 ∈ ros) (hst : St w0 ros (rs) w) :
    Calls Tryd.prog 57 #[.agg #[.bool x1, h3.v], .int .i64 x4] w (fun e w => ∃ (h100002 : Hdr), e = .returned (.agg #[.bool out.1, h100002.v]) ∧ St w0 (ros) (row 100 (rI .u32) h100002.v out.2 :: rs) w) := by
  refine enterQ Tryd.func57 rfl Tryd.ntmps57 rfl fun Q hQ => ?_
  refine seqQ fun Q1 k1 z1 => ?_
  refine wp_region_lit ?_
  refine YB wn rfl (r_box (vals := [.bool x1, h3.v]) hst (et rfl rfl) rfl) ?_
  clear hst
  intro b5 w hst
  refine YB wn rfl (rAl hst ZT_68) ?_
  clear hst
  intro b6 w hst
  refine wpList_nil ?_
  refine k1 _ _ ?_
  refine seqQ fun Q2 k2 z2 => ?_
  refine blockQ fun Q3 qb3 => ?_
  obtain ⟨o1, go1, hM⟩ := bs hM
  have je1_0 : ∀ (x21 : Int) (x22 : Bool) (x24 : List Int) (h23 : Hdr) (f : Nat → Value) (w : World), f 1 = .int .i64 x21 → f 2 = .pointer (some ⟨b5, 0, none⟩) → f 4 = .pointer (some ⟨b6, 0, none⟩) → St w0 (imm (rI .u32) h23.v x24 :: ros) (box b5 68 [.bool x22, h23.v] :: box b6 68 [.bool false, hnil.v] :: rs) w → (x21, x22, x24) = o1 → Q3 (.exit 0) (fr 15 f) w := by
    intro x21 x22 x24 h23 f w eje1_0_1 eje1_0_2 eje1_0_4 hst ho
    subst ho
    refine qb3 _ _ _ ?_
    refine k2 _ _ ?_
    refine seqQ fun Q12 k12 z12 => ?_
    refine wp_region_lit ?_
    refine Y wn rfl (yLbs (us := [.bool x22, h23.v]) ST_68 (et rfl eje1_0_2) hst mhR rfl rfl) ?_
    refine Y wn rfl (ym (v := .int .i64 x21) (et rfl eje1_0_1)) ?_
    refine Y wn rfl (yneg (et rfl rfl)) ?_
    obtain ⟨r25, gr25, hM⟩ := bs hM
    refine Yc wn rfl (yCall FN_52 (a2 (et rfl rfl) (et rfl rfl))) (sparseref01_Shift_ok (hM := gr25) (hst := hst) (q1 := mhF)) ?_
    clear hst
    rintro _ w ⟨h26, rfl, hst⟩
    refine ⟨_, rfl, ?_⟩
    replace hst := hst.pk 3 [2, 0, 0] rfl
    refine YT wn rfl (r_stbn (vals' := [.bool r25.1, h26.v]) (us := [.bool r25.1, h26.v]) hst ST_68 (et rfl eje1_0_4) (et rfl rfl) rfl rfl (one_of rfl) rfl) ?_
    clear hst
    intro w hst
    refine wpList_nil ?_
    refine k12 _ _ ?_
    refine wp_ret ?_
    obtain rfl := someI hM
    exact hQ _ _ _ (fin1r Tryd.results57 (rcs2 rfl eje1_0_4 hst mhR ST_68 rfl) ⟨_, rfl, ((hst.pk 3 [1] rfl).facts (allT allI))⟩)
  refine loopQ (fun s a w => ∃ (x10 : Int) (x11 : Bool) (x13 : List Int) (f : Nat → Value) (h12 : Hdr), (x10, x11, x13) = s ∧ a = fr 15 f ∧ f 1 = .int .i64 x10 ∧ f 2 = .pointer (some ⟨b5, 0, none⟩) ∧ f 4 = .pointer (some ⟨b6, 0, none⟩) ∧ St w0 (imm (rI .u32) h12.v x13 :: ros) (box b5 68 [.bool x11, h12.v] :: box b6 68 [.bool false, hnil.v] :: rs) w) go1 ⟨_, _, _, _, _, rfl, rfl, rfl, rfl, rfl, ((hst.pk 2 [1, 0] rfl).facts (allC q1 allI))⟩ ?_
  clear hst
  rintro _ _ w r1_ ⟨x10, x11, x13, f, h12, rfl, rfl, e1_1, e1_2, e1_4, hst⟩ hM1 ho1 Q100001 n1 zz1
  refine seqQ fun Q13 k13 z13 => ?_
  refine seqQ fun Q14 k14 z14 => ?_
  refine wp_region_lit ?_
  refine Y wn rfl (ym (v := .int .i64 x10) (et rfl e1_1)) ?_
  refine Y wn rfl (ygtr (et rfl rfl) rfl) ?_
  refine wpList_nil ?_
  refine k14 _ _ ?_
  rcases iteS hM1 with ⟨c27, hM1⟩ | ⟨c27, hM1⟩
  · refine condT (et rfl rfl) (decide_eq_true c27) ?_
    refine wp_skip ?_
    refine k13 _ _ ?_
    refine blockQ fun Q15 qb15 => ?_
    refine seqQ fun Q16 k16 z16 => ?_
    refine wp_region_lit ?_
    refine Y wn rfl (yLbs (us := [.bool x11, h12.v]) ST_68 (et rfl e1_2) hst mhR rfl rfl) ?_
    obtain ⟨r28, gr28, hM1⟩ := bs hM1
    refine Yc wn rfl (yCall FN_52 (a2 (et rfl rfl) rfl)) (sparseref01_Shift_ok (hM := gr28) (hst := hst) (q1 := mhF)) ?_
    clear hst
    rintro _ w ⟨h29, rfl, hst⟩
    refine ⟨_, rfl, ?_⟩
    replace hst := hst.pk 2 [1, 0] rfl
    refine YT wn rfl (r_stbn (vals' := [.bool r28.1, h29.v]) (us := [.bool r28.1, h29.v]) hst ST_68 (et rfl e1_2) (et rfl rfl) rfl rfl (one_of rfl) rfl) ?_
    clear hst
    intro w hst
    refine wpList_nil ?_
    refine k16 _ _ ?_
    refine wp_region_lit ?_
    refine Y wn rfl (ym (v := .int .i64 x10) (et rfl e1_1)) ?_
    refine Y wn rfl (ysub (et rfl rfl) rfl) ?_
    refine Y wn rfl (ya (v := .int .i64 (ws .i64 x10 1048576)) (et rfl rfl)) ?_
    refine wpList_nil ?_
    refine qb15 _ _ _ ?_
    replace hst := hst.pk 2 [1, 0] rfl
    replace hst := hst.fz
    obtain rfl := someI hM1
    exact n1 _ _ _ rfl ⟨_, _, _, _, _, rfl, rfl, rfl, e1_2, e1_4, (hst.facts (allC mhF (allT (allT allI))))⟩
  · refine condF (et rfl rfl) (decide_eq_false c27) ?_
    refine wp_exit ?_
    refine z13 _ _ _ rfl ?_
    obtain rfl := someI hM1
    refine zz1 _ _ _ _ rfl rfl ?_
    exact je1_0 _ _ _ _ _ _ e1_1 e1_2 e1_4 hst (ho1 _ rfl)

theorem math_bits_Len32_ok {w0 : World} {ros : List Fact} {rs : List Res} {w : World} {x1 : Int} {out : Int} (hM : math_bits_Len32 x1 = some out) (hst : St w0 ros (rs) w) :
    Calls Tryd.prog 61 #[.int .u32 x1] w (fun e w => e = .returned (.int .i64 out) ∧ St w0 (ros) (rs) w) := by
  refine enterQ Tryd.func61 rfl Tryd.ntmps61 rfl fun Q hQ => ?_
  refine seqQ fun Q1 k1 z1 => ?_
  refine wp_region_lit ?_
  refine Y wn rfl (ya (v := .int .i64 0) rfl) ?_
  refine wpList_nil ?_
  refine k1 _ _ ?_
  refine seqQ fun Q2 k2 z2 => ?_
  refine seqQ fun Q3 k3 z3 => ?_
  refine wp_region_lit ?_
  refine Y wn rfl (ym (v := .int .u32 x1) (et rfl rfl)) ?_
  refine Y wn rfl (ygeq (et rfl rfl) rfl) ?_
  refine wpList_nil ?_
  refine k3 _ _ ?_
  have j1 : ∀ (x2 : Int) (x3 : Int) (f : Nat → Value) (w : World), f 0 = .int .u32 x2 → f 2 = .int .i64 x3 → St w0 (ros) (rs) w → math_bits_Len32_j1 x2 x3 = some out → Q2 .normal (fr 19 f) w := by
    intro x2 x3 f w ej1_0 ej1_2 hst hM
    refine k2 _ _ ?_
    refine seqQ fun Q5 k5 z5 => ?_
    refine seqQ fun Q6 k6 z6 => ?_
    refine wp_region_lit ?_
    refine Y wn rfl (ym (v := .int .u32 x2) (et rfl ej1_0)) ?_
    refine Y wn rfl (ygeq (et rfl rfl) rfl) ?_
    refine wpList_nil ?_
    refine k6 _ _ ?_
    have j2 : ∀ (x4 : Int) (x5 : Int) (f : Nat → Value) (w : World), f 0 = .int .u32 x4 → f 2 = .int .i64 x5 → St w0 (ros) (rs) w → math_bits_Len32_j2 x4 x5 = some out → Q5 .normal (fr 19 f) w := by
      intro x4 x5 f w ej2_0 ej2_2 hst hM
      refine k5 _ _ ?_
      refine seqQ fun Q8 k8 z8 => ?_
      refine wp_region_lit ?_
      refine Y wn rfl (ym (v := .int .i64 x5) (et rfl ej2_2)) ?_
      refine Y wn rfl (ym (v := .int .u32 x4) (et rfl ej2_0)) ?_
      refine Y wn rfl (ycv (k' := .u8) (by kernel_rfl) (by kernel_rfl) (et rfl rfl)) ?_
      obtain ⟨x6, gx6, hM⟩ := bs hM
      refine Y wn rfl (yixs (by kernel_rfl) rfl (et rfl rfl) (by kernel_rfl) gx6) ?_
      refine Y wn rfl (ycv (k' := .i64) (by kernel_rfl) (by kernel_rfl) (et rfl rfl)) ?_
      refine Y wn rfl (yadd (et rfl rfl) (et rfl rfl)) ?_
      refine Y wn rfl (ya (v := .int .i64 (wa .i64 x5 (wc .i64 x6))) (et rfl rfl)) ?_
      refine wpList_nil ?_
      refine k8 _ _ ?_
      refine wp_ret ?_
      obtain rfl := someI hM
      exact hQ _ _ _ (fin1r Tryd.results61 ⟨rfl, rfl⟩ ⟨rfl, hst⟩)
    rcases iteS hM with ⟨c7, hM⟩ | ⟨c7, hM⟩
    · refine condT (et rfl rfl) (decide_eq_true c7) ?_
      refine seqQ fun Q9 k9 z9 => ?_
      refine wp_region_lit ?_
      refine Y wn rfl (ym (v := .int .u32 x2) (et rfl ej1_0)) ?_
      refine Y wn rfl (yshrc (et rfl rfl) rfl) ?_
      refine Y wn rfl (ya (v := .int .u32 (wsrc .u32 x2 8)) (et rfl rfl)) ?_
      refine wpList_nil ?_
      refine k9 _ _ ?_
      refine wp_region_lit ?_
      refine Y wn rfl (ym (v := .int .i64 x3) (et rfl ej1_2)) ?_
      refine Y wn rfl (yadd (et rfl rfl) rfl) ?_
      refine Y wn rfl (ya (v := .int .i64 (wa .i64 x3 8)) (et rfl rfl)) ?_
      refine wpList_nil ?_
      exact j2 _ _ _ _ rfl rfl hst hM
    · refine condF (et rfl rfl) (decide_eq_false c7) ?_
      refine wp_skip ?_
      exact j2 _ _ _ _ ej1_0 ej1_2 hst hM
  rcases iteS hM with ⟨c8, hM⟩ | ⟨c8, hM⟩
  · refine condT (et rfl rfl) (decide_eq_true c8) ?_
    refine seqQ fun Q10 k10 z10 => ?_
    refine wp_region_lit ?_
    refine Y wn rfl (ym (v := .int .u32 x1) (et rfl rfl)) ?_
    refine Y wn rfl (yshrc (et rfl rfl) rfl) ?_
    refine Y wn rfl (ya (v := .int .u32 (wsrc .u32 x1 16)) (et rfl rfl)) ?_
    refine wpList_nil ?_
    refine k10 _ _ ?_
    refine wp_region_lit ?_
    refine Y wn rfl (ya (v := .int .i64 16) rfl) ?_
    refine wpList_nil ?_
    exact j1 _ _ _ _ rfl rfl hst hM
  · refine condF (et rfl rfl) (decide_eq_false c8) ?_
    refine wp_skip ?_
    exact j1 _ _ _ _ rfl rfl hst hM

theorem sparseref01_BitLen_ok {w0 : World} {ros : List Fact} {rs : List Res} {w : World} {x1 : Bool} {x2 : List Int} {h3 : Hdr} {out : Int} (hM : sparseref01_BitLen x1 x2 = some out) (q1 : imm (rI .u32) h3.v x2 ∈ ros) (hst : St w0 ros (rs) w) :
    Calls Tryd.prog 49 #[.agg #[.bool x1, h3.v]] w (fun e w => e = .returned (.int .i64 out) ∧ St w0 (ros) (rs) w) := by
  refine enterQ Tryd.func49 rfl Tryd.ntmps49 rfl fun Q hQ => ?_
  refine seqQ fun Q1 k1 z1 => ?_
  refine wp_region_lit ?_
  refine YB wn rfl (r_box (vals := [.bool x1, h3.v]) hst (et rfl rfl) rfl) ?_
  clear hst
  intro b4 w hst
  refine Y wn rfl (ya (v := .int .i64 0) rfl) ?_
  refine wpList_nil ?_
  refine k1 _ _ ?_
  refine seqQ fun Q2 k2 z2 => ?_
  refine wp_region_lit ?_
  refine Y wn rfl (yFb FL_68_1 (et rfl rfl)) ?_
  refine Y wn rfl (yLb (u := h3.v) O_66 (et rfl rfl) hst mhR rfl) ?_
  obtain ⟨r5, gr5, hM⟩ := bs hM
  refine Yc wn rfl (yCall FN_60 (a1 (et rfl rfl))) (sparseref01_trim_ok (hM := gr5) (hst := hst) (q1 := q1)) ?_
  clear hst
  rintro _ w ⟨h6, rfl, hst⟩
  refine ⟨_, rfl, ?_⟩
  refine Y wn rfl (ya (v := h6.v) (et rfl rfl)) ?_
  refine wpList_nil ?_
  refine k2 _ _ ?_
  refine seqQ fun Q3 k3 z3 => ?_
  refine seqQ fun Q4 k4 z4 => ?_
  refine wp_region_lit ?_
  refine Y wn rfl (ym (v := h6.v) (et rfl rfl)) ?_
  refine Y wn rfl (yLen SL_66 (et rfl rfl) hst (rdO mhR)) ?_
  refine Y wn rfl (yeql (et rfl rfl) rfl) ?_
  refine wpList_nil ?_
  refine k4 _ _ ?_
  rcases iteS hM with ⟨c7, hM⟩ | ⟨c7, hM⟩
  · refine condT (et rfl rfl) (decide_eq_true c7) ?_
    refine seqQ fun Q5 k5 z5 => ?_
    refine wp_region_lit ?_
    refine Y wn rfl (ya (v := .int .i64 0) rfl) ?_
    refine wpList_nil ?_
    refine k5 _ _ ?_
    refine wp_ret ?_
    refine z3 _ _ _ rfl ?_
    obtain rfl := someI hM
    exact hQ _ _ _ (fin1r Tryd.results49 ⟨rfl, rfl⟩ ⟨rfl, (hst.pk 2 [] rfl)⟩)
  · refine condF (et rfl rfl) (decide_eq_false c7) ?_
    refine wp_skip ?_
    refine k3 _ _ ?_
    refine seqQ fun Q6 k6 z6 => ?_
    refine wp_region_lit ?_
    refine Y wn rfl (ym (v := h6.v) (et rfl rfl)) ?_
    refine Y wn rfl (yLen SL_66 (et rfl rfl) hst (rdO mhR)) ?_
    refine Y wn rfl (ysub (et rfl rfl) rfl) ?_
    refine Y wn rfl (ymul rfl (et rfl rfl)) ?_
    refine Y wn rfl (ym (v := h6.v) (et rfl rfl)) ?_
    refine Y wn rfl (ym (v := h6.v) (et rfl rfl)) ?_
    refine Y wn rfl (yLen SL_66 (et rfl rfl) hst (rdO mhR)) ?_
    refine Y wn rfl (ysub (et rfl rfl) rfl) ?_
    obtain ⟨x8, gx8, hM⟩ := bs hM
    refine Y wn rfl (yIa SL_66 (et rfl rfl) (et rfl rfl) hst (rdO mhR) gx8) ?_
    refine Y wn rfl (yI O_100 (et rfl rfl) hst (rdO mhR) gx8) ?_
    obtain ⟨r9, gr9, hM⟩ := bs hM
    refine Yc wn rfl (yCall FN_61 (a1 (et rfl rfl))) (math_bits_Len32_ok (hM := gr9) (hst := hst) ) ?_
    clear hst
    rintro _ w ⟨rfl, hst⟩
    refine ⟨_, rfl, ?_⟩
    refine Y wn rfl (yadd (et rfl rfl) (et rfl rfl)) ?_
    refine Y wn rfl (ya (v := .int .i64 (wa .i64 (wm .i64 32 (ws .i64 (r5.length : Int) 1)) r9)) (et rfl rfl)) ?_
    refine wpList_nil ?_
    refine k6 _ _ ?_
    refine wp_ret ?_
    obtain rfl := someI hM
    exact hQ _ _ _ (fin1r Tryd.results49 ⟨rfl, rfl⟩ ⟨rfl, (hst.pk 2 [] rfl)⟩)

theorem sparseref02_Make_ok {w0 : World} {ros : List Fact} {rs : List Res} {w : World} {x1 : Bool} {x2 : List Int} {x4 : Int} {h3 : Hdr} {out : Bool × Bool × (List Int) × Int} (hM : sparseref02_Make x1 x2 x4 = some out) (q1 : imm (rI .u32) h3.v x2 ∈ ros) (q2 : globF ∈ ros) (hst : St w0 ros (rs) w) :
    Calls Tryd.prog 42 #[.agg #[.bool x1, h3.v], .int .i64 x4] w (fun e w => ∃ (h100003 : Hdr), e = .returned (.agg #[.bool out.1, .bool out.2.1, h100003.v, .int .i64 out.2.2.2]) ∧ St w0 (imm (rI .u32) h100003.v out.2.2.1 :: ros) (rs) w) := by
  refine enterQ Tryd.func42 rfl Tryd.ntmps42 rfl fun Q hQ => ?_
  refine seqQ fun Q1 k1 z1 => ?_
  refine wp_region_lit ?_
  refine YB wn rfl (r_box (vals := [.bool x1, h3.v]) hst (et rfl rfl) rfl) ?_
  clear hst
  intro b5 w hst
  refine YB wn rfl (rAl hst ZT_70) ?_
  clear hst
  intro b6 w hst
  refine wpList_nil ?_
  refine k1 _ _ ?_
  refine seqQ fun Q2 k2 z2 => ?_
  refine wp_region_lit ?_
  refine Y wn rfl (yLbs (us := [.bool x1, h3.v]) ST_68 (et rfl rfl) hst (mtR mhR) rfl rfl) ?_
  obtain ⟨r7, gr7, hM⟩ := bs hM
  refine Yc wn rfl (yCall FN_48 (a1 (et rfl rfl))) (sparseref01_Norm_ok (hM := gr7) (hst := hst) (q1 := q1)) ?_
  clear hst
  rintro _ w ⟨h8, rfl, hst⟩
  refine ⟨_, rfl, ?_⟩
  refine YB wn rfl (rAl hst ZT_68) ?_
  clear hst
  intro b9 w hst
  refine YT wn rfl (r_stbn (vals' := [.bool r7.1, h8.v]) (us := [.bool r7.1, h8.v]) hst ST_68 (et rfl rfl) (et rfl rfl) rfl rfl (one_of rfl) rfl) ?_
  clear hst
  intro w hst
  refine wpList_nil ?_
  refine k2 _ _ ?_
  refine seqQ fun Q3 k3 z3 => ?_
  refine seqQ fun Q4 k4 z4 => ?_
  refine wp_region_lit ?_
  refine Y wn rfl (yFb FL_68_1 (et rfl rfl)) ?_
  refine Y wn rfl (yLb (u := h8.v) O_66 (et rfl rfl) hst mhR rfl) ?_
  refine Y wn rfl (yLen SL_66 (et rfl rfl) hst (rdO (mtR mhR))) ?_
  refine Y wn rfl (yeql (et rfl rfl) rfl) ?_
  refine wpList_nil ?_
  refine k4 _ _ ?_
  rcases iteS hM with ⟨c10, hM⟩ | ⟨c10, hM⟩
  · refine condT (et rfl rfl) (decide_eq_true c10) ?_
    refine seqQ fun Q5 k5 z5 => ?_
    refine wp_region_lit ?_
    refine Y wn rfl (ybuild (us := [.bool false, .bool false, hnil.v, .int .i64 0]) [] SO_70 bp0 rfl) ?_
    replace hst := hst.pk 3 [2, 0, 0] rfl
    refine YT wn rfl (r_stbn (vals' := [.bool false, .bool false, hnil.v, .int .i64 0]) (us := [.bool false, .bool false, hnil.v, .int .i64 0]) hst ST_70 (et rfl rfl) (et rfl rfl) rfl rfl (one_of rfl) rfl) ?_
    clear hst
    intro w hst
    refine wpList_nil ?_
    refine k5 _ _ ?_
    refine wp_ret ?_
    refine z3 _ _ _ rfl ?_
    obtain rfl := someI hM
    replace hst := hst.immNh (rI .u32)
    exact hQ _ _ _ (fin1r Tryd.results42 (rcs2 rfl rfl hst mhR ST_70 rfl) ⟨_, rfl, (hst.pk 4 [] rfl)⟩)
  · refine condF (et rfl rfl) (decide_eq_false c10) ?_
    refine wp_skip ?_
    refine k3 _ _ ?_
    refine seqQ fun Q6 k6 z6 => ?_
    refine seqQ fun Q7 k7 z7 => ?_
    refine wp_region_lit ?_
    refine Y wn rfl (ym (v := .int .i64 x4) (et rfl rfl)) ?_
    refine Y wn rfl (ygtr (et rfl rfl) rfl) ?_
    refine wpList_nil ?_
    refine k7 _ _ ?_
    rcases iteS hM with ⟨c11, hM⟩ | ⟨c11, hM⟩
    · refine condT (et rfl rfl) (decide_eq_true c11) ?_
      refine seqQ fun Q8 k8 z8 => ?_
      refine wp_region_lit ?_
      obtain ⟨r12, gr12, hM⟩ := bs hM
      refine Yc wn rfl (yCall FN_41 a0) (sparseref02_Bad_ok (hM := gr12) (hst := hst) ) ?_
      clear hst
      rintro _ w ⟨rfl, hst⟩
      refine ⟨_, rfl, ?_⟩
      replace hst := hst.pk 3 [2, 0, 0] rfl
      refine YT wn rfl (r_stbn (vals' := [.bool r12.1, .bool r12.2.1, hnil.v, .int .i64 r12.2.2]) (us := [.bool r12.1, .bool r12.2.1, hnil.v, .int .i64 r12.2.2]) hst ST_70 (et rfl rfl) (et rfl rfl) rfl rfl (one_of rfl) rfl) ?_
      clear hst
      intro w hst
      refine wpList_nil ?_
      refine k8 _ _ ?_
      refine wp_ret ?_
      refine z6 _ _ _ rfl ?_
      obtain rfl := someI hM
      replace hst := hst.immNh (rI .u32)
      exact hQ _ _ _ (fin1r Tryd.results42 (rcs2 rfl rfl hst mhR ST_70 rfl) ⟨_, rfl, (hst.pk 4 [] rfl)⟩)
    · refine condF (et rfl rfl) (decide_eq_false c11) ?_
      refine wp_skip ?_
      refine k6 _ _ ?_
      refine seqQ fun Q9 k9 z9 => ?_
      refine wp_region_lit ?_
      refine Y wn rfl (yLbs (us := [.bool r7.1, h8.v]) ST_68 (et rfl rfl) hst mhR rfl rfl) ?_
      obtain ⟨r13, gr13, hM⟩ := bs hM
      replace hst := hst.pk 2 [1, 0] rfl
      replace hst := hst.fz
      refine Yc wn rfl (yCall FN_56 (a1 (et rfl rfl))) (sparseref01_TrailingZeros_ok (hM := gr13) (hst := hst) (q1 := mhF) (q2 := (mtF q2))) ?_
      clear hst
      rintro _ w ⟨rfl, hst⟩
      refine ⟨_, rfl, ?_⟩
      refine Y wn rfl (ya (v := .int .i64 r13) (et rfl rfl)) ?_
      refine wpList_nil ?_
      refine k9 _ _ ?_
      refine seqQ fun Q10 k10 z10 => ?_
      refine wp_region_lit ?_
      refine Y wn rfl (ym (v := .int .i64 x4) (et rfl rfl)) ?_
      refine Y wn rfl (ym (v := .int .i64 r13) (et rfl rfl)) ?_
      refine Y wn rfl (yadd (et rfl rfl) (et rfl rfl)) ?_
      refine Y wn rfl (ya (v := .int .i64 (wa .i64 x4 r13)) (et rfl rfl)) ?_
      refine wpList_nil ?_
      refine k10 _ _ ?_
      refine seqQ fun Q11 k11 z11 => ?_
      refine wp_region_lit ?_
      refine Y wn rfl (yLbs (us := [.bool r7.1, h8.v]) ST_68 (et rfl rfl) hst mhR rfl rfl) ?_
      obtain ⟨r14, gr14, hM⟩ := bs hM
      refine Yc wn rfl (yCall FN_40 (a1 (et rfl rfl))) (sparseref01_Abs_ok (hM := gr14) (hst := hst) (q1 := mhF)) ?_
      clear hst
      rintro _ w ⟨h15, rfl, hst⟩
      refine ⟨_, rfl, ?_⟩
      replace hst := hst.pk 2 [1, 0] rfl
      refine YT wn rfl (r_stbn (vals' := [.bool r14.1, h15.v]) (us := [.bool r14.1, h15.v]) hst ST_68 (et rfl rfl) (et rfl rfl) rfl rfl (one_of rfl) rfl) ?_
      clear hst
      intro w hst
      refine wpList_nil ?_
      refine k11 _ _ ?_
      refine seqQ fun Q12 k12 z12 => ?_
      refine wp_region_lit ?_
      refine Y wn rfl (yLbs (us := [.bool r14.1, h15.v]) ST_68 (et rfl rfl) hst mhR rfl rfl) ?_
      refine Y wn rfl (ym (v := .int .i64 r13) (et rfl rfl)) ?_
      obtain ⟨r16, gr16, hM⟩ := bs hM
      replace hst := hst.pk 2 [1, 0] rfl
      replace hst := hst.fz
      refine Yc wn rfl (yCall FN_57 (a2 (et rfl rfl) (et rfl rfl))) (sparseref02_down_ok (hM := gr16) (hst := hst) (q1 := mhF)) ?_
      clear hst
      rintro _ w ⟨h17, rfl, hst⟩
      refine ⟨_, rfl, ?_⟩
      replace hst := hst.pk 2 [1, 0] rfl
      refine YT wn rfl (r_stbn (vals' := [.bool r16.1, h17.v]) (us := [.bool r16.1, h17.v]) hst ST_68 (et rfl rfl) (et rfl rfl) rfl rfl (one_of rfl) rfl) ?_
      clear hst
      intro w hst
      refine wpList_nil ?_
      refine k12 _ _ ?_
      refine seqQ fun Q13 k13 z13 => ?_
      refine seqQ fun Q14 k14 z14 => ?_
      refine wp_region_lit ?_
      refine Y wn rfl (ym (v := .int .i64 (wa .i64 x4 r13)) (et rfl rfl)) ?_
      refine Y wn rfl (ylss (et rfl rfl) rfl) ?_
      refine Y wn rfl (ym (v := .bool (decide ((wa .i64 x4 r13) < (-65536)))) (et rfl rfl)) ?_
      obtain ⟨r19, gr19, hM⟩ := bs hM
      refine joinW 6 (fun f w => f 2 = .pointer (some ⟨b5, 0, none⟩) ∧ f 4 = .pointer (some ⟨b6, 0, none⟩) ∧ f 5 = .pointer (some ⟨b9, 0, none⟩) ∧ f 7 = .int .i64 (wa .i64 x4 r13) ∧ f 36 = .bool r19 ∧ St w0 (imm (rI .u32) h17.v r16.2 :: ros) (box b5 68 [.bool x1, h3.v] :: box b6 70 [.bool false, .bool false, hnil.v, .int .i64 0] :: box b9 68 [.bool r16.1, h17.v] :: rs) w) (fun j1 => ?_) ?_
      · rcases iteS gr19 with ⟨c21, gr19⟩ | ⟨c21, gr19⟩
        · refine Gn (wx rfl rfl rfl (decide_eq_true c21)) rfl ?_
          refine Gn (wx rfl rfl rfl (decide_eq_true c21)) rfl ?_
          refine Gn (wx rfl rfl rfl (decide_eq_true c21)) rfl ?_
          refine Gn (wx rfl rfl rfl (decide_eq_true c21)) rfl ?_
          refine Gn (wx rfl rfl rfl (decide_eq_true c21)) rfl ?_
          refine Y wn rfl (ypt (v := .bool true) (et rfl rfl) (decide_eq_true c21) rfl) ?_
          obtain rfl := someI gr19
          replace hst := hst.pk 2 [1, 0] rfl
          replace hst := hst.fz
          exact j1 _ _ ⟨rfl, rfl, rfl, rfl, rfl, ((hst.pk 3 [2, 1, 0] rfl).facts (allC mhF (allT (allT (allT allI)))))⟩
        · refine Y (wg rfl rfl rfl (decide_eq_false c21)) rfl (ym (v := .int .i64 (wa .i64 x4 r13)) (et rfl rfl)) ?_
          refine Y (wg rfl rfl rfl (decide_eq_false c21)) rfl (yLbs (us := [.bool r16.1, h17.v]) ST_68 (et rfl rfl) hst mhR rfl rfl) ?_
          obtain ⟨r22, gr22, gr19⟩ := bs gr19
          replace hst := hst.pk 2 [1, 0] rfl
          replace hst := hst.fz
          refine Yc (wg rfl rfl rfl (decide_eq_false c21)) rfl (yCall FN_49 (a1 (et rfl rfl))) (sparseref01_BitLen_ok (hM := gr22) (hst := hst) (q1 := mhF)) ?_
          clear hst
          rintro _ w ⟨rfl, hst⟩
          refine ⟨_, rfl, ?_⟩
          refine Y (wg rfl rfl rfl (decide_eq_false c21)) rfl (yadd (et rfl rfl) (et rfl rfl)) ?_
          refine Y (wg rfl rfl rfl (decide_eq_false c21)) rfl (ygtr (et rfl rfl) rfl) ?_
          refine Y wn rfl (ypf (v := .bool (decide ((65536 : Int) < (wa .i64 (wa .i64 x4 r13) r22)))) (et rfl rfl) (decide_eq_false c21) (et rfl rfl)) ?_
          obtain rfl := someI gr19
          exact j1 _ _ ⟨rfl, rfl, rfl, rfl, rfl, ((hst.pk 3 [2, 1, 0] rfl).facts (allC mhF (allT (allT (allT allI)))))⟩
      clear hst
      rintro f w ⟨e20_2, e20_4, e20_5, e20_7, e20_36, hst⟩
      refine wpList_nil ?_
      refine k14 _ _ ?_
      rcases iteS hM with ⟨c23, hM⟩ | ⟨c23, hM⟩
      · refine condT (et rfl e20_36) c23 ?_
        refine seqQ fun Q15 k15 z15 => ?_
        refine wp_region_lit ?_
        obtain ⟨r24, gr24, hM⟩ := bs hM
        refine Yc wn rfl (yCall FN_41 a0) (sparseref02_Bad_ok (hM := gr24) (hst := hst) ) ?_
        clear hst
        rintro _ w ⟨rfl, hst⟩
        refine ⟨_, rfl, ?_⟩
        replace hst := hst.pk 2 [1, 0] rfl
        refine YT wn rfl (r_stbn (vals' := [.bool r24.1, .bool r24.2.1, hnil.v, .int .i64 r24.2.2]) (us := [.bool r24.1, .bool r24.2.1, hnil.v, .int .i64 r24.2.2]) hst ST_70 (et rfl e20_4) (et rfl rfl) rfl rfl (one_of rfl) rfl) ?_
        clear hst
        intro w hst
        refine wpList_nil ?_
        refine k15 _ _ ?_
        refine wp_ret ?_
        refine z13 _ _ _ rfl ?_
        obtain rfl := someI hM
        replace hst := hst.immNh (rI .u32)
        exact hQ _ _ _ (fin1r Tryd.results42 (rcs2 rfl e20_4 hst mhR ST_70 rfl) ⟨_, rfl, ((hst.pk 3 [] rfl).facts (allC mhF (allT (allT allI))))⟩)
      · refine condF (et rfl e20_36) (bfalse c23) ?_
        refine wp_skip ?_
        refine k13 _ _ ?_
        refine seqQ fun Q16 k16 z16 => ?_
        refine wp_region_lit ?_
        refine Y wn rfl (yFb FL_68_0 (et rfl e20_2)) ?_
        refine Y wn rfl (yLb (u := .bool x1) O_4 (et rfl rfl) hst mhR rfl) ?_
        refine Y wn rfl (yFb FL_68_0 (et rfl e20_5)) ?_
        replace hst := hst.pk 3 [2, 0, 0] rfl
        refine YT wn rfl (r_stb1 (vals' := [.bool x1, h17.v]) hst O_4 (et rfl rfl) (et rfl rfl) rfl rfl rfl rfl) ?_
        clear hst
        intro w hst
        refine wpList_nil ?_
        refine k16 _ _ ?_
        refine seqQ fun Q17 k17 z17 => ?_
        refine wp_region_lit ?_
        refine Y wn rfl (yLbs (us := [.bool x1, h17.v]) ST_68 (et rfl e20_5) hst mhR rfl rfl) ?_
        refine Y wn rfl (ym (v := .int .i64 (wa .i64 x4 r13)) (et rfl e20_7)) ?_
        refine Y wn rfl (ybuild (us := [.bool false, .bool x1, h17.v, .int .i64 (wa .i64 x4 r13)]) [(1, .agg #[.bool x1, h17.v]), (2, .int .i64 (wa .i64 x4 r13))] SO_70 (bp2 (et rfl rfl) (et rfl rfl)) rfl) ?_
        replace hst := hst.pk 3 [2, 0, 0] rfl
        refine YT wn rfl (r_stbn (vals' := [.bool false, .bool x1, h17.v, .int .i64 (wa .i64 x4 r13)]) (us := [.bool false, .bool x1, h17.v, .int .i64 (wa .i64 x4 r13)]) hst ST_70 (et rfl e20_4) (et rfl rfl) rfl rfl (one_of rfl) rfl) ?_
        clear hst
        intro w hst
        refine wpList_nil ?_
        refine k17 _ _ ?_
        refine wp_ret ?_
        obtain rfl := someI hM
        exact hQ _ _ _ (fin1r Tryd.results42 (rcs2 rfl e20_4 hst mhR ST_70 rfl) ⟨_, rfl, (hst.pk 3 [] rfl)⟩)

theorem sparseref02_FromInt_ok {w0 : World} {ros : List Fact} {rs : List Res} {w : World} {x1 : Int} {out : Bool × Bool × (List Int) × Int} (hM : sparseref02_FromInt x1 = some out) (q1 : globF ∈ ros) (hst : St w0 ros (rs) w) :
    Calls Tryd.prog 27 #[.int .i64 x1] w (fun e w => ∃ (h100003 : Hdr), e = .returned (.agg #[.bool out.1, .bool out.2.1, h100003.v, .int .i64 out.2.2.2]) ∧ St w0 (imm (rI .u32) h100003.v out.2.2.1 :: ros) (rs) w) := by
  refine enterQ Tryd.func27 rfl Tryd.ntmps27 rfl fun Q hQ => ?_
  refine seqQ fun Q1 k1 z1 => ?_
  refine wp_region_lit ?_
  refine YB wn rfl (rAl hst ZT_70) ?_
  clear hst
  intro b2 w hst
  refine wpList_nil ?_
  refine k1 _ _ ?_
  refine seqQ fun Q2 k2 z2 => ?_
  refine wp_region_lit ?_
  refine Y wn rfl (ym (v := .int .i64 x1) (et rfl rfl)) ?_
  obtain ⟨r3, gr3, hM⟩ := bs hM
  refine Yc wn rfl (yCall FN_43 (a1 (et rfl rfl))) (sparseref01_FromInt_ok (hM := gr3) (hst := hst) ) ?_
  clear hst
  rintro _ w ⟨h4, rfl, hst⟩
  refine ⟨_, rfl, ?_⟩
  obtain ⟨r5, gr5, hM⟩ := bs hM
  replace hst := hst.fz
  refine Yc wn rfl (yCall FN_42 (a2 (et rfl rfl) rfl)) (sparseref02_Make_ok (hM := gr5) (hst := hst) (q1 := mhF) (q2 := (mtF q1))) ?_
  clear hst
  rintro _ w ⟨h6, rfl, hst⟩
  refine ⟨_, rfl, ?_⟩
  refine YT wn rfl (r_stbn (vals' := [.bool r5.1, .bool r5.2.1, h6.v, .int .i64 r5.2.2.2]) (us := [.bool r5.1, .bool r5.2.1, h6.v, .int .i64 r5.2.2.2]) hst ST_70 (et rfl rfl) (et rfl rfl) rfl rfl (one_of rfl) rfl) ?_
  clear hst
  intro w hst
  refine wpList_nil ?_
  refine k2 _ _ ?_
  refine wp_ret ?_
  obtain rfl := someI hM
  exact hQ _ _ _ (fin1r Tryd.results27 (rcs2 rfl rfl hst mhR ST_70 rfl) ⟨_, rfl, ((hst.pk 1 [] rfl).facts (allC mhF (allT (allT allI))))⟩)

theorem sparseref02_Norm_ok {w0 : World} {ros : List Fact} {rs : List Res} {w : World} {x1 : Bool} {x2 : Bool} {x3 : List Int} {x5 : Int} {h4 : Hdr} {out : Bool × Bool × (List Int) × Int} (hM : sparseref02_Norm x1 x2 x3 x5 = some out) (q1 : imm (rI .u32) h4.v x3 ∈ ros) (q2 : globF ∈ ros) (hst : St w0 ros (rs) w) :
    Calls Tryd.prog 37 #[.agg #[.bool x1, .bool x2, h4.v, .int .i64 x5]] w (fun e w => ∃ (h100003 : Hdr), e = .returned (.agg #[.bool out.1, .bool out.2.1, h100003.v, .int .i64 out.2.2.2]) ∧ St w0 (imm (rI .u32) h100003.v out.2.2.1 :: ros) (rs) w) := by
  refine enterQ Tryd.func37 rfl Tryd.ntmps37 rfl fun Q hQ => ?_
  refine seqQ fun Q1 k1 z1 => ?_
  refine wp_region_lit ?_
  refine YB wn rfl (r_box (vals := [.bool x1, .bool x2, h4.v, .int .i64 x5]) hst (et rfl rfl) rfl) ?_
  clear hst
  intro b6 w hst
  refine YB wn rfl (rAl hst ZT_70) ?_
  clear hst
  intro b7 w hst
  refine wpList_nil ?_
  refine k1 _ _ ?_
  refine seqQ fun Q2 k2 z2 => ?_
  refine seqQ fun Q3 k3 z3 => ?_
  refine wp_region_lit ?_
  refine Y wn rfl (yFb FL_70_0 (et rfl rfl)) ?_
  refine Y wn rfl (yLb (u := .bool x1) O_4 (et rfl rfl) hst (mtR mhR) rfl) ?_
  refine wpList_nil ?_
  refine k3 _ _ ?_
  rcases iteS hM with ⟨c8, hM⟩ | ⟨c8, hM⟩
  · refine condT (et rfl rfl) c8 ?_
    refine seqQ fun Q4 k4 z4 => ?_
    refine wp_region_lit ?_
    obtain ⟨r9, gr9, hM⟩ := bs hM
    refine Yc wn rfl (yCall FN_41 a0) (sparseref02_Bad_ok (hM := gr9) (hst := hst) ) ?_
    clear hst
    rintro _ w ⟨rfl, hst⟩
    refine ⟨_, rfl, ?_⟩
    refine YT wn rfl (r_stbn (vals' := [.bool r9.1, .bool r9.2.1, hnil.v, .int .i64 r9.2.2]) (us := [.bool r9.1, .bool r9.2.1, hnil.v, .int .i64 r9.2.2]) hst ST_70 (et rfl rfl) (et rfl rfl) rfl rfl (one_of rfl) rfl) ?_
    clear hst
    intro w hst
    refine wpList_nil ?_
    refine k4 _ _ ?_
    refine wp_ret ?_
    refine z2 _ _ _ rfl ?_
    obtain rfl := someI hM
    replace hst := hst.immNh (rI .u32)
    exact hQ _ _ _ (fin1r Tryd.results37 (rcs2 rfl rfl hst mhR ST_70 rfl) ⟨_, rfl, (hst.pk 2 [] rfl)⟩)
  · refine condF (et rfl rfl) (bfalse c8) ?_
    refine wp_skip ?_
    refine k2 _ _ ?_
    refine seqQ fun Q5 k5 z5 => ?_
    refine wp_region_lit ?_
    refine Y wn rfl (yFb FL_70_1 (et rfl rfl)) ?_
    refine Y wn rfl (yLbs (us := [.bool x2, h4.v]) ST_68 (et rfl rfl) hst (mtR mhR) rfl rfl) ?_
    refine Y wn rfl (yFb FL_70_2 (et rfl rfl)) ?_
    refine Y wn rfl (yLb (u := .int .i64 x5) O_3 (et rfl rfl) hst (mtR mhR) rfl) ?_
    obtain ⟨r10, gr10, hM⟩ := bs hM
    refine Yc wn rfl (yCall FN_42 (a2 (et rfl rfl) (et rfl rfl))) (sparseref02_Make_ok (hM := gr10) (hst := hst) (q1 := q1) (q2 := q2)) ?_
    clear hst
    rintro _ w ⟨h11, rfl, hst⟩
    refine ⟨_, rfl, ?_⟩
    refine YT wn rfl (r_stbn (vals' := [.bool r10.1, .bool r10.2.1, h11.v, .int .i64 r10.2.2.2]) (us := [.bool r10.1, .bool r10.2.1, h11.v, .int .i64 r10.2.2.2]) hst ST_70 (et rfl rfl) (et rfl rfl) rfl rfl (one_of rfl) rfl) ?_
    clear hst
    intro w hst
    refine wpList_nil ?_
    refine k5 _ _ ?_
    refine wp_ret ?_
    obtain rfl := someI hM
    exact hQ _ _ _ (fin1r Tryd.results37 (rcs2 rfl rfl hst mhR ST_70 rfl) ⟨_, rfl, (hst.pk 2 [] rfl)⟩)

theorem sparseref01_Sign_ok {w0 : World} {ros : List Fact} {rs : List Res} {w : World} {x1 : Bool} {x2 : List Int} {h3 : Hdr} {out : Int} (hM : sparseref01_Sign x1 x2 = some out) (q1 : imm (rI .u32) h3.v x2 ∈ ros) (hst : St w0 ros (rs) w) :
    Calls Tryd.prog 38 #[.agg #[.bool x1, h3.v]] w (fun e w => e = .returned (.int .i64 out) ∧ St w0 (ros) (rs) w) := by
  refine enterQ Tryd.func38 rfl Tryd.ntmps38 rfl fun Q hQ => ?_
  refine seqQ fun Q1 k1 z1 => ?_
  refine wp_region_lit ?_
  refine YB wn rfl (r_box (vals := [.bool x1, h3.v]) hst (et rfl rfl) rfl) ?_
  clear hst
  intro b4 w hst
  refine Y wn rfl (ya (v := .int .i64 0) rfl) ?_
  refine wpList_nil ?_
  refine k1 _ _ ?_
  refine seqQ fun Q2 k2 z2 => ?_
  refine wp_region_lit ?_
  refine Y wn rfl (yLbs (us := [.bool x1, h3.v]) ST_68 (et rfl rfl) hst mhR rfl rfl) ?_
  obtain ⟨r5, gr5, hM⟩ := bs hM
  refine Yc wn rfl (yCall FN_48 (a1 (et rfl rfl))) (sparseref01_Norm_ok (hM := gr5) (hst := hst) (q1 := q1)) ?_
  clear hst
  rintro _ w ⟨h6, rfl, hst⟩
  refine ⟨_, rfl, ?_⟩
  replace hst := hst.pk 2 [1, 0] rfl
  refine YT wn rfl (r_stbn (vals' := [.bool r5.1, h6.v]) (us := [.bool r5.1, h6.v]) hst ST_68 (et rfl rfl) (et rfl rfl) rfl rfl (one_of rfl) rfl) ?_
  clear hst
  intro w hst
  refine wpList_nil ?_
  refine k2 _ _ ?_
  refine seqQ fun Q3 k3 z3 => ?_
  refine blockQ fun Q4 qb4 => ?_
  refine seqQ fun Q5 k5 z5 => ?_
  refine wp_region_lit ?_
  refine Y wn rfl (yFb FL_68_1 (et rfl rfl)) ?_
  refine Y wn rfl (yLb (u := h6.v) O_66 (et rfl rfl) hst mhR rfl) ?_
  refine Y wn rfl (yLen SL_66 (et rfl rfl) hst (rdO (mtR mhR))) ?_
  refine Y wn rfl (yeql (et rfl rfl) rfl) ?_
  refine Y wn rfl (ya (v := .bool (decide ((r5.2.length : Int) = 0))) (et rfl rfl)) ?_
  refine wpList_nil ?_
  refine k5 _ _ ?_
  rcases iteS hM with ⟨c7, hM⟩ | ⟨c7, hM⟩
  · refine condT (et rfl rfl) (decide_eq_true c7) ?_
    refine seqQ fun Q6 k6 z6 => ?_
    refine wp_region_lit ?_
    refine Y wn rfl (ya (v := .int .i64 0) rfl) ?_
    refine wpList_nil ?_
    refine k6 _ _ ?_
    refine wp_ret ?_
    refine qb4 _ _ _ ?_
    refine z3 _ _ _ rfl ?_
    obtain rfl := someI hM
    exact hQ _ _ _ (fin1r Tryd.results38 ⟨rfl, rfl⟩ ⟨rfl, (hst.pk 2 [] rfl)⟩)
  · refine condF (et rfl rfl) (decide_eq_false c7) ?_
    refine seqQ fun Q7 k7 z7 => ?_
    refine wp_region_lit ?_
    refine Y wn rfl (yFb FL_68_0 (et rfl rfl)) ?_
    refine Y wn rfl (yLb (u := .bool r5.1) O_4 (et rfl rfl) hst mhR rfl) ?_
    refine Y wn rfl (ya (v := .bool r5.1) (et rfl rfl)) ?_
    refine wpList_nil ?_
    refine k7 _ _ ?_
    rcases iteS hM with ⟨c8, hM⟩ | ⟨c8, hM⟩
    · refine condT (et rfl rfl) c8 ?_
      refine seqQ fun Q8 k8 z8 => ?_
      refine wp_region_lit ?_
      refine Y wn rfl (ya (v := .int .i64 (-1)) rfl) ?_
      refine wpList_nil ?_
      refine k8 _ _ ?_
      refine wp_ret ?_
      refine qb4 _ _ _ ?_
      refine z3 _ _ _ rfl ?_
      obtain rfl := someI hM
      exact hQ _ _ _ (fin1r Tryd.results38 ⟨rfl, rfl⟩ ⟨rfl, (hst.pk 2 [] rfl)⟩)
    · refine condF (et rfl rfl) (bfalse c8) ?_
      refine wp_skip ?_
      refine qb4 _ _ _ ?_
      refine k3 _ _ ?_
      refine seqQ fun Q9 k9 z9 => ?_
      refine wp_region_lit ?_
      refine Y wn rfl (ya (v := .int .i64 1) rfl) ?_
      refine wpList_nil ?_
      refine k9 _ _ ?_
      refine wp_ret ?_
      obtain rfl := someI hM
      exact hQ _ _ _ (fin1r Tryd.results38 ⟨rfl, rfl⟩ ⟨rfl, (hst.pk 2 [] rfl)⟩)

theorem sparseref02_Scale_ok {w0 : World} {ros : List Fact} {rs : List Res} {w : World} {x1 : Bool} {x2 : Bool} {x3 : List Int} {x5 : Int} {x6 : Int} {h4 : Hdr} {out : Bool × Bool × (List Int) × Int} (hM : sparseref02_Scale x1 x2 x3 x5 x6 = some out) (q1 : imm (rI .u32) h4.v x3 ∈ ros) (q2 : globF ∈ ros) (hst : St w0 ros (rs) w) :
    Calls Tryd.prog 26 #[.agg #[.bool x1, .bool x2, h4.v, .int .i64 x5], .int .i64 x6] w (fun e w => ∃ (h100003 : Hdr), e = .returned (.agg #[.bool out.1, .bool out.2.1, h100003.v, .int .i64 out.2.2.2]) ∧ St w0 (imm (rI .u32) h100003.v out.2.2.1 :: ros) (rs) w) := by
  refine enterQ Tryd.func26 rfl Tryd.ntmps26 rfl fun Q hQ => ?_
  refine seqQ fun Q1 k1 z1 => ?_
  refine wp_region_lit ?_
  refine YB wn rfl (r_box (vals := [.bool x1, .bool x2, h4.v, .int .i64 x5]) hst (et rfl rfl) rfl) ?_
  clear hst
  intro b7 w hst
  refine YB wn rfl (rAl hst ZT_70) ?_
  clear hst
  intro b8 w hst
  refine wpList_nil ?_
  refine k1 _ _ ?_
  refine seqQ fun Q2 k2 z2 => ?_
  refine wp_region_lit ?_
  refine Y wn rfl (yLbs (us := [.bool x1, .bool x2, h4.v, .int .i64 x5]) ST_70 (et rfl rfl) hst (mtR mhR) rfl rfl) ?_
  obtain ⟨r9, gr9, hM⟩ := bs hM
  refine Yc wn rfl (yCall FN_37 (a1 (et rfl rfl))) (sparseref02_Norm_ok (hM := gr9) (hst := hst) (q1 := q1) (q2 := q2)) ?_
  clear hst
  rintro _ w ⟨h10, rfl, hst⟩
  refine ⟨_, rfl, ?_⟩
  replace hst := hst.pk 2 [1, 0] rfl
  refine YT wn rfl (r_stbn (vals' := [.bool r9.1, .bool r9.2.1, h10.v, .int .i64 r9.2.2.2]) (us := [.bool r9.1, .bool r9.2.1, h10.v, .int .i64 r9.2.2.2]) hst ST_70 (et rfl rfl) (et rfl rfl) rfl rfl (one_of rfl) rfl) ?_
  clear hst
  intro w hst
  refine wpList_nil ?_
  refine k2 _ _ ?_
  refine seqQ fun Q3 k3 z3 => ?_
  refine seqQ fun Q4 k4 z4 => ?_
  refine wp_region_lit ?_
  refine Y wn rfl (yFb FL_70_0 (et rfl rfl)) ?_
  refine Y wn rfl (yLb (u := .bool r9.1) O_4 (et rfl rfl) hst mhR rfl) ?_
  refine Y wn rfl (ym (v := .bool r9.1) (et rfl rfl)) ?_
  obtain ⟨r12, gr12, hM⟩ := bs hM
  refine joinW 5 (fun f w => f 1 = .int .i64 x6 ∧ f 2 = .pointer (some ⟨b7, 0, none⟩) ∧ f 4 = .pointer (some ⟨b8, 0, none⟩) ∧ f 14 = .bool r12 ∧ St w0 (imm (rI .u32) h10.v r9.2.2.1 :: ros) (box b7 70 [.bool r9.1, .bool r9.2.1, h10.v, .int .i64 r9.2.2.2] :: box b8 70 [.bool false, .bool false, hnil.v, .int .i64 0] :: rs) w) (fun j1 => ?_) ?_
  · rcases iteS gr12 with ⟨c14, gr12⟩ | ⟨c14, gr12⟩
    · refine Gn (wx rfl rfl rfl c14) rfl ?_
      refine Gn (wx rfl rfl rfl c14) rfl ?_
      refine Gn (wx rfl rfl rfl c14) rfl ?_
      refine Gn (wx rfl rfl rfl c14) rfl ?_
      refine Y wn rfl (ypt (v := .bool true) (et rfl rfl) c14 rfl) ?_
      obtain rfl := someI gr12
      exact j1 _ _ ⟨rfl, rfl, rfl, rfl, hst⟩
    · refine Y (wg rfl rfl rfl (bfalse c14)) rfl (yFb FL_70_1 (et rfl rfl)) ?_
      refine Y (wg rfl rfl rfl (bfalse c14)) rfl (yLbs (us := [.bool r9.2.1, h10.v]) ST_68 (et rfl rfl) hst mhR rfl rfl) ?_
      obtain ⟨r15, gr15, gr12⟩ := bs gr12
      refine Yc (wg rfl rfl rfl (bfalse c14)) rfl (yCall FN_38 (a1 (et rfl rfl))) (sparseref01_Sign_ok (hM := gr15) (hst := hst) (q1 := mhF)) ?_
      clear hst
      rintro _ w ⟨rfl, hst⟩
      refine ⟨_, rfl, ?_⟩
      refine Y (wg rfl rfl rfl (bfalse c14)) rfl (yeql (et rfl rfl) rfl) ?_
      refine Y wn rfl (ypf (v := .bool (decide (r15 = 0))) (et rfl rfl) (bfalse c14) (et rfl rfl)) ?_
      obtain rfl := someI gr12
      exact j1 _ _ ⟨rfl, rfl, rfl, rfl, hst⟩
  clear hst
  rintro f w ⟨e13_1, e13_2, e13_4, e13_14, hst⟩
  refine wpList_nil ?_
  refine k4 _ _ ?_
  rcases iteS hM with ⟨c16, hM⟩ | ⟨c16, hM⟩
  · refine condT (et rfl e13_14) c16 ?_
    refine seqQ fun Q5 k5 z5 => ?_
    refine wp_region_lit ?_
    refine Y wn rfl (yLbs (us := [.bool r9.1, .bool r9.2.1, h10.v, .int .i64 r9.2.2.2]) ST_70 (et rfl e13_2) hst mhR rfl rfl) ?_
    replace hst := hst.pk 2 [1, 0] rfl
    refine YT wn rfl (r_stbn (vals' := [.bool r9.1, .bool r9.2.1, h10.v, .int .i64 r9.2.2.2]) (us := [.bool r9.1, .bool r9.2.1, h10.v, .int .i64 r9.2.2.2]) hst ST_70 (et rfl e13_4) (et rfl rfl) rfl rfl (one_of rfl) rfl) ?_
    clear hst
    intro w hst
    refine wpList_nil ?_
    refine k5 _ _ ?_
    refine wp_ret ?_
    refine z3 _ _ _ rfl ?_
    obtain rfl := someI hM
    exact hQ _ _ _ (fin1r Tryd.results26 (rcs2 rfl e13_4 hst mhR ST_70 rfl) ⟨_, rfl, (hst.pk 2 [] rfl)⟩)
  · refine condF (et rfl e13_14) (bfalse c16) ?_
    refine wp_skip ?_
    refine k3 _ _ ?_
    refine seqQ fun Q6 k6 z6 => ?_
    refine seqQ fun Q7 k7 z7 => ?_
    refine wp_region_lit ?_
    refine Y wn rfl (ym (v := .int .i64 x6) (et rfl e13_1)) ?_
    refine Y wn rfl (ygtr (et rfl rfl) rfl) ?_
    refine Y wn rfl (ym (v := .bool (decide ((262144 : Int) < x6))) (et rfl rfl)) ?_
    refine joinW 3 (fun f w => f 1 = .int .i64 x6 ∧ f 2 = .pointer (some ⟨b7, 0, none⟩) ∧ f 4 = .pointer (some ⟨b8, 0, none⟩) ∧ f 21 = .bool ((decide ((262144 : Int) < x6)) || (decide (x6 < (-262144)))) ∧ St w0 (imm (rI .u32) h10.v r9.2.2.1 :: ros) (box b7 70 [.bool r9.1, .bool r9.2.1, h10.v, .int .i64 r9.2.2.2] :: box b8 70 [.bool false, .bool false, hnil.v, .int .i64 0] :: rs) w) (fun j2 => ?_) ?_
    · rcases Bool.eq_false_or_eq_true (decide ((262144 : Int) < x6)) with c18 | c18
      · refine Gn (wx rfl rfl rfl c18) rfl ?_
        refine Gn (wx rfl rfl rfl c18) rfl ?_
        refine Y wn rfl (ypt (v := .bool true) (et rfl rfl) c18 rfl) ?_
        exact j2 _ _ ⟨e13_1, e13_2, e13_4, (congrArg Value.bool (orT c18)), hst⟩
      · refine Y (wg rfl rfl rfl c18) rfl (ym (v := .int .i64 x6) (et rfl e13_1)) ?_
        refine Y (wg rfl rfl rfl c18) rfl (ylss (et rfl rfl) rfl) ?_
        refine Y wn rfl (ypf (v := .bool (decide (x6 < (-262144)))) (et rfl rfl) c18 (et rfl rfl)) ?_
        exact j2 _ _ ⟨e13_1, e13_2, e13_4, (congrArg Value.bool (orF c18)), hst⟩
    clear hst
    rintro f w ⟨e17_1, e17_2, e17_4, e17_21, hst⟩
    refine wpList_nil ?_
    refine k7 _ _ ?_
    rcases iteS hM with ⟨c19, hM⟩ | ⟨c19, hM⟩
    · refine condT (et rfl e17_21) c19 ?_
      refine seqQ fun Q8 k8 z8 => ?_
      refine wp_region_lit ?_
      obtain ⟨r20, gr20, hM⟩ := bs hM
      refine Yc wn rfl (yCall FN_41 a0) (sparseref02_Bad_ok (hM := gr20) (hst := hst) ) ?_
      clear hst
      rintro _ w ⟨rfl, hst⟩
      refine ⟨_, rfl, ?_⟩
      replace hst := hst.pk 2 [1, 0] rfl
      refine YT wn rfl (r_stbn (vals' := [.bool r20.1, .bool r20.2.1, hnil.v, .int .i64 r20.2.2]) (us := [.bool r20.1, .bool r20.2.1, hnil.v, .int .i64 r20.2.2]) hst ST_70 (et rfl e17_4) (et rfl rfl) rfl rfl (one_of rfl) rfl) ?_
      clear hst
      intro w hst
      refine wpList_nil ?_
      refine k8 _ _ ?_
      refine wp_ret ?_
      refine z6 _ _ _ rfl ?_
      obtain rfl := someI hM
      replace hst := hst.immNh (rI .u32)
      exact hQ _ _ _ (fin1r Tryd.results26 (rcs2 rfl e17_4 hst mhR ST_70 rfl) ⟨_, rfl, ((hst.pk 2 [] rfl).facts (allC mhF (allT (allT allI))))⟩)
    · refine condF (et rfl e17_21) (bfalse c19) ?_
      refine wp_skip ?_
      refine k6 _ _ ?_
      refine seqQ fun Q9 k9 z9 => ?_
      refine wp_region_lit ?_
      refine Y wn rfl (yFb FL_70_1 (et rfl e17_2)) ?_
      refine Y wn rfl (yLbs (us := [.bool r9.2.1, h10.v]) ST_68 (et rfl rfl) hst mhR rfl rfl) ?_
      refine Y wn rfl (yFb FL_70_2 (et rfl e17_2)) ?_
      refine Y wn rfl (yLb (u := .int .i64 r9.2.2.2) O_3 (et rfl rfl) hst mhR rfl) ?_
      refine Y wn rfl (ym (v := .int .i64 x6) (et rfl e17_1)) ?_
      refine Y wn rfl (yadd (et rfl rfl) (et rfl rfl)) ?_
      obtain ⟨r21, gr21, hM⟩ := bs hM
      refine Yc wn rfl (yCall FN_42 (a2 (et rfl rfl) (et rfl rfl))) (sparseref02_Make_ok (hM := gr21) (hst := hst) (q1 := mhF) (q2 := (mtF q2))) ?_
      clear hst
      rintro _ w ⟨h22, rfl, hst⟩
      refine ⟨_, rfl, ?_⟩
      replace hst := hst.pk 2 [1, 0] rfl
      refine YT wn rfl (r_stbn (vals' := [.bool r21.1, .bool r21.2.1, h22.v, .int .i64 r21.2.2.2]) (us := [.bool r21.1, .bool r21.2.1, h22.v, .int .i64 r21.2.2.2]) hst ST_70 (et rfl e17_4) (et rfl rfl) rfl rfl (one_of rfl) rfl) ?_
      clear hst
      intro w hst
      refine wpList_nil ?_
      refine k9 _ _ ?_
      refine wp_ret ?_
      obtain rfl := someI hM
      exact hQ _ _ _ (fin1r Tryd.results26 (rcs2 rfl e17_4 hst mhR ST_70 rfl) ⟨_, rfl, ((hst.pk 2 [] rfl).facts (allC mhF (allT (allT allI))))⟩)

theorem sparseref03_signed_ok {w0 : World} {ros : List Fact} {rs : List Res} {w : World} {x1 : Bool} {x2 : Int} {out : Int} (hM : sparseref03_signed x1 x2 = some out) (hst : St w0 ros (rs) w) :
    Calls Tryd.prog 54 #[.bool x1, .int .u64 x2] w (fun e w => e = .returned (.int .u64 out) ∧ St w0 (ros) (rs) w) := by
  refine enterQ Tryd.func54 rfl Tryd.ntmps54 rfl fun Q hQ => ?_
  refine seqQ fun Q1 k1 z1 => ?_
  refine wp_region_lit ?_
  refine Y wn rfl (ya (v := .int .u64 0) rfl) ?_
  refine wpList_nil ?_
  refine k1 _ _ ?_
  refine seqQ fun Q2 k2 z2 => ?_
  refine seqQ fun Q3 k3 z3 => ?_
  refine wp_region_lit ?_
  refine Y wn rfl (ym (v := .bool x1) (et rfl rfl)) ?_
  refine wpList_nil ?_
  refine k3 _ _ ?_
  rcases iteS hM with ⟨c3, hM⟩ | ⟨c3, hM⟩
  · refine condT (et rfl rfl) c3 ?_
    refine seqQ fun Q4 k4 z4 => ?_
    refine wp_region_lit ?_
    refine Y wn rfl (ym (v := .int .u64 x2) (et rfl rfl)) ?_
    refine Y wn rfl (yor (et rfl rfl) rfl) ?_
    refine Y wn rfl (ya (v := .int .u64 (wor .u64 x2 9223372036854775808)) (et rfl rfl)) ?_
    refine wpList_nil ?_
    refine k4 _ _ ?_
    refine wp_ret ?_
    refine z2 _ _ _ rfl ?_
    obtain rfl := someI hM
    exact hQ _ _ _ (fin1r Tryd.results54 ⟨rfl, rfl⟩ ⟨rfl, hst⟩)
  · refine condF (et rfl rfl) (bfalse c3) ?_
    refine wp_skip ?_
    refine k2 _ _ ?_
    refine seqQ fun Q5 k5 z5 => ?_
    refine wp_region_lit ?_
    refine Y wn rfl (ym (v := .int .u64 x2) (et rfl rfl)) ?_
    refine Y wn rfl (ya (v := .int .u64 x2) (et rfl rfl)) ?_
    refine wpList_nil ?_
    refine k5 _ _ ?_
    refine wp_ret ?_
    obtain rfl := someI hM
    exact hQ _ _ _ (fin1r Tryd.results54 ⟨rfl, rfl⟩ ⟨rfl, hst⟩)
end Go.Proofs.YtoelidgkfpmgnaaDoor
