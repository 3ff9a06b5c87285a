/- Walks: each function computes its model, printed. -/
import Derived.Test.YtoelidgkfpmgnaaW3
namespace Go.Proofs.Ytoelidgkfpmgnaa
open Go Sx M
set_option maxRecDepth 100000
set_option maxHeartbeats 400000
set_option linter.unusedVariables false
attribute [local irreducible] wpList Code.wp Calls DR QR QS LA LS St
theorem matrix_Entries_ok {w0 : World} {ros : List Fact} {rs : List Res} {w : World} {x1 : Int} {x2 : Int} {x3 : List Int} {x5 : List Int} {x7 : List Int} {h4 : Hdr} {h6 : Hdr} {h8 : Hdr} {out : (List (Int × Int × Int))} (hM : matrix_Entries x1 x2 x3 x5 x7 = some out) (q1 : imm (rI .i64) h4.v x3 ∈ ros) (q2 : imm (rI .i64) h6.v x5 ∈ ros) (q3 : imm (rI .u64) h8.v x7 ∈ ros) (hst : St w0 ros (rs) w) :
    Calls Try.prog 50 #[.agg #[.int .i64 x1, .int .i64 x2, h4.v, h6.v, h8.v]] w (fun e w => ∃ (h100001 : Hdr), e = .returned (h100001.v) ∧ St w0 (ros) (row 77 rTi64i64u64 h100001.v out :: rs) w) := by
  refine enterQ Try.func50 rfl Try.ntmps50 rfl fun Q hQ => ?_
  refine seqQ fun Q1 k1 z1 => ?_
  refine wp_region_lit ?_
  refine YB wn rfl (r_box (vals := [.int .i64 x1, .int .i64 x2, h4.v, h6.v, h8.v]) hst (et rfl rfl) rfl) ?_
  clear hst
  intro b9 w hst
  refine Y wn rfl (ya (v := hnil.v) rfl) ?_
  refine wpList_nil ?_
  refine k1 _ _ ?_
  refine seqQ fun Q2 k2 z2 => ?_
  refine seqQ fun Q3 k3 z3 => ?_
  refine wp_region_lit ?_
  refine Y wn rfl (yLbs (us := [.int .i64 x1, .int .i64 x2, h4.v, h6.v, h8.v]) ST_42 (et rfl rfl) hst mhR rfl rfl) ?_
  obtain ⟨r10, gr10, hM⟩ := bs hM
  refine Yc wn rfl (yCall FN_49 (a1 (et rfl rfl))) (matrix_Check_ok (hM := gr10) (hst := hst) (q1 := q1) (q2 := q2) (q3 := q3)) ?_
  clear hst
  rintro _ w ⟨rfl, hst⟩
  refine ⟨_, rfl, ?_⟩
  refine Y wn rfl (yneq (et rfl rfl) rfl) ?_
  refine wpList_nil ?_
  refine k3 _ _ ?_
  rcases iteS hM with ⟨c11, hM⟩ | ⟨c11, hM⟩
  · refine condF (et rfl rfl) (nF (decide_eq_true c11)) ?_
    refine wp_skip ?_
    refine k2 _ _ ?_
    refine seqQ fun Q4 k4 z4 => ?_
    refine wp_region_lit ?_
    refine Y wn rfl (yLbs (us := [.int .i64 x1, .int .i64 x2, h4.v, h6.v, h8.v]) ST_42 (et rfl rfl) hst mhR rfl rfl) ?_
    obtain ⟨r12, gr12, hM⟩ := bs hM
    refine Yc wn rfl (yCall FN_69 (a1 (et rfl rfl))) (matrix_entries_ok (hM := gr12) (hst := hst) (q1 := q1) (q2 := q2) (q3 := q3)) ?_
    clear hst
    rintro _ w ⟨h13, rfl, hst⟩
    refine ⟨_, rfl, ?_⟩
    refine Y wn rfl (ya (v := h13.v) (et rfl rfl)) ?_
    refine wpList_nil ?_
    refine k4 _ _ ?_
    refine wp_ret ?_
    obtain rfl := someI hM
    exact hQ _ _ _ (fin1r Try.results50 ⟨rfl, rfl⟩ ⟨_, rfl, (hst.pk 2 [0] rfl)⟩)
  · refine condT (et rfl rfl) (nT (decide_eq_false c11)) ?_
    refine seqQ fun Q5 k5 z5 => ?_
    refine wp_region_lit ?_
    refine Y wn rfl (ya (v := hnil.v) rfl) ?_
    refine wpList_nil ?_
    refine k5 _ _ ?_
    refine wp_ret ?_
    refine z2 _ _ _ rfl ?_
    obtain rfl := someI hM
    replace hst := hst.rowNh 77 rTi64i64u64
    exact hQ _ _ _ (fin1r Try.results50 ⟨rfl, rfl⟩ ⟨_, rfl, (hst.pk 2 [0] rfl)⟩)

theorem etree_ColParent_ok {w0 : World} {ros : List Fact} {rs : List Res} {w : World} {x1 : Int} {x2 : Int} {x3 : List Int} {x5 : List Int} {x7 : List Int} {h4 : Hdr} {h6 : Hdr} {h8 : Hdr} {out : (List Int) × Int} (hM : etree_ColParent x1 x2 x3 x5 x7 = some out) (q1 : imm (rI .i64) h4.v x3 ∈ ros) (q2 : imm (rI .i64) h6.v x5 ∈ ros) (q3 : imm (rI .u64) h8.v x7 ∈ ros) (hst : St w0 ros (rs) w) :
    Calls Try.prog 30 #[.agg #[.int .i64 x1, .int .i64 x2, h4.v, h6.v, h8.v]] w (fun e w => ∃ (h100001 : Hdr), e = .returned (.tuple #[h100001.v, .int .i64 out.2]) ∧ St w0 (ros) (row 3 (rI .i64) h100001.v out.1 :: rs) w) := by
  refine enterQ Try.func30 rfl Try.ntmps30 rfl fun Q hQ => ?_
  refine seqQ fun Q1 k1 z1 => ?_
  refine wp_region_lit ?_
  refine YB wn rfl (r_box (vals := [.int .i64 x1, .int .i64 x2, h4.v, h6.v, h8.v]) hst (et rfl rfl) rfl) ?_
  clear hst
  intro b9 w hst
  refine Y wn rfl (ya (v := hnil.v) rfl) ?_
  refine Y wn rfl (ya (v := .int .i64 0) rfl) ?_
  refine wpList_nil ?_
  refine k1 _ _ ?_
  refine seqQ fun Q2 k2 z2 => ?_
  refine wp_region_lit ?_
  refine Y wn rfl (yLbs (us := [.int .i64 x1, .int .i64 x2, h4.v, h6.v, h8.v]) ST_42 (et rfl rfl) hst mhR rfl rfl) ?_
  obtain ⟨r10, gr10, hM⟩ := bs hM
  refine Yc wn rfl (yCall FN_49 (a1 (et rfl rfl))) (matrix_Check_ok (hM := gr10) (hst := hst) (q1 := q1) (q2 := q2) (q3 := q3)) ?_
  clear hst
  rintro _ w ⟨rfl, hst⟩
  refine ⟨_, rfl, ?_⟩
  refine Y wn rfl (ya (v := .int .i64 r10) (et rfl rfl)) ?_
  refine wpList_nil ?_
  refine k2 _ _ ?_
  refine seqQ fun Q3 k3 z3 => ?_
  refine seqQ fun Q4 k4 z4 => ?_
  refine wp_region_lit ?_
  refine Y wn rfl (ym (v := .int .i64 r10) (et rfl rfl)) ?_
  refine Y wn rfl (yneq (et rfl rfl) rfl) ?_
  refine wpList_nil ?_
  refine k4 _ _ ?_
  rcases iteS hM with ⟨c11, hM⟩ | ⟨c11, hM⟩
  · refine condF (et rfl rfl) (nF (decide_eq_true c11)) ?_
    refine wp_skip ?_
    refine k3 _ _ ?_
    refine seqQ fun Q5 k5 z5 => ?_
    refine wp_region_lit ?_
    refine Y wn rfl (yFb FL_42_1 (et rfl rfl)) ?_
    refine Y wn rfl (yLb (u := .int .i64 x2) O_3 (et rfl rfl) hst mhR rfl) ?_
    obtain ⟨r12, gr12, hM⟩ := bs hM
    refine Yc wn rfl (yCall FN_38 (a1 (et rfl rfl))) (etree_newForest_ok (hM := gr12) (hst := hst) ) ?_
    clear hst
    rintro _ w ⟨b13, h14, h15, rfl, hst⟩
    refine ⟨_, rfl, ?_⟩
    refine Y wn rfl (ya (v := .pointer (some ⟨b13, 0, none⟩)) (et rfl rfl)) ?_
    refine wpList_nil ?_
    refine k5 _ _ ?_
    refine seqQ fun Q6 k6 z6 => ?_
    refine wp_region_lit ?_
    refine Y wn rfl (yFb FL_42_0 (et rfl rfl)) ?_
    refine Y wn rfl (yLb (u := .int .i64 x1) O_3 (et rfl rfl) hst (mtR (mtR (mtR mhR))) rfl) ?_
    obtain ⟨x18, gx18, hM⟩ := bs hM
    refine YH wn rfl (rMk hst SL_22 (et rfl rfl) gx18) ?_
    clear hst
    intro h16 w hst
    refine Y wn rfl (ya (v := h16.v) (et rfl rfl)) ?_
    refine wpList_nil ?_
    refine k6 _ _ ?_
    refine seqQ fun Q7 k7 z7 => ?_
    refine seqQ fun Q8 k8 z8 => ?_
    refine wp_region_lit ?_
    refine Y wn rfl (ym (v := h16.v) (et rfl rfl)) ?_
    refine Y wn rfl (yLen SL_22 (et rfl rfl) hst (rdO mhR)) ?_
    refine Y wn rfl (ym (v := .int .i64 0) rfl) ?_
    refine wpList_nil ?_
    refine k8 _ _ ?_
    refine blockQ fun Q9 qb9 => ?_
    obtain ⟨o1, go1, hM⟩ := bs hM
    have je1_0 : ∀ (x27 : List Int) (f : Nat → Value) (w : World), f 1 = .pointer (some ⟨b9, 0, none⟩) → f 5 = .pointer (some ⟨b13, 0, none⟩) → f 6 = h16.v → St w0 (ros) (box b9 42 [.int .i64 x1, .int .i64 x2, h4.v, h6.v, h8.v] :: row 3 (rI .i64) h14.v r12.1 :: row 3 (rI .i64) h15.v r12.2 :: box b13 61 [h14.v, h15.v] :: row 3 (rI .i64) h16.v x27 :: rs) w → x27 = o1 → Q9 (.exit 0) (fr 57 f) w := by
      intro x27 f w eje1_0_1 eje1_0_5 eje1_0_6 hst ho
      subst ho
      refine qb9 _ _ _ ?_
      refine k7 _ _ ?_
      refine seqQ fun Q20 k20 z20 => ?_
      refine seqQ fun Q21 k21 z21 => ?_
      refine wp_region_lit ?_
      refine Y wn rfl (yLbs (us := [.int .i64 x1, .int .i64 x2, h4.v, h6.v, h8.v]) ST_42 (et rfl eje1_0_1) hst mhR rfl rfl) ?_
      obtain ⟨r28, gr28, hM⟩ := bs hM
      refine Yc wn rfl (yCall FN_50 (a1 (et rfl rfl))) (matrix_Entries_ok (hM := gr28) (hst := hst) (q1 := q1) (q2 := q2) (q3 := q3)) ?_
      clear hst
      rintro _ w ⟨h29, rfl, hst⟩
      refine ⟨_, rfl, ?_⟩
      refine Y wn rfl (yLen SL_72 (et rfl rfl) hst (rdO mhR)) ?_
      refine Y wn rfl (ym (v := .int .i64 0) rfl) ?_
      refine wpList_nil ?_
      refine k21 _ _ ?_
      refine blockQ fun Q22 qb22 => ?_
      obtain ⟨o2, go2, hM⟩ := bs hM
      have je2_0 : ∀ (x50 : List Int) (x51 : List Int) (f : Nat → Value) (w : World), f 5 = .pointer (some ⟨b13, 0, none⟩) → St w0 (ros) (row 3 (rI .i64) h14.v x50 :: row 3 (rI .i64) h15.v x51 :: box b13 61 [h14.v, h15.v] :: rs) w → (x50, x51) = o2 → Q22 (.exit 2) (fr 57 f) w := by
        intro x50 x51 f w eje2_0_5 hst ho
        subst ho
        refine qb22 _ _ _ ?_
        refine k20 _ _ ?_
        refine seqQ fun Q35 k35 z35 => ?_
        refine wp_region_lit ?_
        refine Y wn rfl (ym (v := .pointer (some ⟨b13, 0, none⟩)) (et rfl eje2_0_5)) ?_
        refine Y wn rfl (yn (et rfl rfl)) ?_
        refine Y wn rfl (yFb FL_61_0 (et rfl rfl)) ?_
        refine Y wn rfl (yLb (u := h14.v) O_22 (et rfl rfl) hst (mtR (mtR mhR)) rfl) ?_
        refine Y wn rfl (ya (v := h14.v) (et rfl rfl)) ?_
        refine Y wn rfl (ya (v := .int .i64 0) rfl) ?_
        refine wpList_nil ?_
        refine k35 _ _ ?_
        refine wp_ret ?_
        obtain rfl := someI hM
        exact hQ _ _ _ (fin2r Try.results30 ⟨rfl, rfl⟩ ⟨rfl, rfl⟩ ⟨_, rfl, (hst.pk 3 [0] rfl)⟩)
      refine loopQ (fun s a w => ∃ (x36 : List Int) (x37 : List Int) (x38 : List Int) (x39 : Int) (f : Nat → Value), (x36, x37, x38, x39) = s ∧ a = fr 57 f ∧ f 5 = .pointer (some ⟨b13, 0, none⟩) ∧ f 6 = h16.v ∧ f 31 = h29.v ∧ f 32 = .int .i64 (r28.length : Int) ∧ f 33 = .int .i64 x39 ∧ St w0 (ros) (row 3 (rI .i64) h14.v x36 :: row 3 (rI .i64) h15.v x37 :: box b13 61 [h14.v, h15.v] :: row 3 (rI .i64) h16.v x38 :: row 77 rTi64i64u64 h29.v r28 :: rs) w) go2 ⟨_, _, _, _, _, rfl, rfl, eje1_0_5, eje1_0_6, rfl, rfl, rfl, (hst.pk 6 [2, 2, 2, 2, 0] rfl)⟩ ?_
      clear hst
      rintro _ _ w r2_ ⟨x36, x37, x38, x39, f, rfl, rfl, e2_5, e2_6, e2_31, e2_32, e2_33, hst⟩ hM2 ho2 Q100002 n2 zz2
      refine seqQ fun Q36 k36 z36 => ?_
      refine wp_region_lit ?_
      refine Y wn rfl (ylss (et rfl e2_33) (et rfl e2_32)) ?_
      refine wpList_nil ?_
      refine k36 _ _ ?_
      refine seqQ fun Q37 k37 z37 => ?_
      rcases iteS hM2 with ⟨c52, hM2⟩ | ⟨c52, hM2⟩
      · refine condT (et rfl rfl) (decide_eq_true c52) ?_
        refine wp_skip ?_
        refine k37 _ _ ?_
        refine seqQ fun Q38 k38 z38 => ?_
        refine blockQ fun Q39 qb39 => ?_
        refine seqQ fun Q40 k40 z40 => ?_
        refine wp_region_lit ?_
        obtain ⟨x53, gx53, hM2⟩ := bs hM2
        refine Y wn rfl (yIa SL_72 (et rfl e2_31) (et rfl e2_33) hst (rdO (mtR (mtR (mtR (mtR mhR))))) gx53) ?_
        refine Y wn rfl (yFn ST_77 (et rfl rfl) hst (rdO (mtR (mtR (mtR (mtR mhR))))) gx53 rfl) ?_
        refine YB wn rfl (rAl hst ZT_77) ?_
        clear hst
        intro b54 w hst
        refine YT wn rfl (r_stbn (vals' := [.int .i64 x53.1, .int .i64 x53.2.1, .int .u64 x53.2.2]) (us := [.int .i64 x53.1, .int .i64 x53.2.1, .int .u64 x53.2.2]) hst ST_77 (et rfl rfl) (et rfl rfl) rfl rfl (one_of rfl) rfl) ?_
        clear hst
        intro w hst
        refine wpList_nil ?_
        refine k40 _ _ ?_
        refine seqQ fun Q41 k41 z41 => ?_
        obtain ⟨x55, gx55, hM2⟩ := bs hM2
        obtain ⟨r56, gr56, hM2⟩ := bs hM2
        refine wp_drawR [0, 0, 0, 4, 14, 30, 0, 64, 255] [8] 1 folM (by kernel_rfl) (by kernel_rfl) (by kernel_rfl) ?_
        replace hst := hst.drew
        refine DRn (l1 := [0, 1, 2, 3, 4, 5, 6, 7]) (l2 := []) (lc := [8]) (by kernel_rfl) (by kernel_rfl) (by kernel_rfl) ?_
        refine Ry rfl rfl wn (ym (v := .pointer (some ⟨b13, 0, none⟩)) (et rfl e2_5)) ?_
        refine Ry rfl rfl wn (ym (v := h16.v) (et rfl e2_6)) ?_
        refine Ry rfl rfl wn (yFb FL_77_0 (et rfl rfl)) ?_
        refine Ry rfl rfl wn (yLb (u := .int .i64 x53.1) O_3 (et rfl rfl) hst mhR rfl) ?_
        refine Ry rfl rfl wn (yIa SL_22 (et rfl rfl) (et rfl rfl) hst (rdO (mtR (mtR (mtR (mtR mhR))))) gx55) ?_
        refine Ry rfl rfl wn (yI O_3 (et rfl rfl) hst (rdO (mtR (mtR (mtR (mtR mhR))))) gx55) ?_
        refine Ry rfl rfl wn (yFb FL_77_1 (et rfl rfl)) ?_
        refine Ry rfl rfl wn (yLb (u := .int .i64 x53.2.1) O_3 (et rfl rfl) hst mhR rfl) ?_
        refine Rn QSn ?_
        refine Lc rfl ?_ LAn
        replace hst := hst.pk 4 [3, 1, 1, 0] rfl
        refine Lk wn (yCall FN_39 (a3 (et rfl rfl) (et rfl rfl) (et rfl rfl))) (etree_forest_join_ok (hM := gr56) (hst := hst) ) ?_
        clear hst
        rintro _ w ⟨rfl, hst⟩
        refine ⟨_, rfl, ?_⟩
        refine DRz (l1 := []) (l2 := []) (by kernel_rfl) (by kernel_rfl) ?_
        refine Rn QSn ?_
        refine k41 _ _ ?_
        refine wp_region_lit ?_
        refine Y wn rfl (ym (v := h16.v) (et rfl e2_6)) ?_
        refine Y wn rfl (yFb FL_77_0 (et rfl rfl)) ?_
        refine Y wn rfl (yLb (u := .int .i64 x53.1) O_3 (et rfl rfl) hst (mtR (mtR (mtR mhR))) rfl) ?_
        refine Y wn rfl (yFb FL_77_1 (et rfl rfl)) ?_
        refine Y wn rfl (yLb (u := .int .i64 x53.2.1) O_3 (et rfl rfl) hst (mtR (mtR (mtR mhR))) rfl) ?_
        obtain ⟨x57, gx57, hM2⟩ := bs hM2
        refine Y wn rfl (yIs SL_22 (et rfl rfl) (et rfl rfl) hst (rdO (mtR (mtR (mtR (mtR mhR))))) gx57) ?_
        replace hst := hst.pk 5 [4, 0, 0, 0, 0] rfl
        refine YT wn rfl (r_sti (cs := [.int .i64 x53.2.1]) hst O_3 rfl (et rfl rfl) (et rfl rfl) rfl mkI gx57) ?_
        clear hst
        intro w hst
        refine wpList_nil ?_
        refine qb39 _ _ _ ?_
        refine k38 _ _ ?_
        refine wp_region_lit ?_
        refine Y wn rfl (yadd (et rfl e2_33) rfl) ?_
        refine Y wn rfl (ym (v := .int .i64 (wa .i64 x39 1)) (et rfl rfl)) ?_
        refine wpList_nil ?_
        obtain rfl := someI hM2
        exact n2 _ _ _ rfl ⟨_, _, _, _, _, rfl, rfl, e2_5, e2_6, e2_31, e2_32, rfl, (hst.pk 6 [1, 1, 1, 0, 1] rfl)⟩
      · refine condF (et rfl rfl) (decide_eq_false c52) ?_
        refine wp_exit ?_
        refine z37 _ _ _ rfl ?_
        obtain rfl := someI hM2
        refine zz2 _ _ _ _ rfl rfl ?_
        exact je2_0 _ _ _ _ e2_5 (hst.pk 5 [0, 0, 0] rfl) (ho2 _ rfl)
    refine loopQ (fun s a w => ∃ (x21 : List Int) (x22 : Int) (f : Nat → Value), (x21, x22) = s ∧ a = fr 57 f ∧ f 1 = .pointer (some ⟨b9, 0, none⟩) ∧ f 5 = .pointer (some ⟨b13, 0, none⟩) ∧ f 6 = h16.v ∧ f 22 = .int .i64 (x18.length : Int) ∧ f 23 = .int .i64 x22 ∧ St w0 (ros) (box b9 42 [.int .i64 x1, .int .i64 x2, h4.v, h6.v, h8.v] :: row 3 (rI .i64) h14.v r12.1 :: row 3 (rI .i64) h15.v r12.2 :: box b13 61 [h14.v, h15.v] :: row 3 (rI .i64) h16.v x21 :: rs) w) go1 ⟨_, _, _, rfl, rfl, rfl, rfl, rfl, rfl, rfl, (hst.pk 5 [4, 1, 1, 1, 0] rfl)⟩ ?_
    clear hst
    rintro _ _ w r1_ ⟨x21, x22, f, rfl, rfl, e1_1, e1_5, e1_6, e1_22, e1_23, hst⟩ hM1 ho1 Q100001 n1 zz1
    refine seqQ fun Q42 k42 z42 => ?_
    refine wp_region_lit ?_
    refine Y wn rfl (ylss (et rfl e1_23) (et rfl e1_22)) ?_
    refine wpList_nil ?_
    refine k42 _ _ ?_
    refine seqQ fun Q43 k43 z43 => ?_
    rcases iteS hM1 with ⟨c58, hM1⟩ | ⟨c58, hM1⟩
    · refine condT (et rfl rfl) (decide_eq_true c58) ?_
      refine wp_skip ?_
      refine k43 _ _ ?_
      refine seqQ fun Q44 k44 z44 => ?_
      refine blockQ fun Q45 qb45 => ?_
      refine seqQ fun Q46 k46 z46 => ?_
      refine wp_region_lit ?_
      refine Y wn rfl (ym (v := .int .i64 x22) (et rfl e1_23)) ?_
      refine Y wn rfl (ya (v := .int .i64 x22) (et rfl rfl)) ?_
      refine wpList_nil ?_
      refine k46 _ _ ?_
      refine wp_region_lit ?_
      refine Y wn rfl (ym (v := h16.v) (et rfl e1_6)) ?_
      refine Y wn rfl (ym (v := .int .i64 x22) (et rfl rfl)) ?_
      obtain ⟨x59, gx59, hM1⟩ := bs hM1
      refine Y wn rfl (yIs SL_22 (et rfl rfl) (et rfl rfl) hst (rdO (mtR (mtR (mtR (mtR mhR))))) gx59) ?_
      replace hst := hst.pk 5 [4, 0, 0, 0, 0] rfl
      refine YT wn rfl (r_sti (cs := [.int .i64 (-1)]) hst O_3 rfl (et rfl rfl) rfl rfl mkI gx59) ?_
      clear hst
      intro w hst
      refine wpList_nil ?_
      refine qb45 _ _ _ ?_
      refine k44 _ _ ?_
      refine wp_region_lit ?_
      refine Y wn rfl (yadd (et rfl e1_23) rfl) ?_
      refine Y wn rfl (ym (v := .int .i64 (wa .i64 x22 1)) (et rfl rfl)) ?_
      refine wpList_nil ?_
      obtain rfl := someI hM1
      exact n1 _ _ _ rfl ⟨_, _, _, rfl, rfl, e1_1, e1_5, e1_6, e1_22, rfl, (hst.pk 5 [1, 1, 1, 1, 0] rfl)⟩
    · refine condF (et rfl rfl) (decide_eq_false c58) ?_
      refine wp_exit ?_
      refine z43 _ _ _ rfl ?_
      obtain rfl := someI hM1
      refine zz1 _ _ _ _ rfl rfl ?_
      exact je1_0 _ _ _ e1_1 e1_5 e1_6 hst (ho1 _ rfl)
  · refine condT (et rfl rfl) (nT (decide_eq_false c11)) ?_
    refine seqQ fun Q47 k47 z47 => ?_
    refine wp_region_lit ?_
    refine Y wn rfl (ym (v := .int .i64 r10) (et rfl rfl)) ?_
    refine Y wn rfl (ya (v := hnil.v) rfl) ?_
    refine Y wn rfl (ya (v := .int .i64 r10) (et rfl rfl)) ?_
    refine wpList_nil ?_
    refine k47 _ _ ?_
    refine wp_ret ?_
    refine z3 _ _ _ rfl ?_
    obtain rfl := someI hM
    replace hst := hst.rowNh 3 (rI .i64)
    exact hQ _ _ _ (fin2r Try.results30 ⟨rfl, rfl⟩ ⟨rfl, rfl⟩ ⟨_, rfl, (hst.pk 2 [0] rfl)⟩)

theorem sparseref03_IsFinite_ok {w0 : World} {ros : List Fact} {rs : List Res} {w : World} {x1 : Int} {out : Bool} (hM : sparseref03_IsFinite x1 = some out) (hst : St w0 ros (rs) w) :
    Calls Try.prog 105 #[.int .u64 x1] w (fun e w => e = .returned (.bool out) ∧ St w0 (ros) (rs) w) := by
  refine enterQ Try.func105 rfl Try.ntmps105 rfl fun Q hQ => ?_
  refine seqQ fun Q1 k1 z1 => ?_
  refine wp_region_lit ?_
  refine Y wn rfl (ya (v := .bool false) rfl) ?_
  refine wpList_nil ?_
  refine k1 _ _ ?_
  refine seqQ fun Q2 k2 z2 => ?_
  refine wp_region_lit ?_
  refine Y wn rfl (ym (v := .int .u64 x1) (et rfl rfl)) ?_
  refine Y wn rfl (yshrc (et rfl rfl) rfl) ?_
  refine Y wn rfl (yand (et rfl rfl) rfl) ?_
  refine Y wn rfl (yneq (et rfl rfl) rfl) ?_
  refine Y wn rfl (ya (v := .bool (!(decide ((wand .u64 (wsrc .u64 x1 52) 2047) = 2047)))) (et rfl rfl)) ?_
  refine wpList_nil ?_
  refine k2 _ _ ?_
  refine wp_ret ?_
  obtain rfl := someI hM
  exact hQ _ _ _ (fin1r Try.results105 ⟨rfl, rfl⟩ ⟨rfl, hst⟩)

theorem sparseref06_Finite_ok {w0 : World} {ros : List Fact} {rs : List Res} {w : World} {x1 : List Int} {h2 : Hdr} {out : Bool} (hM : sparseref06_Finite x1 = some out) (q1 : imm (rI .u64) h2.v x1 ∈ ros) (hst : St w0 ros (rs) w) :
    Calls Try.prog 87 #[h2.v] w (fun e w => e = .returned (.bool out) ∧ St w0 (ros) (rs) w) := by
  refine enterQ Try.func87 rfl Try.ntmps87 rfl fun Q hQ => ?_
  refine seqQ fun Q1 k1 z1 => ?_
  refine wp_region_lit ?_
  refine Y wn rfl (ya (v := .bool false) rfl) ?_
  refine wpList_nil ?_
  refine k1 _ _ ?_
  refine seqQ fun Q2 k2 z2 => ?_
  refine seqQ fun Q3 k3 z3 => ?_
  refine wp_region_lit ?_
  refine Y wn rfl (ya (v := .int .i64 0) rfl) ?_
  refine wpList_nil ?_
  refine k3 _ _ ?_
  refine blockQ fun Q4 qb4 => ?_
  obtain ⟨o1, go1, hM⟩ := bs hM
  have je1_0 : ∀ (f : Nat → Value) (w : World), St w0 (ros) (rs) w → .inl () = o1 → Q4 (.exit 0) (fr 16 f) w := by
    intro f w hst ho
    subst ho
    refine qb4 _ _ _ ?_
    refine k2 _ _ ?_
    refine seqQ fun Q17 k17 z17 => ?_
    refine wp_region_lit ?_
    refine Y wn rfl (ya (v := .bool true) rfl) ?_
    refine wpList_nil ?_
    refine k17 _ _ ?_
    refine wp_ret ?_
    obtain rfl := someI hM
    exact hQ _ _ _ (fin1r Try.results87 ⟨rfl, rfl⟩ ⟨rfl, hst⟩)
  have je1_1 : ∀ (f : Nat → Value) (w : World), f 2 = .bool false → St w0 (ros) (rs) w → .inr () = o1 → Q4 .ret (fr 16 f) w := by
    intro f w eje1_1_2 hst ho
    subst ho
    refine qb4 _ _ _ ?_
    refine z2 _ _ _ rfl ?_
    obtain rfl := someI hM
    exact hQ _ _ _ (fin1r Try.results87 ⟨rfl, eje1_1_2⟩ ⟨rfl, hst⟩)
  refine loopQ (fun s a w => ∃ (x7 : Int) (f : Nat → Value), x7 = s ∧ a = fr 16 f ∧ f 0 = h2.v ∧ f 3 = .int .i64 x7 ∧ St w0 (ros) (rs) w) go1 ⟨_, _, rfl, rfl, rfl, rfl, hst⟩ ?_
  clear hst
  rintro _ _ w r1_ ⟨x7, f, rfl, rfl, e1_0, e1_3, hst⟩ hM1 ho1 Q100001 n1 zz1
  refine seqQ fun Q18 k18 z18 => ?_
  refine seqQ fun Q19 k19 z19 => ?_
  refine wp_region_lit ?_
  refine Y wn rfl (ym (v := .int .i64 x7) (et rfl e1_3)) ?_
  refine Y wn rfl (ym (v := h2.v) (et rfl e1_0)) ?_
  refine Y wn rfl (yLen SL_40 (et rfl rfl) hst (rdI q1)) ?_
  refine Y wn rfl (ylss (et rfl rfl) (et rfl rfl)) ?_
  refine wpList_nil ?_
  refine k19 _ _ ?_
  rcases iteS hM1 with ⟨c13, hM1⟩ | ⟨c13, hM1⟩
  · refine condT (et rfl rfl) (decide_eq_true c13) ?_
    refine wp_skip ?_
    refine k18 _ _ ?_
    refine seqQ fun Q20 k20 z20 => ?_
    refine blockQ fun Q21 qb21 => ?_
    refine seqQ fun Q22 k22 z22 => ?_
    refine wp_region_lit ?_
    refine Y wn rfl (ym (v := h2.v) (et rfl e1_0)) ?_
    refine Y wn rfl (ym (v := .int .i64 x7) (et rfl e1_3)) ?_
    obtain ⟨x14, gx14, hM1⟩ := bs hM1
    refine Y wn rfl (yIa SL_40 (et rfl rfl) (et rfl rfl) hst (rdI q1) gx14) ?_
    refine Y wn rfl (yI O_75 (et rfl rfl) hst (rdI q1) gx14) ?_
    obtain ⟨r15, gr15, hM1⟩ := bs hM1
    refine Yc wn rfl (yCall FN_105 (a1 (et rfl rfl))) (sparseref03_IsFinite_ok (hM := gr15) (hst := hst) ) ?_
    clear hst
    rintro _ w ⟨rfl, hst⟩
    refine ⟨_, rfl, ?_⟩
    refine Y wn rfl (ynot (et rfl rfl)) ?_
    refine wpList_nil ?_
    refine k22 _ _ ?_
    rcases iteS hM1 with ⟨c16, hM1⟩ | ⟨c16, hM1⟩
    · refine condF (et rfl rfl) (nF c16) ?_
      refine wp_skip ?_
      refine qb21 _ _ _ ?_
      refine k20 _ _ ?_
      refine wp_region_lit ?_
      refine Y wn rfl (ym (v := .int .i64 x7) (et rfl e1_3)) ?_
      refine Y wn rfl (yadd (et rfl rfl) rfl) ?_
      refine Y wn rfl (ya (v := .int .i64 (wa .i64 x7 1)) (et rfl rfl)) ?_
      refine wpList_nil ?_
      obtain rfl := someI hM1
      exact n1 _ _ _ rfl ⟨_, _, rfl, rfl, e1_0, rfl, hst⟩
    · refine condT (et rfl rfl) (nT (bfalse c16)) ?_
      refine seqQ fun Q23 k23 z23 => ?_
      refine wp_region_lit ?_
      refine Y wn rfl (ya (v := .bool false) rfl) ?_
      refine wpList_nil ?_
      refine k23 _ _ ?_
      refine wp_ret ?_
      refine qb21 _ _ _ ?_
      refine z20 _ _ _ rfl ?_
      obtain rfl := someI hM1
      refine zz1 _ _ _ _ rfl rfl ?_
      exact je1_1 _ _ rfl hst (ho1 _ rfl)
  · refine condF (et rfl rfl) (decide_eq_false c13) ?_
    refine wp_exit ?_
    refine z18 _ _ _ rfl ?_
    obtain rfl := someI hM1
    refine zz1 _ _ _ _ rfl rfl ?_
    exact je1_0 _ _ hst (ho1 _ rfl)

theorem sparseref09_Check_ok {w0 : World} {ros : List Fact} {rs : List Res} {w : World} {x1 : Int} {x2 : Int} {x3 : List Int} {x5 : List Int} {x7 : List Int} {h4 : Hdr} {h6 : Hdr} {h8 : Hdr} {out : Int} (hM : sparseref09_Check x1 x2 x3 x5 x7 = some out) (q1 : imm (rI .i64) h4.v x3 ∈ ros) (q2 : imm (rI .i64) h6.v x5 ∈ ros) (q3 : imm (rI .u64) h8.v x7 ∈ ros) (hst : St w0 ros (rs) w) :
    Calls Try.prog 70 #[.agg #[.int .i64 x1, .int .i64 x2, h4.v, h6.v, h8.v]] w (fun e w => e = .returned (.int .i64 out) ∧ St w0 (ros) (rs) w) := by
  refine enterQ Try.func70 rfl Try.ntmps70 rfl fun Q hQ => ?_
  refine seqQ fun Q1 k1 z1 => ?_
  refine wp_region_lit ?_
  refine YB wn rfl (r_box (vals := [.int .i64 x1, .int .i64 x2, h4.v, h6.v, h8.v]) hst (et rfl rfl) rfl) ?_
  clear hst
  intro b9 w hst
  refine Y wn rfl (ya (v := .int .i64 0) rfl) ?_
  refine wpList_nil ?_
  refine k1 _ _ ?_
  refine seqQ fun Q2 k2 z2 => ?_
  refine seqQ fun Q3 k3 z3 => ?_
  refine wp_region_lit ?_
  refine Y wn rfl (yFb FL_42_0 (et rfl rfl)) ?_
  refine Y wn rfl (yLb (u := .int .i64 x1) O_3 (et rfl rfl) hst mhR rfl) ?_
  refine Y wn rfl (ylss (et rfl rfl) rfl) ?_
  refine Y wn rfl (ym (v := .bool (decide (x1 < 0))) (et rfl rfl)) ?_
  refine joinW 4 (fun f w => f 1 = .pointer (some ⟨b9, 0, none⟩) ∧ f 14 = .bool ((decide (x1 < 0)) || (decide ((200 : Int) < x1))) ∧ St w0 (ros) (box b9 42 [.int .i64 x1, .int .i64 x2, h4.v, h6.v, h8.v] :: rs) w) (fun j1 => ?_) ?_
  · rcases Bool.eq_false_or_eq_true (decide (x1 < 0)) with c11 | c11
    · refine Gn (wx rfl rfl rfl c11) rfl ?_
      refine Gn (wx rfl rfl rfl c11) rfl ?_
      refine Gn (wx rfl rfl rfl c11) rfl ?_
      refine Y wn rfl (ypt (v := .bool true) (et rfl rfl) c11 rfl) ?_
      exact j1 _ _ ⟨rfl, (congrArg Value.bool (orT c11)), hst⟩
    · refine Y (wg rfl rfl rfl c11) rfl (yFb FL_42_0 (et rfl rfl)) ?_
      refine Y (wg rfl rfl rfl c11) rfl (yLb (u := .int .i64 x1) O_3 (et rfl rfl) hst mhR rfl) ?_
      refine Y (wg rfl rfl rfl c11) rfl (ygtr (et rfl rfl) rfl) ?_
      refine Y wn rfl (ypf (v := .bool (decide ((200 : Int) < x1))) (et rfl rfl) c11 (et rfl rfl)) ?_
      exact j1 _ _ ⟨rfl, (congrArg Value.bool (orF c11)), hst⟩
  clear hst
  rintro f w ⟨e10_1, e10_14, hst⟩
  refine Y wn rfl (ym (v := .bool ((decide (x1 < 0)) || (decide ((200 : Int) < x1)))) (et rfl e10_14)) ?_
  refine joinW 4 (fun f w => f 1 = .pointer (some ⟨b9, 0, none⟩) ∧ f 19 = .bool (((decide (x1 < 0)) || (decide ((200 : Int) < x1))) || (decide (x2 < 0))) ∧ St w0 (ros) (box b9 42 [.int .i64 x1, .int .i64 x2, h4.v, h6.v, h8.v] :: rs) w) (fun j2 => ?_) ?_
  · rcases Bool.eq_false_or_eq_true (((decide (x1 < 0)) || (decide ((200 : Int) < x1)))) with c13 | c13
    · refine Gn (wx rfl rfl rfl c13) rfl ?_
      refine Gn (wx rfl rfl rfl c13) rfl ?_
      refine Gn (wx rfl rfl rfl c13) rfl ?_
      refine Y wn rfl (ypt (v := .bool true) (et rfl rfl) c13 rfl) ?_
      exact j2 _ _ ⟨e10_1, (congrArg Value.bool (orT c13)), hst⟩
    · refine Y (wg rfl rfl rfl c13) rfl (yFb FL_42_1 (et rfl e10_1)) ?_
      refine Y (wg rfl rfl rfl c13) rfl (yLb (u := .int .i64 x2) O_3 (et rfl rfl) hst mhR rfl) ?_
      refine Y (wg rfl rfl rfl c13) rfl (ylss (et rfl rfl) rfl) ?_
      refine Y wn rfl (ypf (v := .bool (decide (x2 < 0))) (et rfl rfl) c13 (et rfl rfl)) ?_
      exact j2 _ _ ⟨e10_1, (congrArg Value.bool (orF c13)), hst⟩
  clear hst
  rintro f w ⟨e12_1, e12_19, hst⟩
  refine Y wn rfl (ym (v := .bool (((decide (x1 < 0)) || (decide ((200 : Int) < x1))) || (decide (x2 < 0)))) (et rfl e12_19)) ?_
  refine joinW 4 (fun f w => f 1 = .pointer (some ⟨b9, 0, none⟩) ∧ f 24 = .bool ((((decide (x1 < 0)) || (decide ((200 : Int) < x1))) || (decide (x2 < 0))) || (decide ((200 : Int) < x2))) ∧ St w0 (ros) (box b9 42 [.int .i64 x1, .int .i64 x2, h4.v, h6.v, h8.v] :: rs) w) (fun j3 => ?_) ?_
  · rcases Bool.eq_false_or_eq_true ((((decide (x1 < 0)) || (decide ((200 : Int) < x1))) || (decide (x2 < 0)))) with c15 | c15
    · refine Gn (wx rfl rfl rfl c15) rfl ?_
      refine Gn (wx rfl rfl rfl c15) rfl ?_
      refine Gn (wx rfl rfl rfl c15) rfl ?_
      refine Y wn rfl (ypt (v := .bool true) (et rfl rfl) c15 rfl) ?_
      exact j3 _ _ ⟨e12_1, (congrArg Value.bool (orT c15)), hst⟩
    · refine Y (wg rfl rfl rfl c15) rfl (yFb FL_42_1 (et rfl e12_1)) ?_
      refine Y (wg rfl rfl rfl c15) rfl (yLb (u := .int .i64 x2) O_3 (et rfl rfl) hst mhR rfl) ?_
      refine Y (wg rfl rfl rfl c15) rfl (ygtr (et rfl rfl) rfl) ?_
      refine Y wn rfl (ypf (v := .bool (decide ((200 : Int) < x2))) (et rfl rfl) c15 (et rfl rfl)) ?_
      exact j3 _ _ ⟨e12_1, (congrArg Value.bool (orF c15)), hst⟩
  clear hst
  rintro f w ⟨e14_1, e14_24, hst⟩
  refine Y wn rfl (ym (v := .bool ((((decide (x1 < 0)) || (decide ((200 : Int) < x1))) || (decide (x2 < 0))) || (decide ((200 : Int) < x2)))) (et rfl e14_24)) ?_
  refine joinW 5 (fun f w => f 1 = .pointer (some ⟨b9, 0, none⟩) ∧ f 30 = .bool (((((decide (x1 < 0)) || (decide ((200 : Int) < x1))) || (decide (x2 < 0))) || (decide ((200 : Int) < x2))) || (decide ((10000 : Int) < (x5.length : Int)))) ∧ St w0 (ros) (box b9 42 [.int .i64 x1, .int .i64 x2, h4.v, h6.v, h8.v] :: rs) w) (fun j4 => ?_) ?_
  · rcases Bool.eq_false_or_eq_true (((((decide (x1 < 0)) || (decide ((200 : Int) < x1))) || (decide (x2 < 0))) || (decide ((200 : Int) < x2)))) with c17 | c17
    · refine Gn (wx rfl rfl rfl c17) rfl ?_
      refine Gn (wx rfl rfl rfl c17) rfl ?_
      refine Gn (wx rfl rfl rfl c17) rfl ?_
      refine Gn (wx rfl rfl rfl c17) rfl ?_
      refine Y wn rfl (ypt (v := .bool true) (et rfl rfl) c17 rfl) ?_
      exact j4 _ _ ⟨e14_1, (congrArg Value.bool (orT c17)), hst⟩
    · refine Y (wg rfl rfl rfl c17) rfl (yFb FL_42_3 (et rfl e14_1)) ?_
      refine Y (wg rfl rfl rfl c17) rfl (yLb (u := h6.v) O_22 (et rfl rfl) hst mhR rfl) ?_
      refine Y (wg rfl rfl rfl c17) rfl (yLen SL_22 (et rfl rfl) hst (rdI q2)) ?_
      refine Y (wg rfl rfl rfl c17) rfl (ygtr (et rfl rfl) rfl) ?_
      refine Y wn rfl (ypf (v := .bool (decide ((10000 : Int) < (x5.length : Int)))) (et rfl rfl) c17 (et rfl rfl)) ?_
      exact j4 _ _ ⟨e14_1, (congrArg Value.bool (orF c17)), hst⟩
  clear hst
  rintro f w ⟨e16_1, e16_30, hst⟩
  refine wpList_nil ?_
  refine k3 _ _ ?_
  rcases iteS hM with ⟨c18, hM⟩ | ⟨c18, hM⟩
  · refine condT (et rfl e16_30) c18 ?_
    refine seqQ fun Q4 k4 z4 => ?_
    refine wp_region_lit ?_
    refine Y wn rfl (ya (v := .int .i64 6) rfl) ?_
    refine wpList_nil ?_
    refine k4 _ _ ?_
    refine wp_ret ?_
    refine z2 _ _ _ rfl ?_
    obtain rfl := someI hM
    exact hQ _ _ _ (fin1r Try.results70 ⟨rfl, rfl⟩ ⟨rfl, (hst.pk 1 [] rfl)⟩)
  · refine condF (et rfl e16_30) (bfalse c18) ?_
    refine wp_skip ?_
    refine k2 _ _ ?_
    refine seqQ fun Q5 k5 z5 => ?_
    refine wp_region_lit ?_
    refine Y wn rfl (yFb FL_42_3 (et rfl e16_1)) ?_
    refine Y wn rfl (yLb (u := h6.v) O_22 (et rfl rfl) hst mhR rfl) ?_
    refine Y wn rfl (yLen SL_22 (et rfl rfl) hst (rdI q2)) ?_
    refine Y wn rfl (ya (v := .int .i64 (x5.length : Int)) (et rfl rfl)) ?_
    refine wpList_nil ?_
    refine k5 _ _ ?_
    refine seqQ fun Q6 k6 z6 => ?_
    refine seqQ fun Q7 k7 z7 => ?_
    refine wp_region_lit ?_
    refine Y wn rfl (yFb FL_42_4 (et rfl e16_1)) ?_
    refine Y wn rfl (yLb (u := h8.v) O_40 (et rfl rfl) hst mhR rfl) ?_
    refine Y wn rfl (yLen SL_40 (et rfl rfl) hst (rdI q3)) ?_
    refine Y wn rfl (ym (v := .int .i64 (x5.length : Int)) (et rfl rfl)) ?_
    refine Y wn rfl (yneq (et rfl rfl) (et rfl rfl)) ?_
    refine Y wn rfl (ym (v := .bool (!(decide ((x7.length : Int) = (x5.length : Int))))) (et rfl rfl)) ?_
    refine joinW 8 (fun f w => f 1 = .pointer (some ⟨b9, 0, none⟩) ∧ f 3 = .int .i64 (x5.length : Int) ∧ f 47 = .bool ((!(decide ((x7.length : Int) = (x5.length : Int)))) || (!(decide ((x3.length : Int) = (wa .i64 x2 1))))) ∧ St w0 (ros) (box b9 42 [.int .i64 x1, .int .i64 x2, h4.v, h6.v, h8.v] :: rs) w) (fun j5 => ?_) ?_
    · rcases Bool.eq_false_or_eq_true (!(decide ((x7.length : Int) = (x5.length : Int)))) with c20 | c20
      · refine Gn (wx rfl rfl rfl c20) rfl ?_
        refine Gn (wx rfl rfl rfl c20) rfl ?_
        refine Gn (wx rfl rfl rfl c20) rfl ?_
        refine Gn (wx rfl rfl rfl c20) rfl ?_
        refine Gn (wx rfl rfl rfl c20) rfl ?_
        refine Gn (wx rfl rfl rfl c20) rfl ?_
        refine Gn (wx rfl rfl rfl c20) rfl ?_
        refine Y wn rfl (ypt (v := .bool true) (et rfl rfl) c20 rfl) ?_
        exact j5 _ _ ⟨e16_1, rfl, (congrArg Value.bool (orT c20)), hst⟩
      · refine Y (wg rfl rfl rfl c20) rfl (yFb FL_42_2 (et rfl e16_1)) ?_
        refine Y (wg rfl rfl rfl c20) rfl (yLb (u := h4.v) O_22 (et rfl rfl) hst mhR rfl) ?_
        refine Y (wg rfl rfl rfl c20) rfl (yLen SL_22 (et rfl rfl) hst (rdI q1)) ?_
        refine Y (wg rfl rfl rfl c20) rfl (yFb FL_42_1 (et rfl e16_1)) ?_
        refine Y (wg rfl rfl rfl c20) rfl (yLb (u := .int .i64 x2) O_3 (et rfl rfl) hst mhR rfl) ?_
        refine Y (wg rfl rfl rfl c20) rfl (yadd (et rfl rfl) rfl) ?_
        refine Y (wg rfl rfl rfl c20) rfl (yneq (et rfl rfl) (et rfl rfl)) ?_
        refine Y wn rfl (ypf (v := .bool (!(decide ((x3.length : Int) = (wa .i64 x2 1))))) (et rfl rfl) c20 (et rfl rfl)) ?_
        exact j5 _ _ ⟨e16_1, rfl, (congrArg Value.bool (orF c20)), hst⟩
    clear hst
    rintro f w ⟨e19_1, e19_3, e19_47, hst⟩
    refine Y wn rfl (ym (v := .bool ((!(decide ((x7.length : Int) = (x5.length : Int)))) || (!(decide ((x3.length : Int) = (wa .i64 x2 1)))))) (et rfl e19_47)) ?_
    obtain ⟨r22, gr22, hM⟩ := bs hM
    refine joinW 6 (fun f w => f 1 = .pointer (some ⟨b9, 0, none⟩) ∧ f 3 = .int .i64 (x5.length : Int) ∧ f 54 = .bool r22 ∧ St w0 (ros) (box b9 42 [.int .i64 x1, .int .i64 x2, h4.v, h6.v, h8.v] :: rs) w) (fun j6 => ?_) ?_
    · rcases iteS gr22 with ⟨c24, gr22⟩ | ⟨c24, gr22⟩
      · refine Gn (wx rfl rfl rfl c24) rfl ?_
        refine Gn (wx rfl rfl rfl c24) rfl ?_
        refine Gn (wx rfl rfl rfl c24) rfl ?_
        refine Gn (wx rfl rfl rfl c24) rfl ?_
        refine Gn (wx rfl rfl rfl c24) rfl ?_
        refine Y wn rfl (ypt (v := .bool true) (et rfl rfl) c24 rfl) ?_
        obtain rfl := someI gr22
        exact j6 _ _ ⟨e19_1, e19_3, rfl, hst⟩
      · refine Y (wg rfl rfl rfl (bfalse c24)) rfl (yFb FL_42_2 (et rfl e19_1)) ?_
        refine Y (wg rfl rfl rfl (bfalse c24)) rfl (yLb (u := h4.v) O_22 (et rfl rfl) hst mhR rfl) ?_
        obtain ⟨x25, gx25, gr22⟩ := bs gr22
        refine Y (wg rfl rfl rfl (bfalse c24)) rfl (yIa SL_22 (et rfl rfl) rfl hst (rdI q1) gx25) ?_
        refine Y (wg rfl rfl rfl (bfalse c24)) rfl (yI O_3 (et rfl rfl) hst (rdI q1) gx25) ?_
        refine Y (wg rfl rfl rfl (bfalse c24)) rfl (yneq (et rfl rfl) rfl) ?_
        refine Y wn rfl (ypf (v := .bool (!(decide (x25 = 0)))) (et rfl rfl) (bfalse c24) (et rfl rfl)) ?_
        obtain rfl := someI gr22
        exact j6 _ _ ⟨e19_1, e19_3, rfl, hst⟩
    clear hst
    rintro f w ⟨e23_1, e23_3, e23_54, hst⟩
    refine Y wn rfl (ym (v := .bool r22) (et rfl e23_54)) ?_
    obtain ⟨r27, gr27, hM⟩ := bs hM
    refine joinW 9 (fun f w => f 1 = .pointer (some ⟨b9, 0, none⟩) ∧ f 64 = .bool r27 ∧ St w0 (ros) (box b9 42 [.int .i64 x1, .int .i64 x2, h4.v, h6.v, h8.v] :: rs) w) (fun j7 => ?_) ?_
    · rcases iteS gr27 with ⟨c29, gr27⟩ | ⟨c29, gr27⟩
      · refine Gn (wx rfl rfl rfl c29) rfl ?_
        refine Gn (wx rfl rfl rfl c29) rfl ?_
        refine Gn (wx rfl rfl rfl c29) rfl ?_
        refine Gn (wx rfl rfl rfl c29) rfl ?_
        refine Gn (wx rfl rfl rfl c29) rfl ?_
        refine Gn (wx rfl rfl rfl c29) rfl ?_
        refine Gn (wx rfl rfl rfl c29) rfl ?_
        refine Gn (wx rfl rfl rfl c29) rfl ?_
        refine Y wn rfl (ypt (v := .bool true) (et rfl rfl) c29 rfl) ?_
        obtain rfl := someI gr27
        exact j7 _ _ ⟨e23_1, rfl, hst⟩
      · refine Y (wg rfl rfl rfl (bfalse c29)) rfl (yFb FL_42_2 (et rfl e23_1)) ?_
        refine Y (wg rfl rfl rfl (bfalse c29)) rfl (yLb (u := h4.v) O_22 (et rfl rfl) hst mhR rfl) ?_
        refine Y (wg rfl rfl rfl (bfalse c29)) rfl (yFb FL_42_1 (et rfl e23_1)) ?_
        refine Y (wg rfl rfl rfl (bfalse c29)) rfl (yLb (u := .int .i64 x2) O_3 (et rfl rfl) hst mhR rfl) ?_
        obtain ⟨x30, gx30, gr27⟩ := bs gr27
        refine Y (wg rfl rfl rfl (bfalse c29)) rfl (yIa SL_22 (et rfl rfl) (et rfl rfl) hst (rdI q1) gx30) ?_
        refine Y (wg rfl rfl rfl (bfalse c29)) rfl (yI O_3 (et rfl rfl) hst (rdI q1) gx30) ?_
        refine Y (wg rfl rfl rfl (bfalse c29)) rfl (ym (v := .int .i64 (x5.length : Int)) (et rfl e23_3)) ?_
        refine Y (wg rfl rfl rfl (bfalse c29)) rfl (yneq (et rfl rfl) (et rfl rfl)) ?_
        refine Y wn rfl (ypf (v := .bool (!(decide (x30 = (x5.length : Int))))) (et rfl rfl) (bfalse c29) (et rfl rfl)) ?_
        obtain rfl := someI gr27
        exact j7 _ _ ⟨e23_1, rfl, hst⟩
    clear hst
    rintro f w ⟨e28_1, e28_64, hst⟩
    refine wpList_nil ?_
    refine k7 _ _ ?_
    rcases iteS hM with ⟨c31, hM⟩ | ⟨c31, hM⟩
    · refine condT (et rfl e28_64) c31 ?_
      refine seqQ fun Q8 k8 z8 => ?_
      refine wp_region_lit ?_
      refine Y wn rfl (ya (v := .int .i64 1) rfl) ?_
      refine wpList_nil ?_
      refine k8 _ _ ?_
      refine wp_ret ?_
      refine z6 _ _ _ rfl ?_
      obtain rfl := someI hM
      exact hQ _ _ _ (fin1r Try.results70 ⟨rfl, rfl⟩ ⟨rfl, (hst.pk 1 [] rfl)⟩)
    · refine condF (et rfl e28_64) (bfalse c31) ?_
      refine wp_skip ?_
      refine k6 _ _ ?_
      refine seqQ fun Q9 k9 z9 => ?_
      refine seqQ fun Q10 k10 z10 => ?_
      refine wp_region_lit ?_
      refine Y wn rfl (ya (v := .int .i64 0) rfl) ?_
      refine wpList_nil ?_
      refine k10 _ _ ?_
      refine blockQ fun Q11 qb11 => ?_
      obtain ⟨o8, go8, hM⟩ := bs hM
      have je8_0 : ∀ (f : Nat → Value) (w : World), f 1 = .pointer (some ⟨b9, 0, none⟩) → St w0 (ros) (box b9 42 [.int .i64 x1, .int .i64 x2, h4.v, h6.v, h8.v] :: rs) w → .inl () = o8 → Q11 (.exit 0) (fr 147 f) w := by
        intro f w eje8_0_1 hst ho
        subst ho
        refine qb11 _ _ _ ?_
        refine k9 _ _ ?_
        refine seqQ fun Q24 k24 z24 => ?_
        refine seqQ fun Q25 k25 z25 => ?_
        refine wp_region_lit ?_
        refine Y wn rfl (ya (v := .int .i64 0) rfl) ?_
        refine wpList_nil ?_
        refine k25 _ _ ?_
        refine blockQ fun Q26 qb26 => ?_
        obtain ⟨o59, go59, hM⟩ := bs hM
        have je59_0 : ∀ (f : Nat → Value) (w : World), f 1 = .pointer (some ⟨b9, 0, none⟩) → St w0 (ros) (box b9 42 [.int .i64 x1, .int .i64 x2, h4.v, h6.v, h8.v] :: rs) w → .inl () = o59 → Q26 (.exit 2) (fr 147 f) w := by
          intro f w eje59_0_1 hst ho
          subst ho
          refine qb26 _ _ _ ?_
          refine k24 _ _ ?_
          refine seqQ fun Q75 k75 z75 => ?_
          refine seqQ fun Q76 k76 z76 => ?_
          refine wp_region_lit ?_
          refine Y wn rfl (yFb FL_42_4 (et rfl eje59_0_1)) ?_
          refine Y wn rfl (yLb (u := h8.v) O_40 (et rfl rfl) hst mhR rfl) ?_
          obtain ⟨r148, gr148, hM⟩ := bs hM
          refine Yc wn rfl (yCall FN_87 (a1 (et rfl rfl))) (sparseref06_Finite_ok (hM := gr148) (hst := hst) (q1 := q3)) ?_
          clear hst
          rintro _ w ⟨rfl, hst⟩
          refine ⟨_, rfl, ?_⟩
          refine Y wn rfl (ynot (et rfl rfl)) ?_
          refine wpList_nil ?_
          refine k76 _ _ ?_
          rcases iteS hM with ⟨c149, hM⟩ | ⟨c149, hM⟩
          · refine condF (et rfl rfl) (nF c149) ?_
            refine wp_skip ?_
            refine k75 _ _ ?_
            refine seqQ fun Q77 k77 z77 => ?_
            refine wp_region_lit ?_
            refine Y wn rfl (ya (v := .int .i64 0) rfl) ?_
            refine wpList_nil ?_
            refine k77 _ _ ?_
            refine wp_ret ?_
            obtain rfl := someI hM
            exact hQ _ _ _ (fin1r Try.results70 ⟨rfl, rfl⟩ ⟨rfl, (hst.pk 1 [] rfl)⟩)
          · refine condT (et rfl rfl) (nT (bfalse c149)) ?_
            refine seqQ fun Q78 k78 z78 => ?_
            refine wp_region_lit ?_
            refine Y wn rfl (ya (v := .int .i64 4) rfl) ?_
            refine wpList_nil ?_
            refine k78 _ _ ?_
            refine wp_ret ?_
            refine z75 _ _ _ rfl ?_
            obtain rfl := someI hM
            exact hQ _ _ _ (fin1r Try.results70 ⟨rfl, rfl⟩ ⟨rfl, (hst.pk 1 [] rfl)⟩)
        have je59_1 : ∀ (f : Nat → Value) (w : World), f 2 = .int .i64 1 → St w0 (ros) (rs) w → .inr () = o59 → Q26 .ret (fr 147 f) w := by
          intro f w eje59_1_2 hst ho
          subst ho
          refine qb26 _ _ _ ?_
          refine z24 _ _ _ rfl ?_
          obtain rfl := someI hM
          exact hQ _ _ _ (fin1r Try.results70 ⟨rfl, eje59_1_2⟩ ⟨rfl, hst⟩)
        refine loopQ (fun s a w => ∃ (x94 : Int) (f : Nat → Value), x94 = s ∧ a = fr 147 f ∧ f 1 = .pointer (some ⟨b9, 0, none⟩) ∧ f 5 = .int .i64 x94 ∧ St w0 (ros) (box b9 42 [.int .i64 x1, .int .i64 x2, h4.v, h6.v, h8.v] :: rs) w) go59 ⟨_, _, rfl, rfl, eje8_0_1, rfl, hst⟩ ?_
        clear hst
        rintro _ _ w r59_ ⟨x94, f, rfl, rfl, e59_1, e59_5, hst⟩ hM59 ho59 Q100059 n59 zz59
        refine seqQ fun Q79 k79 z79 => ?_
        refine seqQ fun Q80 k80 z80 => ?_
        refine wp_region_lit ?_
        refine Y wn rfl (ym (v := .int .i64 x94) (et rfl e59_5)) ?_
        refine Y wn rfl (yFb FL_42_1 (et rfl e59_1)) ?_
        refine Y wn rfl (yLb (u := .int .i64 x2) O_3 (et rfl rfl) hst mhR rfl) ?_
        refine Y wn rfl (ylss (et rfl rfl) (et rfl rfl)) ?_
        refine wpList_nil ?_
        refine k80 _ _ ?_
        rcases iteS hM59 with ⟨c150, hM59⟩ | ⟨c150, hM59⟩
        · refine condT (et rfl rfl) (decide_eq_true c150) ?_
          refine wp_skip ?_
          refine k79 _ _ ?_
          refine seqQ fun Q81 k81 z81 => ?_
          refine blockQ fun Q82 qb82 => ?_
          refine seqQ fun Q83 k83 z83 => ?_
          refine wp_region_lit ?_
          refine Y wn rfl (yFb FL_42_2 (et rfl e59_1)) ?_
          refine Y wn rfl (yLb (u := h4.v) O_22 (et rfl rfl) hst mhR rfl) ?_
          refine Y wn rfl (ym (v := .int .i64 x94) (et rfl e59_5)) ?_
          obtain ⟨x151, gx151, hM59⟩ := bs hM59
          refine Y wn rfl (yIa SL_22 (et rfl rfl) (et rfl rfl) hst (rdI q1) gx151) ?_
          refine Y wn rfl (yI O_3 (et rfl rfl) hst (rdI q1) gx151) ?_
          refine Y wn rfl (ya (v := .int .i64 x151) (et rfl rfl)) ?_
          refine wpList_nil ?_
          refine k83 _ _ ?_
          refine blockQ fun Q84 qb84 => ?_
          obtain ⟨o76, go76, hM59⟩ := bs hM59
          have je76_0 : ∀ (f : Nat → Value) (w : World), f 1 = .pointer (some ⟨b9, 0, none⟩) → f 5 = .int .i64 x94 → St w0 (ros) (box b9 42 [.int .i64 x1, .int .i64 x2, h4.v, h6.v, h8.v] :: rs) w → .inl () = o76 → Q84 (.exit 4) (fr 147 f) w := by
            intro f w eje76_0_1 eje76_0_5 hst ho
            subst ho
            refine qb84 _ _ _ ?_
            refine qb82 _ _ _ ?_
            refine k81 _ _ ?_
            refine wp_region_lit ?_
            refine Y wn rfl (ym (v := .int .i64 x94) (et rfl eje76_0_5)) ?_
            refine Y wn rfl (yadd (et rfl rfl) rfl) ?_
            refine Y wn rfl (ya (v := .int .i64 (wa .i64 x94 1)) (et rfl rfl)) ?_
            refine wpList_nil ?_
            obtain rfl := someI hM59
            exact n59 _ _ _ rfl ⟨_, _, rfl, rfl, eje76_0_1, rfl, hst⟩
          have je76_1 : ∀ (f : Nat → Value) (w : World), f 2 = .int .i64 1 → St w0 (ros) (rs) w → .inr () = o76 → Q84 .ret (fr 147 f) w := by
            intro f w eje76_1_2 hst ho
            subst ho
            refine qb84 _ _ _ ?_
            refine qb82 _ _ _ ?_
            refine z81 _ _ _ rfl ?_
            obtain rfl := someI hM59
            refine zz59 _ _ _ _ rfl rfl ?_
            exact je59_1 _ _ eje76_1_2 hst (ho59 _ rfl)
          refine loopQ (fun s a w => ∃ (x168 : Int) (f : Nat → Value), x168 = s ∧ a = fr 147 f ∧ f 1 = .pointer (some ⟨b9, 0, none⟩) ∧ f 5 = .int .i64 x94 ∧ f 6 = .int .i64 x168 ∧ St w0 (ros) (box b9 42 [.int .i64 x1, .int .i64 x2, h4.v, h6.v, h8.v] :: rs) w) go76 ⟨_, _, rfl, rfl, e59_1, e59_5, rfl, hst⟩ ?_
          clear hst
          rintro _ _ w r76_ ⟨x168, f, rfl, rfl, e76_1, e76_5, e76_6, hst⟩ hM76 ho76 Q100076 n76 zz76
          refine seqQ fun Q97 k97 z97 => ?_
          refine seqQ fun Q98 k98 z98 => ?_
          refine wp_region_lit ?_
          refine Y wn rfl (ym (v := .int .i64 x168) (et rfl e76_6)) ?_
          refine Y wn rfl (yFb FL_42_2 (et rfl e76_1)) ?_
          refine Y wn rfl (yLb (u := h4.v) O_22 (et rfl rfl) hst mhR rfl) ?_
          refine Y wn rfl (ym (v := .int .i64 x94) (et rfl e76_5)) ?_
          refine Y wn rfl (yadd (et rfl rfl) rfl) ?_
          obtain ⟨x186, gx186, hM76⟩ := bs hM76
          refine Y wn rfl (yIa SL_22 (et rfl rfl) (et rfl rfl) hst (rdI q1) gx186) ?_
          refine Y wn rfl (yI O_3 (et rfl rfl) hst (rdI q1) gx186) ?_
          refine Y wn rfl (ylss (et rfl rfl) (et rfl rfl)) ?_
          refine wpList_nil ?_
          refine k98 _ _ ?_
          rcases iteS hM76 with ⟨c187, hM76⟩ | ⟨c187, hM76⟩
          · refine condT (et rfl rfl) (decide_eq_true c187) ?_
            refine wp_skip ?_
            refine k97 _ _ ?_
            refine seqQ fun Q99 k99 z99 => ?_
            refine blockQ fun Q100 qb100 => ?_
            refine seqQ fun Q101 k101 z101 => ?_
            obtain ⟨x188, gx188, hM76⟩ := bs hM76
            obtain ⟨r189, gr189, hM76⟩ := bs hM76
            obtain ⟨r190, gr190, hM76⟩ := bs hM76
            refine joinN (n := 147) (fun f w => f 1 = .pointer (some ⟨b9, 0, none⟩) ∧ f 5 = .int .i64 x94 ∧ f 6 = .int .i64 x168 ∧ f 142 = .bool r190 ∧ St w0 (ros) (box b9 42 [.int .i64 x1, .int .i64 x2, h4.v, h6.v, h8.v] :: rs) w) (fun j77 => ?_) ?_
            · rcases iteS gr189 with ⟨c192, gr189⟩ | ⟨c192, gr189⟩
              · have hr78 := someI gr189
                have c193 : r189 = true := hr78.symm
                rw [if_pos c193] at gr190
                have hr79 := someI gr190
                refine wp_drawR [0, 1, 0, 7, 15, 31, 63, 127, 255, 127, 1023, 2047, 127, 4223, 16383, 32767, 65535, 131071, 131071, 393215, 131071, 1966079, 4063231, 8388607, 16777215, 33554431, 67108863, 33554431, 268435455, 536870911, 33554431, 1107296255, 33554431, 4328521727, 16139681791, 33319550975, 68719476735, 137438953471, 274877906943] [] 0 folM (by kernel_rfl) (by kernel_rfl) (by kernel_rfl) ?_
                replace hst := hst.drew
                refine DRz (l1 := [0, 1, 2, 3, 4, 5, 6, 7, 8, 9, 10, 11, 12, 13, 14, 15, 16, 17, 18, 19, 20, 21, 22, 23, 24, 25, 26, 27, 28, 29, 30, 31, 32, 33, 34, 35, 36, 37, 38]) (l2 := []) (by kernel_rfl) (by kernel_rfl) ?_
                refine Ry rfl rfl wn (yFb FL_42_3 (et rfl e76_1)) ?_
                refine Ry rfl rfl wn (yLb (u := h6.v) O_22 (et rfl rfl) hst mhR rfl) ?_
                refine Ry rfl rfl wn (ym (v := .int .i64 x168) (et rfl e76_6)) ?_
                refine Ry rfl rfl wn (yIa SL_22 (et rfl rfl) (et rfl rfl) hst (rdI q2) gx188) ?_
                refine Ry rfl rfl wn (yI O_3 (et rfl rfl) hst (rdI q2) gx188) ?_
                refine Ry rfl rfl wn (ylss (et rfl rfl) rfl) ?_
                refine Ry rfl rfl wn (ym (v := .bool (decide (x188 < 0))) (et rfl rfl)) ?_
                refine Rx rfl rfl (wx rfl rfl rfl (decide_eq_true c192)) ?_
                refine Rx rfl rfl (wx rfl rfl rfl (decide_eq_true c192)) ?_
                refine Rx rfl rfl (wx rfl rfl rfl (decide_eq_true c192)) ?_
                refine Rx rfl rfl (wx rfl rfl rfl (decide_eq_true c192)) ?_
                refine Rx rfl rfl (wx rfl rfl rfl (decide_eq_true c192)) ?_
                refine Rx rfl rfl (wx rfl rfl rfl (decide_eq_true c192)) ?_
                refine Rx rfl rfl (wx rfl rfl rfl (decide_eq_true c192)) ?_
                refine Rx rfl rfl (wx rfl rfl rfl (decide_eq_true c192)) ?_
                refine Ry rfl rfl wn (ypt (v := .bool r189) (et rfl rfl) (decide_eq_true c192) (eqv hr78 rfl)) ?_
                refine Ry rfl rfl wn (ym (v := .bool r189) (et rfl rfl)) ?_
                refine Rx rfl rfl (wx rfl rfl rfl c193) ?_
                refine Rx rfl rfl (wx rfl rfl rfl c193) ?_
                refine Rx rfl rfl (wx rfl rfl rfl c193) ?_
                refine Rx rfl rfl (wx rfl rfl rfl c193) ?_
                refine Rx rfl rfl (wx rfl rfl rfl c193) ?_
                refine Rx rfl rfl (wx rfl rfl rfl c193) ?_
                refine Rx rfl rfl (wx rfl rfl rfl c193) ?_
                refine Rx rfl rfl (wx rfl rfl rfl c193) ?_
                refine Rx rfl rfl (wxu rfl rfl rfl) ?_
                refine Rx rfl rfl (wxu rfl rfl rfl) ?_
                refine Rx rfl rfl (wxu rfl rfl rfl) ?_
                refine Rx rfl rfl (wxu rfl rfl rfl) ?_
                refine Rx rfl rfl (wxu rfl rfl rfl) ?_
                refine Rx rfl rfl (wxu rfl rfl rfl) ?_
                refine Rx rfl rfl (wxu rfl rfl rfl) ?_
                refine Rx rfl rfl (wxu rfl rfl rfl) ?_
                refine Rx rfl rfl (wxu rfl rfl rfl) ?_
                refine Rx rfl rfl (wxu rfl rfl rfl) ?_
                refine Rx rfl rfl (wxu rfl rfl rfl) ?_
                refine Rx rfl rfl (wxu rfl rfl rfl) ?_
                refine Rx rfl rfl (wx rfl rfl rfl c193) ?_
                refine Ry rfl rfl wn (ypt (v := .bool r190) (et rfl rfl) c193 (eqv hr79 rfl)) ?_
                refine Rn QSn ?_
                exact j77 _ _ ⟨e76_1, e76_5, e76_6, rfl, hst⟩
              · obtain ⟨x194, gx194, gr189⟩ := bs gr189
                have hr80 := someI gr189
                rcases iteS gr190 with ⟨c195, gr190⟩ | ⟨c195, gr190⟩
                · have hr81 := someI gr190
                  refine wp_drawR [0, 1, 0, 7, 15, 31, 63, 127, 255, 127, 1023, 2047, 127, 4223, 16383, 32767, 65535, 131071, 131071, 393215, 131071, 1966079, 4063231, 8388607, 16777215, 33554431, 67108863, 33554431, 268435455, 536870911, 33554431, 1107296255, 33554431, 4328521727, 16139681791, 33319550975, 68719476735, 137438953471, 274877906943] [] 0 folM (by kernel_rfl) (by kernel_rfl) (by kernel_rfl) ?_
                  replace hst := hst.drew
                  refine DRz (l1 := [0, 1, 2, 3, 4, 5, 6, 7, 8, 9, 10, 11, 12, 13, 14, 15, 16, 17, 18, 19, 20, 21, 22, 23, 24, 25, 26, 27, 28, 29, 30, 31, 32, 33, 34, 35, 36, 37, 38]) (l2 := []) (by kernel_rfl) (by kernel_rfl) ?_
                  refine Ry rfl rfl wn (yFb FL_42_3 (et rfl e76_1)) ?_
                  refine Ry rfl rfl wn (yLb (u := h6.v) O_22 (et rfl rfl) hst mhR rfl) ?_
                  refine Ry rfl rfl wn (ym (v := .int .i64 x168) (et rfl e76_6)) ?_
                  refine Ry rfl rfl wn (yIa SL_22 (et rfl rfl) (et rfl rfl) hst (rdI q2) gx188) ?_
                  refine Ry rfl rfl wn (yI O_3 (et rfl rfl) hst (rdI q2) gx188) ?_
                  refine Ry rfl rfl wn (ylss (et rfl rfl) rfl) ?_
                  refine Ry rfl rfl wn (ym (v := .bool (decide (x188 < 0))) (et rfl rfl)) ?_
                  refine Ry rfl rfl (wg rfl rfl rfl (decide_eq_false c192)) (yFb FL_42_3 (et rfl e76_1)) ?_
                  refine Ry rfl rfl (wg rfl rfl rfl (decide_eq_false c192)) (yLb (u := h6.v) O_22 (et rfl rfl) hst mhR rfl) ?_
                  refine Ry rfl rfl (wg rfl rfl rfl (decide_eq_false c192)) (ym (v := .int .i64 x168) (et rfl e76_6)) ?_
                  refine Ry rfl rfl (wg rfl rfl rfl (decide_eq_false c192)) (yIa SL_22 (et rfl rfl) (et rfl rfl) hst (rdI q2) gx194) ?_
                  refine Ry rfl rfl (wg rfl rfl rfl (decide_eq_false c192)) (yI O_3 (et rfl rfl) hst (rdI q2) gx194) ?_
                  refine Ry rfl rfl (wg rfl rfl rfl (decide_eq_false c192)) (yFb FL_42_0 (et rfl e76_1)) ?_
                  refine Ry rfl rfl (wg rfl rfl rfl (decide_eq_false c192)) (yLb (u := .int .i64 x1) O_3 (et rfl rfl) hst mhR rfl) ?_
                  refine Ry rfl rfl (wg rfl rfl rfl (decide_eq_false c192)) (ygeq (et rfl rfl) (et rfl rfl)) ?_
                  refine Ry rfl rfl wn (ypf (v := .bool r189) (et rfl rfl) (decide_eq_false c192) (eqv hr80 (et rfl rfl))) ?_
                  refine Ry rfl rfl wn (ym (v := .bool r189) (et rfl rfl)) ?_
                  refine Rx rfl rfl (wx rfl rfl rfl c195) ?_
                  refine Rx rfl rfl (wx rfl rfl rfl c195) ?_
                  refine Rx rfl rfl (wx rfl rfl rfl c195) ?_
                  refine Rx rfl rfl (wx rfl rfl rfl c195) ?_
                  refine Rx rfl rfl (wx rfl rfl rfl c195) ?_
                  refine Rx rfl rfl (wx rfl rfl rfl c195) ?_
                  refine Rx rfl rfl (wx rfl rfl rfl c195) ?_
                  refine Rx rfl rfl (wx rfl rfl rfl c195) ?_
                  refine Rx rfl rfl (wxu rfl rfl rfl) ?_
                  refine Rx rfl rfl (wxu rfl rfl rfl) ?_
                  refine Rx rfl rfl (wxu rfl rfl rfl) ?_
                  refine Rx rfl rfl (wxu rfl rfl rfl) ?_
                  refine Rx rfl rfl (wxu rfl rfl rfl) ?_
                  refine Rx rfl rfl (wxu rfl rfl rfl) ?_
                  refine Rx rfl rfl (wxu rfl rfl rfl) ?_
                  refine Rx rfl rfl (wxu rfl rfl rfl) ?_
                  refine Rx rfl rfl (wxu rfl rfl rfl) ?_
                  refine Rx rfl rfl (wxu rfl rfl rfl) ?_
                  refine Rx rfl rfl (wxu rfl rfl rfl) ?_
                  refine Rx rfl rfl (wxu rfl rfl rfl) ?_
                  refine Rx rfl rfl (wx rfl rfl rfl c195) ?_
                  refine Ry rfl rfl wn (ypt (v := .bool r190) (et rfl rfl) c195 (eqv hr81 rfl)) ?_
                  refine Rn QSn ?_
                  exact j77 _ _ ⟨e76_1, e76_5, e76_6, rfl, hst⟩
                · obtain ⟨x196, gx196, gr190⟩ := bs gr190
                  obtain ⟨r197, gr197, gr190⟩ := bs gr190
                  have hr82 := someI gr190
                  rcases iteS gr197 with ⟨c198, gr197⟩ | ⟨c198, gr197⟩
                  · obtain ⟨x199, gx199, gr197⟩ := bs gr197
                    obtain ⟨x200, gx200, gr197⟩ := bs gr197
                    have hr83 := someI gr197
                    refine wp_drawR [0, 1, 0, 7, 15, 31, 63, 127, 255, 127, 1023, 2047, 127, 4223, 16383, 32767, 65535, 131071, 131071, 393215, 131071, 1966079, 4063231, 8388607, 16777215, 33554431, 67108863, 33554431, 268435455, 536870911, 33554431, 1107296255, 33554431, 4328521727, 16139681791, 33319550975, 68719476735, 137438953471, 274877906943] [] 0 folM (by kernel_rfl) (by kernel_rfl) (by kernel_rfl) ?_
                    replace hst := hst.drew
                    refine DRz (l1 := [0, 1, 2, 3, 4, 5, 6, 7, 8, 9, 10, 11, 12, 13, 14, 15, 16, 17, 18, 19, 20, 21, 22, 23, 24, 25, 26, 27, 28, 29, 30, 31, 32, 33, 34, 35, 36, 37, 38]) (l2 := []) (by kernel_rfl) (by kernel_rfl) ?_
                    refine Ry rfl rfl wn (yFb FL_42_3 (et rfl e76_1)) ?_
                    refine Ry rfl rfl wn (yLb (u := h6.v) O_22 (et rfl rfl) hst mhR rfl) ?_
                    refine Ry rfl rfl wn (ym (v := .int .i64 x168) (et rfl e76_6)) ?_
                    refine Ry rfl rfl wn (yIa SL_22 (et rfl rfl) (et rfl rfl) hst (rdI q2) gx188) ?_
                    refine Ry rfl rfl wn (yI O_3 (et rfl rfl) hst (rdI q2) gx188) ?_
                    refine Ry rfl rfl wn (ylss (et rfl rfl) rfl) ?_
                    refine Ry rfl rfl wn (ym (v := .bool (decide (x188 < 0))) (et rfl rfl)) ?_
                    refine Ry rfl rfl (wg rfl rfl rfl (decide_eq_false c192)) (yFb FL_42_3 (et rfl e76_1)) ?_
                    refine Ry rfl rfl (wg rfl rfl rfl (decide_eq_false c192)) (yLb (u := h6.v) O_22 (et rfl rfl) hst mhR rfl) ?_
                    refine Ry rfl rfl (wg rfl rfl rfl (decide_eq_false c192)) (ym (v := .int .i64 x168) (et rfl e76_6)) ?_
                    refine Ry rfl rfl (wg rfl rfl rfl (decide_eq_false c192)) (yIa SL_22 (et rfl rfl) (et rfl rfl) hst (rdI q2) gx194) ?_
                    refine Ry rfl rfl (wg rfl rfl rfl (decide_eq_false c192)) (yI O_3 (et rfl rfl) hst (rdI q2) gx194) ?_
                    refine Ry rfl rfl (wg rfl rfl rfl (decide_eq_false c192)) (yFb FL_42_0 (et rfl e76_1)) ?_
                    refine Ry rfl rfl (wg rfl rfl rfl (decide_eq_false c192)) (yLb (u := .int .i64 x1) O_3 (et rfl rfl) hst mhR rfl) ?_
                    refine Ry rfl rfl (wg rfl rfl rfl (decide_eq_false c192)) (ygeq (et rfl rfl) (et rfl rfl)) ?_
                    refine Ry rfl rfl wn (ypf (v := .bool r189) (et rfl rfl) (decide_eq_false c192) (eqv hr80 (et rfl rfl))) ?_
                    refine Ry rfl rfl wn (ym (v := .bool r189) (et rfl rfl)) ?_
                    refine Ry rfl rfl (wg rfl rfl rfl (bfalse c195)) (ym (v := .int .i64 x168) (et rfl e76_6)) ?_
                    refine Ry rfl rfl (wg rfl rfl rfl (bfalse c195)) (yFb FL_42_2 (et rfl e76_1)) ?_
                    refine Ry rfl rfl (wg rfl rfl rfl (bfalse c195)) (yLb (u := h4.v) O_22 (et rfl rfl) hst mhR rfl) ?_
                    refine Ry rfl rfl (wg rfl rfl rfl (bfalse c195)) (ym (v := .int .i64 x94) (et rfl e76_5)) ?_
                    refine Ry rfl rfl (wg rfl rfl rfl (bfalse c195)) (yIa SL_22 (et rfl rfl) (et rfl rfl) hst (rdI q1) gx196) ?_
                    refine Ry rfl rfl (wg rfl rfl rfl (bfalse c195)) (yI O_3 (et rfl rfl) hst (rdI q1) gx196) ?_
                    refine Ry rfl rfl (wg rfl rfl rfl (bfalse c195)) (ygtr (et rfl rfl) (et rfl rfl)) ?_
                    refine Ry rfl rfl (wg rfl rfl rfl (bfalse c195)) (ym (v := .bool (decide (x196 < x168))) (et rfl rfl)) ?_
                    refine Ry rfl rfl (wg rfl rfl rfl (decide_eq_true c198)) (yFb FL_42_3 (et rfl e76_1)) ?_
                    refine Ry rfl rfl (wg rfl rfl rfl (decide_eq_true c198)) (yLb (u := h6.v) O_22 (et rfl rfl) hst mhR rfl) ?_
                    refine Ry rfl rfl (wg rfl rfl rfl (decide_eq_true c198)) (ym (v := .int .i64 x168) (et rfl e76_6)) ?_
                    refine Ry rfl rfl (wg rfl rfl rfl (decide_eq_true c198)) (yIa SL_22 (et rfl rfl) (et rfl rfl) hst (rdI q2) gx199) ?_
                    refine Ry rfl rfl (wg rfl rfl rfl (decide_eq_true c198)) (yI O_3 (et rfl rfl) hst (rdI q2) gx199) ?_
                    refine Ry rfl rfl (wg rfl rfl rfl (decide_eq_true c198)) (yFb FL_42_3 (et rfl e76_1)) ?_
                    refine Ry rfl rfl (wg rfl rfl rfl (decide_eq_true c198)) (yLb (u := h6.v) O_22 (et rfl rfl) hst mhR rfl) ?_
                    refine Ry rfl rfl (wg rfl rfl rfl (decide_eq_true c198)) (ym (v := .int .i64 x168) (et rfl e76_6)) ?_
                    refine Ry rfl rfl (wg rfl rfl rfl (decide_eq_true c198)) (ysub (et rfl rfl) rfl) ?_
                    refine Ry rfl rfl (wg rfl rfl rfl (decide_eq_true c198)) (yIa SL_22 (et rfl rfl) (et rfl rfl) hst (rdI q2) gx200) ?_
                    refine Ry rfl rfl (wg rfl rfl rfl (decide_eq_true c198)) (yI O_3 (et rfl rfl) hst (rdI q2) gx200) ?_
                    refine Ry rfl rfl (wg rfl rfl rfl (decide_eq_true c198)) (yleq (et rfl rfl) (et rfl rfl)) ?_
                    refine Ry rfl rfl (wg rfl rfl rfl (bfalse c195)) (ypt (v := .bool r197) (et rfl rfl) (decide_eq_true c198) (eqv hr83 (et rfl rfl))) ?_
                    refine Ry rfl rfl wn (ypf (v := .bool r190) (et rfl rfl) (bfalse c195) (eqv hr82 (et rfl rfl))) ?_
                    refine Rn QSn ?_
                    exact j77 _ _ ⟨e76_1, e76_5, e76_6, rfl, hst⟩
                  · have hr84 := someI gr197
                    refine wp_drawR [0, 1, 0, 7, 15, 31, 63, 127, 255, 127, 1023, 2047, 127, 4223, 16383, 32767, 65535, 131071, 131071, 393215, 131071, 1966079, 4063231, 8388607, 16777215, 33554431, 67108863, 33554431, 268435455, 536870911, 33554431, 1107296255, 33554431, 4328521727, 16139681791, 33319550975, 68719476735, 137438953471, 274877906943] [] 0 folM (by kernel_rfl) (by kernel_rfl) (by kernel_rfl) ?_
                    replace hst := hst.drew
                    refine DRz (l1 := [0, 1, 2, 3, 4, 5, 6, 7, 8, 9, 10, 11, 12, 13, 14, 15, 16, 17, 18, 19, 20, 21, 22, 23, 24, 25, 26, 27, 28, 29, 30, 31, 32, 33, 34, 35, 36, 37, 38]) (l2 := []) (by kernel_rfl) (by kernel_rfl) ?_
                    refine Ry rfl rfl wn (yFb FL_42_3 (et rfl e76_1)) ?_
                    refine Ry rfl rfl wn (yLb (u := h6.v) O_22 (et rfl rfl) hst mhR rfl) ?_
                    refine Ry rfl rfl wn (ym (v := .int .i64 x168) (et rfl e76_6)) ?_
                    refine Ry rfl rfl wn (yIa SL_22 (et rfl rfl) (et rfl rfl) hst (rdI q2) gx188) ?_
                    refine Ry rfl rfl wn (yI O_3 (et rfl rfl) hst (rdI q2) gx188) ?_
                    refine Ry rfl rfl wn (ylss (et rfl rfl) rfl) ?_
                    refine Ry rfl rfl wn (ym (v := .bool (decide (x188 < 0))) (et rfl rfl)) ?_
                    refine Ry rfl rfl (wg rfl rfl rfl (decide_eq_false c192)) (yFb FL_42_3 (et rfl e76_1)) ?_
                    refine Ry rfl rfl (wg rfl rfl rfl (decide_eq_false c192)) (yLb (u := h6.v) O_22 (et rfl rfl) hst mhR rfl) ?_
                    refine Ry rfl rfl (wg rfl rfl rfl (decide_eq_false c192)) (ym (v := .int .i64 x168) (et rfl e76_6)) ?_
                    refine Ry rfl rfl (wg rfl rfl rfl (decide_eq_false c192)) (yIa SL_22 (et rfl rfl) (et rfl rfl) hst (rdI q2) gx194) ?_
                    refine Ry rfl rfl (wg rfl rfl rfl (decide_eq_false c192)) (yI O_3 (et rfl rfl) hst (rdI q2) gx194) ?_
                    refine Ry rfl rfl (wg rfl rfl rfl (decide_eq_false c192)) (yFb FL_42_0 (et rfl e76_1)) ?_
                    refine Ry rfl rfl (wg rfl rfl rfl (decide_eq_false c192)) (yLb (u := .int .i64 x1) O_3 (et rfl rfl) hst mhR rfl) ?_
                    refine Ry rfl rfl (wg rfl rfl rfl (decide_eq_false c192)) (ygeq (et rfl rfl) (et rfl rfl)) ?_
                    refine Ry rfl rfl wn (ypf (v := .bool r189) (et rfl rfl) (decide_eq_false c192) (eqv hr80 (et rfl rfl))) ?_
                    refine Ry rfl rfl wn (ym (v := .bool r189) (et rfl rfl)) ?_
                    refine Ry rfl rfl (wg rfl rfl rfl (bfalse c195)) (ym (v := .int .i64 x168) (et rfl e76_6)) ?_
                    refine Ry rfl rfl (wg rfl rfl rfl (bfalse c195)) (yFb FL_42_2 (et rfl e76_1)) ?_
                    refine Ry rfl rfl (wg rfl rfl rfl (bfalse c195)) (yLb (u := h4.v) O_22 (et rfl rfl) hst mhR rfl) ?_
                    refine Ry rfl rfl (wg rfl rfl rfl (bfalse c195)) (ym (v := .int .i64 x94) (et rfl e76_5)) ?_
                    refine Ry rfl rfl (wg rfl rfl rfl (bfalse c195)) (yIa SL_22 (et rfl rfl) (et rfl rfl) hst (rdI q1) gx196) ?_
                    refine Ry rfl rfl (wg rfl rfl rfl (bfalse c195)) (yI O_3 (et rfl rfl) hst (rdI q1) gx196) ?_
                    refine Ry rfl rfl (wg rfl rfl rfl (bfalse c195)) (ygtr (et rfl rfl) (et rfl rfl)) ?_
                    refine Ry rfl rfl (wg rfl rfl rfl (bfalse c195)) (ym (v := .bool (decide (x196 < x168))) (et rfl rfl)) ?_
                    refine Rx rfl rfl (wx rfl rfl rfl (decide_eq_false c198)) ?_
                    refine Rx rfl rfl (wx rfl rfl rfl (decide_eq_false c198)) ?_
                    refine Rx rfl rfl (wx rfl rfl rfl (decide_eq_false c198)) ?_
                    refine Rx rfl rfl (wx rfl rfl rfl (decide_eq_false c198)) ?_
                    refine Rx rfl rfl (wx rfl rfl rfl (decide_eq_false c198)) ?_
                    refine Rx rfl rfl (wx rfl rfl rfl (decide_eq_false c198)) ?_
                    refine Rx rfl rfl (wx rfl rfl rfl (decide_eq_false c198)) ?_
                    refine Rx rfl rfl (wx rfl rfl rfl (decide_eq_false c198)) ?_
                    refine Rx rfl rfl (wx rfl rfl rfl (decide_eq_false c198)) ?_
                    refine Rx rfl rfl (wx rfl rfl rfl (decide_eq_false c198)) ?_
                    refine Rx rfl rfl (wx rfl rfl rfl (decide_eq_false c198)) ?_
                    refine Rx rfl rfl (wx rfl rfl rfl (decide_eq_false c198)) ?_
                    refine Ry rfl rfl (wg rfl rfl rfl (bfalse c195)) (ypf (v := .bool r197) (et rfl rfl) (decide_eq_false c198) (eqv hr84 rfl)) ?_
                    refine Ry rfl rfl wn (ypf (v := .bool r190) (et rfl rfl) (bfalse c195) (eqv hr82 (et rfl rfl))) ?_
                    refine Rn QSn ?_
                    exact j77 _ _ ⟨e76_1, e76_5, e76_6, rfl, hst⟩
            clear hst
            rintro f w ⟨e191_1, e191_5, e191_6, e191_142, hst⟩
            refine k101 _ _ ?_
            rcases iteS hM76 with ⟨c201, hM76⟩ | ⟨c201, hM76⟩
            · refine condT (et rfl e191_142) c201 ?_
              refine seqQ fun Q102 k102 z102 => ?_
              refine wp_region_lit ?_
              refine Y wn rfl (ya (v := .int .i64 1) rfl) ?_
              refine wpList_nil ?_
              refine k102 _ _ ?_
              refine wp_ret ?_
              refine qb100 _ _ _ ?_
              refine z99 _ _ _ rfl ?_
              obtain rfl := someI hM76
              refine zz76 _ _ _ _ rfl rfl ?_
              exact je76_1 _ _ rfl (hst.pk 1 [] rfl) (ho76 _ rfl)
            · refine condF (et rfl e191_142) (bfalse c201) ?_
              refine wp_skip ?_
              refine qb100 _ _ _ ?_
              refine k99 _ _ ?_
              refine wp_region_lit ?_
              refine Y wn rfl (ym (v := .int .i64 x168) (et rfl e191_6)) ?_
              refine Y wn rfl (yadd (et rfl rfl) rfl) ?_
              refine Y wn rfl (ya (v := .int .i64 (wa .i64 x168 1)) (et rfl rfl)) ?_
              refine wpList_nil ?_
              obtain rfl := someI hM76
              exact n76 _ _ _ rfl ⟨_, _, rfl, rfl, e191_1, e191_5, rfl, hst⟩
          · refine condF (et rfl rfl) (decide_eq_false c187) ?_
            refine wp_exit ?_
            refine z97 _ _ _ rfl ?_
            obtain rfl := someI hM76
            refine zz76 _ _ _ _ rfl rfl ?_
            exact je76_0 _ _ e76_1 e76_5 hst (ho76 _ rfl)
        · refine condF (et rfl rfl) (decide_eq_false c150) ?_
          refine wp_exit ?_
          refine z79 _ _ _ rfl ?_
          obtain rfl := someI hM59
          refine zz59 _ _ _ _ rfl rfl ?_
          exact je59_0 _ _ e59_1 hst (ho59 _ rfl)
      have je8_1 : ∀ (f : Nat → Value) (w : World), f 2 = .int .i64 1 → St w0 (ros) (rs) w → .inr () = o8 → Q11 .ret (fr 147 f) w := by
        intro f w eje8_1_2 hst ho
        subst ho
        refine qb11 _ _ _ ?_
        refine z9 _ _ _ rfl ?_
        obtain rfl := someI hM
        exact hQ _ _ _ (fin1r Try.results70 ⟨rfl, eje8_1_2⟩ ⟨rfl, hst⟩)
      refine loopQ (fun s a w => ∃ (x36 : Int) (f : Nat → Value), x36 = s ∧ a = fr 147 f ∧ f 1 = .pointer (some ⟨b9, 0, none⟩) ∧ f 4 = .int .i64 x36 ∧ St w0 (ros) (box b9 42 [.int .i64 x1, .int .i64 x2, h4.v, h6.v, h8.v] :: rs) w) go8 ⟨_, _, rfl, rfl, e28_1, rfl, hst⟩ ?_
      clear hst
      rintro _ _ w r8_ ⟨x36, f, rfl, rfl, e8_1, e8_4, hst⟩ hM8 ho8 Q100008 n8 zz8
      refine seqQ fun Q103 k103 z103 => ?_
      refine seqQ fun Q104 k104 z104 => ?_
      refine wp_region_lit ?_
      refine Y wn rfl (ym (v := .int .i64 x36) (et rfl e8_4)) ?_
      refine Y wn rfl (yFb FL_42_1 (et rfl e8_1)) ?_
      refine Y wn rfl (yLb (u := .int .i64 x2) O_3 (et rfl rfl) hst mhR rfl) ?_
      refine Y wn rfl (ylss (et rfl rfl) (et rfl rfl)) ?_
      refine wpList_nil ?_
      refine k104 _ _ ?_
      rcases iteS hM8 with ⟨c202, hM8⟩ | ⟨c202, hM8⟩
      · refine condT (et rfl rfl) (decide_eq_true c202) ?_
        refine wp_skip ?_
        refine k103 _ _ ?_
        refine seqQ fun Q105 k105 z105 => ?_
        refine blockQ fun Q106 qb106 => ?_
        refine seqQ fun Q107 k107 z107 => ?_
        obtain ⟨x203, gx203, hM8⟩ := bs hM8
        obtain ⟨x204, gx204, hM8⟩ := bs hM8
        refine wp_drawR [0, 1, 0, 7, 15, 0, 32, 0, 128, 480, 992, 2047] [] 0 folM (by kernel_rfl) (by kernel_rfl) (by kernel_rfl) ?_
        replace hst := hst.drew
        refine DRz (l1 := [0, 1, 2, 3, 4, 5, 6, 7, 8, 9, 10, 11]) (l2 := []) (by kernel_rfl) (by kernel_rfl) ?_
        refine Ry rfl rfl wn (yFb FL_42_2 (et rfl e8_1)) ?_
        refine Ry rfl rfl wn (yLb (u := h4.v) O_22 (et rfl rfl) hst mhR rfl) ?_
        refine Ry rfl rfl wn (ym (v := .int .i64 x36) (et rfl e8_4)) ?_
        refine Ry rfl rfl wn (yIa SL_22 (et rfl rfl) (et rfl rfl) hst (rdI q1) gx203) ?_
        refine Ry rfl rfl wn (yI O_3 (et rfl rfl) hst (rdI q1) gx203) ?_
        refine Ry rfl rfl wn (yFb FL_42_2 (et rfl e8_1)) ?_
        refine Ry rfl rfl wn (yLb (u := h4.v) O_22 (et rfl rfl) hst mhR rfl) ?_
        refine Ry rfl rfl wn (ym (v := .int .i64 x36) (et rfl e8_4)) ?_
        refine Ry rfl rfl wn (yadd (et rfl rfl) rfl) ?_
        refine Ry rfl rfl wn (yIa SL_22 (et rfl rfl) (et rfl rfl) hst (rdI q1) gx204) ?_
        refine Ry rfl rfl wn (yI O_3 (et rfl rfl) hst (rdI q1) gx204) ?_
        refine Ry rfl rfl wn (ygtr (et rfl rfl) (et rfl rfl)) ?_
        refine Rn QSn ?_
        refine k107 _ _ ?_
        rcases iteS hM8 with ⟨c205, hM8⟩ | ⟨c205, hM8⟩
        · refine condT (et rfl rfl) (decide_eq_true c205) ?_
          refine seqQ fun Q108 k108 z108 => ?_
          refine wp_region_lit ?_
          refine Y wn rfl (ya (v := .int .i64 1) rfl) ?_
          refine wpList_nil ?_
          refine k108 _ _ ?_
          refine wp_ret ?_
          refine qb106 _ _ _ ?_
          refine z105 _ _ _ rfl ?_
          obtain rfl := someI hM8
          refine zz8 _ _ _ _ rfl rfl ?_
          exact je8_1 _ _ rfl (hst.pk 1 [] rfl) (ho8 _ rfl)
        · refine condF (et rfl rfl) (decide_eq_false c205) ?_
          refine wp_skip ?_
          refine qb106 _ _ _ ?_
          refine k105 _ _ ?_
          refine wp_region_lit ?_
          refine Y wn rfl (ym (v := .int .i64 x36) (et rfl e8_4)) ?_
          refine Y wn rfl (yadd (et rfl rfl) rfl) ?_
          refine Y wn rfl (ya (v := .int .i64 (wa .i64 x36 1)) (et rfl rfl)) ?_
          refine wpList_nil ?_
          obtain rfl := someI hM8
          exact n8 _ _ _ rfl ⟨_, _, rfl, rfl, e8_1, rfl, hst⟩
      · refine condF (et rfl rfl) (decide_eq_false c202) ?_
        refine wp_exit ?_
        refine z103 _ _ _ rfl ?_
        obtain rfl := someI hM8
        refine zz8 _ _ _ _ rfl rfl ?_
        exact je8_0 _ _ e8_1 hst (ho8 _ rfl)

theorem sparseref09_Entries_ok {w0 : World} {ros : List Fact} {rs : List Res} {w : World} {x1 : Int} {x2 : Int} {x3 : List Int} {x5 : List Int} {x7 : List Int} {h4 : Hdr} {h6 : Hdr} {h8 : Hdr} {out : (List (Int × Int × Int))} (hM : sparseref09_Entries x1 x2 x3 x5 x7 = some out) (q1 : imm (rI .i64) h4.v x3 ∈ ros) (q2 : imm (rI .i64) h6.v x5 ∈ ros) (q3 : imm (rI .u64) h8.v x7 ∈ ros) (hst : St w0 ros (rs) w) :
    Calls Try.prog 71 #[.agg #[.int .i64 x1, .int .i64 x2, h4.v, h6.v, h8.v]] w (fun e w => ∃ (h100001 : Hdr), e = .returned (h100001.v) ∧ St w0 (ros) (row 77 rTi64i64u64 h100001.v out :: rs) w) := by
  refine enterQ Try.func71 rfl Try.ntmps71 rfl fun Q hQ => ?_
  refine seqQ fun Q1 k1 z1 => ?_
  refine wp_region_lit ?_
  refine YB wn rfl (r_box (vals := [.int .i64 x1, .int .i64 x2, h4.v, h6.v, h8.v]) hst (et rfl rfl) rfl) ?_
  clear hst
  intro b9 w hst
  refine Y wn rfl (ya (v := hnil.v) rfl) ?_
  refine wpList_nil ?_
  refine k1 _ _ ?_
  refine seqQ fun Q2 k2 z2 => ?_
  refine seqQ fun Q3 k3 z3 => ?_
  refine wp_region_lit ?_
  refine Y wn rfl (yLbs (us := [.int .i64 x1, .int .i64 x2, h4.v, h6.v, h8.v]) ST_42 (et rfl rfl) hst mhR rfl rfl) ?_
  obtain ⟨r10, gr10, hM⟩ := bs hM
  refine Yc wn rfl (yCall FN_70 (a1 (et rfl rfl))) (sparseref09_Check_ok (hM := gr10) (hst := hst) (q1 := q1) (q2 := q2) (q3 := q3)) ?_
  clear hst
  rintro _ w ⟨rfl, hst⟩
  refine ⟨_, rfl, ?_⟩
  refine Y wn rfl (yneq (et rfl rfl) rfl) ?_
  refine wpList_nil ?_
  refine k3 _ _ ?_
  rcases iteS hM with ⟨c11, hM⟩ | ⟨c11, hM⟩
  · refine condF (et rfl rfl) (nF (decide_eq_true c11)) ?_
    refine wp_skip ?_
    refine k2 _ _ ?_
    refine seqQ fun Q4 k4 z4 => ?_
    refine wp_region_lit ?_
    refine Y wn rfl (ya (v := hnil.v) rfl) ?_
    refine wpList_nil ?_
    refine k4 _ _ ?_
    refine seqQ fun Q5 k5 z5 => ?_
    refine seqQ fun Q6 k6 z6 => ?_
    refine wp_region_lit ?_
    refine Y wn rfl (ya (v := .int .i64 0) rfl) ?_
    refine wpList_nil ?_
    refine k6 _ _ ?_
    refine blockQ fun Q7 qb7 => ?_
    obtain ⟨o3, go3, hM⟩ := bs hM
    have je3_0 : ∀ (x81 : List (Int × Int × Int)) (h80 : Hdr) (f : Nat → Value) (w : World), f 3 = h80.v → St w0 (ros) (row 77 rTi64i64u64 h80.v x81 :: rs) w → x81 = o3 → Q7 (.exit 0) (fr 46 f) w := by
      intro x81 h80 f w eje3_0_3 hst ho
      subst ho
      refine qb7 _ _ _ ?_
      refine k5 _ _ ?_
      refine seqQ fun Q44 k44 z44 => ?_
      refine wp_region_lit ?_
      refine Y wn rfl (ym (v := h80.v) (et rfl eje3_0_3)) ?_
      refine Y wn rfl (ya (v := h80.v) (et rfl rfl)) ?_
      refine wpList_nil ?_
      refine k44 _ _ ?_
      refine wp_ret ?_
      obtain rfl := someI hM
      exact hQ _ _ _ (fin1r Try.results71 ⟨rfl, rfl⟩ ⟨_, rfl, hst⟩)
    replace hst := hst.rowNh 77 rTi64i64u64
    refine loopQ (fun s a w => ∃ (x44 : List (Int × Int × Int)) (x45 : Int) (f : Nat → Value) (h43 : Hdr), (x44, x45) = s ∧ a = fr 46 f ∧ f 1 = .pointer (some ⟨b9, 0, none⟩) ∧ f 3 = h43.v ∧ f 4 = .int .i64 x45 ∧ St w0 (ros) (box b9 42 [.int .i64 x1, .int .i64 x2, h4.v, h6.v, h8.v] :: row 77 rTi64i64u64 h43.v x44 :: rs) w) go3 ⟨_, _, _, _, rfl, rfl, rfl, rfl, rfl, (hst.pk 2 [1, 0] rfl)⟩ ?_
    clear hst
    rintro _ _ w r3_ ⟨x44, x45, f, h43, rfl, rfl, e3_1, e3_3, e3_4, hst⟩ hM3 ho3 Q100003 n3 zz3
    refine seqQ fun Q45 k45 z45 => ?_
    refine seqQ fun Q46 k46 z46 => ?_
    refine wp_region_lit ?_
    refine Y wn rfl (ym (v := .int .i64 x45) (et rfl e3_4)) ?_
    refine Y wn rfl (yFb FL_42_1 (et rfl e3_1)) ?_
    refine Y wn rfl (yLb (u := .int .i64 x2) O_3 (et rfl rfl) hst mhR rfl) ?_
    refine Y wn rfl (ylss (et rfl rfl) (et rfl rfl)) ?_
    refine wpList_nil ?_
    refine k46 _ _ ?_
    rcases iteS hM3 with ⟨c82, hM3⟩ | ⟨c82, hM3⟩
    · refine condT (et rfl rfl) (decide_eq_true c82) ?_
      refine wp_skip ?_
      refine k45 _ _ ?_
      refine seqQ fun Q47 k47 z47 => ?_
      refine blockQ fun Q48 qb48 => ?_
      refine seqQ fun Q49 k49 z49 => ?_
      refine wp_region_lit ?_
      refine Y wn rfl (yFb FL_42_2 (et rfl e3_1)) ?_
      refine Y wn rfl (yLb (u := h4.v) O_22 (et rfl rfl) hst mhR rfl) ?_
      refine Y wn rfl (ym (v := .int .i64 x45) (et rfl e3_4)) ?_
      obtain ⟨x83, gx83, hM3⟩ := bs hM3
      refine Y wn rfl (yIa SL_22 (et rfl rfl) (et rfl rfl) hst (rdI q1) gx83) ?_
      refine Y wn rfl (yI O_3 (et rfl rfl) hst (rdI q1) gx83) ?_
      refine Y wn rfl (ya (v := .int .i64 x83) (et rfl rfl)) ?_
      refine wpList_nil ?_
      refine k49 _ _ ?_
      refine blockQ fun Q50 qb50 => ?_
      obtain ⟨o4, go4, hM3⟩ := bs hM3
      have je4_0 : ∀ (x105 : List (Int × Int × Int)) (h104 : Hdr) (f : Nat → Value) (w : World), f 1 = .pointer (some ⟨b9, 0, none⟩) → f 3 = h104.v → f 4 = .int .i64 x45 → St w0 (ros) (box b9 42 [.int .i64 x1, .int .i64 x2, h4.v, h6.v, h8.v] :: row 77 rTi64i64u64 h104.v x105 :: rs) w → x105 = o4 → Q50 (.exit 2) (fr 46 f) w := by
        intro x105 h104 f w eje4_0_1 eje4_0_3 eje4_0_4 hst ho
        subst ho
        refine qb50 _ _ _ ?_
        refine qb48 _ _ _ ?_
        refine k47 _ _ ?_
        refine wp_region_lit ?_
        refine Y wn rfl (ym (v := .int .i64 x45) (et rfl eje4_0_4)) ?_
        refine Y wn rfl (yadd (et rfl rfl) rfl) ?_
        refine Y wn rfl (ya (v := .int .i64 (wa .i64 x45 1)) (et rfl rfl)) ?_
        refine wpList_nil ?_
        obtain rfl := someI hM3
        exact n3 _ _ _ rfl ⟨_, _, _, _, rfl, rfl, eje4_0_1, eje4_0_3, rfl, hst⟩
      refine loopQ (fun s a w => ∃ (x92 : List (Int × Int × Int)) (x93 : Int) (f : Nat → Value) (h91 : Hdr), (x92, x93) = s ∧ a = fr 46 f ∧ f 1 = .pointer (some ⟨b9, 0, none⟩) ∧ f 3 = h91.v ∧ f 4 = .int .i64 x45 ∧ f 5 = .int .i64 x93 ∧ St w0 (ros) (box b9 42 [.int .i64 x1, .int .i64 x2, h4.v, h6.v, h8.v] :: row 77 rTi64i64u64 h91.v x92 :: rs) w) go4 ⟨_, _, _, _, rfl, rfl, e3_1, e3_3, e3_4, rfl, hst⟩ ?_
      clear hst
      rintro _ _ w r4_ ⟨x92, x93, f, h91, rfl, rfl, e4_1, e4_3, e4_4, e4_5, hst⟩ hM4 ho4 Q100004 n4 zz4
      refine seqQ fun Q59 k59 z59 => ?_
      refine seqQ fun Q60 k60 z60 => ?_
      refine wp_region_lit ?_
      refine Y wn rfl (ym (v := .int .i64 x93) (et rfl e4_5)) ?_
      refine Y wn rfl (yFb FL_42_2 (et rfl e4_1)) ?_
      refine Y wn rfl (yLb (u := h4.v) O_22 (et rfl rfl) hst mhR rfl) ?_
      refine Y wn rfl (ym (v := .int .i64 x45) (et rfl e4_4)) ?_
      refine Y wn rfl (yadd (et rfl rfl) rfl) ?_
      obtain ⟨x106, gx106, hM4⟩ := bs hM4
      refine Y wn rfl (yIa SL_22 (et rfl rfl) (et rfl rfl) hst (rdI q1) gx106) ?_
      refine Y wn rfl (yI O_3 (et rfl rfl) hst (rdI q1) gx106) ?_
      refine Y wn rfl (ylss (et rfl rfl) (et rfl rfl)) ?_
      refine wpList_nil ?_
      refine k60 _ _ ?_
      rcases iteS hM4 with ⟨c107, hM4⟩ | ⟨c107, hM4⟩
      · refine condT (et rfl rfl) (decide_eq_true c107) ?_
        refine wp_skip ?_
        refine k59 _ _ ?_
        refine seqQ fun Q61 k61 z61 => ?_
        refine blockQ fun Q62 qb62 => ?_
        obtain ⟨x108, gx108, hM4⟩ := bs hM4
        obtain ⟨x109, gx109, hM4⟩ := bs hM4
        obtain ⟨x112, gx112, hM4⟩ := bs hM4
        refine wp_drawR [0, 0, 2, 0, 14, 30, 0, 0, 128, 0, 896, 1920, 4094, 8190, 16383, 32767] [13, 14, 15] 3 folM (by kernel_rfl) (by kernel_rfl) (by kernel_rfl) ?_
        replace hst := hst.drew
        refine DRn (l1 := [0, 1, 2, 3, 4, 5, 6, 7, 8, 9, 10, 11, 12]) (l2 := []) (lc := [13]) (by kernel_rfl) (by kernel_rfl) (by kernel_rfl) ?_
        refine Ry rfl rfl wn (ym (v := h91.v) (et rfl e4_3)) ?_
        refine Ry rfl rfl wn (yFb FL_42_3 (et rfl e4_1)) ?_
        refine Ry rfl rfl wn (yLb (u := h6.v) O_22 (et rfl rfl) hst mhR rfl) ?_
        refine Ry rfl rfl wn (ym (v := .int .i64 x93) (et rfl e4_5)) ?_
        refine Ry rfl rfl wn (yIa SL_22 (et rfl rfl) (et rfl rfl) hst (rdI q2) gx108) ?_
        refine Ry rfl rfl wn (yI O_3 (et rfl rfl) hst (rdI q2) gx108) ?_
        refine Ry rfl rfl wn (ym (v := .int .i64 x45) (et rfl e4_4)) ?_
        refine Ry rfl rfl wn (yFb FL_42_4 (et rfl e4_1)) ?_
        refine Ry rfl rfl wn (yLb (u := h8.v) O_40 (et rfl rfl) hst mhR rfl) ?_
        refine Ry rfl rfl wn (ym (v := .int .i64 x93) (et rfl e4_5)) ?_
        refine Ry rfl rfl wn (yIa SL_40 (et rfl rfl) (et rfl rfl) hst (rdI q3) gx109) ?_
        refine Ry rfl rfl wn (yI O_75 (et rfl rfl) hst (rdI q3) gx109) ?_
        refine Ry rfl rfl wn (ybuild (us := [.int .i64 x108, .int .i64 x45, .int .u64 x109]) [(0, .int .i64 x108), (1, .int .i64 x45), (2, .int .u64 x109)] SO_77 (bp3 (et rfl rfl) (et rfl rfl) (et rfl rfl)) rfl) ?_
        refine Rn QSn ?_
        refine Lc rfl ?_ LAn
        refine LH wn (rLt (n := 1) (l := [(x108, x45, x109)]) hst SL_72 [.agg #[.int .i64 x108, .int .i64 x45, .int .u64 x109]] (bp1 (et rfl rfl)) rfl rfl (mks1 (cs := [.int .i64 x108, .int .i64 x45, .int .u64 x109]) rfl (mkF rfl) mks0)) ?_
        clear hst
        intro h110 w hst
        refine DRn (l1 := []) (l2 := [0]) (lc := [14]) (by kernel_rfl) (by kernel_rfl) (by kernel_rfl) ?_
        refine Rn (Sy rfl rfl wn (ym (v := h91.v) (et rfl e4_3)) rfl QSn) ?_
        refine Lc rfl ?_ LAn
        replace hst := hst.pk 3 [2, 0, 0] rfl
        refine LH wn (rAp hst SL_72 (et rfl rfl) (et rfl rfl) (rdO (mtR mhR)) gx112) ?_
        clear hst
        intro h111 w hst
        refine DRn (l1 := []) (l2 := []) (lc := [15]) (by kernel_rfl) (by kernel_rfl) (by kernel_rfl) ?_
        refine Rn QSn ?_
        refine Lc rfl ?_ LAn
        refine Ly wn (ya (v := h111.v) (et rfl rfl)) ?_
        refine DRz (l1 := []) (l2 := []) (by kernel_rfl) (by kernel_rfl) ?_
        refine Rn QSn ?_
        refine qb62 _ _ _ ?_
        refine k61 _ _ ?_
        refine wp_region_lit ?_
        refine Y wn rfl (ym (v := .int .i64 x93) (et rfl e4_5)) ?_
        refine Y wn rfl (yadd (et rfl rfl) rfl) ?_
        refine Y wn rfl (ya (v := .int .i64 (wa .i64 x93 1)) (et rfl rfl)) ?_
        refine wpList_nil ?_
        obtain rfl := someI hM4
        exact n4 _ _ _ rfl ⟨_, _, _, _, rfl, rfl, e4_1, rfl, e4_4, rfl, (hst.pk 3 [2, 0] rfl)⟩
      · refine condF (et rfl rfl) (decide_eq_false c107) ?_
        refine wp_exit ?_
        refine z59 _ _ _ rfl ?_
        obtain rfl := someI hM4
        refine zz4 _ _ _ _ rfl rfl ?_
        exact je4_0 _ _ _ _ e4_1 e4_3 e4_4 hst (ho4 _ rfl)
    · refine condF (et rfl rfl) (decide_eq_false c82) ?_
      refine wp_exit ?_
      refine z45 _ _ _ rfl ?_
      obtain rfl := someI hM3
      refine zz3 _ _ _ _ rfl rfl ?_
      exact je3_0 _ _ _ _ e3_3 (hst.pk 2 [1] rfl) (ho3 _ rfl)
  · refine condT (et rfl rfl) (nT (decide_eq_false c11)) ?_
    refine seqQ fun Q63 k63 z63 => ?_
    refine wp_region_lit ?_
    refine Y wn rfl (ya (v := hnil.v) rfl) ?_
    refine wpList_nil ?_
    refine k63 _ _ ?_
    refine wp_ret ?_
    refine z2 _ _ _ rfl ?_
    obtain rfl := someI hM
    replace hst := hst.rowNh 77 rTi64i64u64
    exact hQ _ _ _ (fin1r Try.results71 ⟨rfl, rfl⟩ ⟨_, rfl, (hst.pk 2 [0] rfl)⟩)

theorem sparseref12_empty_ok {w0 : World} {ros : List Fact} {rs : List Res} {w : World} {x1 : Int} {out : (List (List Bool))} (hM : sparseref12_empty x1 = some out) (hst : St w0 ros (rs) w) :
    Calls Try.prog 72 #[.int .i64 x1] w (fun e w => ∃ (h100001 : Hdr) (y100002 : List Hdr), e = .returned (h100001.v) ∧ St w0 (ros) (row 54 rH h100001.v y100002 :: fam 4 rB y100002 out :: rs) w) := by
  refine enterQ Try.func72 rfl Try.ntmps72 rfl fun Q hQ => ?_
  refine seqQ fun Q1 k1 z1 => ?_
  refine wp_region_lit ?_
  refine Y wn rfl (ya (v := hnil.v) rfl) ?_
  refine wpList_nil ?_
  refine k1 _ _ ?_
  refine seqQ fun Q2 k2 z2 => ?_
  refine wp_region_lit ?_
  refine Y wn rfl (ya (v := hnil.v) rfl) ?_
  refine wpList_nil ?_
  refine k2 _ _ ?_
  refine seqQ fun Q3 k3 z3 => ?_
  refine seqQ fun Q4 k4 z4 => ?_
  refine wp_region_lit ?_
  refine Y wn rfl (ya (v := .int .i64 0) rfl) ?_
  refine wpList_nil ?_
  refine k4 _ _ ?_
  refine blockQ fun Q5 qb5 => ?_
  obtain ⟨o1, go1, hM⟩ := bs hM
  have je1_0 : ∀ (x30 : List (List Bool)) (h28 : Hdr) (y29 : List Hdr) (f : Nat → Value) (w : World), f 3 = h28.v → St w0 (ros) (row 54 rH h28.v y29 :: fam 4 rB y29 x30 :: rs) w → x30 = o1 → Q5 (.exit 0) (fr 16 f) w := by
    intro x30 h28 y29 f w eje1_0_3 hst ho
    subst ho
    refine qb5 _ _ _ ?_
    refine k3 _ _ ?_
    refine seqQ fun Q14 k14 z14 => ?_
    refine wp_region_lit ?_
    refine Y wn rfl (ym (v := h28.v) (et rfl eje1_0_3)) ?_
    refine Y wn rfl (ya (v := h28.v) (et rfl rfl)) ?_
    refine wpList_nil ?_
    refine k14 _ _ ?_
    refine wp_ret ?_
    obtain rfl := someI hM
    exact hQ _ _ _ (fin1r Try.results72 ⟨rfl, rfl⟩ ⟨_, _, rfl, hst⟩)
  replace hst := ((hst.rowNh 54 rH).fNew 4 rB).pk 2 [1, 0] rfl
  refine loopQ (fun s a w => ∃ (x13 : List (List Bool)) (x14 : Int) (f : Nat → Value) (h11 : Hdr) (y12 : List Hdr), (x13, x14) = s ∧ a = fr 16 f ∧ f 0 = .int .i64 x1 ∧ f 3 = h11.v ∧ f 4 = .int .i64 x14 ∧ St w0 (ros) (row 54 rH h11.v y12 :: fam 4 rB y12 x13 :: rs) w) go1 ⟨_, _, _, _, _, rfl, rfl, rfl, rfl, rfl, hst⟩ ?_
  clear hst
  rintro _ _ w r1_ ⟨x13, x14, f, h11, y12, rfl, rfl, e1_0, e1_3, e1_4, hst⟩ hM1 ho1 Q100001 n1 zz1
  refine seqQ fun Q15 k15 z15 => ?_
  refine seqQ fun Q16 k16 z16 => ?_
  refine wp_region_lit ?_
  refine Y wn rfl (ym (v := .int .i64 x14) (et rfl e1_4)) ?_
  refine Y wn rfl (ym (v := .int .i64 x1) (et rfl e1_0)) ?_
  refine Y wn rfl (ylss (et rfl rfl) (et rfl rfl)) ?_
  refine wpList_nil ?_
  refine k16 _ _ ?_
  rcases iteS hM1 with ⟨c31, hM1⟩ | ⟨c31, hM1⟩
  · refine condT (et rfl rfl) (decide_eq_true c31) ?_
    refine wp_skip ?_
    refine k15 _ _ ?_
    refine seqQ fun Q17 k17 z17 => ?_
    refine blockQ fun Q18 qb18 => ?_
    refine wp_region_lit ?_
    refine Y wn rfl (ym (v := h11.v) (et rfl e1_3)) ?_
    refine Y wn rfl (ym (v := .int .i64 x1) (et rfl e1_0)) ?_
    obtain ⟨x34, gx34, hM1⟩ := bs hM1
    refine YH wn rfl (rMk hst SL_54 (et rfl rfl) gx34) ?_
    clear hst
    intro h32 w hst
    refine YH wn rfl (rLt (n := 1) (l := [h32]) hst SLH_53 [h32.v] (bp1 (et rfl rfl)) rfl rfl (mks1 rfl (mkF rfl) mks0)) ?_
    clear hst
    intro h35 w hst
    obtain ⟨x38, gx38, hM1⟩ := bs hM1
    replace hst := hst.pk 3 [2, 0, 0] rfl
    obtain ⟨y39, ey39, gy39⟩ := app_rep gx38 (hst.famL (mtR (mtR (mtR mhR)))) (show [h32].length = [x34].length from rfl)
    refine YH wn rfl (rAp hst SLH_53 (et rfl rfl) (et rfl rfl) (rdO (mtR mhR)) gy39) ?_
    clear hst
    intro h37 w hst
    replace hst := hst.pk 4 [2, 2, 0, 0] rfl
    replace hst := hst.fPush
    rw [← ey39, ← (app_some gx38).1] at hst
    refine Y wn rfl (ya (v := h37.v) (et rfl rfl)) ?_
    refine wpList_nil ?_
    refine qb18 _ _ _ ?_
    refine k17 _ _ ?_
    refine wp_region_lit ?_
    refine Y wn rfl (ym (v := .int .i64 x14) (et rfl e1_4)) ?_
    refine Y wn rfl (yadd (et rfl rfl) rfl) ?_
    refine Y wn rfl (ya (v := .int .i64 (wa .i64 x14 1)) (et rfl rfl)) ?_
    refine wpList_nil ?_
    obtain rfl := someI hM1
    exact n1 _ _ _ rfl ⟨_, _, _, _, _, rfl, rfl, e1_0, rfl, rfl, (hst.pk 3 [1, 0] rfl)⟩
  · refine condF (et rfl rfl) (decide_eq_false c31) ?_
    refine wp_exit ?_
    refine z15 _ _ _ rfl ?_
    obtain rfl := someI hM1
    refine zz1 _ _ _ _ rfl rfl ?_
    exact je1_0 _ _ _ _ _ e1_3 hst (ho1 _ rfl)

theorem sparseref12_FromNormal_ok {w0 : World} {ros : List Fact} {rs : List Res} {w : World} {x1 : Int} {x2 : Int} {x3 : List Int} {x5 : List Int} {x7 : List Int} {h4 : Hdr} {h6 : Hdr} {h8 : Hdr} {out : (List (List Int)) × Int} (hM : sparseref12_FromNormal x1 x2 x3 x5 x7 = some out) (q1 : imm (rI .i64) h4.v x3 ∈ ros) (q2 : imm (rI .i64) h6.v x5 ∈ ros) (q3 : imm (rI .u64) h8.v x7 ∈ ros) (hst : St w0 ros (rs) w) :
    Calls Try.prog 51 #[.agg #[.int .i64 x1, .int .i64 x2, h4.v, h6.v, h8.v]] w (fun e w => ∃ (h100001 : Hdr), e = .returned (.tuple #[.agg #[h100001.v], .int .i64 out.2]) ∧ St w0 (ros) (row 22 (rS (rI .i64)) h100001.v out.1 :: rs) w) := by
  refine enterQ Try.func51 rfl Try.ntmps51 rfl fun Q hQ => ?_
  refine seqQ fun Q1 k1 z1 => ?_
  refine wp_region_lit ?_
  refine YB wn rfl (r_box (vals := [.int .i64 x1, .int .i64 x2, h4.v, h6.v, h8.v]) hst (et rfl rfl) rfl) ?_
  clear hst
  intro b9 w hst
  refine YB wn rfl (rAl hst ZT_27) ?_
  clear hst
  intro b10 w hst
  refine Y wn rfl (ya (v := .int .i64 0) rfl) ?_
  refine wpList_nil ?_
  refine k1 _ _ ?_
  refine seqQ fun Q2 k2 z2 => ?_
  refine seqQ fun Q3 k3 z3 => ?_
  refine wp_region_lit ?_
  refine Y wn rfl (yLbs (us := [.int .i64 x1, .int .i64 x2, h4.v, h6.v, h8.v]) ST_42 (et rfl rfl) hst (mtR mhR) rfl rfl) ?_
  obtain ⟨r11, gr11, hM⟩ := bs hM
  refine Yc wn rfl (yCall FN_70 (a1 (et rfl rfl))) (sparseref09_Check_ok (hM := gr11) (hst := hst) (q1 := q1) (q2 := q2) (q3 := q3)) ?_
  clear hst
  rintro _ w ⟨rfl, hst⟩
  refine ⟨_, rfl, ?_⟩
  refine Y wn rfl (ya (v := .int .i64 r11) (et rfl rfl)) ?_
  refine wpList_nil ?_
  refine k3 _ _ ?_
  refine seqQ fun Q4 k4 z4 => ?_
  refine wp_region_lit ?_
  refine Y wn rfl (ym (v := .int .i64 r11) (et rfl rfl)) ?_
  refine Y wn rfl (yneq (et rfl rfl) rfl) ?_
  refine wpList_nil ?_
  refine k4 _ _ ?_
  rcases iteS hM with ⟨c12, hM⟩ | ⟨c12, hM⟩
  · refine condF (et rfl rfl) (nF (decide_eq_true c12)) ?_
    refine wp_skip ?_
    refine k2 _ _ ?_
    refine seqQ fun Q5 k5 z5 => ?_
    refine wp_region_lit ?_
    refine Y wn rfl (yFb FL_42_0 (et rfl rfl)) ?_
    refine Y wn rfl (yLb (u := .int .i64 x1) O_3 (et rfl rfl) hst (mtR mhR) rfl) ?_
    obtain ⟨x15, gx15, hM⟩ := bs hM
    obtain ⟨m14, em14, gm14⟩ := mkL_rep gx15 hnil
    refine YH wn rfl (rMk hst SLH_25 (et rfl rfl) gm14) ?_
    clear hst
    intro h13 w hst
    replace hst := (hst.fReps 3 (rI .i64) m14).pk 2 [1, 0] rfl
    rw [← em14] at hst
    refine Y wn rfl (ya (v := h13.v) (et rfl rfl)) ?_
    refine wpList_nil ?_
    refine k5 _ _ ?_
    refine seqQ fun Q6 k6 z6 => ?_
    refine wp_region_lit ?_
    refine Y wn rfl (yLbs (us := [.int .i64 x1, .int .i64 x2, h4.v, h6.v, h8.v]) ST_42 (et rfl rfl) hst (mtR (mtR (mtR mhR))) rfl rfl) ?_
    obtain ⟨r16, gr16, hM⟩ := bs hM
    refine Yc wn rfl (yCall FN_71 (a1 (et rfl rfl))) (sparseref09_Entries_ok (hM := gr16) (hst := hst) (q1 := q1) (q2 := q2) (q3 := q3)) ?_
    clear hst
    rintro _ w ⟨h17, rfl, hst⟩
    refine ⟨_, rfl, ?_⟩
    refine Y wn rfl (ya (v := h17.v) (et rfl rfl)) ?_
    refine wpList_nil ?_
    refine k6 _ _ ?_
    refine seqQ fun Q7 k7 z7 => ?_
    refine seqQ fun Q8 k8 z8 => ?_
    refine wp_region_lit ?_
    refine Y wn rfl (ya (v := .int .i64 0) rfl) ?_
    refine wpList_nil ?_
    refine k8 _ _ ?_
    refine blockQ fun Q9 qb9 => ?_
    obtain ⟨o1, go1, hM⟩ := bs hM
    have je1_0 : ∀ (x43 : List (List Int)) (y42 : List Hdr) (f : Nat → Value) (w : World), f 1 = .pointer (some ⟨b9, 0, none⟩) → f 2 = .pointer (some ⟨b10, 0, none⟩) → f 5 = h13.v → St w0 (ros) (box b9 42 [.int .i64 x1, .int .i64 x2, h4.v, h6.v, h8.v] :: box b10 27 [hnil.v] :: row 22 rH h13.v y42 :: fam 3 (rI .i64) y42 x43 :: rs) w → x43 = o1 → Q9 (.exit 0) (fr 94 f) w := by
      intro x43 y42 f w eje1_0_1 eje1_0_2 eje1_0_5 hst ho
      subst ho
      refine qb9 _ _ _ ?_
      refine k7 _ _ ?_
      refine seqQ fun Q18 k18 z18 => ?_
      refine wp_region_lit ?_
      refine Y wn rfl (yFb FL_42_1 (et rfl eje1_0_1)) ?_
      refine Y wn rfl (yLb (u := .int .i64 x2) O_3 (et rfl rfl) hst mhR rfl) ?_
      obtain ⟨r44, gr44, hM⟩ := bs hM
      refine Yc wn rfl (yCall FN_72 (a1 (et rfl rfl))) (sparseref12_empty_ok (hM := gr44) (hst := hst) ) ?_
      clear hst
      rintro _ w ⟨h45, y46, rfl, hst⟩
      refine ⟨_, rfl, ?_⟩
      refine Y wn rfl (ya (v := h45.v) (et rfl rfl)) ?_
      refine wpList_nil ?_
      refine k18 _ _ ?_
      refine seqQ fun Q19 k19 z19 => ?_
      refine seqQ fun Q20 k20 z20 => ?_
      refine wp_region_lit ?_
      refine Y wn rfl (ya (v := .int .i64 0) rfl) ?_
      refine wpList_nil ?_
      refine k20 _ _ ?_
      refine blockQ fun Q21 qb21 => ?_
      obtain ⟨o10, go10, hM⟩ := bs hM
      have je10_0 : ∀ (x289 : List (List Bool)) (f : Nat → Value) (w : World), f 2 = .pointer (some ⟨b10, 0, none⟩) → f 8 = h45.v → St w0 (ros) (box b10 27 [hnil.v] :: row 54 rH h45.v y46 :: fam 4 rB y46 x289 :: rs) w → x289 = o10 → Q21 (.exit 2) (fr 94 f) w := by
        intro x289 f w eje10_0_2 eje10_0_8 hst ho
        subst ho
        refine qb21 _ _ _ ?_
        refine k19 _ _ ?_
        refine seqQ fun Q142 k142 z142 => ?_
        refine wp_region_lit ?_
        refine Y wn rfl (ym (v := h45.v) (et rfl eje10_0_8)) ?_
        obtain ⟨r290, gr290, hM⟩ := bs hM
        replace hst := hst.pk 3 [1, 1, 0] rfl
        replace hst := hst.ffz
        refine Yc wn rfl (yCall FN_36 (a1 (et rfl rfl))) (sparseref12_FromTable_ok (hM := gr290) (hst := hst) (q1 := mhF)) ?_
        clear hst
        rintro _ w ⟨h291, rfl, hst⟩
        refine ⟨_, rfl, ?_⟩
        replace hst := hst.pk 2 [1, 0] rfl
        refine YT wn rfl (r_stbn (vals' := [h291.v]) (us := [h291.v]) hst ST_27 (et rfl eje10_0_2) (et rfl rfl) rfl rfl (one_of rfl) rfl) ?_
        clear hst
        intro w hst
        refine Y wn rfl (ya (v := .int .i64 0) rfl) ?_
        refine wpList_nil ?_
        refine k142 _ _ ?_
        refine wp_ret ?_
        obtain rfl := someI hM
        exact hQ _ _ _ (fin2r Try.results51 (rcs2 rfl eje10_0_2 hst mhR ST_27 rfl) ⟨rfl, rfl⟩ ⟨_, rfl, ((hst.pk 2 [1] rfl).facts (allT allI))⟩)
      refine loopQ (fun s a w => ∃ (x166 : List (List Bool)) (x167 : Int) (f : Nat → Value), (x166, x167) = s ∧ a = fr 94 f ∧ f 2 = .pointer (some ⟨b10, 0, none⟩) ∧ f 5 = h13.v ∧ f 8 = h45.v ∧ f 9 = .int .i64 x167 ∧ St w0 (ros) (box b10 27 [hnil.v] :: row 22 rH h13.v y42 :: fam 3 (rI .i64) y42 x43 :: row 54 rH h45.v y46 :: fam 4 rB y46 x166 :: rs) w) go10 ⟨_, _, _, rfl, rfl, eje1_0_2, eje1_0_5, rfl, rfl, (hst.pk 6 [3, 3, 3, 0, 0] rfl)⟩ ?_
      clear hst
      rintro _ _ w r10_ ⟨x166, x167, f, rfl, rfl, e10_2, e10_5, e10_8, e10_9, hst⟩ hM10 ho10 Q100010 n10 zz10
      refine seqQ fun Q143 k143 z143 => ?_
      refine seqQ fun Q144 k144 z144 => ?_
      refine wp_region_lit ?_
      refine Y wn rfl (ym (v := .int .i64 x167) (et rfl e10_9)) ?_
      refine Y wn rfl (ym (v := h13.v) (et rfl e10_5)) ?_
      refine Y wn rfl (yLenF SLH_25 (et rfl rfl) hst (rdO (mtR mhR)) (mtR (mtR mhR))) ?_
      refine Y wn rfl (ylss (et rfl rfl) (et rfl rfl)) ?_
      refine wpList_nil ?_
      refine k144 _ _ ?_
      rcases iteS hM10 with ⟨c292, hM10⟩ | ⟨c292, hM10⟩
      · refine condT (et rfl rfl) (decide_eq_true c292) ?_
        refine wp_skip ?_
        refine k143 _ _ ?_
        refine seqQ fun Q145 k145 z145 => ?_
        refine blockQ fun Q146 qb146 => ?_
        refine seqQ fun Q147 k147 z147 => ?_
        refine wp_region_lit ?_
        refine Y wn rfl (ya (v := .int .i64 0) rfl) ?_
        refine wpList_nil ?_
        refine k147 _ _ ?_
        refine blockQ fun Q148 qb148 => ?_
        obtain ⟨o13, go13, hM10⟩ := bs hM10
        have je13_0 : ∀ (x372 : List (List Bool)) (f : Nat → Value) (w : World), f 2 = .pointer (some ⟨b10, 0, none⟩) → f 5 = h13.v → f 8 = h45.v → f 9 = .int .i64 x167 → St w0 (ros) (box b10 27 [hnil.v] :: row 22 rH h13.v y42 :: fam 3 (rI .i64) y42 x43 :: row 54 rH h45.v y46 :: fam 4 rB y46 x372 :: rs) w → x372 = o13 → Q148 (.exit 4) (fr 94 f) w := by
          intro x372 f w eje13_0_2 eje13_0_5 eje13_0_8 eje13_0_9 hst ho
          subst ho
          refine qb148 _ _ _ ?_
          refine qb146 _ _ _ ?_
          refine k145 _ _ ?_
          refine wp_region_lit ?_
          refine Y wn rfl (ym (v := .int .i64 x167) (et rfl eje13_0_9)) ?_
          refine Y wn rfl (yadd (et rfl rfl) rfl) ?_
          refine Y wn rfl (ya (v := .int .i64 (wa .i64 x167 1)) (et rfl rfl)) ?_
          refine wpList_nil ?_
          obtain rfl := someI hM10
          exact n10 _ _ _ rfl ⟨_, _, _, rfl, rfl, eje13_0_2, eje13_0_5, eje13_0_8, rfl, hst⟩
        refine loopQ (fun s a w => ∃ (x330 : List (List Bool)) (x331 : Int) (f : Nat → Value), (x330, x331) = s ∧ a = fr 94 f ∧ f 2 = .pointer (some ⟨b10, 0, none⟩) ∧ f 5 = h13.v ∧ f 8 = h45.v ∧ f 9 = .int .i64 x167 ∧ f 10 = .int .i64 x331 ∧ St w0 (ros) (box b10 27 [hnil.v] :: row 22 rH h13.v y42 :: fam 3 (rI .i64) y42 x43 :: row 54 rH h45.v y46 :: fam 4 rB y46 x330 :: rs) w) go13 ⟨_, _, _, rfl, rfl, e10_2, e10_5, e10_8, e10_9, rfl, hst⟩ ?_
        clear hst
        rintro _ _ w r13_ ⟨x330, x331, f, rfl, rfl, e13_2, e13_5, e13_8, e13_9, e13_10, hst⟩ hM13 ho13 Q100013 n13 zz13
        refine seqQ fun Q185 k185 z185 => ?_
        refine seqQ fun Q186 k186 z186 => ?_
        refine wp_region_lit ?_
        refine Y wn rfl (ym (v := .int .i64 x331) (et rfl e13_10)) ?_
        refine Y wn rfl (ym (v := h13.v) (et rfl e13_5)) ?_
        refine Y wn rfl (ym (v := .int .i64 x167) (et rfl e13_9)) ?_
        obtain ⟨x373, gx373, hM13⟩ := bs hM13
        obtain ⟨h374, gh374⟩ := hst.famI (mtR (mtR mhR)) gx373
        refine Y wn rfl (yIa SLH_25 (et rfl rfl) (et rfl rfl) hst (rdO (mtR mhR)) gh374) ?_
        refine Y wn rfl (yF1 O_22 (et rfl rfl) hst (rdO (mtR mhR)) gh374 rfl) ?_
        refine Y wn rfl (yLen SL_22 (et rfl rfl) hst (rdF (mtR (mtR mhR)) gh374 gx373)) ?_
        refine Y wn rfl (ylss (et rfl rfl) (et rfl rfl)) ?_
        refine wpList_nil ?_
        refine k186 _ _ ?_
        rcases iteS hM13 with ⟨c375, hM13⟩ | ⟨c375, hM13⟩
        · refine condT (et rfl rfl) (decide_eq_true c375) ?_
          refine wp_skip ?_
          refine k185 _ _ ?_
          refine seqQ fun Q187 k187 z187 => ?_
          refine blockQ fun Q188 qb188 => ?_
          refine seqQ fun Q189 k189 z189 => ?_
          refine wp_region_lit ?_
          refine Y wn rfl (ya (v := .int .i64 0) rfl) ?_
          refine wpList_nil ?_
          refine k189 _ _ ?_
          refine blockQ fun Q190 qb190 => ?_
          obtain ⟨o14, go14, hM13⟩ := bs hM13
          have je14_0 : ∀ (x400 : List (List Bool)) (f : Nat → Value) (w : World), f 2 = .pointer (some ⟨b10, 0, none⟩) → f 5 = h13.v → f 8 = h45.v → f 9 = .int .i64 x167 → f 10 = .int .i64 x331 → St w0 (ros) (box b10 27 [hnil.v] :: row 22 rH h13.v y42 :: fam 3 (rI .i64) y42 x43 :: row 54 rH h45.v y46 :: fam 4 rB y46 x400 :: rs) w → x400 = o14 → Q190 (.exit 6) (fr 94 f) w := by
            intro x400 f w eje14_0_2 eje14_0_5 eje14_0_8 eje14_0_9 eje14_0_10 hst ho
            subst ho
            refine qb190 _ _ _ ?_
            refine qb188 _ _ _ ?_
            refine k187 _ _ ?_
            refine wp_region_lit ?_
            refine Y wn rfl (ym (v := .int .i64 x331) (et rfl eje14_0_10)) ?_
            refine Y wn rfl (yadd (et rfl rfl) rfl) ?_
            refine Y wn rfl (ya (v := .int .i64 (wa .i64 x331 1)) (et rfl rfl)) ?_
            refine wpList_nil ?_
            obtain rfl := someI hM13
            exact n13 _ _ _ rfl ⟨_, _, _, rfl, rfl, eje14_0_2, eje14_0_5, eje14_0_8, eje14_0_9, rfl, hst⟩
          refine loopQ (fun s a w => ∃ (x386 : List (List Bool)) (x387 : Int) (f : Nat → Value), (x386, x387) = s ∧ a = fr 94 f ∧ f 2 = .pointer (some ⟨b10, 0, none⟩) ∧ f 5 = h13.v ∧ f 8 = h45.v ∧ f 9 = .int .i64 x167 ∧ f 10 = .int .i64 x331 ∧ f 11 = .int .i64 x387 ∧ St w0 (ros) (box b10 27 [hnil.v] :: row 22 rH h13.v y42 :: fam 3 (rI .i64) y42 x43 :: row 54 rH h45.v y46 :: fam 4 rB y46 x386 :: rs) w) go14 ⟨_, _, _, rfl, rfl, e13_2, e13_5, e13_8, e13_9, e13_10, rfl, hst⟩ ?_
          clear hst
          rintro _ _ w r14_ ⟨x386, x387, f, rfl, rfl, e14_2, e14_5, e14_8, e14_9, e14_10, e14_11, hst⟩ hM14 ho14 Q100014 n14 zz14
          refine seqQ fun Q199 k199 z199 => ?_
          refine seqQ fun Q200 k200 z200 => ?_
          refine wp_region_lit ?_
          refine Y wn rfl (ym (v := .int .i64 x387) (et rfl e14_11)) ?_
          refine Y wn rfl (ym (v := .int .i64 x331) (et rfl e14_10)) ?_
          refine Y wn rfl (ylss (et rfl rfl) (et rfl rfl)) ?_
          refine wpList_nil ?_
          refine k200 _ _ ?_
          rcases iteS hM14 with ⟨c401, hM14⟩ | ⟨c401, hM14⟩
          · refine condT (et rfl rfl) (decide_eq_true c401) ?_
            refine wp_skip ?_
            refine k199 _ _ ?_
            refine seqQ fun Q201 k201 z201 => ?_
            refine blockQ fun Q202 qb202 => ?_
            obtain ⟨x402, gx402, hM14⟩ := bs hM14
            obtain ⟨x404, gx404, hM14⟩ := bs hM14
            obtain ⟨x405, gx405, hM14⟩ := bs hM14
            obtain ⟨x408, gx408, hM14⟩ := bs hM14
            obtain ⟨x409, gx409, hM14⟩ := bs hM14
            obtain ⟨x410, gx410, hM14⟩ := bs hM14
            refine wp_drawR [0, 0, 0, 6, 14, 0, 62, 126, 255, 511, 0, 0, 3072, 7168, 0, 31744, 64512, 131071, 262143] [18] 1 folM (by kernel_rfl) (by kernel_rfl) (by kernel_rfl) ?_
            replace hst := hst.drew
            refine DRn (l1 := [0, 1, 2, 3, 4, 5, 6, 7, 8, 9, 10, 11, 12, 13, 14, 15, 16, 17]) (l2 := []) (lc := [18]) (by kernel_rfl) (by kernel_rfl) (by kernel_rfl) ?_
            refine Ry rfl rfl wn (ym (v := h45.v) (et rfl e14_8)) ?_
            refine Ry rfl rfl wn (ym (v := h13.v) (et rfl e14_5)) ?_
            refine Ry rfl rfl wn (ym (v := .int .i64 x167) (et rfl e14_9)) ?_
            obtain ⟨h403, gh403⟩ := hst.famI (mtR (mtR mhR)) gx402
            refine Ry rfl rfl wn (yIa SLH_25 (et rfl rfl) (et rfl rfl) hst (rdO (mtR mhR)) gh403) ?_
            refine Ry rfl rfl wn (yF1 O_22 (et rfl rfl) hst (rdO (mtR mhR)) gh403 rfl) ?_
            refine Ry rfl rfl wn (ym (v := .int .i64 x331) (et rfl e14_10)) ?_
            refine Ry rfl rfl wn (yIa SL_22 (et rfl rfl) (et rfl rfl) hst (rdF (mtR (mtR mhR)) gh403 gx402) gx404) ?_
            refine Ry rfl rfl wn (yI O_3 (et rfl rfl) hst (rdF (mtR (mtR mhR)) gh403 gx402) gx404) ?_
            obtain ⟨h406, gh406⟩ := hst.famI (mtR (mtR (mtR (mtR mhR)))) gx405
            refine Ry rfl rfl wn (yIa SLH_53 (et rfl rfl) (et rfl rfl) hst (rdO (mtR (mtR (mtR mhR)))) gh406) ?_
            refine Ry rfl rfl wn (yF1 O_54 (et rfl rfl) hst (rdO (mtR (mtR (mtR mhR)))) gh406 rfl) ?_
            refine Ry rfl rfl wn (ym (v := h13.v) (et rfl e14_5)) ?_
            refine Ry rfl rfl wn (ym (v := .int .i64 x167) (et rfl e14_9)) ?_
            obtain ⟨h407, gh407⟩ := hst.famI (mtR (mtR mhR)) gx402
            refine Ry rfl rfl wn (yIa SLH_25 (et rfl rfl) (et rfl rfl) hst (rdO (mtR mhR)) gh407) ?_
            refine Ry rfl rfl wn (yF1 O_22 (et rfl rfl) hst (rdO (mtR mhR)) gh407 rfl) ?_
            refine Ry rfl rfl wn (ym (v := .int .i64 x387) (et rfl e14_11)) ?_
            refine Ry rfl rfl wn (yIa SL_22 (et rfl rfl) (et rfl rfl) hst (rdF (mtR (mtR mhR)) gh407 gx402) gx408) ?_
            refine Ry rfl rfl wn (yI O_3 (et rfl rfl) hst (rdF (mtR (mtR mhR)) gh407 gx402) gx408) ?_
            refine Ry rfl rfl wn (yIs SL_54 (et rfl rfl) (et rfl rfl) hst (rdF (mtR (mtR (mtR (mtR mhR)))) gh406 gx405) gx409) ?_
            refine Rn QSn ?_
            refine Lc rfl ?_ LAn
            replace hst := hst.pk 5 [4, 0, 0, 0, 0] rfl
            refine LT wn (r_sti (cs := [.bool true]) (hst.foc gh406 gx405) O_4 rfl (et rfl rfl) rfl rfl mkB gx409) ?_
            clear hst
            intro w hst
            replace hst := hst.unfoc' gh406 gx410
            refine DRz (l1 := []) (l2 := []) (by kernel_rfl) (by kernel_rfl) ?_
            refine Rn QSn ?_
            refine qb202 _ _ _ ?_
            refine k201 _ _ ?_
            refine wp_region_lit ?_
            refine Y wn rfl (ym (v := .int .i64 x387) (et rfl e14_11)) ?_
            refine Y wn rfl (yadd (et rfl rfl) rfl) ?_
            refine Y wn rfl (ya (v := .int .i64 (wa .i64 x387 1)) (et rfl rfl)) ?_
            refine wpList_nil ?_
            obtain rfl := someI hM14
            exact n14 _ _ _ rfl ⟨_, _, _, rfl, rfl, e14_2, e14_5, e14_8, e14_9, e14_10, rfl, (hst.pk 5 [1, 1, 1, 1, 0] rfl)⟩
          · refine condF (et rfl rfl) (decide_eq_false c401) ?_
            refine wp_exit ?_
            refine z199 _ _ _ rfl ?_
            obtain rfl := someI hM14
            refine zz14 _ _ _ _ rfl rfl ?_
            exact je14_0 _ _ _ e14_2 e14_5 e14_8 e14_9 e14_10 hst (ho14 _ rfl)
        · refine condF (et rfl rfl) (decide_eq_false c375) ?_
          refine wp_exit ?_
          refine z185 _ _ _ rfl ?_
          obtain rfl := someI hM13
          refine zz13 _ _ _ _ rfl rfl ?_
          exact je13_0 _ _ _ e13_2 e13_5 e13_8 e13_9 hst (ho13 _ rfl)
      · refine condF (et rfl rfl) (decide_eq_false c292) ?_
        refine wp_exit ?_
        refine z143 _ _ _ rfl ?_
        obtain rfl := someI hM10
        refine zz10 _ _ _ _ rfl rfl ?_
        exact je10_0 _ _ _ e10_2 e10_8 (hst.pk 5 [0, 2, 2] rfl) (ho10 _ rfl)
    refine loopQ (fun s a w => ∃ (x28 : List (List Int)) (x29 : Int) (f : Nat → Value) (y27 : List Hdr), (x28, x29) = s ∧ a = fr 94 f ∧ f 1 = .pointer (some ⟨b9, 0, none⟩) ∧ f 2 = .pointer (some ⟨b10, 0, none⟩) ∧ f 5 = h13.v ∧ f 6 = h17.v ∧ f 7 = .int .i64 x29 ∧ St w0 (ros) (box b9 42 [.int .i64 x1, .int .i64 x2, h4.v, h6.v, h8.v] :: box b10 27 [hnil.v] :: row 22 rH h13.v y27 :: fam 3 (rI .i64) y27 x28 :: row 77 rTi64i64u64 h17.v r16 :: rs) w) go1 ⟨_, _, _, _, rfl, rfl, rfl, rfl, rfl, rfl, rfl, (hst.pk 5 [4, 3, 1, 1, 0] rfl)⟩ ?_
    clear hst
    rintro _ _ w r1_ ⟨x28, x29, f, y27, rfl, rfl, e1_1, e1_2, e1_5, e1_6, e1_7, hst⟩ hM1 ho1 Q100001 n1 zz1
    refine seqQ fun Q203 k203 z203 => ?_
    refine seqQ fun Q204 k204 z204 => ?_
    refine wp_region_lit ?_
    refine Y wn rfl (ym (v := .int .i64 x29) (et rfl e1_7)) ?_
    refine Y wn rfl (ym (v := h17.v) (et rfl e1_6)) ?_
    refine Y wn rfl (yLen SL_72 (et rfl rfl) hst (rdO (mtR (mtR (mtR (mtR mhR)))))) ?_
    refine Y wn rfl (ylss (et rfl rfl) (et rfl rfl)) ?_
    refine wpList_nil ?_
    refine k204 _ _ ?_
    rcases iteS hM1 with ⟨c411, hM1⟩ | ⟨c411, hM1⟩
    · refine condT (et rfl rfl) (decide_eq_true c411) ?_
      refine wp_skip ?_
      refine k203 _ _ ?_
      refine seqQ fun Q205 k205 z205 => ?_
      refine blockQ fun Q206 qb206 => ?_
      obtain ⟨x412, gx412, hM1⟩ := bs hM1
      obtain ⟨x413, gx413, hM1⟩ := bs hM1
      obtain ⟨x417, gx417, hM1⟩ := bs hM1
      obtain ⟨x418, gx418, hM1⟩ := bs hM1
      refine wp_drawR [0, 0, 0, 6, 14, 30, 0, 0, 0, 384, 896, 1920, 4032, 8128, 0, 0, 49152, 114688, 245760, 507904, 1048512, 2097151, 4194303] [19, 20, 22] 3 folM (by kernel_rfl) (by kernel_rfl) (by kernel_rfl) ?_
      replace hst := hst.drew
      refine DRn (l1 := [0, 1, 2, 3, 4, 5, 6, 7, 8, 9, 10, 11, 12, 13, 14, 15, 16, 17, 18]) (l2 := []) (lc := [19]) (by kernel_rfl) (by kernel_rfl) (by kernel_rfl) ?_
      refine Ry rfl rfl wn (ym (v := h13.v) (et rfl e1_5)) ?_
      refine Ry rfl rfl wn (ym (v := h17.v) (et rfl e1_6)) ?_
      refine Ry rfl rfl wn (ym (v := .int .i64 x29) (et rfl e1_7)) ?_
      refine Ry rfl rfl wn (yIa SL_72 (et rfl rfl) (et rfl rfl) hst (rdO (mtR (mtR (mtR (mtR mhR))))) gx412) ?_
      refine Ry rfl rfl wn (yFe FL_77_0 (et rfl rfl)) ?_
      refine Ry rfl rfl wn (yFf (u := .int .i64 x412.1) O_3 (et rfl rfl) hst (rdO (mtR (mtR (mtR (mtR mhR))))) gx412 rfl) ?_
      refine Ry rfl rfl wn (ym (v := h13.v) (et rfl e1_5)) ?_
      refine Ry rfl rfl wn (ym (v := h17.v) (et rfl e1_6)) ?_
      refine Ry rfl rfl wn (ym (v := .int .i64 x29) (et rfl e1_7)) ?_
      refine Ry rfl rfl wn (yIa SL_72 (et rfl rfl) (et rfl rfl) hst (rdO (mtR (mtR (mtR (mtR mhR))))) gx412) ?_
      refine Ry rfl rfl wn (yFe FL_77_0 (et rfl rfl)) ?_
      refine Ry rfl rfl wn (yFf (u := .int .i64 x412.1) O_3 (et rfl rfl) hst (rdO (mtR (mtR (mtR (mtR mhR))))) gx412 rfl) ?_
      obtain ⟨h414, gh414⟩ := hst.famI (mtR (mtR (mtR mhR))) gx413
      refine Ry rfl rfl wn (yIa SLH_25 (et rfl rfl) (et rfl rfl) hst (rdO (mtR (mtR mhR))) gh414) ?_
      refine Ry rfl rfl wn (yF1 O_22 (et rfl rfl) hst (rdO (mtR (mtR mhR))) gh414 rfl) ?_
      refine Ry rfl rfl wn (ym (v := h17.v) (et rfl e1_6)) ?_
      refine Ry rfl rfl wn (ym (v := .int .i64 x29) (et rfl e1_7)) ?_
      refine Ry rfl rfl wn (yIa SL_72 (et rfl rfl) (et rfl rfl) hst (rdO (mtR (mtR (mtR (mtR mhR))))) gx412) ?_
      refine Ry rfl rfl wn (yFe FL_77_1 (et rfl rfl)) ?_
      refine Ry rfl rfl wn (yFf (u := .int .i64 x412.2.1) O_3 (et rfl rfl) hst (rdO (mtR (mtR (mtR (mtR mhR))))) gx412 rfl) ?_
      refine Rn QSn ?_
      refine Lc rfl ?_ LAn
      refine LH wn (rLt (n := 1) (l := [x412.2.1]) hst SL_22 [.int .i64 x412.2.1] (bp1 (et rfl rfl)) rfl rfl (mks1 (cs := [.int .i64 x412.2.1]) rfl mkI mks0)) ?_
      clear hst
      intro h415 w hst
      refine DRn (l1 := []) (l2 := [0, 1, 2, 3, 4, 5, 6, 7, 8, 9, 10, 11, 12, 13]) (lc := [20]) (by kernel_rfl) (by kernel_rfl) (by kernel_rfl) ?_
      refine Rn (Sy rfl rfl wn (ym (v := h13.v) (et rfl e1_5)) rfl (Sy rfl rfl wn (ym (v := h17.v) (et rfl e1_6)) rfl (Sy rfl rfl wn (ym (v := .int .i64 x29) (et rfl e1_7)) rfl (Sy rfl rfl wn (yIa SL_72 (et rfl rfl) (et rfl rfl) hst (rdO (mtR (mtR (mtR (mtR (mtR mhR)))))) gx412) rfl (Sy rfl rfl wn (yFe FL_77_0 (et rfl rfl)) rfl (Sy rfl rfl wn (yFf (u := .int .i64 x412.1) O_3 (et rfl rfl) hst (rdO (mtR (mtR (mtR (mtR (mtR mhR)))))) gx412 rfl) rfl (Sy rfl rfl wn (ym (v := h13.v) (et rfl e1_5)) rfl (Sy rfl rfl wn (ym (v := h17.v) (et rfl e1_6)) rfl (Sy rfl rfl wn (ym (v := .int .i64 x29) (et rfl e1_7)) rfl (Sy rfl rfl wn (yIa SL_72 (et rfl rfl) (et rfl rfl) hst (rdO (mtR (mtR (mtR (mtR (mtR mhR)))))) gx412) rfl (Sy rfl rfl wn (yFe FL_77_0 (et rfl rfl)) rfl (Sy rfl rfl wn (yFf (u := .int .i64 x412.1) O_3 (et rfl rfl) hst (rdO (mtR (mtR (mtR (mtR (mtR mhR)))))) gx412 rfl) rfl (Sy rfl rfl wn (yIa SLH_25 (et rfl rfl) (et rfl rfl) hst (rdO (mtR (mtR (mtR mhR)))) gh414) rfl (Sy rfl rfl wn (yF1 O_22 (et rfl rfl) hst (rdO (mtR (mtR (mtR mhR)))) gh414 rfl) rfl QSn)))))))))))))) ?_
      refine Lc rfl ?_ LAn
      replace hst := hst.pk 5 [4, 0, 0, 0, 0] rfl
      replace hst := hst.foc gh414 gx413
      refine LH wn (rAp hst SL_22 (et rfl rfl) (et rfl rfl) (rdO (mtR (mtR mhR))) gx417) ?_
      clear hst
      intro h416 w hst
      refine DRn (l1 := [21]) (l2 := [0, 1, 2, 3, 4, 5]) (lc := [22]) (by kernel_rfl) (by kernel_rfl) (by kernel_rfl) ?_
      obtain ⟨y419, gy419⟩ := setI_len (u := h416) gx418 (hst.famLx (mtR mhR))
      refine Ry rfl rfl wn (yIs SLH_25 (et rfl rfl) (et rfl rfl) hst (rdO (mtR (mtR (mtR (mtR (mtR mhR)))))) gy419) ?_
      refine Rn (Sy rfl rfl wn (ym (v := h13.v) (et rfl e1_5)) rfl (Sy rfl rfl wn (ym (v := h17.v) (et rfl e1_6)) rfl (Sy rfl rfl wn (ym (v := .int .i64 x29) (et rfl e1_7)) rfl (Sy rfl rfl wn (yIa SL_72 (et rfl rfl) (et rfl rfl) hst (rdO (mtR (mtR (mtR (mtR (mtR (mtR mhR))))))) gx412) rfl (Sy rfl rfl wn (yFe FL_77_0 (et rfl rfl)) rfl (Sy rfl rfl wn (yFf (u := .int .i64 x412.1) O_3 (et rfl rfl) hst (rdO (mtR (mtR (mtR (mtR (mtR (mtR mhR))))))) gx412 rfl) rfl QSn)))))) ?_
      refine Lc rfl ?_ LAn
      replace hst := hst.pk 6 [5, 0, 0, 0, 0, 0] rfl
      refine LT wn (r_sti (cs := [h416.v]) hst O_22 rfl (et rfl rfl) (et rfl rfl) rfl (mkF rfl) gy419) ?_
      clear hst
      intro w hst
      replace hst := hst.pk 3 [1, 1, 0] rfl
      replace hst := hst.unfS gh414 gy419 gx418
      refine DRz (l1 := []) (l2 := []) (by kernel_rfl) (by kernel_rfl) ?_
      refine Rn QSn ?_
      refine qb206 _ _ _ ?_
      refine k205 _ _ ?_
      refine wp_region_lit ?_
      refine Y wn rfl (ym (v := .int .i64 x29) (et rfl e1_7)) ?_
      refine Y wn rfl (yadd (et rfl rfl) rfl) ?_
      refine Y wn rfl (ya (v := .int .i64 (wa .i64 x29 1)) (et rfl rfl)) ?_
      refine wpList_nil ?_
      obtain rfl := someI hM1
      exact n1 _ _ _ rfl ⟨_, _, _, _, rfl, rfl, e1_1, e1_2, e1_5, e1_6, rfl, (hst.pk 6 [3, 3, 1, 0, 1] rfl)⟩
    · refine condF (et rfl rfl) (decide_eq_false c411) ?_
      refine wp_exit ?_
      refine z203 _ _ _ rfl ?_
      obtain rfl := someI hM1
      refine zz1 _ _ _ _ rfl rfl ?_
      exact je1_0 _ _ _ _ e1_1 e1_2 e1_5 (hst.pk 5 [0, 0, 0, 0] rfl) (ho1 _ rfl)
  · refine condT (et rfl rfl) (nT (decide_eq_false c12)) ?_
    refine seqQ fun Q207 k207 z207 => ?_
    refine wp_region_lit ?_
    refine Y wn rfl (ybuild (us := [hnil.v]) [] SO_27 bp0 rfl) ?_
    refine Y wn rfl (ym (v := .int .i64 r11) (et rfl rfl)) ?_
    refine YT wn rfl (r_stbn (vals' := [hnil.v]) (us := [hnil.v]) hst ST_27 (et rfl rfl) (et rfl rfl) rfl rfl (one_of rfl) rfl) ?_
    clear hst
    intro w hst
    refine Y wn rfl (ya (v := .int .i64 r11) (et rfl rfl)) ?_
    refine wpList_nil ?_
    refine k207 _ _ ?_
    refine wp_ret ?_
    refine z2 _ _ _ rfl ?_
    obtain rfl := someI hM
    replace hst := hst.rowNh 22 (rS (rI .i64))
    exact hQ _ _ _ (fin2r Try.results51 (rcs2 rfl rfl hst (mtR mhR) ST_27 rfl) ⟨rfl, rfl⟩ ⟨_, rfl, (hst.pk 3 [0] rfl)⟩)

theorem sparseref19_ColParent_ok {w0 : World} {ros : List Fact} {rs : List Res} {w : World} {x1 : Int} {x2 : Int} {x3 : List Int} {x5 : List Int} {x7 : List Int} {h4 : Hdr} {h6 : Hdr} {h8 : Hdr} {out : (List Int) × Int} (hM : sparseref19_ColParent x1 x2 x3 x5 x7 = some out) (q1 : imm (rI .i64) h4.v x3 ∈ ros) (q2 : imm (rI .i64) h6.v x5 ∈ ros) (q3 : imm (rI .u64) h8.v x7 ∈ ros) (hst : St w0 ros (rs) w) :
    Calls Try.prog 31 #[.agg #[.int .i64 x1, .int .i64 x2, h4.v, h6.v, h8.v]] w (fun e w => ∃ (h100001 : Hdr), e = .returned (.tuple #[h100001.v, .int .i64 out.2]) ∧ St w0 (ros) (row 3 (rI .i64) h100001.v out.1 :: rs) w) := by
  refine enterQ Try.func31 rfl Try.ntmps31 rfl fun Q hQ => ?_
  refine seqQ fun Q1 k1 z1 => ?_
  refine wp_region_lit ?_
  refine YB wn rfl (r_box (vals := [.int .i64 x1, .int .i64 x2, h4.v, h6.v, h8.v]) hst (et rfl rfl) rfl) ?_
  clear hst
  intro b9 w hst
  refine Y wn rfl (ya (v := hnil.v) rfl) ?_
  refine Y wn rfl (ya (v := .int .i64 0) rfl) ?_
  refine wpList_nil ?_
  refine k1 _ _ ?_
  refine seqQ fun Q2 k2 z2 => ?_
  refine wp_region_lit ?_
  refine Y wn rfl (yLbs (us := [.int .i64 x1, .int .i64 x2, h4.v, h6.v, h8.v]) ST_42 (et rfl rfl) hst mhR rfl rfl) ?_
  obtain ⟨r10, gr10, hM⟩ := bs hM
  refine Yc wn rfl (yCall FN_51 (a1 (et rfl rfl))) (sparseref12_FromNormal_ok (hM := gr10) (hst := hst) (q1 := q1) (q2 := q2) (q3 := q3)) ?_
  clear hst
  rintro _ w ⟨h11, rfl, hst⟩
  refine ⟨_, rfl, ?_⟩
  refine Y wn rfl (ym (v := .tuple #[.agg #[h11.v], .int .i64 r10.2]) (et rfl rfl)) ?_
  refine Y wn rfl (yx (v := .agg #[h11.v]) (et rfl rfl) rfl) ?_
  refine Y wn rfl (yx (v := .int .i64 r10.2) (et rfl rfl) rfl) ?_
  refine YB wn rfl (rAl hst ZT_27) ?_
  clear hst
  intro b12 w hst
  refine YT wn rfl (r_stbn (vals' := [h11.v]) (us := [h11.v]) hst ST_27 (et rfl rfl) (et rfl rfl) rfl rfl (one_of rfl) rfl) ?_
  clear hst
  intro w hst
  refine Y wn rfl (ya (v := .int .i64 r10.2) (et rfl rfl)) ?_
  refine wpList_nil ?_
  refine k2 _ _ ?_
  refine seqQ fun Q3 k3 z3 => ?_
  refine seqQ fun Q4 k4 z4 => ?_
  refine wp_region_lit ?_
  refine Y wn rfl (ym (v := .int .i64 r10.2) (et rfl rfl)) ?_
  refine Y wn rfl (yneq (et rfl rfl) rfl) ?_
  refine wpList_nil ?_
  refine k4 _ _ ?_
  rcases iteS hM with ⟨c13, hM⟩ | ⟨c13, hM⟩
  · refine condF (et rfl rfl) (nF (decide_eq_true c13)) ?_
    refine wp_skip ?_
    refine k3 _ _ ?_
    refine seqQ fun Q5 k5 z5 => ?_
    refine wp_region_lit ?_
    refine Y wn rfl (yLbs (us := [h11.v]) ST_27 (et rfl rfl) hst mhR rfl rfl) ?_
    obtain ⟨r14, gr14, hM⟩ := bs hM
    replace hst := hst.pk 2 [1, 0] rfl
    replace hst := hst.fz
    refine Yc wn rfl (yCall FN_24 (a1 (et rfl rfl))) (sparseref19_Parent_ok (hM := gr14) (hst := hst) (q1 := mhF)) ?_
    clear hst
    rintro _ w ⟨h15, rfl, hst⟩
    refine ⟨_, rfl, ?_⟩
    refine Y wn rfl (yx (v := h15.v) (et rfl rfl) rfl) ?_
    refine Y wn rfl (yx (v := .int .i64 r14.2) (et rfl rfl) rfl) ?_
    refine Y wn rfl (ya (v := h15.v) (et rfl rfl)) ?_
    refine Y wn rfl (ya (v := .int .i64 r14.2) (et rfl rfl)) ?_
    refine wpList_nil ?_
    refine k5 _ _ ?_
    refine wp_ret ?_
    obtain rfl := someI hM
    exact hQ _ _ _ (fin2r Try.results31 ⟨rfl, rfl⟩ ⟨rfl, rfl⟩ ⟨_, rfl, ((hst.pk 3 [0] rfl).facts (allT allI))⟩)
  · refine condT (et rfl rfl) (nT (decide_eq_false c13)) ?_
    refine seqQ fun Q6 k6 z6 => ?_
    refine wp_region_lit ?_
    refine Y wn rfl (ym (v := .int .i64 r10.2) (et rfl rfl)) ?_
    refine Y wn rfl (ya (v := hnil.v) rfl) ?_
    refine Y wn rfl (ya (v := .int .i64 r10.2) (et rfl rfl)) ?_
    refine wpList_nil ?_
    refine k6 _ _ ?_
    refine wp_ret ?_
    refine z3 _ _ _ rfl ?_
    obtain rfl := someI hM
    replace hst := hst.rowNh 3 (rI .i64)
    exact hQ _ _ _ (fin2r Try.results31 ⟨rfl, rfl⟩ ⟨rfl, rfl⟩ ⟨_, rfl, (hst.pk 4 [0] rfl)⟩)

theorem sparsekit_Lists_ok {w0 : World} {ros : List Fact} {rs : List Res} {w : World} {x1 : List (List Int)} {x3 : List (List Int)} {h2 : Hdr} {h4 : Hdr} {out : Bool} (hM : sparsekit_Lists x1 x3 = some out) (q1 : imm (rS (rI .i64)) h2.v x1 ∈ ros) (q2 : imm (rS (rI .i64)) h4.v x3 ∈ ros) (hst : St w0 ros (rs) w) :
    Calls Try.prog 52 #[h2.v, h4.v] w (fun e w => e = .returned (.bool out) ∧ St w0 (ros) (rs) w) := by
  refine enterQ Try.func52 rfl Try.ntmps52 rfl fun Q hQ => ?_
  refine seqQ fun Q1 k1 z1 => ?_
  refine wp_region_lit ?_
  refine Y wn rfl (ya (v := .bool false) rfl) ?_
  refine wpList_nil ?_
  refine k1 _ _ ?_
  refine seqQ fun Q2 k2 z2 => ?_
  refine seqQ fun Q3 k3 z3 => ?_
  refine wp_region_lit ?_
  refine Y wn rfl (ym (v := h2.v) (et rfl rfl)) ?_
  refine Y wn rfl (yLen SL_25 (et rfl rfl) hst (rdI q1)) ?_
  refine Y wn rfl (ym (v := h4.v) (et rfl rfl)) ?_
  refine Y wn rfl (yLen SL_25 (et rfl rfl) hst (rdI q2)) ?_
  refine Y wn rfl (yneq (et rfl rfl) (et rfl rfl)) ?_
  refine wpList_nil ?_
  refine k3 _ _ ?_
  rcases iteS hM with ⟨c5, hM⟩ | ⟨c5, hM⟩
  · refine condF (et rfl rfl) (nF (decide_eq_true c5)) ?_
    refine wp_skip ?_
    refine k2 _ _ ?_
    refine seqQ fun Q4 k4 z4 => ?_
    refine seqQ fun Q5 k5 z5 => ?_
    refine wp_region_lit ?_
    refine Y wn rfl (ya (v := .int .i64 0) rfl) ?_
    refine wpList_nil ?_
    refine k5 _ _ ?_
    refine blockQ fun Q6 qb6 => ?_
    obtain ⟨o1, go1, hM⟩ := bs hM
    have je1_0 : ∀ (f : Nat → Value) (w : World), St w0 (ros) (rs) w → .inl () = o1 → Q6 (.exit 0) (fr 27 f) w := by
      intro f w hst ho
      subst ho
      refine qb6 _ _ _ ?_
      refine k4 _ _ ?_
      refine seqQ fun Q19 k19 z19 => ?_
      refine wp_region_lit ?_
      refine Y wn rfl (ya (v := .bool true) rfl) ?_
      refine wpList_nil ?_
      refine k19 _ _ ?_
      refine wp_ret ?_
      obtain rfl := someI hM
      exact hQ _ _ _ (fin1r Try.results52 ⟨rfl, rfl⟩ ⟨rfl, hst⟩)
    have je1_1 : ∀ (f : Nat → Value) (w : World), f 4 = .bool false → St w0 (ros) (rs) w → .inr () = o1 → Q6 .ret (fr 27 f) w := by
      intro f w eje1_1_4 hst ho
      subst ho
      refine qb6 _ _ _ ?_
      refine z4 _ _ _ rfl ?_
      obtain rfl := someI hM
      exact hQ _ _ _ (fin1r Try.results52 ⟨rfl, eje1_1_4⟩ ⟨rfl, hst⟩)
    refine loopQ (fun s a w => ∃ (x13 : Int) (f : Nat → Value), x13 = s ∧ a = fr 27 f ∧ f 0 = h2.v ∧ f 1 = h4.v ∧ f 5 = .int .i64 x13 ∧ St w0 (ros) (rs) w) go1 ⟨_, _, rfl, rfl, rfl, rfl, rfl, hst⟩ ?_
    clear hst
    rintro _ _ w r1_ ⟨x13, f, rfl, rfl, e1_0, e1_1, e1_5, hst⟩ hM1 ho1 Q100001 n1 zz1
    refine seqQ fun Q20 k20 z20 => ?_
    refine seqQ fun Q21 k21 z21 => ?_
    refine wp_region_lit ?_
    refine Y wn rfl (ym (v := .int .i64 x13) (et rfl e1_5)) ?_
    refine Y wn rfl (ym (v := h2.v) (et rfl e1_0)) ?_
    refine Y wn rfl (yLen SL_25 (et rfl rfl) hst (rdI q1)) ?_
    refine Y wn rfl (ylss (et rfl rfl) (et rfl rfl)) ?_
    refine wpList_nil ?_
    refine k21 _ _ ?_
    rcases iteS hM1 with ⟨c22, hM1⟩ | ⟨c22, hM1⟩
    · refine condT (et rfl rfl) (decide_eq_true c22) ?_
      refine wp_skip ?_
      refine k20 _ _ ?_
      refine seqQ fun Q22 k22 z22 => ?_
      refine blockQ fun Q23 qb23 => ?_
      refine seqQ fun Q24 k24 z24 => ?_
      obtain ⟨x23, gx23, hM1⟩ := bs hM1
      obtain ⟨x25, gx25, hM1⟩ := bs hM1
      obtain ⟨r27, gr27, hM1⟩ := bs hM1
      refine wp_drawR [0, 0, 3, 7, 0, 0, 48, 112, 255, 511] [8] 1 folM (by kernel_rfl) (by kernel_rfl) (by kernel_rfl) ?_
      replace hst := hst.drew
      refine DRn (l1 := [0, 1, 2, 3, 4, 5, 6, 7]) (l2 := []) (lc := [8]) (by kernel_rfl) (by kernel_rfl) (by kernel_rfl) ?_
      refine Ry rfl rfl wn (ym (v := h2.v) (et rfl e1_0)) ?_
      refine Ry rfl rfl wn (ym (v := .int .i64 x13) (et rfl e1_5)) ?_
      refine Ry rfl rfl wn (yIa SL_25 (et rfl rfl) (et rfl rfl) hst (rdI q1) gx23) ?_
      obtain ⟨h24, hst⟩ := iLs hst q1 gx23
      refine Ry rfl rfl wn (yCt O_22 (et rfl rfl) hst (mtF mhF) rfl) ?_
      refine Ry rfl rfl wn (ym (v := h4.v) (et rfl e1_1)) ?_
      refine Ry rfl rfl wn (ym (v := .int .i64 x13) (et rfl e1_5)) ?_
      refine Ry rfl rfl wn (yIa SL_25 (et rfl rfl) (et rfl rfl) hst (rdI (mtF (mtF q2))) gx25) ?_
      obtain ⟨h26, hst⟩ := iLs hst (mtF (mtF q2)) gx25
      refine Ry rfl rfl wn (yCt O_22 (et rfl rfl) hst (mtF mhF) rfl) ?_
      refine Rn QSn ?_
      refine Lc rfl ?_ LAn
      refine Lk wn (yCall FN_23 (a2 (et rfl rfl) (et rfl rfl))) (sparsekit_Ints_ok (hM := gr27) (hst := hst) (q1 := (mtF (mtF mhF))) (q2 := mhF)) ?_
      clear hst
      rintro _ w ⟨rfl, hst⟩
      refine ⟨_, rfl, ?_⟩
      refine DRz (l1 := [9]) (l2 := []) (by kernel_rfl) (by kernel_rfl) ?_
      refine Ry rfl rfl wn (ynot (et rfl rfl)) ?_
      refine Rn QSn ?_
      refine k24 _ _ ?_
      rcases iteS hM1 with ⟨c28, hM1⟩ | ⟨c28, hM1⟩
      · refine condF (et rfl rfl) (nF c28) ?_
        refine wp_skip ?_
        refine qb23 _ _ _ ?_
        refine k22 _ _ ?_
        refine wp_region_lit ?_
        refine Y wn rfl (ym (v := .int .i64 x13) (et rfl e1_5)) ?_
        refine Y wn rfl (yadd (et rfl rfl) rfl) ?_
        refine Y wn rfl (ya (v := .int .i64 (wa .i64 x13 1)) (et rfl rfl)) ?_
        refine wpList_nil ?_
        obtain rfl := someI hM1
        exact n1 _ _ _ rfl ⟨_, _, rfl, rfl, e1_0, e1_1, rfl, (hst.facts (allT (allT (allT (allT allI)))))⟩
      · refine condT (et rfl rfl) (nT (bfalse c28)) ?_
        refine seqQ fun Q25 k25 z25 => ?_
        refine wp_region_lit ?_
        refine Y wn rfl (ya (v := .bool false) rfl) ?_
        refine wpList_nil ?_
        refine k25 _ _ ?_
        refine wp_ret ?_
        refine qb23 _ _ _ ?_
        refine z22 _ _ _ rfl ?_
        obtain rfl := someI hM1
        refine zz1 _ _ _ _ rfl rfl ?_
        exact je1_1 _ _ rfl (hst.facts (allT (allT (allT (allT allI))))) (ho1 _ rfl)
    · refine condF (et rfl rfl) (decide_eq_false c22) ?_
      refine wp_exit ?_
      refine z20 _ _ _ rfl ?_
      obtain rfl := someI hM1
      refine zz1 _ _ _ _ rfl rfl ?_
      exact je1_0 _ _ hst (ho1 _ rfl)
  · refine condT (et rfl rfl) (nT (decide_eq_false c5)) ?_
    refine seqQ fun Q26 k26 z26 => ?_
    refine wp_region_lit ?_
    refine Y wn rfl (ya (v := .bool false) rfl) ?_
    refine wpList_nil ?_
    refine k26 _ _ ?_
    refine wp_ret ?_
    refine z2 _ _ _ rfl ?_
    obtain rfl := someI hM
    exact hQ _ _ _ (fin1r Try.results52 ⟨rfl, rfl⟩ ⟨rfl, hst⟩)

theorem sparsekit_Graph_ok {w0 : World} {ros : List Fact} {rs : List Res} {w : World} {x1 : List (List Int)} {x3 : List (List Int)} {h2 : Hdr} {h4 : Hdr} {out : Bool} (hM : sparsekit_Graph x1 x3 = some out) (q1 : imm (rS (rI .i64)) h2.v x1 ∈ ros) (q2 : imm (rS (rI .i64)) h4.v x3 ∈ ros) (hst : St w0 ros (rs) w) :
    Calls Try.prog 32 #[.agg #[h2.v], .agg #[h4.v]] w (fun e w => e = .returned (.bool out) ∧ St w0 (ros) (rs) w) := by
  refine enterQ Try.func32 rfl Try.ntmps32 rfl fun Q hQ => ?_
  refine seqQ fun Q1 k1 z1 => ?_
  refine wp_region_lit ?_
  refine YB wn rfl (r_box (vals := [h2.v]) hst (et rfl rfl) rfl) ?_
  clear hst
  intro b5 w hst
  refine YB wn rfl (r_box (vals := [h4.v]) hst (et rfl rfl) rfl) ?_
  clear hst
  intro b6 w hst
  refine Y wn rfl (ya (v := .bool false) rfl) ?_
  refine wpList_nil ?_
  refine k1 _ _ ?_
  refine seqQ fun Q2 k2 z2 => ?_
  refine wp_region_lit ?_
  refine Y wn rfl (yFb FL_27_0 (et rfl rfl)) ?_
  refine Y wn rfl (yLb (u := h2.v) O_25 (et rfl rfl) hst (mtR mhR) rfl) ?_
  refine Y wn rfl (yFb FL_27_0 (et rfl rfl)) ?_
  refine Y wn rfl (yLb (u := h4.v) O_25 (et rfl rfl) hst mhR rfl) ?_
  obtain ⟨r7, gr7, hM⟩ := bs hM
  refine Yc wn rfl (yCall FN_52 (a2 (et rfl rfl) (et rfl rfl))) (sparsekit_Lists_ok (hM := gr7) (hst := hst) (q1 := q1) (q2 := q2)) ?_
  clear hst
  rintro _ w ⟨rfl, hst⟩
  refine ⟨_, rfl, ?_⟩
  refine Y wn rfl (ya (v := .bool r7) (et rfl rfl)) ?_
  refine wpList_nil ?_
  refine k2 _ _ ?_
  refine wp_ret ?_
  obtain rfl := someI hM
  exact hQ _ _ _ (fin1r Try.results32 ⟨rfl, rfl⟩ ⟨rfl, (hst.pk 2 [] rfl)⟩)

theorem sparselaw19_EtreeAny_ok {w0 : World} {ros : List Fact} {rs : List Res} {w : World} {x1 : List (List Int)} {x3 : Int} {x4 : Int} {x5 : List Int} {x7 : List Int} {x9 : List Int} {h2 : Hdr} {h6 : Hdr} {h8 : Hdr} {h10 : Hdr} {out : Bool} (hM : sparselaw19_EtreeAny x1 x3 x4 x5 x7 x9 = some out) (q1 : imm (rS (rI .i64)) h2.v x1 ∈ ros) (q2 : imm (rI .i64) h6.v x5 ∈ ros) (q3 : imm (rI .i64) h8.v x7 ∈ ros) (q4 : imm (rI .u64) h10.v x9 ∈ ros) (hst : St w0 ros (rs) w) :
    Calls Try.prog 7 #[.agg #[h2.v], .agg #[.int .i64 x3, .int .i64 x4, h6.v, h8.v, h10.v]] w (fun e w => e = .returned (.bool out) ∧ St w0 (ros) (rs) w) := by
  refine enterQ Try.func7 rfl Try.ntmps7 rfl fun Q hQ => ?_
  refine seqQ fun Q1 k1 z1 => ?_
  refine wp_region_lit ?_
  refine YB wn rfl (r_box (vals := [h2.v]) hst (et rfl rfl) rfl) ?_
  clear hst
  intro b11 w hst
  refine YB wn rfl (r_box (vals := [.int .i64 x3, .int .i64 x4, h6.v, h8.v, h10.v]) hst (et rfl rfl) rfl) ?_
  clear hst
  intro b12 w hst
  refine Y wn rfl (ya (v := .bool false) rfl) ?_
  refine wpList_nil ?_
  refine k1 _ _ ?_
  refine seqQ fun Q2 k2 z2 => ?_
  refine seqQ fun Q3 k3 z3 => ?_
  refine wp_region_lit ?_
  refine Y wn rfl (yLbs (us := [h2.v]) ST_27 (et rfl rfl) hst (mtR mhR) rfl rfl) ?_
  obtain ⟨r13, gr13, hM⟩ := bs hM
  refine Yc wn rfl (yCall FN_28 (a1 (et rfl rfl))) (sparselaw19_small_ok (hM := gr13) (hst := hst) (q1 := q1)) ?_
  clear hst
  rintro _ w ⟨rfl, hst⟩
  refine ⟨_, rfl, ?_⟩
  refine Y wn rfl (ynot (et rfl rfl)) ?_
  refine Y wn rfl (ym (v := .bool (!(r13))) (et rfl rfl)) ?_
  refine joinW 5 (fun f w => f 2 = .pointer (some ⟨b11, 0, none⟩) ∧ f 3 = .pointer (some ⟨b12, 0, none⟩) ∧ f 22 = .bool ((!(r13)) || (decide ((60 : Int) < (x7.length : Int)))) ∧ St w0 (ros) (box b11 27 [h2.v] :: box b12 42 [.int .i64 x3, .int .i64 x4, h6.v, h8.v, h10.v] :: rs) w) (fun j1 => ?_) ?_
  · rcases Bool.eq_false_or_eq_true (!(r13)) with c15 | c15
    · refine Gn (wx rfl rfl rfl c15) rfl ?_
      refine Gn (wx rfl rfl rfl c15) rfl ?_
      refine Gn (wx rfl rfl rfl c15) rfl ?_
      refine Gn (wx rfl rfl rfl c15) rfl ?_
      refine Y wn rfl (ypt (v := .bool true) (et rfl rfl) c15 rfl) ?_
      exact j1 _ _ ⟨rfl, rfl, (congrArg Value.bool (orT c15)), (hst.pk 2 [1, 0] rfl)⟩
    · refine Y (wg rfl rfl rfl c15) rfl (yFb FL_42_3 (et rfl rfl)) ?_
      refine Y (wg rfl rfl rfl c15) rfl (yLb (u := h8.v) O_22 (et rfl rfl) hst mhR rfl) ?_
      refine Y (wg rfl rfl rfl c15) rfl (yLen SL_22 (et rfl rfl) hst (rdI q3)) ?_
      refine Y (wg rfl rfl rfl c15) rfl (ygtr (et rfl rfl) rfl) ?_
      refine Y wn rfl (ypf (v := .bool (decide ((60 : Int) < (x7.length : Int)))) (et rfl rfl) c15 (et rfl rfl)) ?_
      exact j1 _ _ ⟨rfl, rfl, (congrArg Value.bool (orF c15)), (hst.pk 2 [1, 0] rfl)⟩
  clear hst
  rintro f w ⟨e14_2, e14_3, e14_22, hst⟩
  refine Y wn rfl (ym (v := .bool ((!(r13)) || (decide ((60 : Int) < (x7.length : Int))))) (et rfl e14_22)) ?_
  refine joinW 5 (fun f w => f 2 = .pointer (some ⟨b11, 0, none⟩) ∧ f 3 = .pointer (some ⟨b12, 0, none⟩) ∧ f 28 = .bool (((!(r13)) || (decide ((60 : Int) < (x7.length : Int)))) || (decide ((60 : Int) < (x9.length : Int)))) ∧ St w0 (ros) (box b11 27 [h2.v] :: box b12 42 [.int .i64 x3, .int .i64 x4, h6.v, h8.v, h10.v] :: rs) w) (fun j2 => ?_) ?_
  · rcases Bool.eq_false_or_eq_true (((!(r13)) || (decide ((60 : Int) < (x7.length : Int))))) with c17 | c17
    · refine Gn (wx rfl rfl rfl c17) rfl ?_
      refine Gn (wx rfl rfl rfl c17) rfl ?_
      refine Gn (wx rfl rfl rfl c17) rfl ?_
      refine Gn (wx rfl rfl rfl c17) rfl ?_
      refine Y wn rfl (ypt (v := .bool true) (et rfl rfl) c17 rfl) ?_
      exact j2 _ _ ⟨e14_2, e14_3, (congrArg Value.bool (orT c17)), hst⟩
    · refine Y (wg rfl rfl rfl c17) rfl (yFb FL_42_4 (et rfl e14_3)) ?_
      refine Y (wg rfl rfl rfl c17) rfl (yLb (u := h10.v) O_40 (et rfl rfl) hst (mtR mhR) rfl) ?_
      refine Y (wg rfl rfl rfl c17) rfl (yLen SL_40 (et rfl rfl) hst (rdI q4)) ?_
      refine Y (wg rfl rfl rfl c17) rfl (ygtr (et rfl rfl) rfl) ?_
      refine Y wn rfl (ypf (v := .bool (decide ((60 : Int) < (x9.length : Int)))) (et rfl rfl) c17 (et rfl rfl)) ?_
      exact j2 _ _ ⟨e14_2, e14_3, (congrArg Value.bool (orF c17)), hst⟩
  clear hst
  rintro f w ⟨e16_2, e16_3, e16_28, hst⟩
  refine Y wn rfl (ym (v := .bool (((!(r13)) || (decide ((60 : Int) < (x7.length : Int)))) || (decide ((60 : Int) < (x9.length : Int))))) (et rfl e16_28)) ?_
  refine joinW 5 (fun f w => f 2 = .pointer (some ⟨b11, 0, none⟩) ∧ f 3 = .pointer (some ⟨b12, 0, none⟩) ∧ f 34 = .bool ((((!(r13)) || (decide ((60 : Int) < (x7.length : Int)))) || (decide ((60 : Int) < (x9.length : Int)))) || (decide ((20 : Int) < (x5.length : Int)))) ∧ St w0 (ros) (box b11 27 [h2.v] :: box b12 42 [.int .i64 x3, .int .i64 x4, h6.v, h8.v, h10.v] :: rs) w) (fun j3 => ?_) ?_
  · rcases Bool.eq_false_or_eq_true ((((!(r13)) || (decide ((60 : Int) < (x7.length : Int)))) || (decide ((60 : Int) < (x9.length : Int))))) with c19 | c19
    · refine Gn (wx rfl rfl rfl c19) rfl ?_
      refine Gn (wx rfl rfl rfl c19) rfl ?_
      refine Gn (wx rfl rfl rfl c19) rfl ?_
      refine Gn (wx rfl rfl rfl c19) rfl ?_
      refine Y wn rfl (ypt (v := .bool true) (et rfl rfl) c19 rfl) ?_
      exact j3 _ _ ⟨e16_2, e16_3, (congrArg Value.bool (orT c19)), hst⟩
    · refine Y (wg rfl rfl rfl c19) rfl (yFb FL_42_2 (et rfl e16_3)) ?_
      refine Y (wg rfl rfl rfl c19) rfl (yLb (u := h6.v) O_22 (et rfl rfl) hst (mtR mhR) rfl) ?_
      refine Y (wg rfl rfl rfl c19) rfl (yLen SL_22 (et rfl rfl) hst (rdI q2)) ?_
      refine Y (wg rfl rfl rfl c19) rfl (ygtr (et rfl rfl) rfl) ?_
      refine Y wn rfl (ypf (v := .bool (decide ((20 : Int) < (x5.length : Int)))) (et rfl rfl) c19 (et rfl rfl)) ?_
      exact j3 _ _ ⟨e16_2, e16_3, (congrArg Value.bool (orF c19)), hst⟩
  clear hst
  rintro f w ⟨e18_2, e18_3, e18_34, hst⟩
  refine Y wn rfl (ym (v := .bool ((((!(r13)) || (decide ((60 : Int) < (x7.length : Int)))) || (decide ((60 : Int) < (x9.length : Int)))) || (decide ((20 : Int) < (x5.length : Int))))) (et rfl e18_34)) ?_
  refine joinW 9 (fun f w => f 2 = .pointer (some ⟨b11, 0, none⟩) ∧ f 3 = .pointer (some ⟨b12, 0, none⟩) ∧ f 44 = .bool (((((!(r13)) || (decide ((60 : Int) < (x7.length : Int)))) || (decide ((60 : Int) < (x9.length : Int)))) || (decide ((20 : Int) < (x5.length : Int)))) || ((decide ((12 : Int) < x3)) && (decide (x3 ≤ 200)))) ∧ St w0 (ros) (box b11 27 [h2.v] :: box b12 42 [.int .i64 x3, .int .i64 x4, h6.v, h8.v, h10.v] :: rs) w) (fun j5 => ?_) ?_
  · rcases Bool.eq_false_or_eq_true (((((!(r13)) || (decide ((60 : Int) < (x7.length : Int)))) || (decide ((60 : Int) < (x9.length : Int)))) || (decide ((20 : Int) < (x5.length : Int))))) with c23 | c23
    · refine Gn (wx rfl rfl rfl c23) rfl ?_
      refine Gn (wx rfl rfl rfl c23) rfl ?_
      refine Gn (wx rfl rfl rfl c23) rfl ?_
      refine Gn (wx rfl rfl rfl c23) rfl ?_
      refine Gn (wxu rfl rfl rfl) rfl ?_
      refine Gn (wxu rfl rfl rfl) rfl ?_
      refine Gn (wxu rfl rfl rfl) rfl ?_
      refine Gn (wx rfl rfl rfl c23) rfl ?_
      refine Y wn rfl (ypt (v := .bool true) (et rfl rfl) c23 rfl) ?_
      exact j5 _ _ ⟨e18_2, e18_3, (congrArg Value.bool (orT c23)), hst⟩
    · refine Y (wg rfl rfl rfl c23) rfl (yFb FL_42_0 (et rfl e18_3)) ?_
      refine Y (wg rfl rfl rfl c23) rfl (yLb (u := .int .i64 x3) O_3 (et rfl rfl) hst (mtR mhR) rfl) ?_
      refine Y (wg rfl rfl rfl c23) rfl (ygtr (et rfl rfl) rfl) ?_
      refine Y (wg rfl rfl rfl c23) rfl (ym (v := .bool (decide ((12 : Int) < x3))) (et rfl rfl)) ?_
      refine joinW 4 (fun f w => f 2 = .pointer (some ⟨b11, 0, none⟩) ∧ f 3 = .pointer (some ⟨b12, 0, none⟩) ∧ f 35 = .bool ((((!(r13)) || (decide ((60 : Int) < (x7.length : Int)))) || (decide ((60 : Int) < (x9.length : Int)))) || (decide ((20 : Int) < (x5.length : Int)))) ∧ f 43 = .bool ((decide ((12 : Int) < x3)) && (decide (x3 ≤ 200))) ∧ St w0 (ros) (box b11 27 [h2.v] :: box b12 42 [.int .i64 x3, .int .i64 x4, h6.v, h8.v, h10.v] :: rs) w) (fun j6 => ?_) ?_
      · rcases Bool.eq_false_or_eq_true (decide ((12 : Int) < x3)) with c25 | c25
        · refine Y (wg rfl rfl rfl c25) rfl (yFb FL_42_0 (et rfl e18_3)) ?_
          refine Y (wg rfl rfl rfl c25) rfl (yLb (u := .int .i64 x3) O_3 (et rfl rfl) hst (mtR mhR) rfl) ?_
          refine Y (wg rfl rfl rfl c25) rfl (yleq (et rfl rfl) rfl) ?_
          refine Y (wg rfl rfl rfl c23) rfl (ypt (v := .bool (decide (x3 ≤ 200))) (et rfl rfl) c25 (et rfl rfl)) ?_
          exact j6 _ _ ⟨e18_2, e18_3, rfl, (congrArg Value.bool (andT c25)), hst⟩
        · refine Gn (wx rfl rfl rfl c25) rfl ?_
          refine Gn (wx rfl rfl rfl c25) rfl ?_
          refine Gn (wx rfl rfl rfl c25) rfl ?_
          refine Y (wg rfl rfl rfl c23) rfl (ypf (v := .bool false) (et rfl rfl) c25 rfl) ?_
          exact j6 _ _ ⟨e18_2, e18_3, rfl, (congrArg Value.bool (andF c25)), hst⟩
      clear hst
      rintro f w ⟨e24_2, e24_3, e24_35, e24_43, hst⟩
      refine Y wn rfl (ypf (v := .bool ((decide ((12 : Int) < x3)) && (decide (x3 ≤ 200)))) (et rfl e24_35) c23 (et rfl e24_43)) ?_
      exact j5 _ _ ⟨e24_2, e24_3, (congrArg Value.bool (orF c23)), hst⟩
  clear hst
  rintro f w ⟨e22_2, e22_3, e22_44, hst⟩
  refine Y wn rfl (ym (v := .bool (((((!(r13)) || (decide ((60 : Int) < (x7.length : Int)))) || (decide ((60 : Int) < (x9.length : Int)))) || (decide ((20 : Int) < (x5.length : Int)))) || ((decide ((12 : Int) < x3)) && (decide (x3 ≤ 200))))) (et rfl e22_44)) ?_
  refine joinW 9 (fun f w => f 2 = .pointer (some ⟨b11, 0, none⟩) ∧ f 3 = .pointer (some ⟨b12, 0, none⟩) ∧ f 54 = .bool ((((((!(r13)) || (decide ((60 : Int) < (x7.length : Int)))) || (decide ((60 : Int) < (x9.length : Int)))) || (decide ((20 : Int) < (x5.length : Int)))) || ((decide ((12 : Int) < x3)) && (decide (x3 ≤ 200)))) || ((decide ((12 : Int) < x4)) && (decide (x4 ≤ 200)))) ∧ St w0 (ros) (box b11 27 [h2.v] :: box b12 42 [.int .i64 x3, .int .i64 x4, h6.v, h8.v, h10.v] :: rs) w) (fun j8 => ?_) ?_
  · rcases Bool.eq_false_or_eq_true ((((((!(r13)) || (decide ((60 : Int) < (x7.length : Int)))) || (decide ((60 : Int) < (x9.length : Int)))) || (decide ((20 : Int) < (x5.length : Int)))) || ((decide ((12 : Int) < x3)) && (decide (x3 ≤ 200))))) with c29 | c29
    · refine Gn (wx rfl rfl rfl c29) rfl ?_
      refine Gn (wx rfl rfl rfl c29) rfl ?_
      refine Gn (wx rfl rfl rfl c29) rfl ?_
      refine Gn (wx rfl rfl rfl c29) rfl ?_
      refine Gn (wxu rfl rfl rfl) rfl ?_
      refine Gn (wxu rfl rfl rfl) rfl ?_
      refine Gn (wxu rfl rfl rfl) rfl ?_
      refine Gn (wx rfl rfl rfl c29) rfl ?_
      refine Y wn rfl (ypt (v := .bool true) (et rfl rfl) c29 rfl) ?_
      exact j8 _ _ ⟨e22_2, e22_3, (congrArg Value.bool (orT c29)), hst⟩
    · refine Y (wg rfl rfl rfl c29) rfl (yFb FL_42_1 (et rfl e22_3)) ?_
      refine Y (wg rfl rfl rfl c29) rfl (yLb (u := .int .i64 x4) O_3 (et rfl rfl) hst (mtR mhR) rfl) ?_
      refine Y (wg rfl rfl rfl c29) rfl (ygtr (et rfl rfl) rfl) ?_
      refine Y (wg rfl rfl rfl c29) rfl (ym (v := .bool (decide ((12 : Int) < x4))) (et rfl rfl)) ?_
      refine joinW 4 (fun f w => f 2 = .pointer (some ⟨b11, 0, none⟩) ∧ f 3 = .pointer (some ⟨b12, 0, none⟩) ∧ f 45 = .bool (((((!(r13)) || (decide ((60 : Int) < (x7.length : Int)))) || (decide ((60 : Int) < (x9.length : Int)))) || (decide ((20 : Int) < (x5.length : Int)))) || ((decide ((12 : Int) < x3)) && (decide (x3 ≤ 200)))) ∧ f 53 = .bool ((decide ((12 : Int) < x4)) && (decide (x4 ≤ 200))) ∧ St w0 (ros) (box b11 27 [h2.v] :: box b12 42 [.int .i64 x3, .int .i64 x4, h6.v, h8.v, h10.v] :: rs) w) (fun j9 => ?_) ?_
      · rcases Bool.eq_false_or_eq_true (decide ((12 : Int) < x4)) with c31 | c31
        · refine Y (wg rfl rfl rfl c31) rfl (yFb FL_42_1 (et rfl e22_3)) ?_
          refine Y (wg rfl rfl rfl c31) rfl (yLb (u := .int .i64 x4) O_3 (et rfl rfl) hst (mtR mhR) rfl) ?_
          refine Y (wg rfl rfl rfl c31) rfl (yleq (et rfl rfl) rfl) ?_
          refine Y (wg rfl rfl rfl c29) rfl (ypt (v := .bool (decide (x4 ≤ 200))) (et rfl rfl) c31 (et rfl rfl)) ?_
          exact j9 _ _ ⟨e22_2, e22_3, rfl, (congrArg Value.bool (andT c31)), hst⟩
        · refine Gn (wx rfl rfl rfl c31) rfl ?_
          refine Gn (wx rfl rfl rfl c31) rfl ?_
          refine Gn (wx rfl rfl rfl c31) rfl ?_
          refine Y (wg rfl rfl rfl c29) rfl (ypf (v := .bool false) (et rfl rfl) c31 rfl) ?_
          exact j9 _ _ ⟨e22_2, e22_3, rfl, (congrArg Value.bool (andF c31)), hst⟩
      clear hst
      rintro f w ⟨e30_2, e30_3, e30_45, e30_53, hst⟩
      refine Y wn rfl (ypf (v := .bool ((decide ((12 : Int) < x4)) && (decide (x4 ≤ 200)))) (et rfl e30_45) c29 (et rfl e30_53)) ?_
      exact j8 _ _ ⟨e30_2, e30_3, (congrArg Value.bool (orF c29)), hst⟩
  clear hst
  rintro f w ⟨e28_2, e28_3, e28_54, hst⟩
  refine wpList_nil ?_
  refine k3 _ _ ?_
  rcases iteS hM with ⟨c32, hM⟩ | ⟨c32, hM⟩
  · refine condT (et rfl e28_54) c32 ?_
    refine seqQ fun Q4 k4 z4 => ?_
    refine wp_region_lit ?_
    obtain ⟨r33, gr33, hM⟩ := bs hM
    refine Yc wn rfl (yCall FN_10 a0) (sparselaw19_awake_ok (hM := gr33) (hst := hst) ) ?_
    clear hst
    rintro _ w ⟨rfl, hst⟩
    refine ⟨_, rfl, ?_⟩
    refine Y wn rfl (ya (v := .bool r33) (et rfl rfl)) ?_
    refine wpList_nil ?_
    refine k4 _ _ ?_
    refine wp_ret ?_
    refine z2 _ _ _ rfl ?_
    obtain rfl := someI hM
    exact hQ _ _ _ (fin1r Try.results7 ⟨rfl, rfl⟩ ⟨rfl, (hst.pk 2 [] rfl)⟩)
  · refine condF (et rfl e28_54) (bfalse c32) ?_
    refine wp_skip ?_
    refine k2 _ _ ?_
    refine seqQ fun Q5 k5 z5 => ?_
    refine wp_region_lit ?_
    refine Y wn rfl (yLbs (us := [h2.v]) ST_27 (et rfl e28_2) hst mhR rfl rfl) ?_
    obtain ⟨r34, gr34, hM⟩ := bs hM
    refine Yc wn rfl (yCall FN_29 (a1 (et rfl rfl))) (sparsekit_TwinGraph_ok (hM := gr34) (hst := hst) (q1 := q1)) ?_
    clear hst
    rintro _ w ⟨h35, rfl, hst⟩
    refine ⟨_, rfl, ?_⟩
    refine YB wn rfl (rAl hst ZT_27) ?_
    clear hst
    intro b36 w hst
    refine YT wn rfl (r_stbn (vals' := [h35.v]) (us := [h35.v]) hst ST_27 (et rfl rfl) (et rfl rfl) rfl rfl (one_of rfl) rfl) ?_
    clear hst
    intro w hst
    refine wpList_nil ?_
    refine k5 _ _ ?_
    refine seqQ fun Q6 k6 z6 => ?_
    refine wp_region_lit ?_
    refine Y wn rfl (yLbs (us := [h35.v]) ST_27 (et rfl rfl) hst mhR rfl rfl) ?_
    obtain ⟨r37, gr37, hM⟩ := bs hM
    replace hst := hst.pk 2 [1, 0] rfl
    replace hst := hst.fz
    refine Yc wn rfl (yCall FN_13 (a1 (et rfl rfl))) (etree_Parent_ok (hM := gr37) (hst := hst) (q1 := mhF)) ?_
    clear hst
    rintro _ w ⟨h38, rfl, hst⟩
    refine ⟨_, rfl, ?_⟩
    refine Y wn rfl (ym (v := .tuple #[h38.v, .int .i64 r37.2]) (et rfl rfl)) ?_
    refine Y wn rfl (yx (v := h38.v) (et rfl rfl) rfl) ?_
    refine Y wn rfl (yx (v := .int .i64 r37.2) (et rfl rfl) rfl) ?_
    refine Y wn rfl (ya (v := h38.v) (et rfl rfl)) ?_
    refine Y wn rfl (ya (v := .int .i64 r37.2) (et rfl rfl)) ?_
    refine wpList_nil ?_
    refine k6 _ _ ?_
    refine seqQ fun Q7 k7 z7 => ?_
    refine wp_region_lit ?_
    refine Y wn rfl (yLbs (us := [h2.v]) ST_27 (et rfl e28_2) hst (mtR (mtR mhR)) rfl rfl) ?_
    obtain ⟨r39, gr39, hM⟩ := bs hM
    refine Yc wn rfl (yCall FN_24 (a1 (et rfl rfl))) (sparseref19_Parent_ok (hM := gr39) (hst := hst) (q1 := (mtF q1))) ?_
    clear hst
    rintro _ w ⟨h40, rfl, hst⟩
    refine ⟨_, rfl, ?_⟩
    refine Y wn rfl (ym (v := .tuple #[h40.v, .int .i64 r39.2]) (et rfl rfl)) ?_
    refine Y wn rfl (yx (v := h40.v) (et rfl rfl) rfl) ?_
    refine Y wn rfl (yx (v := .int .i64 r39.2) (et rfl rfl) rfl) ?_
    refine Y wn rfl (ya (v := h40.v) (et rfl rfl)) ?_
    refine Y wn rfl (ya (v := .int .i64 r39.2) (et rfl rfl)) ?_
    refine wpList_nil ?_
    refine k7 _ _ ?_
    refine seqQ fun Q8 k8 z8 => ?_
    refine wp_region_lit ?_
    refine Y wn rfl (yLbs (us := [.int .i64 x3, .int .i64 x4, h6.v, h8.v, h10.v]) ST_42 (et rfl e28_3) hst (mtR (mtR (mtR (mtR mhR)))) rfl rfl) ?_
    obtain ⟨r41, gr41, hM⟩ := bs hM
    refine Yc wn rfl (yCall FN_30 (a1 (et rfl rfl))) (etree_ColParent_ok (hM := gr41) (hst := hst) (q1 := (mtF q2)) (q2 := (mtF q3)) (q3 := (mtF q4))) ?_
    clear hst
    rintro _ w ⟨h42, rfl, hst⟩
    refine ⟨_, rfl, ?_⟩
    refine Y wn rfl (ym (v := .tuple #[h42.v, .int .i64 r41.2]) (et rfl rfl)) ?_
    refine Y wn rfl (yx (v := h42.v) (et rfl rfl) rfl) ?_
    refine Y wn rfl (yx (v := .int .i64 r41.2) (et rfl rfl) rfl) ?_
    refine Y wn rfl (ya (v := h42.v) (et rfl rfl)) ?_
    refine Y wn rfl (ya (v := .int .i64 r41.2) (et rfl rfl)) ?_
    refine wpList_nil ?_
    refine k8 _ _ ?_
    refine seqQ fun Q9 k9 z9 => ?_
    refine wp_region_lit ?_
    refine Y wn rfl (yLbs (us := [.int .i64 x3, .int .i64 x4, h6.v, h8.v, h10.v]) ST_42 (et rfl e28_3) hst (mtR (mtR (mtR (mtR (mtR mhR))))) rfl rfl) ?_
    obtain ⟨r43, gr43, hM⟩ := bs hM
    refine Yc wn rfl (yCall FN_31 (a1 (et rfl rfl))) (sparseref19_ColParent_ok (hM := gr43) (hst := hst) (q1 := (mtF q2)) (q2 := (mtF q3)) (q3 := (mtF q4))) ?_
    clear hst
    rintro _ w ⟨h44, rfl, hst⟩
    refine ⟨_, rfl, ?_⟩
    refine Y wn rfl (ym (v := .tuple #[h44.v, .int .i64 r43.2]) (et rfl rfl)) ?_
    refine Y wn rfl (yx (v := h44.v) (et rfl rfl) rfl) ?_
    refine Y wn rfl (yx (v := .int .i64 r43.2) (et rfl rfl) rfl) ?_
    refine Y wn rfl (ya (v := h44.v) (et rfl rfl)) ?_
    refine Y wn rfl (ya (v := .int .i64 r43.2) (et rfl rfl)) ?_
    refine wpList_nil ?_
    refine k9 _ _ ?_
    refine seqQ fun Q10 k10 z10 => ?_
    refine wp_region_lit ?_
    refine Y wn rfl (ym (v := h38.v) (et rfl rfl)) ?_
    refine Y wn rfl (ym (v := h40.v) (et rfl rfl)) ?_
    obtain ⟨r45, gr45, hM⟩ := bs hM
    replace hst := hst.pk 4 [3, 0, 0, 0] rfl
    replace hst := hst.fz
    replace hst := hst.pk 3 [2, 0, 0] rfl
    replace hst := hst.fz
    refine Yc wn rfl (yCall FN_23 (a2 (et rfl rfl) (et rfl rfl))) (sparsekit_Ints_ok (hM := gr45) (hst := hst) (q1 := (mtF mhF)) (q2 := mhF)) ?_
    clear hst
    rintro _ w ⟨rfl, hst⟩
    refine ⟨_, rfl, ?_⟩
    refine Y wn rfl (ym (v := .bool r45) (et rfl rfl)) ?_
    refine joinW 4 (fun f w => f 2 = .pointer (some ⟨b11, 0, none⟩) ∧ f 5 = .pointer (some ⟨b36, 0, none⟩) ∧ f 10 = h42.v ∧ f 11 = .int .i64 r41.2 ∧ f 12 = h44.v ∧ f 13 = .int .i64 r43.2 ∧ f 85 = .bool (r45 && (decide (r37.2 = r39.2))) ∧ St w0 (imm (rS (rI .i64)) h35.v r34 :: ros) (box b11 27 [h2.v] :: box b36 27 [h35.v] :: row 3 (rI .i64) h42.v r41.1 :: row 3 (rI .i64) h44.v r43.1 :: rs) w) (fun j10 => ?_) ?_
    · rcases Bool.eq_false_or_eq_true (r45) with c47 | c47
      · refine Y (wg rfl rfl rfl c47) rfl (ym (v := .int .i64 r37.2) (et rfl rfl)) ?_
        refine Y (wg rfl rfl rfl c47) rfl (ym (v := .int .i64 r39.2) (et rfl rfl)) ?_
        refine Y (wg rfl rfl rfl c47) rfl (yeql (et rfl rfl) (et rfl rfl)) ?_
        refine Y wn rfl (ypt (v := .bool (decide (r37.2 = r39.2))) (et rfl rfl) c47 (et rfl rfl)) ?_
        exact j10 _ _ ⟨e28_2, rfl, rfl, rfl, rfl, rfl, (congrArg Value.bool (andT c47)), ((hst.pk 5 [3, 2, 1, 0] rfl).facts (allC (mtF (mtF mhF)) (allT (allT (allT allI)))))⟩
      · refine Gn (wx rfl rfl rfl c47) rfl ?_
        refine Gn (wx rfl rfl rfl c47) rfl ?_
        refine Gn (wx rfl rfl rfl c47) rfl ?_
        refine Y wn rfl (ypf (v := .bool false) (et rfl rfl) c47 rfl) ?_
        exact j10 _ _ ⟨e28_2, rfl, rfl, rfl, rfl, rfl, (congrArg Value.bool (andF c47)), ((hst.pk 5 [3, 2, 1, 0] rfl).facts (allC (mtF (mtF mhF)) (allT (allT (allT allI)))))⟩
    clear hst
    rintro f w ⟨e46_2, e46_5, e46_10, e46_11, e46_12, e46_13, e46_85, hst⟩
    refine Y wn rfl (ym (v := .bool (r45 && (decide (r37.2 = r39.2)))) (et rfl e46_85)) ?_
    obtain ⟨r49, gr49, hM⟩ := bs hM
    refine joinW 4 (fun f w => f 2 = .pointer (some ⟨b11, 0, none⟩) ∧ f 5 = .pointer (some ⟨b36, 0, none⟩) ∧ f 11 = .int .i64 r41.2 ∧ f 13 = .int .i64 r43.2 ∧ f 90 = .bool r49 ∧ St w0 (imm (rS (rI .i64)) h35.v r34 :: ros) (box b11 27 [h2.v] :: box b36 27 [h35.v] :: rs) w) (fun j11 => ?_) ?_
    · rcases iteS gr49 with ⟨c51, gr49⟩ | ⟨c51, gr49⟩
      · refine Y (wg rfl rfl rfl c51) rfl (ym (v := h42.v) (et rfl e46_10)) ?_
        refine Y (wg rfl rfl rfl c51) rfl (ym (v := h44.v) (et rfl e46_12)) ?_
        obtain ⟨r52, gr52, gr49⟩ := bs gr49
        replace hst := hst.pk 3 [2, 0, 0] rfl
        replace hst := hst.fz
        replace hst := hst.pk 3 [2, 0, 0] rfl
        replace hst := hst.fz
        refine Yc (wg rfl rfl rfl c51) rfl (yCall FN_23 (a2 (et rfl rfl) (et rfl rfl))) (sparsekit_Ints_ok (hM := gr52) (hst := hst) (q1 := (mtF mhF)) (q2 := mhF)) ?_
        clear hst
        rintro _ w ⟨rfl, hst⟩
        refine ⟨_, rfl, ?_⟩
        refine Y wn rfl (ypt (v := .bool r52) (et rfl rfl) c51 (et rfl rfl)) ?_
        obtain rfl := someI gr49
        exact j11 _ _ ⟨e46_2, e46_5, e46_11, e46_13, rfl, (hst.facts (allC (mtF (mtF mhF)) (allT (allT (allT allI)))))⟩
      · refine Gn (wx rfl rfl rfl (bfalse c51)) rfl ?_
        refine Gn (wx rfl rfl rfl (bfalse c51)) rfl ?_
        refine Gn (wx rfl rfl rfl (bfalse c51)) rfl ?_
        refine Y wn rfl (ypf (v := .bool false) (et rfl rfl) (bfalse c51) rfl) ?_
        obtain rfl := someI gr49
        exact j11 _ _ ⟨e46_2, e46_5, e46_11, e46_13, rfl, (hst.pk 4 [0, 0] rfl)⟩
    clear hst
    rintro f w ⟨e50_2, e50_5, e50_11, e50_13, e50_90, hst⟩
    refine Y wn rfl (ym (v := .bool r49) (et rfl e50_90)) ?_
    refine joinW 4 (fun f w => f 2 = .pointer (some ⟨b11, 0, none⟩) ∧ f 5 = .pointer (some ⟨b36, 0, none⟩) ∧ f 95 = .bool (r49 && (decide (r41.2 = r43.2))) ∧ St w0 (imm (rS (rI .i64)) h35.v r34 :: ros) (box b11 27 [h2.v] :: box b36 27 [h35.v] :: rs) w) (fun j12 => ?_) ?_
    · rcases Bool.eq_false_or_eq_true (r49) with c54 | c54
      · refine Y (wg rfl rfl rfl c54) rfl (ym (v := .int .i64 r41.2) (et rfl e50_11)) ?_
        refine Y (wg rfl rfl rfl c54) rfl (ym (v := .int .i64 r43.2) (et rfl e50_13)) ?_
        refine Y (wg rfl rfl rfl c54) rfl (yeql (et rfl rfl) (et rfl rfl)) ?_
        refine Y wn rfl (ypt (v := .bool (decide (r41.2 = r43.2))) (et rfl rfl) c54 (et rfl rfl)) ?_
        exact j12 _ _ ⟨e50_2, e50_5, (congrArg Value.bool (andT c54)), hst⟩
      · refine Gn (wx rfl rfl rfl c54) rfl ?_
        refine Gn (wx rfl rfl rfl c54) rfl ?_
        refine Gn (wx rfl rfl rfl c54) rfl ?_
        refine Y wn rfl (ypf (v := .bool false) (et rfl rfl) c54 rfl) ?_
        exact j12 _ _ ⟨e50_2, e50_5, (congrArg Value.bool (andF c54)), hst⟩
    clear hst
    rintro f w ⟨e53_2, e53_5, e53_95, hst⟩
    refine Y wn rfl (ym (v := .bool (r49 && (decide (r41.2 = r43.2)))) (et rfl e53_95)) ?_
    obtain ⟨r56, gr56, hM⟩ := bs hM
    refine joinW 4 (fun f w => f 100 = .bool r56 ∧ St w0 (ros) (rs) w) (fun j13 => ?_) ?_
    · rcases iteS gr56 with ⟨c58, gr56⟩ | ⟨c58, gr56⟩
      · refine Y (wg rfl rfl rfl c58) rfl (yLbs (us := [h35.v]) ST_27 (et rfl e53_5) hst (mtR mhR) rfl rfl) ?_
        refine Y (wg rfl rfl rfl c58) rfl (yLbs (us := [h2.v]) ST_27 (et rfl e53_2) hst mhR rfl rfl) ?_
        obtain ⟨r59, gr59, gr56⟩ := bs gr56
        refine Yc (wg rfl rfl rfl c58) rfl (yCall FN_32 (a2 (et rfl rfl) (et rfl rfl))) (sparsekit_Graph_ok (hM := gr59) (hst := hst) (q1 := mhF) (q2 := (mtF q1))) ?_
        clear hst
        rintro _ w ⟨rfl, hst⟩
        refine ⟨_, rfl, ?_⟩
        refine Y wn rfl (ypt (v := .bool r59) (et rfl rfl) c58 (et rfl rfl)) ?_
        obtain rfl := someI gr56
        exact j13 _ _ ⟨rfl, ((hst.pk 2 [] rfl).facts (allT allI))⟩
      · refine Gn (wx rfl rfl rfl (bfalse c58)) rfl ?_
        refine Gn (wx rfl rfl rfl (bfalse c58)) rfl ?_
        refine Gn (wx rfl rfl rfl (bfalse c58)) rfl ?_
        refine Y wn rfl (ypf (v := .bool false) (et rfl rfl) (bfalse c58) rfl) ?_
        obtain rfl := someI gr56
        exact j13 _ _ ⟨rfl, ((hst.pk 2 [] rfl).facts (allT allI))⟩
    clear hst
    rintro f w ⟨e57_100, hst⟩
    refine Y wn rfl (ym (v := .bool r56) (et rfl e57_100)) ?_
    obtain ⟨r61, gr61, hM⟩ := bs hM
    refine joinW 2 (fun f w => f 103 = .bool r61 ∧ St w0 (ros) (rs) w) (fun j14 => ?_) ?_
    · rcases iteS gr61 with ⟨c63, gr61⟩ | ⟨c63, gr61⟩
      · obtain ⟨r64, gr64, gr61⟩ := bs gr61
        refine Yc (wg rfl rfl rfl c63) rfl (yCall FN_10 a0) (sparselaw19_awake_ok (hM := gr64) (hst := hst) ) ?_
        clear hst
        rintro _ w ⟨rfl, hst⟩
        refine ⟨_, rfl, ?_⟩
        refine Y wn rfl (ypt (v := .bool r64) (et rfl rfl) c63 (et rfl rfl)) ?_
        obtain rfl := someI gr61
        exact j14 _ _ ⟨rfl, hst⟩
      · refine Gn (wx rfl rfl rfl (bfalse c63)) rfl ?_
        refine Y wn rfl (ypf (v := .bool false) (et rfl rfl) (bfalse c63) rfl) ?_
        obtain rfl := someI gr61
        exact j14 _ _ ⟨rfl, hst⟩
    clear hst
    rintro f w ⟨e62_103, hst⟩
    refine Y wn rfl (ya (v := .bool r61) (et rfl e62_103)) ?_
    refine wpList_nil ?_
    refine k10 _ _ ?_
    refine wp_ret ?_
    obtain rfl := someI hM
    exact hQ _ _ _ (fin1r Try.results7 ⟨rfl, rfl⟩ ⟨rfl, hst⟩)

theorem graph_vertex_ok {w0 : World} {ros : List Fact} {rs : List Res} {w : World} {x1 : List (List Int)} {x3 : Int} {h2 : Hdr} {out : Bool} (hM : graph_vertex x1 x3 = some out) (q1 : imm (rS (rI .i64)) h2.v x1 ∈ ros) (hst : St w0 ros (rs) w) :
    Calls Try.prog 78 #[.agg #[h2.v], .int .i64 x3] w (fun e w => e = .returned (.bool out) ∧ St w0 (ros) (rs) w) := by
  refine enterQ Try.func78 rfl Try.ntmps78 rfl fun Q hQ => ?_
  refine seqQ fun Q1 k1 z1 => ?_
  refine wp_region_lit ?_
  refine YB wn rfl (r_box (vals := [h2.v]) hst (et rfl rfl) rfl) ?_
  clear hst
  intro b4 w hst
  refine Y wn rfl (ya (v := .bool false) rfl) ?_
  refine wpList_nil ?_
  refine k1 _ _ ?_
  refine seqQ fun Q2 k2 z2 => ?_
  refine wp_region_lit ?_
  refine Y wn rfl (ym (v := .int .i64 x3) (et rfl rfl)) ?_
  refine Y wn rfl (ygeq (et rfl rfl) rfl) ?_
  refine Y wn rfl (ym (v := .bool (decide ((0 : Int) ≤ x3))) (et rfl rfl)) ?_
  refine joinW 6 (fun f w => f 13 = .bool ((decide ((0 : Int) ≤ x3)) && (decide (x3 < (x1.length : Int)))) ∧ St w0 (ros) (rs) w) (fun j1 => ?_) ?_
  · rcases Bool.eq_false_or_eq_true (decide ((0 : Int) ≤ x3)) with c6 | c6
    · refine Y (wg rfl rfl rfl c6) rfl (ym (v := .int .i64 x3) (et rfl rfl)) ?_
      refine Y (wg rfl rfl rfl c6) rfl (yFb FL_27_0 (et rfl rfl)) ?_
      refine Y (wg rfl rfl rfl c6) rfl (yLb (u := h2.v) O_25 (et rfl rfl) hst mhR rfl) ?_
      refine Y (wg rfl rfl rfl c6) rfl (yLen SL_25 (et rfl rfl) hst (rdI q1)) ?_
      refine Y (wg rfl rfl rfl c6) rfl (ylss (et rfl rfl) (et rfl rfl)) ?_
      refine Y wn rfl (ypt (v := .bool (decide (x3 < (x1.length : Int)))) (et rfl rfl) c6 (et rfl rfl)) ?_
      exact j1 _ _ ⟨(congrArg Value.bool (andT c6)), (hst.pk 1 [] rfl)⟩
    · refine Gn (wx rfl rfl rfl c6) rfl ?_
      refine Gn (wx rfl rfl rfl c6) rfl ?_
      refine Gn (wx rfl rfl rfl c6) rfl ?_
      refine Gn (wx rfl rfl rfl c6) rfl ?_
      refine Gn (wx rfl rfl rfl c6) rfl ?_
      refine Y wn rfl (ypf (v := .bool false) (et rfl rfl) c6 rfl) ?_
      exact j1 _ _ ⟨(congrArg Value.bool (andF c6)), (hst.pk 1 [] rfl)⟩
  clear hst
  rintro f w ⟨e5_13, hst⟩
  refine Y wn rfl (ya (v := .bool ((decide ((0 : Int) ≤ x3)) && (decide (x3 < (x1.length : Int))))) (et rfl e5_13)) ?_
  refine wpList_nil ?_
  refine k2 _ _ ?_
  refine wp_ret ?_
  obtain rfl := someI hM
  exact hQ _ _ _ (fin1r Try.results78 ⟨rfl, rfl⟩ ⟨rfl, hst⟩)

theorem graph_Permuted_1_ok {w0 : World} {ros : List Fact} {rs : List Res} {w : World} {x1 : Int} {x3 : List (List Int)} {b2 : Nat} {h4 : Hdr} {out : Bool} (hM : graph_Permuted_1 x1 x3 = some out) (q1 : imm (rS (rI .i64)) h4.v x3 ∈ ros) (hst : St w0 ros (box b2 27 [h4.v] :: rs) w) :
    Calls Try.prog 77 #[.int .i64 x1, .pointer (some ⟨b2, 0, none⟩)] w (fun e w => e = .returned (.bool out) ∧ St w0 (ros) (box b2 27 [h4.v] :: rs) w) := by
  refine enterQ Try.func77 rfl Try.ntmps77 rfl fun Q hQ => ?_
  refine seqQ fun Q1 k1 z1 => ?_
  refine wp_region_lit ?_
  refine Y wn rfl (ya (v := .bool false) rfl) ?_
  refine wpList_nil ?_
  refine k1 _ _ ?_
  refine seqQ fun Q2 k2 z2 => ?_
  refine wp_region_lit ?_
  refine Y wn rfl (yLbs (us := [h4.v]) ST_27 (et rfl rfl) hst mhR rfl rfl) ?_
  refine Y wn rfl (ym (v := .int .i64 x1) (et rfl rfl)) ?_
  obtain ⟨r5, gr5, hM⟩ := bs hM
  refine Yc wn rfl (yCall FN_78 (a2 (et rfl rfl) (et rfl rfl))) (graph_vertex_ok (hM := gr5) (hst := hst) (q1 := q1)) ?_
  clear hst
  rintro _ w ⟨rfl, hst⟩
  refine ⟨_, rfl, ?_⟩
  refine Y wn rfl (ynot (et rfl rfl)) ?_
  refine Y wn rfl (ya (v := .bool (!(r5))) (et rfl rfl)) ?_
  refine wpList_nil ?_
  refine k2 _ _ ?_
  refine wp_ret ?_
  obtain rfl := someI hM
  exact hQ _ _ _ (fin1r Try.results77 ⟨rfl, rfl⟩ ⟨rfl, hst⟩)
end Go.Proofs.Ytoelidgkfpmgnaa
