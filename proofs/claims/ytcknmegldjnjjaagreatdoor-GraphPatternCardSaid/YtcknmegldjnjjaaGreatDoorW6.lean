/- Walks: each function computes its model, printed. -/
import Derived.Test.YtcknmegldjnjjaaGreatDoorW5
namespace Go.Proofs.YtcknmegldjnjjaaGreatDoor
open Go Sx M
set_option maxRecDepth 100000
set_option maxHeartbeats 400000
set_option linter.unusedVariables false
attribute [local irreducible] wpList Code.wp Calls DR QR QS LA LS St
theorem cmp_Compare_int_ok {w0 : World} {ros : List Fact} {rs : List Res} {w : World} {x1 : Int} {x2 : Int} {out : Int} (hM : cmp_Compare_int x1 x2 = some out) (hst : St w0 ros (rs) w) :
    Calls Tryz.prog 76 #[.int .i64 x1, .int .i64 x2] w (fun e w => e = .returned (.int .i64 out) ∧ St w0 (ros) (rs) w) := by
  refine enterQ Tryz.func76 rfl Tryz.ntmps76 rfl fun Q hQ => ?_
  refine seqQ fun Q1 k1 z1 => ?_
  refine wp_region_lit ?_
  refine Y wn rfl (ya (v := .int .i64 0) rfl) ?_
  refine wpList_nil ?_
  refine k1 _ _ ?_
  refine seqQ fun Q2 k2 z2 => ?_
  refine wp_region_lit ?_
  refine Y wn rfl (ym (v := .int .i64 x1) (et rfl rfl)) ?_
  obtain ⟨r3, gr3, hM⟩ := bs hM
  refine Yc wn rfl (yCall FN_104 (a1 (et rfl rfl))) (cmp_isNaN_int_ok (hM := gr3) (hst := hst) ) ?_
  clear hst
  rintro _ w ⟨rfl, hst⟩
  refine ⟨_, rfl, ?_⟩
  refine Y wn rfl (ya (v := .bool r3) (et rfl rfl)) ?_
  refine wpList_nil ?_
  refine k2 _ _ ?_
  refine seqQ fun Q3 k3 z3 => ?_
  refine wp_region_lit ?_
  refine Y wn rfl (ym (v := .int .i64 x2) (et rfl rfl)) ?_
  obtain ⟨r4, gr4, hM⟩ := bs hM
  refine Yc wn rfl (yCall FN_104 (a1 (et rfl rfl))) (cmp_isNaN_int_ok (hM := gr4) (hst := hst) ) ?_
  clear hst
  rintro _ w ⟨rfl, hst⟩
  refine ⟨_, rfl, ?_⟩
  refine Y wn rfl (ya (v := .bool r4) (et rfl rfl)) ?_
  refine wpList_nil ?_
  refine k3 _ _ ?_
  refine seqQ fun Q4 k4 z4 => ?_
  refine seqQ fun Q5 k5 z5 => ?_
  refine wp_region_lit ?_
  refine Y wn rfl (ym (v := .bool r3) (et rfl rfl)) ?_
  refine wpList_nil ?_
  refine k5 _ _ ?_
  rcases iteS hM with ⟨c5, hM⟩ | ⟨c5, hM⟩
  · refine condT (et rfl rfl) c5 ?_
    refine seqQ fun Q6 k6 z6 => ?_
    refine seqQ fun Q7 k7 z7 => ?_
    refine wp_region_lit ?_
    refine Y wn rfl (ym (v := .bool r4) (et rfl rfl)) ?_
    refine wpList_nil ?_
    refine k7 _ _ ?_
    rcases iteS hM with ⟨c6, hM⟩ | ⟨c6, hM⟩
    · refine condT (et rfl rfl) c6 ?_
      refine seqQ fun Q8 k8 z8 => ?_
      refine wp_region_lit ?_
      refine Y wn rfl (ya (v := .int .i64 0) rfl) ?_
      refine wpList_nil ?_
      refine k8 _ _ ?_
      refine wp_ret ?_
      refine z6 _ _ _ rfl ?_
      refine z4 _ _ _ rfl ?_
      obtain rfl := someI hM
      exact hQ _ _ _ (fin1r Tryz.results76 ⟨rfl, rfl⟩ ⟨rfl, hst⟩)
    · refine condF (et rfl rfl) (bfalse c6) ?_
      refine wp_skip ?_
      refine k6 _ _ ?_
      refine seqQ fun Q9 k9 z9 => ?_
      refine wp_region_lit ?_
      refine Y wn rfl (ya (v := .int .i64 (-1)) rfl) ?_
      refine wpList_nil ?_
      refine k9 _ _ ?_
      refine wp_ret ?_
      refine z4 _ _ _ rfl ?_
      obtain rfl := someI hM
      exact hQ _ _ _ (fin1r Tryz.results76 ⟨rfl, rfl⟩ ⟨rfl, hst⟩)
  · refine condF (et rfl rfl) (bfalse c5) ?_
    refine wp_skip ?_
    refine k4 _ _ ?_
    refine seqQ fun Q10 k10 z10 => ?_
    refine seqQ fun Q11 k11 z11 => ?_
    refine wp_region_lit ?_
    refine Y wn rfl (ym (v := .bool r4) (et rfl rfl)) ?_
    refine wpList_nil ?_
    refine k11 _ _ ?_
    rcases iteS hM with ⟨c7, hM⟩ | ⟨c7, hM⟩
    · refine condT (et rfl rfl) c7 ?_
      refine seqQ fun Q12 k12 z12 => ?_
      refine wp_region_lit ?_
      refine Y wn rfl (ya (v := .int .i64 1) rfl) ?_
      refine wpList_nil ?_
      refine k12 _ _ ?_
      refine wp_ret ?_
      refine z10 _ _ _ rfl ?_
      obtain rfl := someI hM
      exact hQ _ _ _ (fin1r Tryz.results76 ⟨rfl, rfl⟩ ⟨rfl, hst⟩)
    · refine condF (et rfl rfl) (bfalse c7) ?_
      refine wp_skip ?_
      refine k10 _ _ ?_
      refine seqQ fun Q13 k13 z13 => ?_
      refine seqQ fun Q14 k14 z14 => ?_
      refine wp_region_lit ?_
      refine Y wn rfl (ym (v := .int .i64 x1) (et rfl rfl)) ?_
      refine Y wn rfl (ym (v := .int .i64 x2) (et rfl rfl)) ?_
      refine Y wn rfl (ylss (et rfl rfl) (et rfl rfl)) ?_
      refine wpList_nil ?_
      refine k14 _ _ ?_
      rcases iteS hM with ⟨c8, hM⟩ | ⟨c8, hM⟩
      · refine condT (et rfl rfl) (decide_eq_true c8) ?_
        refine seqQ fun Q15 k15 z15 => ?_
        refine wp_region_lit ?_
        refine Y wn rfl (ya (v := .int .i64 (-1)) rfl) ?_
        refine wpList_nil ?_
        refine k15 _ _ ?_
        refine wp_ret ?_
        refine z13 _ _ _ rfl ?_
        obtain rfl := someI hM
        exact hQ _ _ _ (fin1r Tryz.results76 ⟨rfl, rfl⟩ ⟨rfl, hst⟩)
      · refine condF (et rfl rfl) (decide_eq_false c8) ?_
        refine wp_skip ?_
        refine k13 _ _ ?_
        refine seqQ fun Q16 k16 z16 => ?_
        refine seqQ fun Q17 k17 z17 => ?_
        refine wp_region_lit ?_
        refine Y wn rfl (ym (v := .int .i64 x1) (et rfl rfl)) ?_
        refine Y wn rfl (ym (v := .int .i64 x2) (et rfl rfl)) ?_
        refine Y wn rfl (ygtr (et rfl rfl) (et rfl rfl)) ?_
        refine wpList_nil ?_
        refine k17 _ _ ?_
        rcases iteS hM with ⟨c9, hM⟩ | ⟨c9, hM⟩
        · refine condT (et rfl rfl) (decide_eq_true c9) ?_
          refine seqQ fun Q18 k18 z18 => ?_
          refine wp_region_lit ?_
          refine Y wn rfl (ya (v := .int .i64 1) rfl) ?_
          refine wpList_nil ?_
          refine k18 _ _ ?_
          refine wp_ret ?_
          refine z16 _ _ _ rfl ?_
          obtain rfl := someI hM
          exact hQ _ _ _ (fin1r Tryz.results76 ⟨rfl, rfl⟩ ⟨rfl, hst⟩)
        · refine condF (et rfl rfl) (decide_eq_false c9) ?_
          refine wp_skip ?_
          refine k16 _ _ ?_
          refine seqQ fun Q19 k19 z19 => ?_
          refine wp_region_lit ?_
          refine Y wn rfl (ya (v := .int .i64 0) rfl) ?_
          refine wpList_nil ?_
          refine k19 _ _ ?_
          refine wp_ret ?_
          obtain rfl := someI hM
          exact hQ _ _ _ (fin1r Tryz.results76 ⟨rfl, rfl⟩ ⟨rfl, hst⟩)

theorem cmp_Or_int_ok {w0 : World} {ros : List Fact} {rs : List Res} {w : World} {x1 : List Int} {h2 : Hdr} {out : Int} (hM : cmp_Or_int x1 = some out) (q1 : imm (rI .i64) h2.v x1 ∈ ros) (hst : St w0 ros (rs) w) :
    Calls Tryz.prog 75 #[h2.v] w (fun e w => e = .returned (.int .i64 out) ∧ St w0 (ros) (rs) w) := by
  refine enterQ Tryz.func75 rfl Tryz.ntmps75 rfl fun Q hQ => ?_
  refine seqQ fun Q1 k1 z1 => ?_
  refine wp_region_lit ?_
  refine Y wn rfl (ya (v := .int .i64 0) rfl) ?_
  refine wpList_nil ?_
  refine k1 _ _ ?_
  refine seqQ fun Q2 k2 z2 => ?_
  refine wp_region_lit ?_
  refine Y wn rfl (ya (v := .int .i64 0) rfl) ?_
  refine wpList_nil ?_
  refine k2 _ _ ?_
  refine seqQ fun Q3 k3 z3 => ?_
  refine seqQ fun Q4 k4 z4 => ?_
  refine wp_region_lit ?_
  refine Y wn rfl (ym (v := h2.v) (et rfl rfl)) ?_
  refine Y wn rfl (yLen SL_22 (et rfl rfl) hst (rdI q1)) ?_
  refine Y wn rfl (ym (v := .int .i64 0) rfl) ?_
  refine wpList_nil ?_
  refine k4 _ _ ?_
  refine blockQ fun Q5 qb5 => ?_
  obtain ⟨o1, go1, hM⟩ := bs hM
  have je1_0 : ∀ (f : Nat → Value) (w : World), f 3 = .int .i64 0 → St w0 (ros) (rs) w → .inl () = o1 → Q5 (.exit 0) (fr 18 f) w := by
    intro f w eje1_0_3 hst ho
    subst ho
    refine qb5 _ _ _ ?_
    refine k3 _ _ ?_
    refine seqQ fun Q20 k20 z20 => ?_
    refine wp_region_lit ?_
    refine Y wn rfl (ym (v := .int .i64 0) (et rfl eje1_0_3)) ?_
    refine Y wn rfl (ya (v := .int .i64 0) (et rfl rfl)) ?_
    refine wpList_nil ?_
    refine k20 _ _ ?_
    refine wp_ret ?_
    obtain rfl := someI hM
    exact hQ _ _ _ (fin1r Tryz.results75 ⟨rfl, rfl⟩ ⟨rfl, hst⟩)
  have je1_1 : ∀ (x11 : Int) (f : Nat → Value) (w : World), f 2 = .int .i64 x11 → St w0 (ros) (rs) w → .inr x11 = o1 → Q5 .ret (fr 18 f) w := by
    intro x11 f w eje1_1_2 hst ho
    subst ho
    refine qb5 _ _ _ ?_
    refine z3 _ _ _ rfl ?_
    obtain rfl := someI hM
    exact hQ _ _ _ (fin1r Tryz.results75 ⟨rfl, eje1_1_2⟩ ⟨rfl, hst⟩)
  refine loopQ (fun s a w => ∃ (x6 : Int) (f : Nat → Value), x6 = s ∧ a = fr 18 f ∧ f 3 = .int .i64 0 ∧ f 6 = h2.v ∧ f 7 = .int .i64 (x1.length : Int) ∧ f 8 = .int .i64 x6 ∧ St w0 (ros) (rs) w) go1 ⟨_, _, rfl, rfl, rfl, rfl, rfl, rfl, hst⟩ ?_
  clear hst
  rintro _ _ w r1_ ⟨x6, f, rfl, rfl, e1_3, e1_6, e1_7, e1_8, hst⟩ hM1 ho1 Q100001 n1 zz1
  refine seqQ fun Q21 k21 z21 => ?_
  refine wp_region_lit ?_
  refine Y wn rfl (ylss (et rfl e1_8) (et rfl e1_7)) ?_
  refine wpList_nil ?_
  refine k21 _ _ ?_
  refine seqQ fun Q22 k22 z22 => ?_
  rcases iteS hM1 with ⟨c12, hM1⟩ | ⟨c12, hM1⟩
  · refine condT (et rfl rfl) (decide_eq_true c12) ?_
    refine wp_skip ?_
    refine k22 _ _ ?_
    refine seqQ fun Q23 k23 z23 => ?_
    refine blockQ fun Q24 qb24 => ?_
    refine seqQ fun Q25 k25 z25 => ?_
    refine wp_region_lit ?_
    obtain ⟨x13, gx13, hM1⟩ := bs hM1
    refine Y wn rfl (yIa SL_22 (et rfl e1_6) (et rfl e1_8) hst (rdI q1) gx13) ?_
    refine Y wn rfl (yI O_3 (et rfl rfl) hst (rdI q1) gx13) ?_
    refine Y wn rfl (ya (v := .int .i64 x13) (et rfl rfl)) ?_
    refine wpList_nil ?_
    refine k25 _ _ ?_
    refine seqQ fun Q26 k26 z26 => ?_
    refine wp_region_lit ?_
    refine Y wn rfl (ym (v := .int .i64 x13) (et rfl rfl)) ?_
    refine Y wn rfl (ym (v := .int .i64 0) (et rfl e1_3)) ?_
    refine Y wn rfl (yneq (et rfl rfl) (et rfl rfl)) ?_
    refine wpList_nil ?_
    refine k26 _ _ ?_
    rcases iteS hM1 with ⟨c14, hM1⟩ | ⟨c14, hM1⟩
    · refine condF (et rfl rfl) (nF (decide_eq_true c14)) ?_
      refine wp_skip ?_
      refine qb24 _ _ _ ?_
      refine k23 _ _ ?_
      refine wp_region_lit ?_
      refine Y wn rfl (yadd (et rfl e1_8) rfl) ?_
      refine Y wn rfl (ym (v := .int .i64 (wa .i64 x6 1)) (et rfl rfl)) ?_
      refine wpList_nil ?_
      obtain rfl := someI hM1
      exact n1 _ _ _ rfl ⟨_, _, rfl, rfl, e1_3, e1_6, e1_7, rfl, hst⟩
    · refine condT (et rfl rfl) (nT (decide_eq_false c14)) ?_
      refine seqQ fun Q27 k27 z27 => ?_
      refine wp_region_lit ?_
      refine Y wn rfl (ym (v := .int .i64 x13) (et rfl rfl)) ?_
      refine Y wn rfl (ya (v := .int .i64 x13) (et rfl rfl)) ?_
      refine wpList_nil ?_
      refine k27 _ _ ?_
      refine wp_ret ?_
      refine qb24 _ _ _ ?_
      refine z23 _ _ _ rfl ?_
      obtain rfl := someI hM1
      refine zz1 _ _ _ _ rfl rfl ?_
      exact je1_1 _ _ _ rfl hst (ho1 _ rfl)
  · refine condF (et rfl rfl) (decide_eq_false c12) ?_
    refine wp_exit ?_
    refine z22 _ _ _ rfl ?_
    obtain rfl := someI hM1
    refine zz1 _ _ _ _ rfl rfl ?_
    exact je1_0 _ _ e1_3 hst (ho1 _ rfl)

theorem matrix_sorted_1_ok {w0 : World} {ros : List Fact} {rs : List Res} {w : World} {x1 : Int} {x2 : Int} {x3 : Int} {x4 : Int} {x5 : Int} {x6 : Int} {out : Int} (hM : matrix_sorted_1 x1 x2 x3 x4 x5 x6 = some out) (hst : St w0 ros (rs) w) :
    Calls Tryz.prog 74 #[.agg #[.int .i64 x1, .int .i64 x2, .int .u64 x3], .agg #[.int .i64 x4, .int .i64 x5, .int .u64 x6]] w (fun e w => e = .returned (.int .i64 out) ∧ St w0 (ros) (rs) w) := by
  refine enterQ Tryz.func74 rfl Tryz.ntmps74 rfl fun Q hQ => ?_
  refine seqQ fun Q1 k1 z1 => ?_
  refine wp_region_lit ?_
  refine YB wn rfl (r_box (vals := [.int .i64 x1, .int .i64 x2, .int .u64 x3]) hst (et rfl rfl) rfl) ?_
  clear hst
  intro b7 w hst
  refine YB wn rfl (r_box (vals := [.int .i64 x4, .int .i64 x5, .int .u64 x6]) hst (et rfl rfl) rfl) ?_
  clear hst
  intro b8 w hst
  refine Y wn rfl (ya (v := .int .i64 0) rfl) ?_
  refine wpList_nil ?_
  refine k1 _ _ ?_
  refine seqQ fun Q2 k2 z2 => ?_
  obtain ⟨r9, gr9, hM⟩ := bs hM
  obtain ⟨r10, gr10, hM⟩ := bs hM
  obtain ⟨r12, gr12, hM⟩ := bs hM
  refine wp_drawR [0, 1, 0, 4, 15, 0, 32, 0, 128, 511, 1023, 2047, 4095] [4, 9, 10, 11, 12] 5 folM (by kernel_rfl) (by kernel_rfl) (by kernel_rfl) ?_
  replace hst := hst.drew
  refine DRn (l1 := [0, 1, 2, 3, 5, 6, 7, 8]) (l2 := []) (lc := [4]) (by kernel_rfl) (by kernel_rfl) (by kernel_rfl) ?_
  refine Ry rfl rfl wn (yFb FL_57_1 (et rfl rfl)) ?_
  refine Ry rfl rfl wn (yLb (u := .int .i64 x2) O_3 (et rfl rfl) hst (mtR mhR) rfl) ?_
  refine Ry rfl rfl wn (yFb FL_57_1 (et rfl rfl)) ?_
  refine Ry rfl rfl wn (yLb (u := .int .i64 x5) O_3 (et rfl rfl) hst mhR rfl) ?_
  refine Ry rfl rfl wn (yFb FL_57_0 (et rfl rfl)) ?_
  refine Ry rfl rfl wn (yLb (u := .int .i64 x1) O_3 (et rfl rfl) hst (mtR mhR) rfl) ?_
  refine Ry rfl rfl wn (yFb FL_57_0 (et rfl rfl)) ?_
  refine Ry rfl rfl wn (yLb (u := .int .i64 x4) O_3 (et rfl rfl) hst mhR rfl) ?_
  refine Rn QSn ?_
  refine Lc rfl ?_ LAn
  refine Lk wn (yCall FN_76 (a2 (et rfl rfl) (et rfl rfl))) (cmp_Compare_int_ok (hM := gr9) (hst := hst) ) ?_
  clear hst
  rintro _ w ⟨rfl, hst⟩
  refine ⟨_, rfl, ?_⟩
  refine DRn (l1 := []) (l2 := [5, 6, 7, 8]) (lc := [9]) (by kernel_rfl) (by kernel_rfl) (by kernel_rfl) ?_
  refine Rn (Sy rfl rfl wn (yFb FL_57_0 (et rfl rfl)) rfl (Sy rfl rfl wn (yLb (u := .int .i64 x1) O_3 (et rfl rfl) hst (mtR mhR) rfl) rfl (Sy rfl rfl wn (yFb FL_57_0 (et rfl rfl)) rfl (Sy rfl rfl wn (yLb (u := .int .i64 x4) O_3 (et rfl rfl) hst mhR rfl) rfl QSn)))) ?_
  refine Lc rfl ?_ LAn
  refine Lk wn (yCall FN_76 (a2 (et rfl rfl) (et rfl rfl))) (cmp_Compare_int_ok (hM := gr10) (hst := hst) ) ?_
  clear hst
  rintro _ w ⟨rfl, hst⟩
  refine ⟨_, rfl, ?_⟩
  refine DRn (l1 := []) (l2 := []) (lc := [10]) (by kernel_rfl) (by kernel_rfl) (by kernel_rfl) ?_
  refine Rn QSn ?_
  refine Lc rfl ?_ LAn
  refine LH wn (rLt (n := 2) (l := [r9, r10]) hst SL_22 [.int .i64 r9, .int .i64 r10] (bp2 (et rfl rfl) (et rfl rfl)) rfl rfl (mks1 (cs := [.int .i64 r9]) rfl mkI (mks1 (cs := [.int .i64 r10]) rfl mkI mks0))) ?_
  clear hst
  intro h11 w hst
  refine DRn (l1 := []) (l2 := []) (lc := [11]) (by kernel_rfl) (by kernel_rfl) (by kernel_rfl) ?_
  refine Rn QSn ?_
  refine Lc rfl ?_ LAn
  replace hst := hst.fz
  refine Lk wn (yCall FN_75 (a1 (et rfl rfl))) (cmp_Or_int_ok (hM := gr12) (hst := hst) (q1 := mhF)) ?_
  clear hst
  rintro _ w ⟨rfl, hst⟩
  refine ⟨_, rfl, ?_⟩
  refine DRn (l1 := []) (l2 := []) (lc := [12]) (by kernel_rfl) (by kernel_rfl) (by kernel_rfl) ?_
  refine Rn QSn ?_
  refine Lc rfl ?_ LAn
  refine Ly wn (ya (v := .int .i64 r12) (et rfl rfl)) ?_
  refine DRz (l1 := []) (l2 := []) (by kernel_rfl) (by kernel_rfl) ?_
  refine Rn QSn ?_
  refine k2 _ _ ?_
  refine wp_ret ?_
  obtain rfl := someI hM
  exact hQ _ _ _ (fin1r Tryz.results74 ⟨rfl, rfl⟩ ⟨rfl, ((hst.pk 2 [] rfl).facts (allT allI))⟩)

theorem slices_insertionSortCmpFunc_apiEntry_ok {w0 : World} {ros : List Fact} {rs : List Res} {w : World} {x1 : List (Int × Int × Int)} {x3 : Int} {x4 : Int} {h2 : Hdr} {out : (List (Int × Int × Int))} (hM : slices_insertionSortCmpFunc_apiEntry x1 x3 x4 = some out) (hst : St w0 ros (row 57 rTi64i64u64 h2.v x1 :: rs) w) :
    Calls Tryz.prog 120 #[h2.v, .int .i64 x3, .int .i64 x4, .func (.func 74) #[] #[]] w (fun e w => e = .returned (.tuple #[]) ∧ St w0 (ros) (row 57 rTi64i64u64 h2.v out :: rs) w) := by
  refine enterQ Tryz.func120 rfl Tryz.ntmps120 rfl fun Q hQ => ?_
  refine seqQ fun Q1 k1 z1 => ?_
  refine wp_region_lit ?_
  refine Y wn rfl (ym (v := .int .i64 x3) (et rfl rfl)) ?_
  refine Y wn rfl (yadd (et rfl rfl) rfl) ?_
  refine Y wn rfl (ya (v := .int .i64 (wa .i64 x3 1)) (et rfl rfl)) ?_
  refine wpList_nil ?_
  refine k1 _ _ ?_
  refine blockQ fun Q2 qb2 => ?_
  obtain ⟨o21, go21, hM⟩ := bs hM
  have je21_0 : ∀ (x87 : List (Int × Int × Int)) (f : Nat → Value) (w : World), St w0 (ros) (row 57 rTi64i64u64 h2.v x87 :: rs) w → x87 = o21 → Q2 (.exit 0) (fr 53 f) w := by
    intro x87 f w hst ho
    subst ho
    refine qb2 _ _ _ ?_
    obtain rfl := someI hM
    exact hQ _ _ _ (fin0n Tryz.results120 ⟨rfl, hst⟩)
  refine loopQ (fun s a w => ∃ (x44 : List (Int × Int × Int)) (x45 : Int) (f : Nat → Value), (x44, x45) = s ∧ a = fr 53 f ∧ f 0 = h2.v ∧ f 1 = .int .i64 x3 ∧ f 2 = .int .i64 x4 ∧ f 3 = .func (.func 74) #[] #[] ∧ f 8 = .int .i64 x45 ∧ St w0 (ros) (row 57 rTi64i64u64 h2.v x44 :: rs) w) go21 ⟨_, _, _, rfl, rfl, rfl, rfl, rfl, rfl, rfl, hst⟩ ?_
  clear hst
  rintro _ _ w r21_ ⟨x44, x45, f, rfl, rfl, e21_0, e21_1, e21_2, e21_3, e21_8, hst⟩ hM21 ho21 Q100021 n21 zz21
  refine seqQ fun Q39 k39 z39 => ?_
  refine seqQ fun Q40 k40 z40 => ?_
  refine wp_region_lit ?_
  refine Y wn rfl (ym (v := .int .i64 x45) (et rfl e21_8)) ?_
  refine Y wn rfl (ym (v := .int .i64 x4) (et rfl e21_2)) ?_
  refine Y wn rfl (ylss (et rfl rfl) (et rfl rfl)) ?_
  refine wpList_nil ?_
  refine k40 _ _ ?_
  rcases iteS hM21 with ⟨c88, hM21⟩ | ⟨c88, hM21⟩
  · refine condT (et rfl rfl) (decide_eq_true c88) ?_
    refine wp_skip ?_
    refine k39 _ _ ?_
    refine seqQ fun Q41 k41 z41 => ?_
    refine blockQ fun Q42 qb42 => ?_
    refine seqQ fun Q43 k43 z43 => ?_
    refine wp_region_lit ?_
    refine Y wn rfl (ym (v := .int .i64 x45) (et rfl e21_8)) ?_
    refine Y wn rfl (ya (v := .int .i64 x45) (et rfl rfl)) ?_
    refine wpList_nil ?_
    refine k43 _ _ ?_
    refine blockQ fun Q44 qb44 => ?_
    obtain ⟨o28, go28, hM21⟩ := bs hM21
    have je28_0 : ∀ (x115 : List (Int × Int × Int)) (f : Nat → Value) (w : World), f 0 = h2.v → f 1 = .int .i64 x3 → f 2 = .int .i64 x4 → f 3 = .func (.func 74) #[] #[] → f 8 = .int .i64 x45 → St w0 (ros) (row 57 rTi64i64u64 h2.v x115 :: rs) w → x115 = o28 → Q44 (.exit 2) (fr 53 f) w := by
      intro x115 f w eje28_0_0 eje28_0_1 eje28_0_2 eje28_0_3 eje28_0_8 hst ho
      subst ho
      refine qb44 _ _ _ ?_
      refine qb42 _ _ _ ?_
      refine k41 _ _ ?_
      refine wp_region_lit ?_
      refine Y wn rfl (ym (v := .int .i64 x45) (et rfl eje28_0_8)) ?_
      refine Y wn rfl (yadd (et rfl rfl) rfl) ?_
      refine Y wn rfl (ya (v := .int .i64 (wa .i64 x45 1)) (et rfl rfl)) ?_
      refine wpList_nil ?_
      obtain rfl := someI hM21
      exact n21 _ _ _ rfl ⟨_, _, _, rfl, rfl, eje28_0_0, eje28_0_1, eje28_0_2, eje28_0_3, rfl, hst⟩
    refine loopQ (fun s a w => ∃ (x100 : List (Int × Int × Int)) (x101 : Int) (f : Nat → Value), (x100, x101) = s ∧ a = fr 53 f ∧ f 0 = h2.v ∧ f 1 = .int .i64 x3 ∧ f 2 = .int .i64 x4 ∧ f 3 = .func (.func 74) #[] #[] ∧ f 8 = .int .i64 x45 ∧ f 9 = .int .i64 x101 ∧ St w0 (ros) (row 57 rTi64i64u64 h2.v x100 :: rs) w) go28 ⟨_, _, _, rfl, rfl, e21_0, e21_1, e21_2, e21_3, e21_8, rfl, hst⟩ ?_
    clear hst
    rintro _ _ w r28_ ⟨x100, x101, f, rfl, rfl, e28_0, e28_1, e28_2, e28_3, e28_8, e28_9, hst⟩ hM28 ho28 Q100028 n28 zz28
    refine seqQ fun Q53 k53 z53 => ?_
    refine seqQ fun Q54 k54 z54 => ?_
    obtain ⟨r116, gr116, hM28⟩ := bs hM28
    refine joinN (n := 53) (fun f w => f 0 = h2.v ∧ f 1 = .int .i64 x3 ∧ f 2 = .int .i64 x4 ∧ f 3 = .func (.func 74) #[] #[] ∧ f 8 = .int .i64 x45 ∧ f 9 = .int .i64 x101 ∧ f 34 = .bool r116 ∧ St w0 (ros) (row 57 rTi64i64u64 h2.v x100 :: rs) w) (fun j29 => ?_) ?_
    · rcases iteS gr116 with ⟨c118, gr116⟩ | ⟨c118, gr116⟩
      · obtain ⟨x119, gx119, gr116⟩ := bs gr116
        obtain ⟨x120, gx120, gr116⟩ := bs gr116
        obtain ⟨r121, gr121, gr116⟩ := bs gr116
        have hr30 := someI gr116
        refine wp_drawR [0, 0, 3, 7, 15, 15, 15, 111, 239, 15, 15, 1039, 3599, 7695, 16383, 32767, 65535] [14] 1 folM (by kernel_rfl) (by kernel_rfl) (by kernel_rfl) ?_
        replace hst := hst.drew
        refine DRn (l1 := [0, 1, 2, 3, 4, 5, 6, 7, 8, 9, 10, 11, 12, 13]) (l2 := []) (lc := [14]) (by kernel_rfl) (by kernel_rfl) (by kernel_rfl) ?_
        refine Ry rfl rfl wn (ym (v := .int .i64 x101) (et rfl e28_9)) ?_
        refine Ry rfl rfl wn (ym (v := .int .i64 x3) (et rfl e28_1)) ?_
        refine Ry rfl rfl wn (ygtr (et rfl rfl) (et rfl rfl)) ?_
        refine Ry rfl rfl wn (ym (v := .bool (decide (x3 < x101))) (et rfl rfl)) ?_
        refine Ry rfl rfl (wg rfl rfl rfl (decide_eq_true c118)) (ym (v := .func (.func 74) #[] #[]) (et rfl e28_3)) ?_
        refine Ry rfl rfl (wg rfl rfl rfl (decide_eq_true c118)) (ym (v := h2.v) (et rfl e28_0)) ?_
        refine Ry rfl rfl (wg rfl rfl rfl (decide_eq_true c118)) (ym (v := .int .i64 x101) (et rfl e28_9)) ?_
        refine Ry rfl rfl (wg rfl rfl rfl (decide_eq_true c118)) (yIa SL_54 (et rfl rfl) (et rfl rfl) hst (rdO mhR) gx119) ?_
        refine Ry rfl rfl (wg rfl rfl rfl (decide_eq_true c118)) (yFn ST_57 (et rfl rfl) hst (rdO mhR) gx119 rfl) ?_
        refine Ry rfl rfl (wg rfl rfl rfl (decide_eq_true c118)) (ym (v := h2.v) (et rfl e28_0)) ?_
        refine Ry rfl rfl (wg rfl rfl rfl (decide_eq_true c118)) (ym (v := .int .i64 x101) (et rfl e28_9)) ?_
        refine Ry rfl rfl (wg rfl rfl rfl (decide_eq_true c118)) (ysub (et rfl rfl) rfl) ?_
        refine Ry rfl rfl (wg rfl rfl rfl (decide_eq_true c118)) (yIa SL_54 (et rfl rfl) (et rfl rfl) hst (rdO mhR) gx120) ?_
        refine Ry rfl rfl (wg rfl rfl rfl (decide_eq_true c118)) (yFn ST_57 (et rfl rfl) hst (rdO mhR) gx120 rfl) ?_
        refine Rn QSn ?_
        refine Lc rfl ?_ LAn
        refine Lk (wg rfl rfl rfl (decide_eq_true c118)) (yCallw FN_74 (et rfl rfl) (a2 (et rfl rfl) (et rfl rfl))) (matrix_sorted_1_ok (hM := gr121) (hst := hst) ) ?_
        clear hst
        rintro _ w ⟨rfl, hst⟩
        refine ⟨_, rfl, ?_⟩
        refine DRz (l1 := [15, 16]) (l2 := []) (by kernel_rfl) (by kernel_rfl) ?_
        refine Ry rfl rfl (wg rfl rfl rfl (decide_eq_true c118)) (ylss (et rfl rfl) rfl) ?_
        refine Ry rfl rfl wn (ypt (v := .bool r116) (et rfl rfl) (decide_eq_true c118) (eqv hr30 (et rfl rfl))) ?_
        refine Rn QSn ?_
        exact j29 _ _ ⟨e28_0, e28_1, e28_2, e28_3, e28_8, e28_9, rfl, hst⟩
      · have hr31 := someI gr116
        refine wp_drawR [0, 0, 3, 7, 15, 15, 15, 111, 239, 15, 15, 1039, 3599, 7695, 16383, 32767, 65535] [14] 1 folM (by kernel_rfl) (by kernel_rfl) (by kernel_rfl) ?_
        replace hst := hst.drew
        refine DRn (l1 := [0, 1, 2, 3, 4, 5, 6, 7, 8, 9, 10, 11, 12, 13]) (l2 := []) (lc := [14]) (by kernel_rfl) (by kernel_rfl) (by kernel_rfl) ?_
        refine Ry rfl rfl wn (ym (v := .int .i64 x101) (et rfl e28_9)) ?_
        refine Ry rfl rfl wn (ym (v := .int .i64 x3) (et rfl e28_1)) ?_
        refine Ry rfl rfl wn (ygtr (et rfl rfl) (et rfl rfl)) ?_
        refine Ry rfl rfl wn (ym (v := .bool (decide (x3 < x101))) (et rfl rfl)) ?_
        refine Rx rfl rfl (wx rfl rfl rfl (decide_eq_false c118)) ?_
        refine Rx rfl rfl (wx rfl rfl rfl (decide_eq_false c118)) ?_
        refine Rx rfl rfl (wx rfl rfl rfl (decide_eq_false c118)) ?_
        refine Rx rfl rfl (wx rfl rfl rfl (decide_eq_false c118)) ?_
        refine Rx rfl rfl (wx rfl rfl rfl (decide_eq_false c118)) ?_
        refine Rx rfl rfl (wx rfl rfl rfl (decide_eq_false c118)) ?_
        refine Rx rfl rfl (wx rfl rfl rfl (decide_eq_false c118)) ?_
        refine Rx rfl rfl (wx rfl rfl rfl (decide_eq_false c118)) ?_
        refine Rx rfl rfl (wx rfl rfl rfl (decide_eq_false c118)) ?_
        refine Rx rfl rfl (wx rfl rfl rfl (decide_eq_false c118)) ?_
        refine Rn QSn ?_
        refine Lc rfl ?_ LAn
        refine Lx (wx rfl rfl rfl (decide_eq_false c118)) ?_
        refine DRz (l1 := [15, 16]) (l2 := []) (by kernel_rfl) (by kernel_rfl) ?_
        refine Rx rfl rfl (wx rfl rfl rfl (decide_eq_false c118)) ?_
        refine Ry rfl rfl wn (ypf (v := .bool r116) (et rfl rfl) (decide_eq_false c118) (eqv hr31 rfl)) ?_
        refine Rn QSn ?_
        exact j29 _ _ ⟨e28_0, e28_1, e28_2, e28_3, e28_8, e28_9, rfl, hst⟩
    clear hst
    rintro f w ⟨e117_0, e117_1, e117_2, e117_3, e117_8, e117_9, e117_34, hst⟩
    refine k54 _ _ ?_
    rcases iteS hM28 with ⟨c122, hM28⟩ | ⟨c122, hM28⟩
    · refine condT (et rfl e117_34) c122 ?_
      refine wp_skip ?_
      refine k53 _ _ ?_
      refine seqQ fun Q55 k55 z55 => ?_
      refine blockQ fun Q56 qb56 => ?_
      obtain ⟨x123, gx123, hM28⟩ := bs hM28
      obtain ⟨x124, gx124, hM28⟩ := bs hM28
      obtain ⟨x125, gx125, hM28⟩ := bs hM28
      obtain ⟨x126, gx126, hM28⟩ := bs hM28
      refine wp_drawR [0, 0, 0, 0, 8, 0, 0, 64, 224, 480, 0, 0, 3072, 7168, 16355, 32739, 65535, 131071] [15, 17] 2 folM (by kernel_rfl) (by kernel_rfl) (by kernel_rfl) ?_
      replace hst := hst.drew
      refine DRn (l1 := [0, 1, 2, 3, 4, 5, 6, 7, 8, 9, 10, 11, 12, 13, 14]) (l2 := []) (lc := [15]) (by kernel_rfl) (by kernel_rfl) (by kernel_rfl) ?_
      refine Ry rfl rfl wn (ym (v := h2.v) (et rfl e117_0)) ?_
      refine Ry rfl rfl wn (ym (v := .int .i64 x101) (et rfl e117_9)) ?_
      refine Ry rfl rfl wn (ym (v := h2.v) (et rfl e117_0)) ?_
      refine Ry rfl rfl wn (ym (v := .int .i64 x101) (et rfl e117_9)) ?_
      refine Ry rfl rfl wn (ysub (et rfl rfl) rfl) ?_
      refine Ry rfl rfl wn (ym (v := h2.v) (et rfl e117_0)) ?_
      refine Ry rfl rfl wn (ym (v := .int .i64 x101) (et rfl e117_9)) ?_
      refine Ry rfl rfl wn (ysub (et rfl rfl) rfl) ?_
      refine Ry rfl rfl wn (yIa SL_54 (et rfl rfl) (et rfl rfl) hst (rdO mhR) gx123) ?_
      refine Ry rfl rfl wn (yFn ST_57 (et rfl rfl) hst (rdO mhR) gx123 rfl) ?_
      refine Ry rfl rfl wn (ym (v := h2.v) (et rfl e117_0)) ?_
      refine Ry rfl rfl wn (ym (v := .int .i64 x101) (et rfl e117_9)) ?_
      refine Ry rfl rfl wn (yIa SL_54 (et rfl rfl) (et rfl rfl) hst (rdO mhR) gx124) ?_
      refine Ry rfl rfl wn (yFn ST_57 (et rfl rfl) hst (rdO mhR) gx124 rfl) ?_
      refine Ry rfl rfl wn (yIs SL_54 (et rfl rfl) (et rfl rfl) hst (rdO mhR) gx125) ?_
      refine Rn QSn ?_
      refine Lc rfl ?_ LAn
      refine LT wn (r_stn (cs := [.int .i64 x123.1, .int .i64 x123.2.1, .int .u64 x123.2.2]) hst ST_57  (et rfl rfl) (et rfl rfl) rfl (mkF rfl) gx125) ?_
      clear hst
      intro w hst
      refine DRn (l1 := [16]) (l2 := [2, 3, 4]) (lc := [17]) (by kernel_rfl) (by kernel_rfl) (by kernel_rfl) ?_
      refine Ry rfl rfl wn (yIs SL_54 (et rfl rfl) (et rfl rfl) hst (rdO mhR) gx126) ?_
      refine Rn (Sy rfl rfl wn (ym (v := h2.v) (et rfl e117_0)) rfl (Sy rfl rfl wn (ym (v := .int .i64 x101) (et rfl e117_9)) rfl (Sy rfl rfl wn (ysub (et rfl rfl) rfl) rfl QSn))) ?_
      refine Lc rfl ?_ LAn
      refine LT wn (r_stn (cs := [.int .i64 x124.1, .int .i64 x124.2.1, .int .u64 x124.2.2]) hst ST_57  (et rfl rfl) (et rfl rfl) rfl (mkF rfl) gx126) ?_
      clear hst
      intro w hst
      refine DRz (l1 := []) (l2 := []) (by kernel_rfl) (by kernel_rfl) ?_
      refine Rn QSn ?_
      refine qb56 _ _ _ ?_
      refine k55 _ _ ?_
      refine wp_region_lit ?_
      refine Y wn rfl (ym (v := .int .i64 x101) (et rfl e117_9)) ?_
      refine Y wn rfl (ysub (et rfl rfl) rfl) ?_
      refine Y wn rfl (ya (v := .int .i64 (ws .i64 x101 1)) (et rfl rfl)) ?_
      refine wpList_nil ?_
      obtain rfl := someI hM28
      exact n28 _ _ _ rfl ⟨_, _, _, rfl, rfl, e117_0, e117_1, e117_2, e117_3, e117_8, rfl, hst⟩
    · refine condF (et rfl e117_34) (bfalse c122) ?_
      refine wp_exit ?_
      refine z53 _ _ _ rfl ?_
      obtain rfl := someI hM28
      refine zz28 _ _ _ _ rfl rfl ?_
      exact je28_0 _ _ _ e117_0 e117_1 e117_2 e117_3 e117_8 hst (ho28 _ rfl)
  · refine condF (et rfl rfl) (decide_eq_false c88) ?_
    refine wp_exit ?_
    refine z39 _ _ _ rfl ?_
    obtain rfl := someI hM21
    refine zz21 _ _ _ _ rfl rfl ?_
    exact je21_0 _ _ _ hst (ho21 _ rfl)

theorem slices_stableCmpFunc_apiEntry_ok {w0 : World} {ros : List Fact} {rs : List Res} {w : World} {x1 : List (Int × Int × Int)} {x3 : Int} {h2 : Hdr} {out : (List (Int × Int × Int))} (hM : slices_stableCmpFunc_apiEntry x1 x3 = some out) (hst : St w0 ros (row 57 rTi64i64u64 h2.v x1 :: rs) w) :
    Calls Tryz.prog 103 #[h2.v, .int .i64 x3, .func (.func 74) #[] #[]] w (fun e w => e = .returned (.tuple #[]) ∧ St w0 (ros) (row 57 rTi64i64u64 h2.v out :: rs) w) := by
  refine enterQ Tryz.func103 rfl Tryz.ntmps103 rfl fun Q hQ => ?_
  refine seqQ fun Q1 k1 z1 => ?_
  refine wp_region_lit ?_
  refine Y wn rfl (ya (v := .int .i64 20) rfl) ?_
  refine wpList_nil ?_
  refine k1 _ _ ?_
  refine seqQ fun Q2 k2 z2 => ?_
  refine wp_region_lit ?_
  refine Y wn rfl (ym (v := .int .i64 20) (et rfl rfl)) ?_
  refine Y wn rfl (ya (v := .int .i64 0) rfl) ?_
  refine Y wn rfl (ya (v := .int .i64 20) (et rfl rfl)) ?_
  refine wpList_nil ?_
  refine k2 _ _ ?_
  refine seqQ fun Q3 k3 z3 => ?_
  refine blockQ fun Q4 qb4 => ?_
  obtain ⟨o1, go1, hM⟩ := bs hM
  have je1_0 : ∀ (x14 : List (Int × Int × Int)) (x15 : Int) (f : Nat → Value) (w : World), f 0 = h2.v → f 1 = .int .i64 x3 → f 2 = .func (.func 74) #[] #[] → f 6 = .int .i64 20 → f 7 = .int .i64 x15 → St w0 (ros) (row 57 rTi64i64u64 h2.v x14 :: rs) w → (x14, x15) = o1 → Q4 (.exit 0) (fr 63 f) w := by
    intro x14 x15 f w eje1_0_0 eje1_0_1 eje1_0_2 eje1_0_6 eje1_0_7 hst ho
    subst ho
    refine qb4 _ _ _ ?_
    refine k3 _ _ ?_
    refine seqQ fun Q15 k15 z15 => ?_
    refine wp_region_lit ?_
    refine Y wn rfl (ym (v := h2.v) (et rfl eje1_0_0)) ?_
    refine Y wn rfl (ym (v := .int .i64 x15) (et rfl eje1_0_7)) ?_
    refine Y wn rfl (ym (v := .int .i64 x3) (et rfl eje1_0_1)) ?_
    refine Y wn rfl (ym (v := .func (.func 74) #[] #[]) (et rfl eje1_0_2)) ?_
    obtain ⟨r16, gr16, hM⟩ := bs hM
    refine Yc wn rfl (yCall FN_120 (a4 (et rfl rfl) (et rfl rfl) (et rfl rfl) (et rfl rfl))) (slices_insertionSortCmpFunc_apiEntry_ok (hM := gr16) (hst := hst) ) ?_
    clear hst
    rintro _ w ⟨rfl, hst⟩
    refine ⟨_, rfl, ?_⟩
    refine wpList_nil ?_
    refine k15 _ _ ?_
    refine blockQ fun Q16 qb16 => ?_
    obtain ⟨o6, go6, hM⟩ := bs hM
    have je6_0 : ∀ (f : Nat → Value) (w : World), St w0 (ros) (row 57 rTi64i64u64 h2.v r16 :: rs) w → () = o6 → Q16 (.exit 2) (fr 63 f) w := by
      intro f w hst ho
      subst ho
      refine qb16 _ _ _ ?_
      obtain rfl := someI hM
      exact hQ _ _ _ (fin0n Tryz.results103 ⟨rfl, hst⟩)
    refine loopQ (fun s a w => ∃ (x21 : Int) (f : Nat → Value), x21 = s ∧ a = fr 63 f ∧ f 0 = h2.v ∧ f 1 = .int .i64 x3 ∧ f 2 = .func (.func 74) #[] #[] ∧ f 6 = .int .i64 x21 ∧ St w0 (ros) (row 57 rTi64i64u64 h2.v r16 :: rs) w) go6 ⟨_, _, rfl, rfl, eje1_0_0, eje1_0_1, eje1_0_2, eje1_0_6, hst⟩ ?_
    clear hst
    rintro _ _ w r6_ ⟨x21, f, rfl, rfl, e6_0, e6_1, e6_2, e6_6, hst⟩ hM6 ho6 Q100006 n6 zz6
    refine seqQ fun Q51 k51 z51 => ?_
    refine seqQ fun Q52 k52 z52 => ?_
    refine wp_region_lit ?_
    refine Y wn rfl (ym (v := .int .i64 x21) (et rfl e6_6)) ?_
    refine Y wn rfl (ym (v := .int .i64 x3) (et rfl e6_1)) ?_
    refine Y wn rfl (ylss (et rfl rfl) (et rfl rfl)) ?_
    refine wpList_nil ?_
    refine k52 _ _ ?_
    rcases iteS hM6 with ⟨c27, hM6⟩ | ⟨c27, hM6⟩
    · refine condT (et rfl rfl) (decide_eq_true c27) ?_
      refine wp_skip ?_
      refine k51 _ _ ?_
      refine blockQ fun Q53 qb53 => ?_
      refine seqQ fun Q54 k54 z54 => ?_
      refine wp_region_lit ?_
      refine Y wn rfl (ym (v := .int .i64 x21) (et rfl e6_6)) ?_
      refine Y wn rfl (ymul rfl (et rfl rfl)) ?_
      refine Y wn rfl (ya (v := .int .i64 0) rfl) ?_
      refine Y wn rfl (ya (v := .int .i64 (wm .i64 2 x21)) (et rfl rfl)) ?_
      refine wpList_nil ?_
      refine k54 _ _ ?_
      refine seqQ fun Q55 k55 z55 => ?_
      refine blockQ fun Q56 qb56 => ?_
      obtain ⟨o7, go7, hM6⟩ := bs hM6
      have je7_0 : ∀ (f : Nat → Value) (w : World), f 0 = h2.v → f 1 = .int .i64 x3 → f 2 = .func (.func 74) #[] #[] → f 6 = .int .i64 x21 → f 7 = .int .i64 0 → St w0 (ros) (row 57 rTi64i64u64 h2.v r16 :: rs) w → () = o7 → Q56 (.exit 4) (fr 63 f) w := by
        intro f w eje7_0_0 eje7_0_1 eje7_0_2 eje7_0_6 eje7_0_7 hst ho
        subst ho
        refine qb56 _ _ _ ?_
        refine k55 _ _ ?_
        refine seqQ fun Q61 k61 z61 => ?_
        refine seqQ fun Q62 k62 z62 => ?_
        refine wp_region_lit ?_
        refine Y wn rfl (ym (v := .int .i64 0) (et rfl eje7_0_7)) ?_
        refine Y wn rfl (ym (v := .int .i64 x21) (et rfl eje7_0_6)) ?_
        refine Y wn rfl (yadd (et rfl rfl) (et rfl rfl)) ?_
        refine Y wn rfl (ya (v := .int .i64 (wa .i64 0 x21)) (et rfl rfl)) ?_
        refine wpList_nil ?_
        refine k62 _ _ ?_
        refine seqQ fun Q63 k63 z63 => ?_
        refine wp_region_lit ?_
        refine Y wn rfl (ym (v := .int .i64 (wa .i64 0 x21)) (et rfl rfl)) ?_
        refine Y wn rfl (ym (v := .int .i64 x3) (et rfl eje7_0_1)) ?_
        refine Y wn rfl (ylss (et rfl rfl) (et rfl rfl)) ?_
        refine wpList_nil ?_
        refine k63 _ _ ?_
        have j8 : ∀ (f : Nat → Value) (w : World), f 0 = h2.v → f 1 = .int .i64 x3 → f 2 = .func (.func 74) #[] #[] → f 6 = .int .i64 x21 → St w0 (ros) (row 57 rTi64i64u64 h2.v r16 :: rs) w → slices_stableCmpFunc_apiEntry_j8 x21 = some r6_ → Q61 .normal (fr 63 f) w := by
          intro f w ej8_0 ej8_1 ej8_2 ej8_6 hst hM
          refine k61 _ _ ?_
          refine wp_region_lit ?_
          refine Y wn rfl (ym (v := .int .i64 x21) (et rfl ej8_6)) ?_
          refine Y wn rfl (ymul (et rfl rfl) rfl) ?_
          refine Y wn rfl (ya (v := .int .i64 (wm .i64 x21 2)) (et rfl rfl)) ?_
          refine wpList_nil ?_
          refine qb53 _ _ _ ?_
          obtain rfl := someI hM
          exact n6 _ _ _ rfl ⟨_, _, rfl, rfl, ej8_0, ej8_1, ej8_2, rfl, hst⟩
        rcases iteS hM6 with ⟨c29, hM6⟩ | ⟨c29, hM6⟩
        · refine condT (et rfl rfl) (decide_eq_true c29) ?_
          cases hM6
        · refine condF (et rfl rfl) (decide_eq_false c29) ?_
          refine wp_skip ?_
          exact j8 _ _ eje7_0_0 eje7_0_1 eje7_0_2 eje7_0_6 hst hM6
      refine loopQ (fun s a w => ∃ (f : Nat → Value), () = s ∧ a = fr 63 f ∧ f 0 = h2.v ∧ f 1 = .int .i64 x3 ∧ f 2 = .func (.func 74) #[] #[] ∧ f 6 = .int .i64 x21 ∧ f 7 = .int .i64 0 ∧ f 8 = .int .i64 (wm .i64 2 x21) ∧ St w0 (ros) (row 57 rTi64i64u64 h2.v r16 :: rs) w) go7 ⟨_, rfl, rfl, e6_0, e6_1, e6_2, e6_6, rfl, rfl, hst⟩ ?_
      clear hst
      rintro _ _ w r7_ ⟨f, rfl, rfl, e7_0, e7_1, e7_2, e7_6, e7_7, e7_8, hst⟩ hM7 ho7 Q100007 n7 zz7
      refine seqQ fun Q64 k64 z64 => ?_
      refine seqQ fun Q65 k65 z65 => ?_
      refine wp_region_lit ?_
      refine Y wn rfl (ym (v := .int .i64 (wm .i64 2 x21)) (et rfl e7_8)) ?_
      refine Y wn rfl (ym (v := .int .i64 x3) (et rfl e7_1)) ?_
      refine Y wn rfl (yleq (et rfl rfl) (et rfl rfl)) ?_
      refine wpList_nil ?_
      refine k65 _ _ ?_
      rcases iteS hM7 with ⟨c30, hM7⟩ | ⟨c30, hM7⟩
      · refine condT (et rfl rfl) (decide_eq_true c30) ?_
        cases hM7
      · refine condF (et rfl rfl) (decide_eq_false c30) ?_
        refine wp_exit ?_
        refine z64 _ _ _ rfl ?_
        obtain rfl := someI hM7
        refine zz7 _ _ _ _ rfl rfl ?_
        exact je7_0 _ _ e7_0 e7_1 e7_2 e7_6 e7_7 hst (ho7 _ rfl)
    · refine condF (et rfl rfl) (decide_eq_false c27) ?_
      refine wp_exit ?_
      refine z51 _ _ _ rfl ?_
      obtain rfl := someI hM6
      refine zz6 _ _ _ _ rfl rfl ?_
      exact je6_0 _ _ hst (ho6 _ rfl)
  refine loopQ (fun s a w => ∃ (x6 : List (Int × Int × Int)) (x7 : Int) (x8 : Int) (f : Nat → Value), (x6, x7, x8) = s ∧ a = fr 63 f ∧ f 0 = h2.v ∧ f 1 = .int .i64 x3 ∧ f 2 = .func (.func 74) #[] #[] ∧ f 6 = .int .i64 20 ∧ f 7 = .int .i64 x7 ∧ f 8 = .int .i64 x8 ∧ St w0 (ros) (row 57 rTi64i64u64 h2.v x6 :: rs) w) go1 ⟨_, _, _, _, rfl, rfl, rfl, rfl, rfl, rfl, rfl, rfl, hst⟩ ?_
  clear hst
  rintro _ _ w r1_ ⟨x6, x7, x8, f, rfl, rfl, e1_0, e1_1, e1_2, e1_6, e1_7, e1_8, hst⟩ hM1 ho1 Q100001 n1 zz1
  refine seqQ fun Q68 k68 z68 => ?_
  refine seqQ fun Q69 k69 z69 => ?_
  refine wp_region_lit ?_
  refine Y wn rfl (ym (v := .int .i64 x8) (et rfl e1_8)) ?_
  refine Y wn rfl (ym (v := .int .i64 x3) (et rfl e1_1)) ?_
  refine Y wn rfl (yleq (et rfl rfl) (et rfl rfl)) ?_
  refine wpList_nil ?_
  refine k69 _ _ ?_
  rcases iteS hM1 with ⟨c31, hM1⟩ | ⟨c31, hM1⟩
  · refine condT (et rfl rfl) (decide_eq_true c31) ?_
    refine wp_skip ?_
    refine k68 _ _ ?_
    refine blockQ fun Q70 qb70 => ?_
    refine seqQ fun Q71 k71 z71 => ?_
    refine wp_region_lit ?_
    refine Y wn rfl (ym (v := h2.v) (et rfl e1_0)) ?_
    refine Y wn rfl (ym (v := .int .i64 x7) (et rfl e1_7)) ?_
    refine Y wn rfl (ym (v := .int .i64 x8) (et rfl e1_8)) ?_
    refine Y wn rfl (ym (v := .func (.func 74) #[] #[]) (et rfl e1_2)) ?_
    obtain ⟨r32, gr32, hM1⟩ := bs hM1
    refine Yc wn rfl (yCall FN_120 (a4 (et rfl rfl) (et rfl rfl) (et rfl rfl) (et rfl rfl))) (slices_insertionSortCmpFunc_apiEntry_ok (hM := gr32) (hst := hst) ) ?_
    clear hst
    rintro _ w ⟨rfl, hst⟩
    refine ⟨_, rfl, ?_⟩
    refine wpList_nil ?_
    refine k71 _ _ ?_
    refine seqQ fun Q72 k72 z72 => ?_
    refine wp_region_lit ?_
    refine Y wn rfl (ym (v := .int .i64 x8) (et rfl e1_8)) ?_
    refine Y wn rfl (ya (v := .int .i64 x8) (et rfl rfl)) ?_
    refine wpList_nil ?_
    refine k72 _ _ ?_
    refine wp_region_lit ?_
    refine Y wn rfl (ym (v := .int .i64 x8) (et rfl e1_8)) ?_
    refine Y wn rfl (ym (v := .int .i64 20) (et rfl e1_6)) ?_
    refine Y wn rfl (yadd (et rfl rfl) (et rfl rfl)) ?_
    refine Y wn rfl (ya (v := .int .i64 (wa .i64 x8 20)) (et rfl rfl)) ?_
    refine wpList_nil ?_
    refine qb70 _ _ _ ?_
    obtain rfl := someI hM1
    exact n1 _ _ _ rfl ⟨_, _, _, _, rfl, rfl, e1_0, e1_1, e1_2, e1_6, rfl, rfl, hst⟩
  · refine condF (et rfl rfl) (decide_eq_false c31) ?_
    refine wp_exit ?_
    refine z68 _ _ _ rfl ?_
    obtain rfl := someI hM1
    refine zz1 _ _ _ _ rfl rfl ?_
    exact je1_0 _ _ _ _ e1_0 e1_1 e1_2 e1_6 e1_7 hst (ho1 _ rfl)

theorem slices_SortStableFunc_apiEntry_ok {w0 : World} {ros : List Fact} {rs : List Res} {w : World} {x1 : List (Int × Int × Int)} {h2 : Hdr} {out : (List (Int × Int × Int))} (hM : slices_SortStableFunc_apiEntry x1 = some out) (hst : St w0 ros (row 57 rTi64i64u64 h2.v x1 :: rs) w) :
    Calls Tryz.prog 73 #[h2.v, .func (.func 74) #[] #[]] w (fun e w => e = .returned (.tuple #[]) ∧ St w0 (ros) (row 57 rTi64i64u64 h2.v out :: rs) w) := by
  refine enterQ Tryz.func73 rfl Tryz.ntmps73 rfl fun Q hQ => ?_
  refine wp_region_lit ?_
  refine Y wn rfl (ym (v := h2.v) (et rfl rfl)) ?_
  refine Y wn rfl (ym (v := h2.v) (et rfl rfl)) ?_
  refine Y wn rfl (yLen SL_54 (et rfl rfl) hst (rdO mhR)) ?_
  refine Y wn rfl (ym (v := .func (.func 74) #[] #[]) (et rfl rfl)) ?_
  obtain ⟨r3, gr3, hM⟩ := bs hM
  refine Yc wn rfl (yCall FN_103 (a3 (et rfl rfl) (et rfl rfl) (et rfl rfl))) (slices_stableCmpFunc_apiEntry_ok (hM := gr3) (hst := hst) ) ?_
  clear hst
  rintro _ w ⟨rfl, hst⟩
  refine ⟨_, rfl, ?_⟩
  refine wpList_nil ?_
  obtain rfl := someI hM
  exact hQ _ _ _ (fin0n Tryz.results73 ⟨rfl, hst⟩)

theorem matrix_sorted_ok {w0 : World} {ros : List Fact} {rs : List Res} {w : World} {x1 : List (Int × Int × Int)} {h2 : Hdr} {out : (List (Int × Int × Int))} (hM : matrix_sorted x1 = some out) (q1 : imm rTi64i64u64 h2.v x1 ∈ ros) (hst : St w0 ros (rs) w) :
    Calls Tryz.prog 54 #[h2.v] w (fun e w => ∃ (h100001 : Hdr), e = .returned (h100001.v) ∧ St w0 (ros) (row 57 rTi64i64u64 h100001.v out :: rs) w) := by
  refine enterQ Tryz.func54 rfl Tryz.ntmps54 rfl fun Q hQ => ?_
  refine seqQ fun Q1 k1 z1 => ?_
  refine wp_region_lit ?_
  refine Y wn rfl (ya (v := hnil.v) rfl) ?_
  refine wpList_nil ?_
  refine k1 _ _ ?_
  refine seqQ fun Q2 k2 z2 => ?_
  refine wp_region_lit ?_
  refine Y wn rfl (ym (v := h2.v) (et rfl rfl)) ?_
  obtain ⟨r3, gr3, hM⟩ := bs hM
  refine Yc wn rfl (yCall FN_72 (a1 (et rfl rfl))) (slices_Clone_apiEntry_ok (hM := gr3) (hst := hst) (q1 := q1)) ?_
  clear hst
  rintro _ w ⟨h4, rfl, hst⟩
  refine ⟨_, rfl, ?_⟩
  refine Y wn rfl (ya (v := h4.v) (et rfl rfl)) ?_
  refine wpList_nil ?_
  refine k2 _ _ ?_
  refine seqQ fun Q3 k3 z3 => ?_
  refine wp_region_lit ?_
  refine Y wn rfl (ym (v := h4.v) (et rfl rfl)) ?_
  obtain ⟨r5, gr5, hM⟩ := bs hM
  refine Yc wn rfl (yCall FN_73 (a2 (et rfl rfl) rfl)) (slices_SortStableFunc_apiEntry_ok (hM := gr5) (hst := hst) ) ?_
  clear hst
  rintro _ w ⟨rfl, hst⟩
  refine ⟨_, rfl, ?_⟩
  refine wpList_nil ?_
  refine k3 _ _ ?_
  refine seqQ fun Q4 k4 z4 => ?_
  refine wp_region_lit ?_
  refine Y wn rfl (ym (v := h4.v) (et rfl rfl)) ?_
  refine Y wn rfl (ya (v := h4.v) (et rfl rfl)) ?_
  refine wpList_nil ?_
  refine k4 _ _ ?_
  refine wp_ret ?_
  obtain rfl := someI hM
  exact hQ _ _ _ (fin1r Tryz.results54 ⟨rfl, rfl⟩ ⟨_, rfl, hst⟩)

theorem matrix_build_ok {w0 : World} {ros : List Fact} {rs : List Res} {w : World} {x1 : Int} {x2 : Int} {x3 : List (Int × Int × Int)} {h4 : Hdr} {out : Int × Int × (List Int) × (List Int) × (List Int)} (hM : matrix_build x1 x2 x3 = some out) (q1 : imm rTi64i64u64 h4.v x3 ∈ ros) (hst : St w0 ros (rs) w) :
    Calls Tryz.prog 33 #[.int .i64 x1, .int .i64 x2, h4.v] w (fun e w => ∃ (h100003 : Hdr) (h100005 : Hdr) (h100007 : Hdr), e = .returned (.agg #[.int .i64 out.1, .int .i64 out.2.1, h100003.v, h100005.v, h100007.v]) ∧ St w0 (ros) (row 3 (rI .i64) h100003.v out.2.2.1 :: row 3 (rI .i64) h100005.v out.2.2.2.1 :: row 46 (rI .u64) h100007.v out.2.2.2.2 :: rs) w) := by
  refine enterQ Tryz.func33 rfl Tryz.ntmps33 rfl fun Q hQ => ?_
  refine seqQ fun Q1 k1 z1 => ?_
  refine wp_region_lit ?_
  refine YB wn rfl (rAl hst ZT_27) ?_
  clear hst
  intro b5 w hst
  refine wpList_nil ?_
  refine k1 _ _ ?_
  refine seqQ fun Q2 k2 z2 => ?_
  refine wp_region_lit ?_
  refine Y wn rfl (ym (v := .int .i64 x1) (et rfl rfl)) ?_
  refine Y wn rfl (ym (v := .int .i64 x2) (et rfl rfl)) ?_
  refine Y wn rfl (ym (v := .int .i64 x2) (et rfl rfl)) ?_
  refine Y wn rfl (yadd (et rfl rfl) rfl) ?_
  obtain ⟨x8, gx8, hM⟩ := bs hM
  refine YH wn rfl (rMk hst SL_22 (et rfl rfl) gx8) ?_
  clear hst
  intro h6 w hst
  refine Y wn rfl (ybuild (us := [.int .i64 x1, .int .i64 x2, h6.v, hnil.v, hnil.v]) [(0, .int .i64 x1), (1, .int .i64 x2), (2, h6.v)] SO_27 (bp3 (et rfl rfl) (et rfl rfl) (et rfl rfl)) rfl) ?_
  refine YB wn rfl (rAl hst ZT_27) ?_
  clear hst
  intro b9 w hst
  refine YT wn rfl (r_stbn (vals' := [.int .i64 x1, .int .i64 x2, h6.v, hnil.v, hnil.v]) (us := [.int .i64 x1, .int .i64 x2, h6.v, hnil.v, hnil.v]) hst ST_27 (et rfl rfl) (et rfl rfl) rfl rfl (one_of rfl) rfl) ?_
  clear hst
  intro w hst
  refine wpList_nil ?_
  refine k2 _ _ ?_
  refine seqQ fun Q3 k3 z3 => ?_
  refine seqQ fun Q4 k4 z4 => ?_
  refine wp_region_lit ?_
  refine Y wn rfl (ym (v := h4.v) (et rfl rfl)) ?_
  obtain ⟨r10, gr10, hM⟩ := bs hM
  refine Yc wn rfl (yCall FN_54 (a1 (et rfl rfl))) (matrix_sorted_ok (hM := gr10) (hst := hst) (q1 := q1)) ?_
  clear hst
  rintro _ w ⟨h11, rfl, hst⟩
  refine ⟨_, rfl, ?_⟩
  refine Y wn rfl (yLen SL_54 (et rfl rfl) hst (rdO mhR)) ?_
  refine Y wn rfl (ym (v := .int .i64 0) rfl) ?_
  refine wpList_nil ?_
  refine k4 _ _ ?_
  refine blockQ fun Q5 qb5 => ?_
  obtain ⟨o3, go3, hM⟩ := bs hM
  have je3_0 : ∀ (x52 : List Int) (x54 : List Int) (x56 : List Int) (h53 : Hdr) (h55 : Hdr) (f : Nat → Value) (w : World), f 1 = .int .i64 x2 → f 6 = .pointer (some ⟨b5, 0, none⟩) → f 7 = .pointer (some ⟨b9, 0, none⟩) → St w0 (ros) (box b5 27 [.int .i64 0, .int .i64 0, hnil.v, hnil.v, hnil.v] :: row 3 (rI .i64) h6.v x52 :: row 3 (rI .i64) h53.v x54 :: row 46 (rI .u64) h55.v x56 :: box b9 27 [.int .i64 x1, .int .i64 x2, h6.v, h53.v, h55.v] :: rs) w → (x52, x54, x56) = o3 → Q5 (.exit 0) (fr 67 f) w := by
    intro x52 x54 x56 h53 h55 f w eje3_0_1 eje3_0_6 eje3_0_7 hst ho
    subst ho
    refine qb5 _ _ _ ?_
    refine k3 _ _ ?_
    refine seqQ fun Q18 k18 z18 => ?_
    refine seqQ fun Q19 k19 z19 => ?_
    refine wp_region_lit ?_
    refine Y wn rfl (ym (v := .int .i64 x2) (et rfl eje3_0_1)) ?_
    refine Y wn rfl (ym (v := .int .i64 0) rfl) ?_
    refine wpList_nil ?_
    refine k19 _ _ ?_
    refine blockQ fun Q20 qb20 => ?_
    obtain ⟨o4, go4, hM⟩ := bs hM
    have je4_0 : ∀ (x69 : List Int) (f : Nat → Value) (w : World), f 6 = .pointer (some ⟨b5, 0, none⟩) → f 7 = .pointer (some ⟨b9, 0, none⟩) → St w0 (ros) (box b5 27 [.int .i64 0, .int .i64 0, hnil.v, hnil.v, hnil.v] :: row 3 (rI .i64) h6.v x69 :: row 3 (rI .i64) h53.v x54 :: row 46 (rI .u64) h55.v x56 :: box b9 27 [.int .i64 x1, .int .i64 x2, h6.v, h53.v, h55.v] :: rs) w → x69 = o4 → Q20 (.exit 2) (fr 67 f) w := by
      intro x69 f w eje4_0_6 eje4_0_7 hst ho
      subst ho
      refine qb20 _ _ _ ?_
      refine k18 _ _ ?_
      refine seqQ fun Q31 k31 z31 => ?_
      refine wp_region_lit ?_
      refine Y wn rfl (yLbs (us := [.int .i64 x1, .int .i64 x2, h6.v, h53.v, h55.v]) ST_27 (et rfl eje4_0_7) hst (mtR (mtR (mtR (mtR mhR)))) rfl rfl) ?_
      refine YT wn rfl (r_stbn (vals' := [.int .i64 x1, .int .i64 x2, h6.v, h53.v, h55.v]) (us := [.int .i64 x1, .int .i64 x2, h6.v, h53.v, h55.v]) hst ST_27 (et rfl eje4_0_6) (et rfl rfl) rfl rfl (one_of rfl) rfl) ?_
      clear hst
      intro w hst
      refine wpList_nil ?_
      refine k31 _ _ ?_
      refine wp_ret ?_
      obtain rfl := someI hM
      exact hQ _ _ _ (fin1r Tryz.results33 (rcs2 rfl eje4_0_6 hst mhR ST_27 rfl) ⟨_, _, _, rfl, (hst.pk 5 [1, 1, 1] rfl)⟩)
    refine loopQ (fun s a w => ∃ (x61 : List Int) (x62 : Int) (f : Nat → Value), (x61, x62) = s ∧ a = fr 67 f ∧ f 6 = .pointer (some ⟨b5, 0, none⟩) ∧ f 7 = .pointer (some ⟨b9, 0, none⟩) ∧ f 48 = .int .i64 x2 ∧ f 49 = .int .i64 x62 ∧ St w0 (ros) (box b5 27 [.int .i64 0, .int .i64 0, hnil.v, hnil.v, hnil.v] :: row 3 (rI .i64) h6.v x61 :: row 3 (rI .i64) h53.v x54 :: row 46 (rI .u64) h55.v x56 :: box b9 27 [.int .i64 x1, .int .i64 x2, h6.v, h53.v, h55.v] :: rs) w) go4 ⟨_, _, _, rfl, rfl, eje3_0_6, eje3_0_7, rfl, rfl, hst⟩ ?_
    clear hst
    rintro _ _ w r4_ ⟨x61, x62, f, rfl, rfl, e4_6, e4_7, e4_48, e4_49, hst⟩ hM4 ho4 Q100004 n4 zz4
    refine seqQ fun Q32 k32 z32 => ?_
    refine wp_region_lit ?_
    refine Y wn rfl (ylss (et rfl e4_49) (et rfl e4_48)) ?_
    refine wpList_nil ?_
    refine k32 _ _ ?_
    refine seqQ fun Q33 k33 z33 => ?_
    rcases iteS hM4 with ⟨c70, hM4⟩ | ⟨c70, hM4⟩
    · refine condT (et rfl rfl) (decide_eq_true c70) ?_
      refine wp_skip ?_
      refine k33 _ _ ?_
      refine seqQ fun Q34 k34 z34 => ?_
      refine blockQ fun Q35 qb35 => ?_
      refine seqQ fun Q36 k36 z36 => ?_
      refine wp_region_lit ?_
      refine Y wn rfl (ym (v := .int .i64 x62) (et rfl e4_49)) ?_
      refine Y wn rfl (ya (v := .int .i64 x62) (et rfl rfl)) ?_
      refine wpList_nil ?_
      refine k36 _ _ ?_
      obtain ⟨x71, gx71, hM4⟩ := bs hM4
      obtain ⟨x72, gx72, hM4⟩ := bs hM4
      obtain ⟨x73, gx73, hM4⟩ := bs hM4
      refine wp_drawR [0, 1, 0, 4, 15, 31, 0, 64, 0, 448, 960, 2047, 4095, 8191] [13] 1 folM (by kernel_rfl) (by kernel_rfl) (by kernel_rfl) ?_
      replace hst := hst.drew
      refine DRn (l1 := [0, 1, 2, 3, 4, 5, 6, 7, 8, 9, 10, 11, 12]) (l2 := []) (lc := [13]) (by kernel_rfl) (by kernel_rfl) (by kernel_rfl) ?_
      refine Ry rfl rfl wn (yFb FL_27_2 (et rfl e4_7)) ?_
      refine Ry rfl rfl wn (yLb (u := h6.v) O_22 (et rfl rfl) hst (mtR (mtR (mtR (mtR mhR)))) rfl) ?_
      refine Ry rfl rfl wn (ym (v := .int .i64 x62) (et rfl rfl)) ?_
      refine Ry rfl rfl wn (yadd (et rfl rfl) rfl) ?_
      refine Ry rfl rfl wn (yIa SL_22 (et rfl rfl) (et rfl rfl) hst (rdO (mtR mhR)) gx71) ?_
      refine Ry rfl rfl wn (yI O_3 (et rfl rfl) hst (rdO (mtR mhR)) gx71) ?_
      refine Ry rfl rfl wn (yFb FL_27_2 (et rfl e4_7)) ?_
      refine Ry rfl rfl wn (yLb (u := h6.v) O_22 (et rfl rfl) hst (mtR (mtR (mtR (mtR mhR)))) rfl) ?_
      refine Ry rfl rfl wn (ym (v := .int .i64 x62) (et rfl rfl)) ?_
      refine Ry rfl rfl wn (yIa SL_22 (et rfl rfl) (et rfl rfl) hst (rdO (mtR mhR)) gx72) ?_
      refine Ry rfl rfl wn (yI O_3 (et rfl rfl) hst (rdO (mtR mhR)) gx72) ?_
      refine Ry rfl rfl wn (yadd (et rfl rfl) (et rfl rfl)) ?_
      refine Ry rfl rfl wn (yIs SL_22 (et rfl rfl) (et rfl rfl) hst (rdO (mtR mhR)) gx73) ?_
      refine Rn QSn ?_
      refine Lc rfl ?_ LAn
      replace hst := hst.pk 2 [1, 0] rfl
      refine LT wn (r_sti (cs := [.int .i64 (wa .i64 x71 x72)]) hst O_3 rfl (et rfl rfl) (et rfl rfl) rfl mkI gx73) ?_
      clear hst
      intro w hst
      refine DRz (l1 := []) (l2 := []) (by kernel_rfl) (by kernel_rfl) ?_
      refine Rn QSn ?_
      refine qb35 _ _ _ ?_
      refine k34 _ _ ?_
      refine wp_region_lit ?_
      refine Y wn rfl (yadd (et rfl e4_49) rfl) ?_
      refine Y wn rfl (ym (v := .int .i64 (wa .i64 x62 1)) (et rfl rfl)) ?_
      refine wpList_nil ?_
      obtain rfl := someI hM4
      exact n4 _ _ _ rfl ⟨_, _, _, rfl, rfl, e4_6, e4_7, e4_48, rfl, (hst.pk 5 [1, 0, 0, 0, 0] rfl)⟩
    · refine condF (et rfl rfl) (decide_eq_false c70) ?_
      refine wp_exit ?_
      refine z33 _ _ _ rfl ?_
      obtain rfl := someI hM4
      refine zz4 _ _ _ _ rfl rfl ?_
      exact je4_0 _ _ _ e4_6 e4_7 hst (ho4 _ rfl)
  replace hst := hst.rowNh 3 (rI .i64)
  replace hst := hst.rowNh 46 (rI .u64)
  refine loopQ (fun s a w => ∃ (x26 : List Int) (x28 : List Int) (x30 : List Int) (x31 : Int) (f : Nat → Value) (h27 : Hdr) (h29 : Hdr), (x26, x28, x30, x31) = s ∧ a = fr 67 f ∧ f 1 = .int .i64 x2 ∧ f 6 = .pointer (some ⟨b5, 0, none⟩) ∧ f 7 = .pointer (some ⟨b9, 0, none⟩) ∧ f 18 = h11.v ∧ f 19 = .int .i64 (r10.length : Int) ∧ f 20 = .int .i64 x31 ∧ St w0 (ros) (box b5 27 [.int .i64 0, .int .i64 0, hnil.v, hnil.v, hnil.v] :: row 3 (rI .i64) h6.v x26 :: row 3 (rI .i64) h27.v x28 :: row 46 (rI .u64) h29.v x30 :: box b9 27 [.int .i64 x1, .int .i64 x2, h6.v, h27.v, h29.v] :: row 57 rTi64i64u64 h11.v r10 :: rs) w) go3 ⟨_, _, _, _, _, _, _, rfl, rfl, rfl, rfl, rfl, rfl, rfl, rfl, (hst.pk 6 [5, 4, 1, 0, 1, 0] rfl)⟩ ?_
  clear hst
  rintro _ _ w r3_ ⟨x26, x28, x30, x31, f, h27, h29, rfl, rfl, e3_1, e3_6, e3_7, e3_18, e3_19, e3_20, hst⟩ hM3 ho3 Q100003 n3 zz3
  refine seqQ fun Q37 k37 z37 => ?_
  refine wp_region_lit ?_
  refine Y wn rfl (ylss (et rfl e3_20) (et rfl e3_19)) ?_
  refine wpList_nil ?_
  refine k37 _ _ ?_
  refine seqQ fun Q38 k38 z38 => ?_
  rcases iteS hM3 with ⟨c74, hM3⟩ | ⟨c74, hM3⟩
  · refine condT (et rfl rfl) (decide_eq_true c74) ?_
    refine wp_skip ?_
    refine k38 _ _ ?_
    refine seqQ fun Q39 k39 z39 => ?_
    refine blockQ fun Q40 qb40 => ?_
    refine seqQ fun Q41 k41 z41 => ?_
    refine wp_region_lit ?_
    obtain ⟨x75, gx75, hM3⟩ := bs hM3
    refine Y wn rfl (yIa SL_54 (et rfl e3_18) (et rfl e3_20) hst (rdO (mtR (mtR (mtR (mtR (mtR mhR)))))) gx75) ?_
    refine Y wn rfl (yFn ST_57 (et rfl rfl) hst (rdO (mtR (mtR (mtR (mtR (mtR mhR)))))) gx75 rfl) ?_
    refine YB wn rfl (rAl hst ZT_57) ?_
    clear hst
    intro b76 w hst
    refine YT wn rfl (r_stbn (vals' := [.int .i64 x75.1, .int .i64 x75.2.1, .int .u64 x75.2.2]) (us := [.int .i64 x75.1, .int .i64 x75.2.1, .int .u64 x75.2.2]) hst ST_57 (et rfl rfl) (et rfl rfl) rfl rfl (one_of rfl) rfl) ?_
    clear hst
    intro w hst
    refine wpList_nil ?_
    refine k41 _ _ ?_
    refine seqQ fun Q42 k42 z42 => ?_
    obtain ⟨x79, gx79, hM3⟩ := bs hM3
    obtain ⟨x82, gx82, hM3⟩ := bs hM3
    refine joinN (n := 67) (fun f w => ∃ (h83 : Hdr) (h84 : Hdr), f 1 = .int .i64 x2 ∧ f 6 = .pointer (some ⟨b5, 0, none⟩) ∧ f 7 = .pointer (some ⟨b9, 0, none⟩) ∧ f 9 = .pointer (some ⟨b76, 0, none⟩) ∧ f 18 = h11.v ∧ f 19 = .int .i64 (r10.length : Int) ∧ f 20 = .int .i64 x31 ∧ St w0 (ros) (box b5 27 [.int .i64 0, .int .i64 0, hnil.v, hnil.v, hnil.v] :: row 3 (rI .i64) h6.v x26 :: row 3 (rI .i64) h83.v x79 :: row 46 (rI .u64) h84.v x82 :: box b9 27 [.int .i64 x1, .int .i64 x2, h6.v, h83.v, h84.v] :: box b76 57 [.int .i64 x75.1, .int .i64 x75.2.1, .int .u64 x75.2.2] :: row 57 rTi64i64u64 h11.v r10 :: rs) w) (fun j5 => ?_) ?_
    · refine wp_drawR [0, 1, 0, 4, 12, 31, 0, 64, 0, 256, 768, 2047, 255, 8191, 16383, 32767] [4, 5, 10, 11, 13, 15] 6 folM (by kernel_rfl) (by kernel_rfl) (by kernel_rfl) ?_
      replace hst := hst.drew
      refine DRn (l1 := [0, 1, 2, 3, 6, 7, 8, 9]) (l2 := []) (lc := [4, 10]) (by kernel_rfl) (by kernel_rfl) (by kernel_rfl) ?_
      refine Ry rfl rfl wn (yFb FL_27_3 (et rfl e3_7)) ?_
      refine Ry rfl rfl wn (yLb (u := h27.v) O_22 (et rfl rfl) hst (mtR (mtR (mtR (mtR (mtR mhR))))) rfl) ?_
      refine Ry rfl rfl wn (yFb FL_57_0 (et rfl rfl)) ?_
      refine Ry rfl rfl wn (yLb (u := .int .i64 x75.1) O_3 (et rfl rfl) hst mhR rfl) ?_
      refine Ry rfl rfl wn (yFb FL_27_4 (et rfl e3_7)) ?_
      refine Ry rfl rfl wn (yLb (u := h29.v) O_25 (et rfl rfl) hst (mtR (mtR (mtR (mtR (mtR mhR))))) rfl) ?_
      refine Ry rfl rfl wn (yFb FL_57_2 (et rfl rfl)) ?_
      refine Ry rfl rfl wn (yLb (u := .int .u64 x75.2.2) O_46 (et rfl rfl) hst mhR rfl) ?_
      refine Rn QSn ?_
      refine Lc rfl ?_ (Lc rfl ?_ LAn)
      · refine LH wn (rLt (n := 1) (l := [x75.1]) hst SL_22 [.int .i64 x75.1] (bp1 (et rfl rfl)) rfl rfl (mks1 (cs := [.int .i64 x75.1]) rfl mkI mks0)) ?_
        clear hst
        intro h77 w hst
        refine DRn (l1 := []) (l2 := [0, 1, 6, 7, 8, 9]) (lc := [5, 10]) (by kernel_rfl) (by kernel_rfl) (by kernel_rfl) ?_
        refine Rn (Sy rfl rfl wn (yFb FL_27_3 (et rfl e3_7)) rfl (Sy rfl rfl wn (yLb (u := h27.v) O_22 (et rfl rfl) hst (mtR (mtR (mtR (mtR (mtR (mtR mhR)))))) rfl) rfl (Sy rfl rfl wn (yFb FL_27_4 (et rfl e3_7)) rfl (Sy rfl rfl wn (yLb (u := h29.v) O_25 (et rfl rfl) hst (mtR (mtR (mtR (mtR (mtR (mtR mhR)))))) rfl) rfl (Sy rfl rfl wn (yFb FL_57_2 (et rfl rfl)) rfl (Sy rfl rfl wn (yLb (u := .int .u64 x75.2.2) O_46 (et rfl rfl) hst (mtR mhR) rfl) rfl QSn)))))) ?_
        refine Lc rfl ?_ (Lc rfl ?_ LAn)
        · replace hst := hst.pk 5 [4, 0, 0, 0, 0] rfl
          refine LH wn (rAp hst SL_22 (et rfl rfl) (et rfl rfl) (rdO (mtR mhR)) gx79) ?_
          clear hst
          intro h78 w hst
          refine DRn (l1 := [12]) (l2 := [6, 7, 8, 9]) (lc := [10]) (by kernel_rfl) (by kernel_rfl) (by kernel_rfl) ?_
          refine Ry rfl rfl wn (yFb FL_27_3 (et rfl e3_7)) ?_
          refine Rn (Sy rfl rfl wn (yFb FL_27_4 (et rfl e3_7)) rfl (Sy rfl rfl wn (yLb (u := h29.v) O_25 (et rfl rfl) hst (mtR (mtR (mtR (mtR (mtR (mtR mhR)))))) rfl) rfl (Sy rfl rfl wn (yFb FL_57_2 (et rfl rfl)) rfl (Sy rfl rfl wn (yLb (u := .int .u64 x75.2.2) O_46 (et rfl rfl) hst (mtR (mtR mhR)) rfl) rfl QSn)))) ?_
          refine Lc rfl ?_ LAn
          refine LH wn (rLt (n := 1) (l := [x75.2.2]) hst SL_25 [.int .u64 x75.2.2] (bp1 (et rfl rfl)) rfl rfl (mks1 (cs := [.int .u64 x75.2.2]) rfl mkI mks0)) ?_
          clear hst
          intro h80 w hst
          refine DRn (l1 := []) (l2 := [6, 7, 12]) (lc := [11]) (by kernel_rfl) (by kernel_rfl) (by kernel_rfl) ?_
          refine Rn (Sy rfl rfl wn (yFb FL_27_4 (et rfl e3_7)) rfl (Sy rfl rfl wn (yLb (u := h29.v) O_25 (et rfl rfl) hst (mtR (mtR (mtR (mtR (mtR (mtR (mtR mhR))))))) rfl) rfl (Sy rfl rfl wn (yFb FL_27_3 (et rfl e3_7)) rfl QSn))) ?_
          refine Lc rfl ?_ LAn
          replace hst := hst.pk 7 [6, 0, 0, 0, 0, 0, 0] rfl
          refine LH wn (rAp hst SL_25 (et rfl rfl) (et rfl rfl) (rdO (mtR mhR)) gx82) ?_
          clear hst
          intro h81 w hst
          refine DRn (l1 := []) (l2 := [12]) (lc := [13]) (by kernel_rfl) (by kernel_rfl) (by kernel_rfl) ?_
          refine Rn (Sy rfl rfl wn (yFb FL_27_3 (et rfl e3_7)) rfl QSn) ?_
          refine Lc rfl ?_ LAn
          replace hst := hst.pk 8 [7, 0, 0, 0, 0, 0, 0, 0] rfl
          refine LT wn (r_stb1 (vals' := [.int .i64 x1, .int .i64 x2, h6.v, h78.v, h29.v]) hst O_22 (et rfl rfl) (et rfl rfl) rfl rfl rfl rfl) ?_
          clear hst
          intro w hst
          refine DRn (l1 := [14]) (l2 := []) (lc := [15]) (by kernel_rfl) (by kernel_rfl) (by kernel_rfl) ?_
          refine Ry rfl rfl wn (yFb FL_27_4 (et rfl e3_7)) ?_
          refine Rn QSn ?_
          refine Lc rfl ?_ LAn
          refine LT wn (r_stb1 (vals' := [.int .i64 x1, .int .i64 x2, h6.v, h78.v, h81.v]) hst O_25 (et rfl rfl) (et rfl rfl) rfl rfl rfl rfl) ?_
          clear hst
          intro w hst
          refine DRz (l1 := []) (l2 := []) (by kernel_rfl) (by kernel_rfl) ?_
          refine Rn QSn ?_
          exact j5 _ _ ⟨_, _, e3_1, e3_6, e3_7, rfl, e3_18, e3_19, e3_20, (hst.pk 9 [6, 6, 3, 1, 0, 2, 2] rfl)⟩
        · refine LH wn (rLt (n := 1) (l := [x75.2.2]) hst SL_25 [.int .u64 x75.2.2] (bp1 (et rfl rfl)) rfl rfl (mks1 (cs := [.int .u64 x75.2.2]) rfl mkI mks0)) ?_
          clear hst
          intro h80 w hst
          refine DRn (l1 := []) (l2 := [0, 1, 6, 7]) (lc := [5]) (by kernel_rfl) (by kernel_rfl) (by kernel_rfl) ?_
          refine Rn (Sy rfl rfl wn (yFb FL_27_3 (et rfl e3_7)) rfl (Sy rfl rfl wn (yLb (u := h27.v) O_22 (et rfl rfl) hst (mtR (mtR (mtR (mtR (mtR (mtR (mtR mhR))))))) rfl) rfl (Sy rfl rfl wn (yFb FL_27_4 (et rfl e3_7)) rfl (Sy rfl rfl wn (yLb (u := h29.v) O_25 (et rfl rfl) hst (mtR (mtR (mtR (mtR (mtR (mtR (mtR mhR))))))) rfl) rfl QSn)))) ?_
          refine Lc rfl ?_ LAn
          replace hst := hst.pk 6 [5, 0, 0, 0, 0, 0] rfl
          refine LH wn (rAp hst SL_22 (et rfl rfl) (et rfl rfl) (rdO (mtR (mtR mhR))) gx79) ?_
          clear hst
          intro h78 w hst
          refine DRn (l1 := [12]) (l2 := [6, 7]) (lc := [11]) (by kernel_rfl) (by kernel_rfl) (by kernel_rfl) ?_
          refine Ry rfl rfl wn (yFb FL_27_3 (et rfl e3_7)) ?_
          refine Rn (Sy rfl rfl wn (yFb FL_27_4 (et rfl e3_7)) rfl (Sy rfl rfl wn (yLb (u := h29.v) O_25 (et rfl rfl) hst (mtR (mtR (mtR (mtR (mtR (mtR (mtR mhR))))))) rfl) rfl QSn)) ?_
          refine Lc rfl ?_ LAn
          replace hst := hst.pk 7 [6, 0, 0, 0, 0, 0, 0] rfl
          refine LH wn (rAp hst SL_25 (et rfl rfl) (et rfl rfl) (rdO (mtR (mtR mhR))) gx82) ?_
          clear hst
          intro h81 w hst
          refine DRn (l1 := []) (l2 := [12]) (lc := [13]) (by kernel_rfl) (by kernel_rfl) (by kernel_rfl) ?_
          refine Rn (Sy rfl rfl wn (yFb FL_27_3 (et rfl e3_7)) rfl QSn) ?_
          refine Lc rfl ?_ LAn
          replace hst := hst.pk 8 [7, 0, 0, 0, 0, 0, 0, 0] rfl
          refine LT wn (r_stb1 (vals' := [.int .i64 x1, .int .i64 x2, h6.v, h78.v, h29.v]) hst O_22 (et rfl rfl) (et rfl rfl) rfl rfl rfl rfl) ?_
          clear hst
          intro w hst
          refine DRn (l1 := [14]) (l2 := []) (lc := [15]) (by kernel_rfl) (by kernel_rfl) (by kernel_rfl) ?_
          refine Ry rfl rfl wn (yFb FL_27_4 (et rfl e3_7)) ?_
          refine Rn QSn ?_
          refine Lc rfl ?_ LAn
          refine LT wn (r_stb1 (vals' := [.int .i64 x1, .int .i64 x2, h6.v, h78.v, h81.v]) hst O_25 (et rfl rfl) (et rfl rfl) rfl rfl rfl rfl) ?_
          clear hst
          intro w hst
          refine DRz (l1 := []) (l2 := []) (by kernel_rfl) (by kernel_rfl) ?_
          refine Rn QSn ?_
          exact j5 _ _ ⟨_, _, e3_1, e3_6, e3_7, rfl, e3_18, e3_19, e3_20, (hst.pk 9 [6, 6, 2, 1, 0, 2, 2] rfl)⟩
      · refine LH wn (rLt (n := 1) (l := [x75.2.2]) hst SL_25 [.int .u64 x75.2.2] (bp1 (et rfl rfl)) rfl rfl (mks1 (cs := [.int .u64 x75.2.2]) rfl mkI mks0)) ?_
        clear hst
        intro h80 w hst
        refine DRn (l1 := []) (l2 := [0, 1, 2, 3, 6, 7]) (lc := [4]) (by kernel_rfl) (by kernel_rfl) (by kernel_rfl) ?_
        refine Rn (Sy rfl rfl wn (yFb FL_27_3 (et rfl e3_7)) rfl (Sy rfl rfl wn (yLb (u := h27.v) O_22 (et rfl rfl) hst (mtR (mtR (mtR (mtR (mtR (mtR mhR)))))) rfl) rfl (Sy rfl rfl wn (yFb FL_57_0 (et rfl rfl)) rfl (Sy rfl rfl wn (yLb (u := .int .i64 x75.1) O_3 (et rfl rfl) hst (mtR mhR) rfl) rfl (Sy rfl rfl wn (yFb FL_27_4 (et rfl e3_7)) rfl (Sy rfl rfl wn (yLb (u := h29.v) O_25 (et rfl rfl) hst (mtR (mtR (mtR (mtR (mtR (mtR mhR)))))) rfl) rfl QSn)))))) ?_
        refine Lc rfl ?_ LAn
        refine LH wn (rLt (n := 1) (l := [x75.1]) hst SL_22 [.int .i64 x75.1] (bp1 (et rfl rfl)) rfl rfl (mks1 (cs := [.int .i64 x75.1]) rfl mkI mks0)) ?_
        clear hst
        intro h77 w hst
        refine DRn (l1 := []) (l2 := [0, 1, 6, 7]) (lc := [5]) (by kernel_rfl) (by kernel_rfl) (by kernel_rfl) ?_
        refine Rn (Sy rfl rfl wn (yFb FL_27_3 (et rfl e3_7)) rfl (Sy rfl rfl wn (yLb (u := h27.v) O_22 (et rfl rfl) hst (mtR (mtR (mtR (mtR (mtR (mtR (mtR mhR))))))) rfl) rfl (Sy rfl rfl wn (yFb FL_27_4 (et rfl e3_7)) rfl (Sy rfl rfl wn (yLb (u := h29.v) O_25 (et rfl rfl) hst (mtR (mtR (mtR (mtR (mtR (mtR (mtR mhR))))))) rfl) rfl QSn)))) ?_
        refine Lc rfl ?_ LAn
        replace hst := hst.pk 6 [5, 0, 0, 0, 0, 0] rfl
        refine LH wn (rAp hst SL_22 (et rfl rfl) (et rfl rfl) (rdO (mtR mhR)) gx79) ?_
        clear hst
        intro h78 w hst
        refine DRn (l1 := [12]) (l2 := [6, 7]) (lc := [11]) (by kernel_rfl) (by kernel_rfl) (by kernel_rfl) ?_
        refine Ry rfl rfl wn (yFb FL_27_3 (et rfl e3_7)) ?_
        refine Rn (Sy rfl rfl wn (yFb FL_27_4 (et rfl e3_7)) rfl (Sy rfl rfl wn (yLb (u := h29.v) O_25 (et rfl rfl) hst (mtR (mtR (mtR (mtR (mtR (mtR (mtR mhR))))))) rfl) rfl QSn)) ?_
        refine Lc rfl ?_ LAn
        replace hst := hst.pk 7 [6, 0, 0, 0, 0, 0, 0] rfl
        refine LH wn (rAp hst SL_25 (et rfl rfl) (et rfl rfl) (rdO (mtR (mtR (mtR mhR)))) gx82) ?_
        clear hst
        intro h81 w hst
        refine DRn (l1 := []) (l2 := [12]) (lc := [13]) (by kernel_rfl) (by kernel_rfl) (by kernel_rfl) ?_
        refine Rn (Sy rfl rfl wn (yFb FL_27_3 (et rfl e3_7)) rfl QSn) ?_
        refine Lc rfl ?_ LAn
        replace hst := hst.pk 8 [7, 0, 0, 0, 0, 0, 0, 0] rfl
        refine LT wn (r_stb1 (vals' := [.int .i64 x1, .int .i64 x2, h6.v, h78.v, h29.v]) hst O_22 (et rfl rfl) (et rfl rfl) rfl rfl rfl rfl) ?_
        clear hst
        intro w hst
        refine DRn (l1 := [14]) (l2 := []) (lc := [15]) (by kernel_rfl) (by kernel_rfl) (by kernel_rfl) ?_
        refine Ry rfl rfl wn (yFb FL_27_4 (et rfl e3_7)) ?_
        refine Rn QSn ?_
        refine Lc rfl ?_ LAn
        refine LT wn (r_stb1 (vals' := [.int .i64 x1, .int .i64 x2, h6.v, h78.v, h81.v]) hst O_25 (et rfl rfl) (et rfl rfl) rfl rfl rfl rfl) ?_
        clear hst
        intro w hst
        refine DRz (l1 := []) (l2 := []) (by kernel_rfl) (by kernel_rfl) ?_
        refine Rn QSn ?_
        exact j5 _ _ ⟨_, _, e3_1, e3_6, e3_7, rfl, e3_18, e3_19, e3_20, (hst.pk 9 [6, 6, 2, 1, 0, 2, 2] rfl)⟩
    clear hst
    rintro f w ⟨h83, h84, e85_1, e85_6, e85_7, e85_9, e85_18, e85_19, e85_20, hst⟩
    refine k42 _ _ ?_
    refine wp_region_lit ?_
    refine Y wn rfl (yFb FL_27_2 (et rfl e85_7)) ?_
    refine Y wn rfl (yLb (u := h6.v) O_22 (et rfl rfl) hst (mtR (mtR (mtR (mtR mhR)))) rfl) ?_
    refine Y wn rfl (yFb FL_57_1 (et rfl e85_9)) ?_
    refine Y wn rfl (yLb (u := .int .i64 x75.2.1) O_3 (et rfl rfl) hst (mtR (mtR (mtR (mtR (mtR mhR))))) rfl) ?_
    refine Y wn rfl (yadd (et rfl rfl) rfl) ?_
    obtain ⟨x86, gx86, hM3⟩ := bs hM3
    refine Y wn rfl (yIa SL_22 (et rfl rfl) (et rfl rfl) hst (rdO (mtR mhR)) gx86) ?_
    refine Y wn rfl (yI O_3 (et rfl rfl) hst (rdO (mtR mhR)) gx86) ?_
    refine Y wn rfl (yadd (et rfl rfl) rfl) ?_
    obtain ⟨x87, gx87, hM3⟩ := bs hM3
    refine Y wn rfl (yIs SL_22 (et rfl rfl) (et rfl rfl) hst (rdO (mtR mhR)) gx87) ?_
    replace hst := hst.pk 2 [1, 0] rfl
    refine YT wn rfl (r_sti (cs := [.int .i64 (wa .i64 x86 1)]) hst O_3 rfl (et rfl rfl) (et rfl rfl) rfl mkI gx87) ?_
    clear hst
    intro w hst
    refine wpList_nil ?_
    refine qb40 _ _ _ ?_
    refine k39 _ _ ?_
    refine wp_region_lit ?_
    refine Y wn rfl (yadd (et rfl e85_20) rfl) ?_
    refine Y wn rfl (ym (v := .int .i64 (wa .i64 x31 1)) (et rfl rfl)) ?_
    refine wpList_nil ?_
    obtain rfl := someI hM3
    exact n3 _ _ _ rfl ⟨_, _, _, _, _, _, _, rfl, rfl, e85_1, e85_6, e85_7, e85_18, e85_19, rfl, (hst.pk 7 [1, 0, 0, 0, 0, 1] rfl)⟩
  · refine condF (et rfl rfl) (decide_eq_false c74) ?_
    refine wp_exit ?_
    refine z38 _ _ _ rfl ?_
    obtain rfl := someI hM3
    refine zz3 _ _ _ _ rfl rfl ?_
    exact je3_0 _ _ _ _ _ _ _ e3_1 e3_6 e3_7 (hst.pk 6 [0, 0, 0, 0, 0] rfl) (ho3 _ rfl)

theorem matrix_selected_ok {w0 : World} {ros : List Fact} {rs : List Res} {w : World} {x1 : Int} {x2 : Int} {x3 : List Int} {x5 : List Int} {x7 : List Int} {x9 : List Int} {x11 : List Int} {x13 : List Int} {x15 : List Int} {h4 : Hdr} {h6 : Hdr} {h8 : Hdr} {h10 : Hdr} {h12 : Hdr} {h14 : Hdr} {h16 : Hdr} {out : Int × Int × (List Int) × (List Int) × (List Int)} (hM : matrix_selected x1 x2 x3 x5 x7 x9 x11 x13 x15 = some out) (q1 : imm (rI .i64) h4.v x3 ∈ ros) (q2 : imm (rI .i64) h6.v x5 ∈ ros) (q3 : imm (rI .u64) h8.v x7 ∈ ros) (q4 : imm (rI .i64) h10.v x9 ∈ ros) (q5 : imm (rI .i64) h12.v x11 ∈ ros) (q6 : imm (rI .i64) h14.v x13 ∈ ros) (q7 : imm (rI .i64) h16.v x15 ∈ ros) (hst : St w0 ros (rs) w) :
    Calls Tryz.prog 31 #[.agg #[.int .i64 x1, .int .i64 x2, h4.v, h6.v, h8.v], h10.v, h12.v, h14.v, h16.v] w (fun e w => ∃ (h100003 : Hdr) (h100005 : Hdr) (h100007 : Hdr), e = .returned (.agg #[.int .i64 out.1, .int .i64 out.2.1, h100003.v, h100005.v, h100007.v]) ∧ St w0 (ros) (row 3 (rI .i64) h100003.v out.2.2.1 :: row 3 (rI .i64) h100005.v out.2.2.2.1 :: row 46 (rI .u64) h100007.v out.2.2.2.2 :: rs) w) := by
  refine enterQ Tryz.func31 rfl Tryz.ntmps31 rfl fun Q hQ => ?_
  refine seqQ fun Q1 k1 z1 => ?_
  refine wp_region_lit ?_
  refine YB wn rfl (r_box (vals := [.int .i64 x1, .int .i64 x2, h4.v, h6.v, h8.v]) hst (et rfl rfl) rfl) ?_
  clear hst
  intro b17 w hst
  refine YB wn rfl (rAl hst ZT_27) ?_
  clear hst
  intro b18 w hst
  refine wpList_nil ?_
  refine k1 _ _ ?_
  refine seqQ fun Q2 k2 z2 => ?_
  refine wp_region_lit ?_
  refine Y wn rfl (ya (v := hnil.v) rfl) ?_
  refine wpList_nil ?_
  refine k2 _ _ ?_
  refine seqQ fun Q3 k3 z3 => ?_
  refine seqQ fun Q4 k4 z4 => ?_
  refine wp_region_lit ?_
  refine Y wn rfl (yLbs (us := [.int .i64 x1, .int .i64 x2, h4.v, h6.v, h8.v]) ST_27 (et rfl rfl) hst (mtR mhR) rfl rfl) ?_
  obtain ⟨r19, gr19, hM⟩ := bs hM
  refine Yc wn rfl (yCall FN_32 (a1 (et rfl rfl))) (matrix_entries_ok (hM := gr19) (hst := hst) (q1 := q1) (q2 := q2) (q3 := q3)) ?_
  clear hst
  rintro _ w ⟨h20, rfl, hst⟩
  refine ⟨_, rfl, ?_⟩
  refine Y wn rfl (yLen SL_54 (et rfl rfl) hst (rdO mhR)) ?_
  refine Y wn rfl (ym (v := .int .i64 0) rfl) ?_
  refine wpList_nil ?_
  refine k4 _ _ ?_
  refine blockQ fun Q5 qb5 => ?_
  obtain ⟨o5, go5, hM⟩ := bs hM
  have je5_0 : ∀ (x72 : List (Int × Int × Int)) (h71 : Hdr) (f : Nat → Value) (w : World), f 1 = h10.v → f 2 = h12.v → f 10 = .pointer (some ⟨b18, 0, none⟩) → f 11 = h71.v → St w0 (ros) (box b18 27 [.int .i64 0, .int .i64 0, hnil.v, hnil.v, hnil.v] :: row 57 rTi64i64u64 h71.v x72 :: rs) w → x72 = o5 → Q5 (.exit 0) (fr 58 f) w := by
    intro x72 h71 f w eje5_0_1 eje5_0_2 eje5_0_10 eje5_0_11 hst ho
    subst ho
    refine qb5 _ _ _ ?_
    refine k3 _ _ ?_
    refine seqQ fun Q18 k18 z18 => ?_
    refine wp_region_lit ?_
    refine Y wn rfl (ym (v := h10.v) (et rfl eje5_0_1)) ?_
    refine Y wn rfl (yLen SL_22 (et rfl rfl) hst (rdI q4)) ?_
    refine Y wn rfl (ym (v := h12.v) (et rfl eje5_0_2)) ?_
    refine Y wn rfl (yLen SL_22 (et rfl rfl) hst (rdI q5)) ?_
    refine Y wn rfl (ym (v := h71.v) (et rfl eje5_0_11)) ?_
    obtain ⟨r73, gr73, hM⟩ := bs hM
    replace hst := hst.pk 2 [1, 0] rfl
    replace hst := hst.fz
    refine Yc wn rfl (yCall FN_33 (a3 (et rfl rfl) (et rfl rfl) (et rfl rfl))) (matrix_build_ok (hM := gr73) (hst := hst) (q1 := mhF)) ?_
    clear hst
    rintro _ w ⟨h74, h75, h76, rfl, hst⟩
    refine ⟨_, rfl, ?_⟩
    replace hst := hst.pk 4 [3, 0, 0, 0] rfl
    refine YT wn rfl (r_stbn (vals' := [.int .i64 r73.1, .int .i64 r73.2.1, h74.v, h75.v, h76.v]) (us := [.int .i64 r73.1, .int .i64 r73.2.1, h74.v, h75.v, h76.v]) hst ST_27 (et rfl eje5_0_10) (et rfl rfl) rfl rfl (one_of rfl) rfl) ?_
    clear hst
    intro w hst
    refine wpList_nil ?_
    refine k18 _ _ ?_
    refine wp_ret ?_
    obtain rfl := someI hM
    exact hQ _ _ _ (fin1r Tryz.results31 (rcs2 rfl eje5_0_10 hst mhR ST_27 rfl) ⟨_, _, _, rfl, ((hst.pk 4 [1, 1, 1] rfl).facts (allT allI))⟩)
  replace hst := hst.rowNh 57 rTi64i64u64
  refine loopQ (fun s a w => ∃ (x44 : List (Int × Int × Int)) (x45 : Int) (f : Nat → Value) (h43 : Hdr), (x44, x45) = s ∧ a = fr 58 f ∧ f 1 = h10.v ∧ f 2 = h12.v ∧ f 3 = h14.v ∧ f 4 = h16.v ∧ f 10 = .pointer (some ⟨b18, 0, none⟩) ∧ f 11 = h43.v ∧ f 15 = h20.v ∧ f 16 = .int .i64 (r19.length : Int) ∧ f 17 = .int .i64 x45 ∧ St w0 (ros) (box b18 27 [.int .i64 0, .int .i64 0, hnil.v, hnil.v, hnil.v] :: row 57 rTi64i64u64 h43.v x44 :: row 57 rTi64i64u64 h20.v r19 :: rs) w) go5 ⟨_, _, _, _, rfl, rfl, rfl, rfl, rfl, rfl, rfl, rfl, rfl, rfl, rfl, (hst.pk 4 [2, 0, 0] rfl)⟩ ?_
  clear hst
  rintro _ _ w r5_ ⟨x44, x45, f, h43, rfl, rfl, e5_1, e5_2, e5_3, e5_4, e5_10, e5_11, e5_15, e5_16, e5_17, hst⟩ hM5 ho5 Q100005 n5 zz5
  refine seqQ fun Q19 k19 z19 => ?_
  refine wp_region_lit ?_
  refine Y wn rfl (ylss (et rfl e5_17) (et rfl e5_16)) ?_
  refine wpList_nil ?_
  refine k19 _ _ ?_
  refine seqQ fun Q20 k20 z20 => ?_
  rcases iteS hM5 with ⟨c77, hM5⟩ | ⟨c77, hM5⟩
  · refine condT (et rfl rfl) (decide_eq_true c77) ?_
    refine wp_skip ?_
    refine k20 _ _ ?_
    refine seqQ fun Q21 k21 z21 => ?_
    refine blockQ fun Q22 qb22 => ?_
    refine seqQ fun Q23 k23 z23 => ?_
    refine wp_region_lit ?_
    obtain ⟨x78, gx78, hM5⟩ := bs hM5
    refine Y wn rfl (yIa SL_54 (et rfl e5_15) (et rfl e5_17) hst (rdO (mtR (mtR mhR))) gx78) ?_
    refine Y wn rfl (yFn ST_57 (et rfl rfl) hst (rdO (mtR (mtR mhR))) gx78 rfl) ?_
    refine YB wn rfl (rAl hst ZT_57) ?_
    clear hst
    intro b79 w hst
    refine YT wn rfl (r_stbn (vals' := [.int .i64 x78.1, .int .i64 x78.2.1, .int .u64 x78.2.2]) (us := [.int .i64 x78.1, .int .i64 x78.2.1, .int .u64 x78.2.2]) hst ST_57 (et rfl rfl) (et rfl rfl) rfl rfl (one_of rfl) rfl) ?_
    clear hst
    intro w hst
    refine wpList_nil ?_
    refine k23 _ _ ?_
    refine seqQ fun Q24 k24 z24 => ?_
    refine wp_region_lit ?_
    refine Y wn rfl (ym (v := h14.v) (et rfl e5_3)) ?_
    refine Y wn rfl (yFb FL_57_0 (et rfl rfl)) ?_
    refine Y wn rfl (yLb (u := .int .i64 x78.1) O_3 (et rfl rfl) hst mhR rfl) ?_
    obtain ⟨x80, gx80, hM5⟩ := bs hM5
    refine Y wn rfl (yIa SL_22 (et rfl rfl) (et rfl rfl) hst (rdI q6) gx80) ?_
    refine Y wn rfl (yI O_3 (et rfl rfl) hst (rdI q6) gx80) ?_
    refine Y wn rfl (ygeq (et rfl rfl) rfl) ?_
    refine Y wn rfl (ym (v := .bool (decide ((0 : Int) ≤ x80))) (et rfl rfl)) ?_
    obtain ⟨r82, gr82, hM5⟩ := bs hM5
    refine joinW 7 (fun f w => f 1 = h10.v ∧ f 2 = h12.v ∧ f 3 = h14.v ∧ f 4 = h16.v ∧ f 10 = .pointer (some ⟨b18, 0, none⟩) ∧ f 11 = h43.v ∧ f 13 = .pointer (some ⟨b79, 0, none⟩) ∧ f 15 = h20.v ∧ f 16 = .int .i64 (r19.length : Int) ∧ f 17 = .int .i64 x45 ∧ f 34 = .bool r82 ∧ St w0 (ros) (box b18 27 [.int .i64 0, .int .i64 0, hnil.v, hnil.v, hnil.v] :: row 57 rTi64i64u64 h43.v x44 :: box b79 57 [.int .i64 x78.1, .int .i64 x78.2.1, .int .u64 x78.2.2] :: row 57 rTi64i64u64 h20.v r19 :: rs) w) (fun j6 => ?_) ?_
    · rcases iteS gr82 with ⟨c84, gr82⟩ | ⟨c84, gr82⟩
      · refine Y (wg rfl rfl rfl (decide_eq_true c84)) rfl (ym (v := h16.v) (et rfl e5_4)) ?_
        refine Y (wg rfl rfl rfl (decide_eq_true c84)) rfl (yFb FL_57_1 (et rfl rfl)) ?_
        refine Y (wg rfl rfl rfl (decide_eq_true c84)) rfl (yLb (u := .int .i64 x78.2.1) O_3 (et rfl rfl) hst mhR rfl) ?_
        obtain ⟨x85, gx85, gr82⟩ := bs gr82
        refine Y (wg rfl rfl rfl (decide_eq_true c84)) rfl (yIa SL_22 (et rfl rfl) (et rfl rfl) hst (rdI q7) gx85) ?_
        refine Y (wg rfl rfl rfl (decide_eq_true c84)) rfl (yI O_3 (et rfl rfl) hst (rdI q7) gx85) ?_
        refine Y (wg rfl rfl rfl (decide_eq_true c84)) rfl (ygeq (et rfl rfl) rfl) ?_
        refine Y wn rfl (ypt (v := .bool (decide ((0 : Int) ≤ x85))) (et rfl rfl) (decide_eq_true c84) (et rfl rfl)) ?_
        obtain rfl := someI gr82
        exact j6 _ _ ⟨e5_1, e5_2, e5_3, e5_4, e5_10, e5_11, rfl, e5_15, e5_16, e5_17, rfl, (hst.pk 4 [1, 1, 0, 0] rfl)⟩
      · refine Gn (wx rfl rfl rfl (decide_eq_false c84)) rfl ?_
        refine Gn (wx rfl rfl rfl (decide_eq_false c84)) rfl ?_
        refine Gn (wx rfl rfl rfl (decide_eq_false c84)) rfl ?_
        refine Gn (wx rfl rfl rfl (decide_eq_false c84)) rfl ?_
        refine Gn (wx rfl rfl rfl (decide_eq_false c84)) rfl ?_
        refine Gn (wx rfl rfl rfl (decide_eq_false c84)) rfl ?_
        refine Y wn rfl (ypf (v := .bool false) (et rfl rfl) (decide_eq_false c84) rfl) ?_
        obtain rfl := someI gr82
        exact j6 _ _ ⟨e5_1, e5_2, e5_3, e5_4, e5_10, e5_11, rfl, e5_15, e5_16, e5_17, rfl, (hst.pk 4 [1, 1, 0, 0] rfl)⟩
    clear hst
    rintro f w ⟨e83_1, e83_2, e83_3, e83_4, e83_10, e83_11, e83_13, e83_15, e83_16, e83_17, e83_34, hst⟩
    refine wpList_nil ?_
    refine k24 _ _ ?_
    have j7 : ∀ (x92 : List (Int × Int × Int)) (h91 : Hdr) (f : Nat → Value) (w : World), f 1 = h10.v → f 2 = h12.v → f 3 = h14.v → f 4 = h16.v → f 10 = .pointer (some ⟨b18, 0, none⟩) → f 11 = h91.v → f 15 = h20.v → f 16 = .int .i64 (r19.length : Int) → f 17 = .int .i64 x45 → St w0 (ros) (box b18 27 [.int .i64 0, .int .i64 0, hnil.v, hnil.v, hnil.v] :: row 57 rTi64i64u64 h91.v x92 :: row 57 rTi64i64u64 h20.v r19 :: rs) w → matrix_selected_j7 x45 x92 = some r5_ → Q22 .normal (fr 58 f) w := by
      intro x92 h91 f w ej7_1 ej7_2 ej7_3 ej7_4 ej7_10 ej7_11 ej7_15 ej7_16 ej7_17 hst hM
      refine qb22 _ _ _ ?_
      refine k21 _ _ ?_
      refine wp_region_lit ?_
      refine Y wn rfl (yadd (et rfl ej7_17) rfl) ?_
      refine Y wn rfl (ym (v := .int .i64 (wa .i64 x45 1)) (et rfl rfl)) ?_
      refine wpList_nil ?_
      obtain rfl := someI hM
      exact n5 _ _ _ rfl ⟨_, _, _, _, rfl, rfl, ej7_1, ej7_2, ej7_3, ej7_4, ej7_10, ej7_11, ej7_15, ej7_16, rfl, hst⟩
    rcases iteS hM5 with ⟨c93, hM5⟩ | ⟨c93, hM5⟩
    · refine condT (et rfl e83_34) c93 ?_
      obtain ⟨x94, gx94, hM5⟩ := bs hM5
      obtain ⟨x95, gx95, hM5⟩ := bs hM5
      obtain ⟨x98, gx98, hM5⟩ := bs hM5
      refine wp_drawR [0, 0, 0, 4, 14, 30, 0, 0, 128, 448, 960, 0, 2048, 8190, 16382, 32767, 65535] [14, 15, 16] 3 folM (by kernel_rfl) (by kernel_rfl) (by kernel_rfl) ?_
      replace hst := hst.drew
      refine DRn (l1 := [0, 1, 2, 3, 4, 5, 6, 7, 8, 9, 10, 11, 12, 13]) (l2 := []) (lc := [14]) (by kernel_rfl) (by kernel_rfl) (by kernel_rfl) ?_
      refine Ry rfl rfl wn (ym (v := h43.v) (et rfl e83_11)) ?_
      refine Ry rfl rfl wn (ym (v := h14.v) (et rfl e83_3)) ?_
      refine Ry rfl rfl wn (yFb FL_57_0 (et rfl e83_13)) ?_
      refine Ry rfl rfl wn (yLb (u := .int .i64 x78.1) O_3 (et rfl rfl) hst (mtR (mtR mhR)) rfl) ?_
      refine Ry rfl rfl wn (yIa SL_22 (et rfl rfl) (et rfl rfl) hst (rdI q6) gx94) ?_
      refine Ry rfl rfl wn (yI O_3 (et rfl rfl) hst (rdI q6) gx94) ?_
      refine Ry rfl rfl wn (ym (v := h16.v) (et rfl e83_4)) ?_
      refine Ry rfl rfl wn (yFb FL_57_1 (et rfl e83_13)) ?_
      refine Ry rfl rfl wn (yLb (u := .int .i64 x78.2.1) O_3 (et rfl rfl) hst (mtR (mtR mhR)) rfl) ?_
      refine Ry rfl rfl wn (yIa SL_22 (et rfl rfl) (et rfl rfl) hst (rdI q7) gx95) ?_
      refine Ry rfl rfl wn (yI O_3 (et rfl rfl) hst (rdI q7) gx95) ?_
      refine Ry rfl rfl wn (yFb FL_57_2 (et rfl e83_13)) ?_
      refine Ry rfl rfl wn (yLb (u := .int .u64 x78.2.2) O_46 (et rfl rfl) hst (mtR (mtR mhR)) rfl) ?_
      refine Ry rfl rfl wn (ybuild (us := [.int .i64 x94, .int .i64 x95, .int .u64 x78.2.2]) [(0, .int .i64 x94), (1, .int .i64 x95), (2, .int .u64 x78.2.2)] SO_57 (bp3 (et rfl rfl) (et rfl rfl) (et rfl rfl)) rfl) ?_
      refine Rn QSn ?_
      refine Lc rfl ?_ LAn
      refine LH wn (rLt (n := 1) (l := [(x94, x95, x78.2.2)]) hst SL_54 [.agg #[.int .i64 x94, .int .i64 x95, .int .u64 x78.2.2]] (bp1 (et rfl rfl)) rfl rfl (mks1 (cs := [.int .i64 x94, .int .i64 x95, .int .u64 x78.2.2]) rfl (mkF rfl) mks0)) ?_
      clear hst
      intro h96 w hst
      refine DRn (l1 := []) (l2 := [0]) (lc := [15]) (by kernel_rfl) (by kernel_rfl) (by kernel_rfl) ?_
      refine Rn (Sy rfl rfl wn (ym (v := h43.v) (et rfl e83_11)) rfl QSn) ?_
      refine Lc rfl ?_ LAn
      replace hst := hst.pk 3 [2, 0, 0] rfl
      refine LH wn (rAp hst SL_54 (et rfl rfl) (et rfl rfl) (rdO (mtR mhR)) gx98) ?_
      clear hst
      intro h97 w hst
      refine DRn (l1 := []) (l2 := []) (lc := [16]) (by kernel_rfl) (by kernel_rfl) (by kernel_rfl) ?_
      refine Rn QSn ?_
      refine Lc rfl ?_ LAn
      refine Ly wn (ya (v := h97.v) (et rfl rfl)) ?_
      refine DRz (l1 := []) (l2 := []) (by kernel_rfl) (by kernel_rfl) ?_
      refine Rn QSn ?_
      exact j7 _ _ _ _ e83_1 e83_2 e83_3 e83_4 e83_10 rfl e83_15 e83_16 e83_17 (hst.pk 5 [2, 0, 2] rfl) hM5
    · refine condF (et rfl e83_34) (bfalse c93) ?_
      refine wp_skip ?_
      exact j7 _ _ _ _ e83_1 e83_2 e83_3 e83_4 e83_10 e83_11 e83_15 e83_16 e83_17 (hst.pk 4 [0, 0, 1] rfl) hM5
  · refine condF (et rfl rfl) (decide_eq_false c77) ?_
    refine wp_exit ?_
    refine z20 _ _ _ rfl ?_
    obtain rfl := someI hM5
    refine zz5 _ _ _ _ rfl rfl ?_
    exact je5_0 _ _ _ _ e5_1 e5_2 e5_10 e5_11 (hst.pk 3 [0, 0] rfl) (ho5 _ rfl)

theorem matrix_Permute_ok {w0 : World} {ros : List Fact} {rs : List Res} {w : World} {x1 : Int} {x2 : Int} {x3 : List Int} {x5 : List Int} {x7 : List Int} {x9 : List Int} {x11 : List Int} {h4 : Hdr} {h6 : Hdr} {h8 : Hdr} {h10 : Hdr} {h12 : Hdr} {out : Int × Int × (List Int) × (List Int) × (List Int) × Int} (hM : matrix_Permute x1 x2 x3 x5 x7 x9 x11 = some out) (q1 : imm (rI .i64) h4.v x3 ∈ ros) (q2 : imm (rI .i64) h6.v x5 ∈ ros) (q3 : imm (rI .u64) h8.v x7 ∈ ros) (q4 : imm (rI .i64) h10.v x9 ∈ ros) (q5 : imm (rI .i64) h12.v x11 ∈ ros) (hst : St w0 ros (rs) w) :
    Calls Tryz.prog 9 #[.agg #[.int .i64 x1, .int .i64 x2, h4.v, h6.v, h8.v], h10.v, h12.v] w (fun e w => ∃ (h100003 : Hdr) (h100005 : Hdr) (h100007 : Hdr), e = .returned (.tuple #[.agg #[.int .i64 out.1, .int .i64 out.2.1, h100003.v, h100005.v, h100007.v], .int .i64 out.2.2.2.2.2]) ∧ St w0 (ros) (row 3 (rI .i64) h100003.v out.2.2.1 :: row 3 (rI .i64) h100005.v out.2.2.2.1 :: row 46 (rI .u64) h100007.v out.2.2.2.2.1 :: rs) w) := by
  refine enterQ Tryz.func9 rfl Tryz.ntmps9 rfl fun Q hQ => ?_
  refine seqQ fun Q1 k1 z1 => ?_
  refine wp_region_lit ?_
  refine YB wn rfl (r_box (vals := [.int .i64 x1, .int .i64 x2, h4.v, h6.v, h8.v]) hst (et rfl rfl) rfl) ?_
  clear hst
  intro b13 w hst
  refine YB wn rfl (rAl hst ZT_27) ?_
  clear hst
  intro b14 w hst
  refine Y wn rfl (ya (v := .int .i64 0) rfl) ?_
  refine wpList_nil ?_
  refine k1 _ _ ?_
  refine seqQ fun Q2 k2 z2 => ?_
  refine wp_region_lit ?_
  refine Y wn rfl (yLbs (us := [.int .i64 x1, .int .i64 x2, h4.v, h6.v, h8.v]) ST_27 (et rfl rfl) hst (mtR mhR) rfl rfl) ?_
  obtain ⟨r15, gr15, hM⟩ := bs hM
  refine Yc wn rfl (yCall FN_25 (a1 (et rfl rfl))) (matrix_Check_ok (hM := gr15) (hst := hst) (q1 := q1) (q2 := q2) (q3 := q3)) ?_
  clear hst
  rintro _ w ⟨rfl, hst⟩
  refine ⟨_, rfl, ?_⟩
  refine Y wn rfl (ya (v := .int .i64 r15) (et rfl rfl)) ?_
  refine wpList_nil ?_
  refine k2 _ _ ?_
  refine seqQ fun Q3 k3 z3 => ?_
  refine blockQ fun Q4 qb4 => ?_
  refine seqQ fun Q5 k5 z5 => ?_
  refine wp_region_lit ?_
  refine Y wn rfl (ym (v := .int .i64 r15) (et rfl rfl)) ?_
  refine Y wn rfl (yneq (et rfl rfl) rfl) ?_
  refine Y wn rfl (ya (v := .bool (!(decide (r15 = 0)))) (et rfl rfl)) ?_
  refine wpList_nil ?_
  refine k5 _ _ ?_
  rcases iteS hM with ⟨c16, hM⟩ | ⟨c16, hM⟩
  · refine condF (et rfl rfl) (nF (decide_eq_true c16)) ?_
    refine seqQ fun Q6 k6 z6 => ?_
    refine wp_region_lit ?_
    refine Y wn rfl (ym (v := h10.v) (et rfl rfl)) ?_
    refine Y wn rfl (yLen SL_22 (et rfl rfl) hst (rdI q4)) ?_
    refine Y wn rfl (yFb FL_27_0 (et rfl rfl)) ?_
    refine Y wn rfl (yLb (u := .int .i64 x1) O_3 (et rfl rfl) hst (mtR mhR) rfl) ?_
    refine Y wn rfl (yneq (et rfl rfl) (et rfl rfl)) ?_
    refine Y wn rfl (ym (v := .bool (!(decide ((x9.length : Int) = x1)))) (et rfl rfl)) ?_
    refine joinW 6 (fun f w => f 1 = h10.v ∧ f 2 = h12.v ∧ f 3 = .pointer (some ⟨b13, 0, none⟩) ∧ f 6 = .pointer (some ⟨b14, 0, none⟩) ∧ f 31 = .bool ((!(decide ((x9.length : Int) = x1))) || (!(decide ((x11.length : Int) = x2)))) ∧ St w0 (ros) (box b13 27 [.int .i64 x1, .int .i64 x2, h4.v, h6.v, h8.v] :: box b14 27 [.int .i64 0, .int .i64 0, hnil.v, hnil.v, hnil.v] :: rs) w) (fun j1 => ?_) ?_
    · rcases Bool.eq_false_or_eq_true (!(decide ((x9.length : Int) = x1))) with c18 | c18
      · refine Gn (wx rfl rfl rfl c18) rfl ?_
        refine Gn (wx rfl rfl rfl c18) rfl ?_
        refine Gn (wx rfl rfl rfl c18) rfl ?_
        refine Gn (wx rfl rfl rfl c18) rfl ?_
        refine Gn (wx rfl rfl rfl c18) rfl ?_
        refine Y wn rfl (ypt (v := .bool true) (et rfl rfl) c18 rfl) ?_
        exact j1 _ _ ⟨rfl, rfl, rfl, rfl, (congrArg Value.bool (orT c18)), (hst.pk 2 [1, 0] rfl)⟩
      · refine Y (wg rfl rfl rfl c18) rfl (ym (v := h12.v) (et rfl rfl)) ?_
        refine Y (wg rfl rfl rfl c18) rfl (yLen SL_22 (et rfl rfl) hst (rdI q5)) ?_
        refine Y (wg rfl rfl rfl c18) rfl (yFb FL_27_1 (et rfl rfl)) ?_
        refine Y (wg rfl rfl rfl c18) rfl (yLb (u := .int .i64 x2) O_3 (et rfl rfl) hst (mtR mhR) rfl) ?_
        refine Y (wg rfl rfl rfl c18) rfl (yneq (et rfl rfl) (et rfl rfl)) ?_
        refine Y wn rfl (ypf (v := .bool (!(decide ((x11.length : Int) = x2)))) (et rfl rfl) c18 (et rfl rfl)) ?_
        exact j1 _ _ ⟨rfl, rfl, rfl, rfl, (congrArg Value.bool (orF c18)), (hst.pk 2 [1, 0] rfl)⟩
    clear hst
    rintro f w ⟨e17_1, e17_2, e17_3, e17_6, e17_31, hst⟩
    refine Y wn rfl (ya (v := .bool ((!(decide ((x9.length : Int) = x1))) || (!(decide ((x11.length : Int) = x2))))) (et rfl e17_31)) ?_
    refine wpList_nil ?_
    refine k6 _ _ ?_
    rcases iteS hM with ⟨c19, hM⟩ | ⟨c19, hM⟩
    · refine condT (et rfl rfl) c19 ?_
      refine seqQ fun Q7 k7 z7 => ?_
      refine wp_region_lit ?_
      refine Y wn rfl (ybuild (us := [.int .i64 0, .int .i64 0, hnil.v, hnil.v, hnil.v]) [] SO_27 bp0 rfl) ?_
      replace hst := hst.pk 2 [1, 0] rfl
      refine YT wn rfl (r_stbn (vals' := [.int .i64 0, .int .i64 0, hnil.v, hnil.v, hnil.v]) (us := [.int .i64 0, .int .i64 0, hnil.v, hnil.v, hnil.v]) hst ST_27 (et rfl e17_6) (et rfl rfl) rfl rfl (one_of rfl) rfl) ?_
      clear hst
      intro w hst
      refine Y wn rfl (ya (v := .int .i64 2) rfl) ?_
      refine wpList_nil ?_
      refine k7 _ _ ?_
      refine wp_ret ?_
      refine qb4 _ _ _ ?_
      refine z3 _ _ _ rfl ?_
      obtain rfl := someI hM
      replace hst := hst.rowNh 3 (rI .i64)
      replace hst := hst.rowNh 3 (rI .i64)
      replace hst := hst.rowNh 46 (rI .u64)
      exact hQ _ _ _ (fin2r Tryz.results9 (rcs2 rfl e17_6 hst (mtR (mtR (mtR mhR))) ST_27 rfl) ⟨rfl, rfl⟩ ⟨_, _, _, rfl, (hst.pk 5 [2, 1, 0] rfl)⟩)
    · refine condF (et rfl rfl) (bfalse c19) ?_
      refine wp_skip ?_
      refine qb4 _ _ _ ?_
      refine k3 _ _ ?_
      refine seqQ fun Q8 k8 z8 => ?_
      refine wp_region_lit ?_
      refine Y wn rfl (ym (v := h10.v) (et rfl e17_1)) ?_
      refine Y wn rfl (yFb FL_27_0 (et rfl e17_3)) ?_
      refine Y wn rfl (yLb (u := .int .i64 x1) O_3 (et rfl rfl) hst mhR rfl) ?_
      obtain ⟨r20, gr20, hM⟩ := bs hM
      refine Yc wn rfl (yCall FN_30 (a2 (et rfl rfl) (et rfl rfl))) (matrix_places_ok (hM := gr20) (hst := hst) (q1 := q4)) ?_
      clear hst
      rintro _ w ⟨h21, rfl, hst⟩
      refine ⟨_, rfl, ?_⟩
      refine Y wn rfl (ym (v := .tuple #[h21.v, .int .i64 r20.2]) (et rfl rfl)) ?_
      refine Y wn rfl (yx (v := h21.v) (et rfl rfl) rfl) ?_
      refine Y wn rfl (yx (v := .int .i64 r20.2) (et rfl rfl) rfl) ?_
      refine Y wn rfl (ya (v := h21.v) (et rfl rfl)) ?_
      refine Y wn rfl (ya (v := .int .i64 r20.2) (et rfl rfl)) ?_
      refine wpList_nil ?_
      refine k8 _ _ ?_
      refine seqQ fun Q9 k9 z9 => ?_
      refine wp_region_lit ?_
      refine Y wn rfl (ym (v := h12.v) (et rfl e17_2)) ?_
      refine Y wn rfl (yFb FL_27_1 (et rfl e17_3)) ?_
      refine Y wn rfl (yLb (u := .int .i64 x2) O_3 (et rfl rfl) hst (mtR mhR) rfl) ?_
      obtain ⟨r22, gr22, hM⟩ := bs hM
      refine Yc wn rfl (yCall FN_30 (a2 (et rfl rfl) (et rfl rfl))) (matrix_places_ok (hM := gr22) (hst := hst) (q1 := q5)) ?_
      clear hst
      rintro _ w ⟨h23, rfl, hst⟩
      refine ⟨_, rfl, ?_⟩
      refine Y wn rfl (ym (v := .tuple #[h23.v, .int .i64 r22.2]) (et rfl rfl)) ?_
      refine Y wn rfl (yx (v := h23.v) (et rfl rfl) rfl) ?_
      refine Y wn rfl (yx (v := .int .i64 r22.2) (et rfl rfl) rfl) ?_
      refine Y wn rfl (ya (v := h23.v) (et rfl rfl)) ?_
      refine Y wn rfl (ya (v := .int .i64 r22.2) (et rfl rfl)) ?_
      refine wpList_nil ?_
      refine k9 _ _ ?_
      refine seqQ fun Q10 k10 z10 => ?_
      refine seqQ fun Q11 k11 z11 => ?_
      refine wp_region_lit ?_
      refine Y wn rfl (ym (v := .int .i64 r20.2) (et rfl rfl)) ?_
      refine Y wn rfl (yneq (et rfl rfl) rfl) ?_
      refine Y wn rfl (ym (v := .bool (!(decide (r20.2 = 0)))) (et rfl rfl)) ?_
      refine joinW 3 (fun f w => f 1 = h10.v ∧ f 2 = h12.v ∧ f 3 = .pointer (some ⟨b13, 0, none⟩) ∧ f 6 = .pointer (some ⟨b14, 0, none⟩) ∧ f 9 = h21.v ∧ f 10 = h23.v ∧ f 52 = .bool ((!(decide (r20.2 = 0))) || (!(decide (r22.2 = 0)))) ∧ St w0 (ros) (box b13 27 [.int .i64 x1, .int .i64 x2, h4.v, h6.v, h8.v] :: box b14 27 [.int .i64 0, .int .i64 0, hnil.v, hnil.v, hnil.v] :: row 3 (rI .i64) h21.v r20.1 :: row 3 (rI .i64) h23.v r22.1 :: rs) w) (fun j2 => ?_) ?_
      · rcases Bool.eq_false_or_eq_true (!(decide (r20.2 = 0))) with c25 | c25
        · refine Gn (wx rfl rfl rfl c25) rfl ?_
          refine Gn (wx rfl rfl rfl c25) rfl ?_
          refine Y wn rfl (ypt (v := .bool true) (et rfl rfl) c25 rfl) ?_
          exact j2 _ _ ⟨e17_1, e17_2, e17_3, e17_6, rfl, rfl, (congrArg Value.bool (orT c25)), (hst.pk 4 [2, 2, 1, 0] rfl)⟩
        · refine Y (wg rfl rfl rfl c25) rfl (ym (v := .int .i64 r22.2) (et rfl rfl)) ?_
          refine Y (wg rfl rfl rfl c25) rfl (yneq (et rfl rfl) rfl) ?_
          refine Y wn rfl (ypf (v := .bool (!(decide (r22.2 = 0)))) (et rfl rfl) c25 (et rfl rfl)) ?_
          exact j2 _ _ ⟨e17_1, e17_2, e17_3, e17_6, rfl, rfl, (congrArg Value.bool (orF c25)), (hst.pk 4 [2, 2, 1, 0] rfl)⟩
      clear hst
      rintro f w ⟨e24_1, e24_2, e24_3, e24_6, e24_9, e24_10, e24_52, hst⟩
      refine wpList_nil ?_
      refine k11 _ _ ?_
      rcases iteS hM with ⟨c26, hM⟩ | ⟨c26, hM⟩
      · refine condT (et rfl e24_52) c26 ?_
        refine seqQ fun Q12 k12 z12 => ?_
        refine wp_region_lit ?_
        refine Y wn rfl (ybuild (us := [.int .i64 0, .int .i64 0, hnil.v, hnil.v, hnil.v]) [] SO_27 bp0 rfl) ?_
        replace hst := hst.pk 2 [1, 0] rfl
        refine YT wn rfl (r_stbn (vals' := [.int .i64 0, .int .i64 0, hnil.v, hnil.v, hnil.v]) (us := [.int .i64 0, .int .i64 0, hnil.v, hnil.v, hnil.v]) hst ST_27 (et rfl e24_6) (et rfl rfl) rfl rfl (one_of rfl) rfl) ?_
        clear hst
        intro w hst
        refine Y wn rfl (ya (v := .int .i64 90) rfl) ?_
        refine wpList_nil ?_
        refine k12 _ _ ?_
        refine wp_ret ?_
        refine z10 _ _ _ rfl ?_
        obtain rfl := someI hM
        replace hst := hst.rowNh 3 (rI .i64)
        replace hst := hst.rowNh 3 (rI .i64)
        replace hst := hst.rowNh 46 (rI .u64)
        exact hQ _ _ _ (fin2r Tryz.results9 (rcs2 rfl e24_6 hst (mtR (mtR (mtR mhR))) ST_27 rfl) ⟨rfl, rfl⟩ ⟨_, _, _, rfl, (hst.pk 7 [2, 1, 0] rfl)⟩)
      · refine condF (et rfl e24_52) (bfalse c26) ?_
        refine wp_skip ?_
        refine k10 _ _ ?_
        refine seqQ fun Q13 k13 z13 => ?_
        refine wp_region_lit ?_
        refine Y wn rfl (yLbs (us := [.int .i64 x1, .int .i64 x2, h4.v, h6.v, h8.v]) ST_27 (et rfl e24_3) hst mhR rfl rfl) ?_
        refine Y wn rfl (ym (v := h10.v) (et rfl e24_1)) ?_
        refine Y wn rfl (ym (v := h12.v) (et rfl e24_2)) ?_
        refine Y wn rfl (ym (v := h21.v) (et rfl e24_9)) ?_
        refine Y wn rfl (ym (v := h23.v) (et rfl e24_10)) ?_
        obtain ⟨r27, gr27, hM⟩ := bs hM
        replace hst := hst.pk 3 [2, 0, 0] rfl
        replace hst := hst.fz
        replace hst := hst.pk 3 [2, 0, 0] rfl
        replace hst := hst.fz
        refine Yc wn rfl (yCall FN_31 (a5 (et rfl rfl) (et rfl rfl) (et rfl rfl) (et rfl rfl) (et rfl rfl))) (matrix_selected_ok (hM := gr27) (hst := hst) (q1 := (mtF (mtF q1))) (q2 := (mtF (mtF q2))) (q3 := (mtF (mtF q3))) (q4 := (mtF (mtF q4))) (q5 := (mtF (mtF q5))) (q6 := (mtF mhF)) (q7 := mhF)) ?_
        clear hst
        rintro _ w ⟨h28, h29, h30, rfl, hst⟩
        refine ⟨_, rfl, ?_⟩
        replace hst := hst.pk 5 [4, 0, 0, 0, 0] rfl
        refine YT wn rfl (r_stbn (vals' := [.int .i64 r27.1, .int .i64 r27.2.1, h28.v, h29.v, h30.v]) (us := [.int .i64 r27.1, .int .i64 r27.2.1, h28.v, h29.v, h30.v]) hst ST_27 (et rfl e24_6) (et rfl rfl) rfl rfl (one_of rfl) rfl) ?_
        clear hst
        intro w hst
        refine Y wn rfl (ya (v := .int .i64 0) rfl) ?_
        refine wpList_nil ?_
        refine k13 _ _ ?_
        refine wp_ret ?_
        obtain rfl := someI hM
        exact hQ _ _ _ (fin2r Tryz.results9 (rcs2 rfl e24_6 hst mhR ST_27 rfl) ⟨rfl, rfl⟩ ⟨_, _, _, rfl, ((hst.pk 5 [1, 1, 1] rfl).facts (allT (allT allI)))⟩)
  · refine condT (et rfl rfl) (nT (decide_eq_false c16)) ?_
    refine seqQ fun Q14 k14 z14 => ?_
    refine wp_region_lit ?_
    refine Y wn rfl (ybuild (us := [.int .i64 0, .int .i64 0, hnil.v, hnil.v, hnil.v]) [] SO_27 bp0 rfl) ?_
    refine Y wn rfl (ym (v := .int .i64 r15) (et rfl rfl)) ?_
    refine YT wn rfl (r_stbn (vals' := [.int .i64 0, .int .i64 0, hnil.v, hnil.v, hnil.v]) (us := [.int .i64 0, .int .i64 0, hnil.v, hnil.v, hnil.v]) hst ST_27 (et rfl rfl) (et rfl rfl) rfl rfl (one_of rfl) rfl) ?_
    clear hst
    intro w hst
    refine Y wn rfl (ya (v := .int .i64 r15) (et rfl rfl)) ?_
    refine wpList_nil ?_
    refine k14 _ _ ?_
    refine wp_ret ?_
    refine qb4 _ _ _ ?_
    refine z3 _ _ _ rfl ?_
    obtain rfl := someI hM
    replace hst := hst.rowNh 3 (rI .i64)
    replace hst := hst.rowNh 3 (rI .i64)
    replace hst := hst.rowNh 46 (rI .u64)
    exact hQ _ _ _ (fin2r Tryz.results9 (rcs2 rfl rfl hst (mtR (mtR (mtR mhR))) ST_27 rfl) ⟨rfl, rfl⟩ ⟨_, _, _, rfl, (hst.pk 5 [2, 1, 0] rfl)⟩)

theorem sparsekit_Graph_ok {w0 : World} {ros : List Fact} {rs : List Res} {w : World} {x1 : List (List Int)} {x3 : List (List Int)} {h2 : Hdr} {h4 : Hdr} {out : Bool} (hM : sparsekit_Graph x1 x3 = some out) (q1 : imm (rS (rI .i64)) h2.v x1 ∈ ros) (q2 : imm (rS (rI .i64)) h4.v x3 ∈ ros) (hst : St w0 ros (rs) w) :
    Calls Tryz.prog 11 #[.agg #[h2.v], .agg #[h4.v]] w (fun e w => e = .returned (.bool out) ∧ St w0 (ros) (rs) w) := by
  refine enterQ Tryz.func11 rfl Tryz.ntmps11 rfl fun Q hQ => ?_
  refine seqQ fun Q1 k1 z1 => ?_
  refine wp_region_lit ?_
  refine YB wn rfl (r_box (vals := [h2.v]) hst (et rfl rfl) rfl) ?_
  clear hst
  intro b5 w hst
  refine YB wn rfl (r_box (vals := [h4.v]) hst (et rfl rfl) rfl) ?_
  clear hst
  intro b6 w hst
  refine Y wn rfl (ya (v := .bool false) rfl) ?_
  refine wpList_nil ?_
  refine k1 _ _ ?_
  refine seqQ fun Q2 k2 z2 => ?_
  refine wp_region_lit ?_
  refine Y wn rfl (yFb FL_31_0 (et rfl rfl)) ?_
  refine Y wn rfl (yLb (u := h2.v) O_29 (et rfl rfl) hst (mtR mhR) rfl) ?_
  refine Y wn rfl (yFb FL_31_0 (et rfl rfl)) ?_
  refine Y wn rfl (yLb (u := h4.v) O_29 (et rfl rfl) hst mhR rfl) ?_
  obtain ⟨r7, gr7, hM⟩ := bs hM
  refine Yc wn rfl (yCall FN_20 (a2 (et rfl rfl) (et rfl rfl))) (sparsekit_Lists_ok (hM := gr7) (hst := hst) (q1 := q1) (q2 := q2)) ?_
  clear hst
  rintro _ w ⟨rfl, hst⟩
  refine ⟨_, rfl, ?_⟩
  refine Y wn rfl (ya (v := .bool r7) (et rfl rfl)) ?_
  refine wpList_nil ?_
  refine k2 _ _ ?_
  refine wp_ret ?_
  obtain rfl := someI hM
  exact hQ _ _ _ (fin1r Tryz.results11 ⟨rfl, rfl⟩ ⟨rfl, (hst.pk 2 [] rfl)⟩)

theorem sparseref09_Stored_ok {w0 : World} {ros : List Fact} {rs : List Res} {w : World} {x1 : Int} {x2 : Int} {x3 : List Int} {x5 : List Int} {x7 : List Int} {x9 : Int} {x10 : Int} {h4 : Hdr} {h6 : Hdr} {h8 : Hdr} {out : Bool} (hM : sparseref09_Stored x1 x2 x3 x5 x7 x9 x10 = some out) (q1 : imm (rI .i64) h4.v x3 ∈ ros) (q2 : imm (rI .i64) h6.v x5 ∈ ros) (q3 : imm (rI .u64) h8.v x7 ∈ ros) (hst : St w0 ros (rs) w) :
    Calls Tryz.prog 12 #[.agg #[.int .i64 x1, .int .i64 x2, h4.v, h6.v, h8.v], .int .i64 x9, .int .i64 x10] w (fun e w => e = .returned (.bool out) ∧ St w0 (ros) (rs) w) := by
  refine enterQ Tryz.func12 rfl Tryz.ntmps12 rfl fun Q hQ => ?_
  refine seqQ fun Q1 k1 z1 => ?_
  refine wp_region_lit ?_
  refine YB wn rfl (r_box (vals := [.int .i64 x1, .int .i64 x2, h4.v, h6.v, h8.v]) hst (et rfl rfl) rfl) ?_
  clear hst
  intro b11 w hst
  refine Y wn rfl (ya (v := .bool false) rfl) ?_
  refine wpList_nil ?_
  refine k1 _ _ ?_
  refine seqQ fun Q2 k2 z2 => ?_
  refine seqQ fun Q3 k3 z3 => ?_
  refine wp_region_lit ?_
  refine Y wn rfl (ym (v := .int .i64 x9) (et rfl rfl)) ?_
  refine Y wn rfl (ylss (et rfl rfl) rfl) ?_
  refine Y wn rfl (ym (v := .bool (decide (x9 < 0))) (et rfl rfl)) ?_
  refine joinW 5 (fun f w => f 1 = .int .i64 x9 ∧ f 2 = .int .i64 x10 ∧ f 3 = .pointer (some ⟨b11, 0, none⟩) ∧ f 15 = .bool ((decide (x9 < 0)) || (decide (x1 ≤ x9))) ∧ St w0 (ros) (box b11 27 [.int .i64 x1, .int .i64 x2, h4.v, h6.v, h8.v] :: rs) w) (fun j1 => ?_) ?_
  · rcases Bool.eq_false_or_eq_true (decide (x9 < 0)) with c13 | c13
    · refine Gn (wx rfl rfl rfl c13) rfl ?_
      refine Gn (wx rfl rfl rfl c13) rfl ?_
      refine Gn (wx rfl rfl rfl c13) rfl ?_
      refine Gn (wx rfl rfl rfl c13) rfl ?_
      refine Y wn rfl (ypt (v := .bool true) (et rfl rfl) c13 rfl) ?_
      exact j1 _ _ ⟨rfl, rfl, rfl, (congrArg Value.bool (orT c13)), hst⟩
    · refine Y (wg rfl rfl rfl c13) rfl (ym (v := .int .i64 x9) (et rfl rfl)) ?_
      refine Y (wg rfl rfl rfl c13) rfl (yFb FL_27_0 (et rfl rfl)) ?_
      refine Y (wg rfl rfl rfl c13) rfl (yLb (u := .int .i64 x1) O_3 (et rfl rfl) hst mhR rfl) ?_
      refine Y (wg rfl rfl rfl c13) rfl (ygeq (et rfl rfl) (et rfl rfl)) ?_
      refine Y wn rfl (ypf (v := .bool (decide (x1 ≤ x9))) (et rfl rfl) c13 (et rfl rfl)) ?_
      exact j1 _ _ ⟨rfl, rfl, rfl, (congrArg Value.bool (orF c13)), hst⟩
  clear hst
  rintro f w ⟨e12_1, e12_2, e12_3, e12_15, hst⟩
  refine Y wn rfl (ym (v := .bool ((decide (x9 < 0)) || (decide (x1 ≤ x9)))) (et rfl e12_15)) ?_
  refine joinW 3 (fun f w => f 1 = .int .i64 x9 ∧ f 2 = .int .i64 x10 ∧ f 3 = .pointer (some ⟨b11, 0, none⟩) ∧ f 19 = .bool (((decide (x9 < 0)) || (decide (x1 ≤ x9))) || (decide (x10 < 0))) ∧ St w0 (ros) (box b11 27 [.int .i64 x1, .int .i64 x2, h4.v, h6.v, h8.v] :: rs) w) (fun j2 => ?_) ?_
  · rcases Bool.eq_false_or_eq_true (((decide (x9 < 0)) || (decide (x1 ≤ x9)))) with c15 | c15
    · refine Gn (wx rfl rfl rfl c15) rfl ?_
      refine Gn (wx rfl rfl rfl c15) rfl ?_
      refine Y wn rfl (ypt (v := .bool true) (et rfl rfl) c15 rfl) ?_
      exact j2 _ _ ⟨e12_1, e12_2, e12_3, (congrArg Value.bool (orT c15)), hst⟩
    · refine Y (wg rfl rfl rfl c15) rfl (ym (v := .int .i64 x10) (et rfl e12_2)) ?_
      refine Y (wg rfl rfl rfl c15) rfl (ylss (et rfl rfl) rfl) ?_
      refine Y wn rfl (ypf (v := .bool (decide (x10 < 0))) (et rfl rfl) c15 (et rfl rfl)) ?_
      exact j2 _ _ ⟨e12_1, e12_2, e12_3, (congrArg Value.bool (orF c15)), hst⟩
  clear hst
  rintro f w ⟨e14_1, e14_2, e14_3, e14_19, hst⟩
  refine Y wn rfl (ym (v := .bool (((decide (x9 < 0)) || (decide (x1 ≤ x9))) || (decide (x10 < 0)))) (et rfl e14_19)) ?_
  refine joinW 5 (fun f w => f 1 = .int .i64 x9 ∧ f 2 = .int .i64 x10 ∧ f 3 = .pointer (some ⟨b11, 0, none⟩) ∧ f 25 = .bool ((((decide (x9 < 0)) || (decide (x1 ≤ x9))) || (decide (x10 < 0))) || (decide (x2 ≤ x10))) ∧ St w0 (ros) (box b11 27 [.int .i64 x1, .int .i64 x2, h4.v, h6.v, h8.v] :: rs) w) (fun j3 => ?_) ?_
  · rcases Bool.eq_false_or_eq_true ((((decide (x9 < 0)) || (decide (x1 ≤ x9))) || (decide (x10 < 0)))) with c17 | c17
    · refine Gn (wx rfl rfl rfl c17) rfl ?_
      refine Gn (wx rfl rfl rfl c17) rfl ?_
      refine Gn (wx rfl rfl rfl c17) rfl ?_
      refine Gn (wx rfl rfl rfl c17) rfl ?_
      refine Y wn rfl (ypt (v := .bool true) (et rfl rfl) c17 rfl) ?_
      exact j3 _ _ ⟨e14_1, e14_2, e14_3, (congrArg Value.bool (orT c17)), hst⟩
    · refine Y (wg rfl rfl rfl c17) rfl (ym (v := .int .i64 x10) (et rfl e14_2)) ?_
      refine Y (wg rfl rfl rfl c17) rfl (yFb FL_27_1 (et rfl e14_3)) ?_
      refine Y (wg rfl rfl rfl c17) rfl (yLb (u := .int .i64 x2) O_3 (et rfl rfl) hst mhR rfl) ?_
      refine Y (wg rfl rfl rfl c17) rfl (ygeq (et rfl rfl) (et rfl rfl)) ?_
      refine Y wn rfl (ypf (v := .bool (decide (x2 ≤ x10))) (et rfl rfl) c17 (et rfl rfl)) ?_
      exact j3 _ _ ⟨e14_1, e14_2, e14_3, (congrArg Value.bool (orF c17)), hst⟩
  clear hst
  rintro f w ⟨e16_1, e16_2, e16_3, e16_25, hst⟩
  refine wpList_nil ?_
  refine k3 _ _ ?_
  rcases iteS hM with ⟨c18, hM⟩ | ⟨c18, hM⟩
  · refine condT (et rfl e16_25) c18 ?_
    refine seqQ fun Q4 k4 z4 => ?_
    refine wp_region_lit ?_
    refine Y wn rfl (ya (v := .bool false) rfl) ?_
    refine wpList_nil ?_
    refine k4 _ _ ?_
    refine wp_ret ?_
    refine z2 _ _ _ rfl ?_
    obtain rfl := someI hM
    exact hQ _ _ _ (fin1r Tryz.results12 ⟨rfl, rfl⟩ ⟨rfl, (hst.pk 1 [] rfl)⟩)
  · refine condF (et rfl e16_25) (bfalse c18) ?_
    refine wp_skip ?_
    refine k2 _ _ ?_
    refine seqQ fun Q5 k5 z5 => ?_
    refine seqQ fun Q6 k6 z6 => ?_
    refine wp_region_lit ?_
    refine Y wn rfl (yFb FL_27_2 (et rfl e16_3)) ?_
    refine Y wn rfl (yLb (u := h4.v) O_22 (et rfl rfl) hst mhR rfl) ?_
    refine Y wn rfl (ym (v := .int .i64 x10) (et rfl e16_2)) ?_
    obtain ⟨x19, gx19, hM⟩ := bs hM
    refine Y wn rfl (yIa SL_22 (et rfl rfl) (et rfl rfl) hst (rdI q1) gx19) ?_
    refine Y wn rfl (yI O_3 (et rfl rfl) hst (rdI q1) gx19) ?_
    refine Y wn rfl (ya (v := .int .i64 x19) (et rfl rfl)) ?_
    refine wpList_nil ?_
    refine k6 _ _ ?_
    refine blockQ fun Q7 qb7 => ?_
    obtain ⟨o4, go4, hM⟩ := bs hM
    have je4_0 : ∀ (f : Nat → Value) (w : World), St w0 (ros) (rs) w → .inl () = o4 → Q7 (.exit 0) (fr 48 f) w := by
      intro f w hst ho
      subst ho
      refine qb7 _ _ _ ?_
      refine k5 _ _ ?_
      refine seqQ fun Q20 k20 z20 => ?_
      refine wp_region_lit ?_
      refine Y wn rfl (ya (v := .bool false) rfl) ?_
      refine wpList_nil ?_
      refine k20 _ _ ?_
      refine wp_ret ?_
      obtain rfl := someI hM
      exact hQ _ _ _ (fin1r Tryz.results12 ⟨rfl, rfl⟩ ⟨rfl, hst⟩)
    have je4_1 : ∀ (f : Nat → Value) (w : World), f 6 = .bool true → St w0 (ros) (rs) w → .inr () = o4 → Q7 .ret (fr 48 f) w := by
      intro f w eje4_1_6 hst ho
      subst ho
      refine qb7 _ _ _ ?_
      refine z5 _ _ _ rfl ?_
      obtain rfl := someI hM
      exact hQ _ _ _ (fin1r Tryz.results12 ⟨rfl, eje4_1_6⟩ ⟨rfl, hst⟩)
    refine loopQ (fun s a w => ∃ (x24 : Int) (f : Nat → Value), x24 = s ∧ a = fr 48 f ∧ f 1 = .int .i64 x9 ∧ f 2 = .int .i64 x10 ∧ f 3 = .pointer (some ⟨b11, 0, none⟩) ∧ f 7 = .int .i64 x24 ∧ St w0 (ros) (box b11 27 [.int .i64 x1, .int .i64 x2, h4.v, h6.v, h8.v] :: rs) w) go4 ⟨_, _, rfl, rfl, e16_1, e16_2, e16_3, rfl, hst⟩ ?_
    clear hst
    rintro _ _ w r4_ ⟨x24, f, rfl, rfl, e4_1, e4_2, e4_3, e4_7, hst⟩ hM4 ho4 Q100004 n4 zz4
    refine seqQ fun Q21 k21 z21 => ?_
    refine seqQ fun Q22 k22 z22 => ?_
    refine wp_region_lit ?_
    refine Y wn rfl (ym (v := .int .i64 x24) (et rfl e4_7)) ?_
    refine Y wn rfl (yFb FL_27_2 (et rfl e4_3)) ?_
    refine Y wn rfl (yLb (u := h4.v) O_22 (et rfl rfl) hst mhR rfl) ?_
    refine Y wn rfl (ym (v := .int .i64 x10) (et rfl e4_2)) ?_
    refine Y wn rfl (yadd (et rfl rfl) rfl) ?_
    obtain ⟨x30, gx30, hM4⟩ := bs hM4
    refine Y wn rfl (yIa SL_22 (et rfl rfl) (et rfl rfl) hst (rdI q1) gx30) ?_
    refine Y wn rfl (yI O_3 (et rfl rfl) hst (rdI q1) gx30) ?_
    refine Y wn rfl (ylss (et rfl rfl) (et rfl rfl)) ?_
    refine wpList_nil ?_
    refine k22 _ _ ?_
    rcases iteS hM4 with ⟨c31, hM4⟩ | ⟨c31, hM4⟩
    · refine condT (et rfl rfl) (decide_eq_true c31) ?_
      refine wp_skip ?_
      refine k21 _ _ ?_
      refine seqQ fun Q23 k23 z23 => ?_
      refine blockQ fun Q24 qb24 => ?_
      refine seqQ fun Q25 k25 z25 => ?_
      refine wp_region_lit ?_
      refine Y wn rfl (yFb FL_27_3 (et rfl e4_3)) ?_
      refine Y wn rfl (yLb (u := h6.v) O_22 (et rfl rfl) hst mhR rfl) ?_
      refine Y wn rfl (ym (v := .int .i64 x24) (et rfl e4_7)) ?_
      obtain ⟨x32, gx32, hM4⟩ := bs hM4
      refine Y wn rfl (yIa SL_22 (et rfl rfl) (et rfl rfl) hst (rdI q2) gx32) ?_
      refine Y wn rfl (yI O_3 (et rfl rfl) hst (rdI q2) gx32) ?_
      refine Y wn rfl (ym (v := .int .i64 x9) (et rfl e4_1)) ?_
      refine Y wn rfl (yeql (et rfl rfl) (et rfl rfl)) ?_
      refine wpList_nil ?_
      refine k25 _ _ ?_
      rcases iteS hM4 with ⟨c33, hM4⟩ | ⟨c33, hM4⟩
      · refine condT (et rfl rfl) (decide_eq_true c33) ?_
        refine seqQ fun Q26 k26 z26 => ?_
        refine wp_region_lit ?_
        refine Y wn rfl (ya (v := .bool true) rfl) ?_
        refine wpList_nil ?_
        refine k26 _ _ ?_
        refine wp_ret ?_
        refine qb24 _ _ _ ?_
        refine z23 _ _ _ rfl ?_
        obtain rfl := someI hM4
        refine zz4 _ _ _ _ rfl rfl ?_
        exact je4_1 _ _ rfl (hst.pk 1 [] rfl) (ho4 _ rfl)
      · refine condF (et rfl rfl) (decide_eq_false c33) ?_
        refine wp_skip ?_
        refine qb24 _ _ _ ?_
        refine k23 _ _ ?_
        refine wp_region_lit ?_
        refine Y wn rfl (ym (v := .int .i64 x24) (et rfl e4_7)) ?_
        refine Y wn rfl (yadd (et rfl rfl) rfl) ?_
        refine Y wn rfl (ya (v := .int .i64 (wa .i64 x24 1)) (et rfl rfl)) ?_
        refine wpList_nil ?_
        obtain rfl := someI hM4
        exact n4 _ _ _ rfl ⟨_, _, rfl, rfl, e4_1, e4_2, e4_3, rfl, hst⟩
    · refine condF (et rfl rfl) (decide_eq_false c31) ?_
      refine wp_exit ?_
      refine z21 _ _ _ rfl ?_
      obtain rfl := someI hM4
      refine zz4 _ _ _ _ rfl rfl ?_
      exact je4_0 _ _ (hst.pk 1 [] rfl) (ho4 _ rfl)
end Go.Proofs.YtcknmegldjnjjaaGreatDoor
