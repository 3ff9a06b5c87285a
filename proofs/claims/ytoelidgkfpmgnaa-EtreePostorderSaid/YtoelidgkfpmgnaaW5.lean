/- Walks: each function computes its model, printed. -/
import Derived.Test.YtoelidgkfpmgnaaW4
namespace Go.Proofs.Ytoelidgkfpmgnaa
open Go Sx M
set_option maxRecDepth 100000
set_option maxHeartbeats 400000
set_option linter.unusedVariables false
attribute [local irreducible] wpList Code.wp Calls DR QR QS LA LS St
theorem slices_IndexFunc_int_ok {w0 : World} {ros : List Fact} {rs : List Res} {w : World} {x1 : List Int} {x4 : List (List Int)} {h2 : Hdr} {b3 : Nat} {h5 : Hdr} {out : Int} (hM : slices_IndexFunc_int x1 x4 = some out) (q1 : imm (rI .i64) h2.v x1 ∈ ros) (q2 : imm (rS (rI .i64)) h5.v x4 ∈ ros) (hst : St w0 ros (box b3 27 [h5.v] :: rs) w) :
    Calls Try.prog 99 #[h2.v, .func (.func 77) #[] #[.pointer (some ⟨b3, 0, none⟩)]] w (fun e w => e = .returned (.int .i64 out) ∧ St w0 (ros) (box b3 27 [h5.v] :: rs) w) := by
  refine enterQ Try.func99 rfl Try.ntmps99 rfl fun Q hQ => ?_
  refine seqQ fun Q1 k1 z1 => ?_
  refine wp_region_lit ?_
  refine Y wn rfl (ya (v := .int .i64 0) rfl) ?_
  refine wpList_nil ?_
  refine k1 _ _ ?_
  refine seqQ fun Q2 k2 z2 => ?_
  refine seqQ fun Q3 k3 z3 => ?_
  refine wp_region_lit ?_
  refine Y wn rfl (ym (v := h2.v) (et rfl rfl)) ?_
  refine Y wn rfl (yLen SL_22 (et rfl rfl) hst (rdI q1)) ?_
  refine Y wn rfl (ym (v := .int .i64 0) rfl) ?_
  refine wpList_nil ?_
  refine k3 _ _ ?_
  refine blockQ fun Q4 qb4 => ?_
  obtain ⟨o1, go1, hM⟩ := bs hM
  have je1_0 : ∀ (f : Nat → Value) (w : World), St w0 (ros) (box b3 27 [h5.v] :: rs) w → .inl () = o1 → Q4 (.exit 0) (fr 19 f) w := by
    intro f w hst ho
    subst ho
    refine qb4 _ _ _ ?_
    refine k2 _ _ ?_
    refine seqQ fun Q19 k19 z19 => ?_
    refine wp_region_lit ?_
    refine Y wn rfl (ya (v := .int .i64 (-1)) rfl) ?_
    refine wpList_nil ?_
    refine k19 _ _ ?_
    refine wp_ret ?_
    obtain rfl := someI hM
    exact hQ _ _ _ (fin1r Try.results99 ⟨rfl, rfl⟩ ⟨rfl, hst⟩)
  have je1_1 : ∀ (x16 : Int) (f : Nat → Value) (w : World), f 4 = .int .i64 x16 → St w0 (ros) (box b3 27 [h5.v] :: rs) w → .inr x16 = o1 → Q4 .ret (fr 19 f) w := by
    intro x16 f w eje1_1_4 hst ho
    subst ho
    refine qb4 _ _ _ ?_
    refine z2 _ _ _ rfl ?_
    obtain rfl := someI hM
    exact hQ _ _ _ (fin1r Try.results99 ⟨rfl, eje1_1_4⟩ ⟨rfl, hst⟩)
  refine loopQ (fun s a w => ∃ (x10 : Int) (f : Nat → Value), x10 = s ∧ a = fr 19 f ∧ f 0 = h2.v ∧ f 1 = .func (.func 77) #[] #[.pointer (some ⟨b3, 0, none⟩)] ∧ f 7 = .int .i64 (x1.length : Int) ∧ f 8 = .int .i64 x10 ∧ St w0 (ros) (box b3 27 [h5.v] :: rs) w) go1 ⟨_, _, rfl, rfl, rfl, rfl, rfl, rfl, hst⟩ ?_
  clear hst
  rintro _ _ w r1_ ⟨x10, f, rfl, rfl, e1_0, e1_1, e1_7, e1_8, hst⟩ hM1 ho1 Q100001 n1 zz1
  refine seqQ fun Q20 k20 z20 => ?_
  refine wp_region_lit ?_
  refine Y wn rfl (ylss (et rfl e1_8) (et rfl e1_7)) ?_
  refine wpList_nil ?_
  refine k20 _ _ ?_
  refine seqQ fun Q21 k21 z21 => ?_
  rcases iteS hM1 with ⟨c17, hM1⟩ | ⟨c17, hM1⟩
  · refine condT (et rfl rfl) (decide_eq_true c17) ?_
    refine wp_skip ?_
    refine k21 _ _ ?_
    refine seqQ fun Q22 k22 z22 => ?_
    refine blockQ fun Q23 qb23 => ?_
    refine seqQ fun Q24 k24 z24 => ?_
    refine wp_region_lit ?_
    refine Y wn rfl (ym (v := .int .i64 x10) (et rfl e1_8)) ?_
    refine Y wn rfl (ya (v := .int .i64 x10) (et rfl rfl)) ?_
    refine wpList_nil ?_
    refine k24 _ _ ?_
    refine seqQ fun Q25 k25 z25 => ?_
    refine wp_region_lit ?_
    refine Y wn rfl (ym (v := .func (.func 77) #[] #[.pointer (some ⟨b3, 0, none⟩)]) (et rfl e1_1)) ?_
    refine Y wn rfl (ym (v := h2.v) (et rfl e1_0)) ?_
    refine Y wn rfl (ym (v := .int .i64 x10) (et rfl rfl)) ?_
    obtain ⟨x18, gx18, hM1⟩ := bs hM1
    refine Y wn rfl (yIa SL_22 (et rfl rfl) (et rfl rfl) hst (rdI q1) gx18) ?_
    refine Y wn rfl (yI O_3 (et rfl rfl) hst (rdI q1) gx18) ?_
    obtain ⟨r19, gr19, hM1⟩ := bs hM1
    refine Yc wn rfl (yCallw FN_77 (et rfl rfl) (a1 (et rfl rfl))) (graph_Permuted_1_ok (hM := gr19) (hst := hst) (q1 := q2)) ?_
    clear hst
    rintro _ w ⟨rfl, hst⟩
    refine ⟨_, rfl, ?_⟩
    refine wpList_nil ?_
    refine k25 _ _ ?_
    rcases iteS hM1 with ⟨c20, hM1⟩ | ⟨c20, hM1⟩
    · refine condT (et rfl rfl) c20 ?_
      refine seqQ fun Q26 k26 z26 => ?_
      refine wp_region_lit ?_
      refine Y wn rfl (ym (v := .int .i64 x10) (et rfl rfl)) ?_
      refine Y wn rfl (ya (v := .int .i64 x10) (et rfl rfl)) ?_
      refine wpList_nil ?_
      refine k26 _ _ ?_
      refine wp_ret ?_
      refine qb23 _ _ _ ?_
      refine z22 _ _ _ rfl ?_
      obtain rfl := someI hM1
      refine zz1 _ _ _ _ rfl rfl ?_
      exact je1_1 _ _ _ rfl hst (ho1 _ rfl)
    · refine condF (et rfl rfl) (bfalse c20) ?_
      refine wp_skip ?_
      refine qb23 _ _ _ ?_
      refine k22 _ _ ?_
      refine wp_region_lit ?_
      refine Y wn rfl (yadd (et rfl e1_8) rfl) ?_
      refine Y wn rfl (ym (v := .int .i64 (wa .i64 x10 1)) (et rfl rfl)) ?_
      refine wpList_nil ?_
      obtain rfl := someI hM1
      exact n1 _ _ _ rfl ⟨_, _, rfl, rfl, e1_0, e1_1, e1_7, rfl, hst⟩
  · refine condF (et rfl rfl) (decide_eq_false c17) ?_
    refine wp_exit ?_
    refine z21 _ _ _ rfl ?_
    obtain rfl := someI hM1
    refine zz1 _ _ _ _ rfl rfl ?_
    exact je1_0 _ _ hst (ho1 _ rfl)

theorem slices_ContainsFunc_int_ok {w0 : World} {ros : List Fact} {rs : List Res} {w : World} {x1 : List Int} {x4 : List (List Int)} {h2 : Hdr} {b3 : Nat} {h5 : Hdr} {out : Bool} (hM : slices_ContainsFunc_int x1 x4 = some out) (q1 : imm (rI .i64) h2.v x1 ∈ ros) (q2 : imm (rS (rI .i64)) h5.v x4 ∈ ros) (hst : St w0 ros (box b3 27 [h5.v] :: rs) w) :
    Calls Try.prog 76 #[h2.v, .func (.func 77) #[] #[.pointer (some ⟨b3, 0, none⟩)]] w (fun e w => e = .returned (.bool out) ∧ St w0 (ros) (box b3 27 [h5.v] :: rs) w) := by
  refine enterQ Try.func76 rfl Try.ntmps76 rfl fun Q hQ => ?_
  refine seqQ fun Q1 k1 z1 => ?_
  refine wp_region_lit ?_
  refine Y wn rfl (ya (v := .bool false) rfl) ?_
  refine wpList_nil ?_
  refine k1 _ _ ?_
  refine seqQ fun Q2 k2 z2 => ?_
  refine wp_region_lit ?_
  refine Y wn rfl (ym (v := h2.v) (et rfl rfl)) ?_
  refine Y wn rfl (ym (v := .func (.func 77) #[] #[.pointer (some ⟨b3, 0, none⟩)]) (et rfl rfl)) ?_
  obtain ⟨r6, gr6, hM⟩ := bs hM
  refine Yc wn rfl (yCall FN_99 (a2 (et rfl rfl) (et rfl rfl))) (slices_IndexFunc_int_ok (hM := gr6) (hst := hst) (q1 := q1) (q2 := q2)) ?_
  clear hst
  rintro _ w ⟨rfl, hst⟩
  refine ⟨_, rfl, ?_⟩
  refine Y wn rfl (ygeq (et rfl rfl) rfl) ?_
  refine Y wn rfl (ya (v := .bool (decide ((0 : Int) ≤ r6))) (et rfl rfl)) ?_
  refine wpList_nil ?_
  refine k2 _ _ ?_
  refine wp_ret ?_
  obtain rfl := someI hM
  exact hQ _ _ _ (fin1r Try.results76 ⟨rfl, rfl⟩ ⟨rfl, hst⟩)

theorem slices_Values_int_ok {w0 : World} {ros : List Fact} {rs : List Res} {w : World} {x1 : List Int} {h2 : Hdr} {out : Unit} (hM : slices_Values_int x1 = some out) (q1 : imm (rI .i64) h2.v x1 ∈ ros) (hst : St w0 ros (rs) w) :
    Calls Try.prog 102 #[h2.v] w (fun e w => ∃ (b100001 : Nat), e = .returned (.func (.func 113) #[] #[.pointer (some ⟨b100001, 0, none⟩)]) ∧ St w0 (ros) (box b100001 22 [h2.v] :: rs) w) := by
  refine enterQ Try.func102 rfl Try.ntmps102 rfl fun Q hQ => ?_
  refine seqQ fun Q1 k1 z1 => ?_
  refine wp_region_lit ?_
  refine YB wn rfl (r_box (vals := [h2.v]) hst (et rfl rfl) rfl) ?_
  clear hst
  intro b3 w hst
  refine Y wn rfl (ya (v := .nilFunc) rfl) ?_
  refine wpList_nil ?_
  refine k1 _ _ ?_
  refine seqQ fun Q2 k2 z2 => ?_
  refine wp_region_lit ?_
  refine Y wn rfl (ymf (vf := #[]) (vc := #[.pointer (some ⟨b3, 0, none⟩)]) a0 (a1 (et rfl rfl))) ?_
  refine Y wn rfl (ya (v := .func (.func 113) #[] #[.pointer (some ⟨b3, 0, none⟩)]) (et rfl rfl)) ?_
  refine wpList_nil ?_
  refine k2 _ _ ?_
  refine wp_ret ?_
  obtain rfl := someI hM
  exact hQ _ _ _ (fin1r Try.results102 ⟨rfl, rfl⟩ ⟨_, rfl, hst⟩)

theorem slices_Collect_int_ok {w0 : World} {ros : List Fact} {rs : List Res} {w : World} {x2 : List Int} {b1 : Nat} {h3 : Hdr} {out : (List Int)} (hM : slices_Collect_int x2 = some out) (q1 : imm (rI .i64) h3.v x2 ∈ ros) (hst : St w0 ros (box b1 22 [h3.v] :: rs) w) :
    Calls Try.prog 112 #[.func (.func 113) #[] #[.pointer (some ⟨b1, 0, none⟩)]] w (fun e w => ∃ (h100001 : Hdr), e = .returned (h100001.v) ∧ St w0 (ros) (box b1 22 [h3.v] :: row 3 (rI .i64) h100001.v out :: rs) w) := by
  refine enterQ Try.func112 rfl Try.ntmps112 rfl fun Q hQ => ?_
  refine seqQ fun Q1 k1 z1 => ?_
  refine wp_region_lit ?_
  refine Y wn rfl (ya (v := hnil.v) rfl) ?_
  refine wpList_nil ?_
  refine k1 _ _ ?_
  refine seqQ fun Q2 k2 z2 => ?_
  refine wp_region_lit ?_
  refine Y wn rfl (ym (v := .func (.func 113) #[] #[.pointer (some ⟨b1, 0, none⟩)]) (et rfl rfl)) ?_
  obtain ⟨r4, gr4, hM⟩ := bs hM
  refine Yc wn rfl (yCall FN_115 (a2 rfl (et rfl rfl))) (colV_ok (hM := gr4) (hst := hst) (q1 := q1)) ?_
  clear hst
  rintro _ w ⟨h5, rfl, hst⟩
  refine ⟨_, rfl, ?_⟩
  refine Y wn rfl (ya (v := h5.v) (et rfl rfl)) ?_
  refine wpList_nil ?_
  refine k2 _ _ ?_
  refine wp_ret ?_
  obtain rfl := someI hM
  exact hQ _ _ _ (fin1r Try.results112 ⟨rfl, rfl⟩ ⟨_, rfl, (hst.pk 2 [1, 0] rfl)⟩)

theorem math_bits_Len64_ok {w0 : World} {ros : List Fact} {rs : List Res} {w : World} {x1 : Int} {out : Int} (hM : math_bits_Len64 x1 = some out) (hst : St w0 ros (rs) w) :
    Calls Try.prog 98 #[.int .u64 x1] w (fun e w => e = .returned (.int .i64 out) ∧ St w0 (ros) (rs) w) := by
  refine enterQ Try.func98 rfl Try.ntmps98 rfl fun Q hQ => ?_
  refine seqQ fun Q1 k1 z1 => ?_
  refine wp_region_lit ?_
  refine Y wn rfl (ya (v := .int .i64 0) rfl) ?_
  refine wpList_nil ?_
  refine k1 _ _ ?_
  refine seqQ fun Q2 k2 z2 => ?_
  refine seqQ fun Q3 k3 z3 => ?_
  refine wp_region_lit ?_
  refine Y wn rfl (ym (v := .int .u64 x1) (et rfl rfl)) ?_
  refine Y wn rfl (ygeq (et rfl rfl) rfl) ?_
  refine wpList_nil ?_
  refine k3 _ _ ?_
  have j1 : ∀ (x2 : Int) (x3 : Int) (f : Nat → Value) (w : World), f 0 = .int .u64 x2 → f 2 = .int .i64 x3 → St w0 (ros) (rs) w → math_bits_Len64_j1 x2 x3 = some out → Q2 .normal (fr 25 f) w := by
    intro x2 x3 f w ej1_0 ej1_2 hst hM
    refine k2 _ _ ?_
    refine seqQ fun Q5 k5 z5 => ?_
    refine seqQ fun Q6 k6 z6 => ?_
    refine wp_region_lit ?_
    refine Y wn rfl (ym (v := .int .u64 x2) (et rfl ej1_0)) ?_
    refine Y wn rfl (ygeq (et rfl rfl) rfl) ?_
    refine wpList_nil ?_
    refine k6 _ _ ?_
    have j2 : ∀ (x4 : Int) (x5 : Int) (f : Nat → Value) (w : World), f 0 = .int .u64 x4 → f 2 = .int .i64 x5 → St w0 (ros) (rs) w → math_bits_Len64_j2 x4 x5 = some out → Q5 .normal (fr 25 f) w := by
      intro x4 x5 f w ej2_0 ej2_2 hst hM
      refine k5 _ _ ?_
      refine seqQ fun Q8 k8 z8 => ?_
      refine seqQ fun Q9 k9 z9 => ?_
      refine wp_region_lit ?_
      refine Y wn rfl (ym (v := .int .u64 x4) (et rfl ej2_0)) ?_
      refine Y wn rfl (ygeq (et rfl rfl) rfl) ?_
      refine wpList_nil ?_
      refine k9 _ _ ?_
      have j3 : ∀ (x6 : Int) (x7 : Int) (f : Nat → Value) (w : World), f 0 = .int .u64 x6 → f 2 = .int .i64 x7 → St w0 (ros) (rs) w → math_bits_Len64_j3 x6 x7 = some out → Q8 .normal (fr 25 f) w := by
        intro x6 x7 f w ej3_0 ej3_2 hst hM
        refine k8 _ _ ?_
        refine seqQ fun Q11 k11 z11 => ?_
        refine wp_region_lit ?_
        refine Y wn rfl (ym (v := .int .i64 x7) (et rfl ej3_2)) ?_
        refine Y wn rfl (ym (v := .int .u64 x6) (et rfl ej3_0)) ?_
        refine Y wn rfl (ycv (k' := .u8) (by kernel_rfl) (by kernel_rfl) (et rfl rfl)) ?_
        obtain ⟨x8, gx8, hM⟩ := bs hM
        refine Y wn rfl (yixs (by kernel_rfl) rfl (et rfl rfl) (by kernel_rfl) gx8) ?_
        refine Y wn rfl (ycv (k' := .i64) (by kernel_rfl) (by kernel_rfl) (et rfl rfl)) ?_
        refine Y wn rfl (yadd (et rfl rfl) (et rfl rfl)) ?_
        refine Y wn rfl (ya (v := .int .i64 (wa .i64 x7 (wc .i64 x8))) (et rfl rfl)) ?_
        refine wpList_nil ?_
        refine k11 _ _ ?_
        refine wp_ret ?_
        obtain rfl := someI hM
        exact hQ _ _ _ (fin1r Try.results98 ⟨rfl, rfl⟩ ⟨rfl, hst⟩)
      rcases iteS hM with ⟨c9, hM⟩ | ⟨c9, hM⟩
      · refine condT (et rfl rfl) (decide_eq_true c9) ?_
        refine seqQ fun Q12 k12 z12 => ?_
        refine wp_region_lit ?_
        refine Y wn rfl (ym (v := .int .u64 x4) (et rfl ej2_0)) ?_
        refine Y wn rfl (yshrc (et rfl rfl) rfl) ?_
        refine Y wn rfl (ya (v := .int .u64 (wsrc .u64 x4 8)) (et rfl rfl)) ?_
        refine wpList_nil ?_
        refine k12 _ _ ?_
        refine wp_region_lit ?_
        refine Y wn rfl (ym (v := .int .i64 x5) (et rfl ej2_2)) ?_
        refine Y wn rfl (yadd (et rfl rfl) rfl) ?_
        refine Y wn rfl (ya (v := .int .i64 (wa .i64 x5 8)) (et rfl rfl)) ?_
        refine wpList_nil ?_
        exact j3 _ _ _ _ rfl rfl hst hM
      · refine condF (et rfl rfl) (decide_eq_false c9) ?_
        refine wp_skip ?_
        exact j3 _ _ _ _ ej2_0 ej2_2 hst hM
    rcases iteS hM with ⟨c10, hM⟩ | ⟨c10, hM⟩
    · refine condT (et rfl rfl) (decide_eq_true c10) ?_
      refine seqQ fun Q13 k13 z13 => ?_
      refine wp_region_lit ?_
      refine Y wn rfl (ym (v := .int .u64 x2) (et rfl ej1_0)) ?_
      refine Y wn rfl (yshrc (et rfl rfl) rfl) ?_
      refine Y wn rfl (ya (v := .int .u64 (wsrc .u64 x2 16)) (et rfl rfl)) ?_
      refine wpList_nil ?_
      refine k13 _ _ ?_
      refine wp_region_lit ?_
      refine Y wn rfl (ym (v := .int .i64 x3) (et rfl ej1_2)) ?_
      refine Y wn rfl (yadd (et rfl rfl) rfl) ?_
      refine Y wn rfl (ya (v := .int .i64 (wa .i64 x3 16)) (et rfl rfl)) ?_
      refine wpList_nil ?_
      exact j2 _ _ _ _ rfl rfl hst hM
    · refine condF (et rfl rfl) (decide_eq_false c10) ?_
      refine wp_skip ?_
      exact j2 _ _ _ _ ej1_0 ej1_2 hst hM
  rcases iteS hM with ⟨c11, hM⟩ | ⟨c11, hM⟩
  · refine condT (et rfl rfl) (decide_eq_true c11) ?_
    refine seqQ fun Q14 k14 z14 => ?_
    refine wp_region_lit ?_
    refine Y wn rfl (ym (v := .int .u64 x1) (et rfl rfl)) ?_
    refine Y wn rfl (yshrc (et rfl rfl) rfl) ?_
    refine Y wn rfl (ya (v := .int .u64 (wsrc .u64 x1 32)) (et rfl rfl)) ?_
    refine wpList_nil ?_
    refine k14 _ _ ?_
    refine wp_region_lit ?_
    refine Y wn rfl (ya (v := .int .i64 32) rfl) ?_
    refine wpList_nil ?_
    exact j1 _ _ _ _ rfl rfl hst hM
  · refine condF (et rfl rfl) (decide_eq_false c11) ?_
    refine wp_skip ?_
    exact j1 _ _ _ _ rfl rfl hst hM

theorem math_bits_Len_ok {w0 : World} {ros : List Fact} {rs : List Res} {w : World} {x1 : Int} {out : Int} (hM : math_bits_Len x1 = some out) (hst : St w0 ros (rs) w) :
    Calls Try.prog 75 #[.int .u64 x1] w (fun e w => e = .returned (.int .i64 out) ∧ St w0 (ros) (rs) w) := by
  refine enterQ Try.func75 rfl Try.ntmps75 rfl fun Q hQ => ?_
  refine seqQ fun Q1 k1 z1 => ?_
  refine wp_region_lit ?_
  refine Y wn rfl (ya (v := .int .i64 0) rfl) ?_
  refine wpList_nil ?_
  refine k1 _ _ ?_
  refine seqQ fun Q2 k2 z2 => ?_
  refine condF rfl rfl ?_
  refine wp_skip ?_
  refine k2 _ _ ?_
  refine seqQ fun Q3 k3 z3 => ?_
  refine wp_region_lit ?_
  refine Y wn rfl (ym (v := .int .u64 x1) (et rfl rfl)) ?_
  obtain ⟨r2, gr2, hM⟩ := bs hM
  refine Yc wn rfl (yCall FN_98 (a1 (et rfl rfl))) (math_bits_Len64_ok (hM := gr2) (hst := hst) ) ?_
  clear hst
  rintro _ w ⟨rfl, hst⟩
  refine ⟨_, rfl, ?_⟩
  refine Y wn rfl (ya (v := .int .i64 r2) (et rfl rfl)) ?_
  refine wpList_nil ?_
  refine k3 _ _ ?_
  refine wp_ret ?_
  obtain rfl := someI hM
  exact hQ _ _ _ (fin1r Try.results75 ⟨rfl, rfl⟩ ⟨rfl, hst⟩)

theorem slices_insertionSortOrdered_int_ok {w0 : World} {ros : List Fact} {rs : List Res} {w : World} {x1 : List Int} {x3 : Int} {x4 : Int} {h2 : Hdr} {out : (List Int)} (hM : slices_insertionSortOrdered_int x1 x3 x4 = some out) (hst : St w0 ros (row 3 (rI .i64) h2.v x1 :: rs) w) :
    Calls Try.prog 88 #[h2.v, .int .i64 x3, .int .i64 x4] w (fun e w => e = .returned (.tuple #[]) ∧ St w0 (ros) (row 3 (rI .i64) h2.v out :: rs) w) := by
  refine enterQ Try.func88 rfl Try.ntmps88 rfl fun Q hQ => ?_
  refine seqQ fun Q1 k1 z1 => ?_
  refine wp_region_lit ?_
  refine Y wn rfl (ym (v := .int .i64 x3) (et rfl rfl)) ?_
  refine Y wn rfl (yadd (et rfl rfl) rfl) ?_
  refine Y wn rfl (ya (v := .int .i64 (wa .i64 x3 1)) (et rfl rfl)) ?_
  refine wpList_nil ?_
  refine k1 _ _ ?_
  refine blockQ fun Q2 qb2 => ?_
  obtain ⟨o21, go21, hM⟩ := bs hM
  have je21_0 : ∀ (x87 : List Int) (f : Nat → Value) (w : World), St w0 (ros) (row 3 (rI .i64) h2.v x87 :: rs) w → x87 = o21 → Q2 (.exit 0) (fr 49 f) w := by
    intro x87 f w hst ho
    subst ho
    refine qb2 _ _ _ ?_
    obtain rfl := someI hM
    exact hQ _ _ _ (fin0n Try.results88 ⟨rfl, hst⟩)
  refine loopQ (fun s a w => ∃ (x44 : List Int) (x45 : Int) (f : Nat → Value), (x44, x45) = s ∧ a = fr 49 f ∧ f 0 = h2.v ∧ f 1 = .int .i64 x3 ∧ f 2 = .int .i64 x4 ∧ f 6 = .int .i64 x45 ∧ St w0 (ros) (row 3 (rI .i64) h2.v x44 :: rs) w) go21 ⟨_, _, _, rfl, rfl, rfl, rfl, rfl, rfl, hst⟩ ?_
  clear hst
  rintro _ _ w r21_ ⟨x44, x45, f, rfl, rfl, e21_0, e21_1, e21_2, e21_6, hst⟩ hM21 ho21 Q100021 n21 zz21
  refine seqQ fun Q39 k39 z39 => ?_
  refine seqQ fun Q40 k40 z40 => ?_
  refine wp_region_lit ?_
  refine Y wn rfl (ym (v := .int .i64 x45) (et rfl e21_6)) ?_
  refine Y wn rfl (ym (v := .int .i64 x4) (et rfl e21_2)) ?_
  refine Y wn rfl (ylss (et rfl rfl) (et rfl rfl)) ?_
  refine wpList_nil ?_
  refine k40 _ _ ?_
  rcases iteS hM21 with ⟨c88, hM21⟩ | ⟨c88, hM21⟩
  · refine condT (et rfl rfl) (decide_eq_true c88) ?_
    refine wp_skip ?_
    refine k39 _ _ ?_
    refine seqQ fun Q41 k41 z41 => ?_
    refine blockQ fun Q42 qb42 => ?_
    refine seqQ fun Q43 k43 z43 => ?_
    refine wp_region_lit ?_
    refine Y wn rfl (ym (v := .int .i64 x45) (et rfl e21_6)) ?_
    refine Y wn rfl (ya (v := .int .i64 x45) (et rfl rfl)) ?_
    refine wpList_nil ?_
    refine k43 _ _ ?_
    refine blockQ fun Q44 qb44 => ?_
    obtain ⟨o28, go28, hM21⟩ := bs hM21
    have je28_0 : ∀ (x115 : List Int) (f : Nat → Value) (w : World), f 0 = h2.v → f 1 = .int .i64 x3 → f 2 = .int .i64 x4 → f 6 = .int .i64 x45 → St w0 (ros) (row 3 (rI .i64) h2.v x115 :: rs) w → x115 = o28 → Q44 (.exit 2) (fr 49 f) w := by
      intro x115 f w eje28_0_0 eje28_0_1 eje28_0_2 eje28_0_6 hst ho
      subst ho
      refine qb44 _ _ _ ?_
      refine qb42 _ _ _ ?_
      refine k41 _ _ ?_
      refine wp_region_lit ?_
      refine Y wn rfl (ym (v := .int .i64 x45) (et rfl eje28_0_6)) ?_
      refine Y wn rfl (yadd (et rfl rfl) rfl) ?_
      refine Y wn rfl (ya (v := .int .i64 (wa .i64 x45 1)) (et rfl rfl)) ?_
      refine wpList_nil ?_
      obtain rfl := someI hM21
      exact n21 _ _ _ rfl ⟨_, _, _, rfl, rfl, eje28_0_0, eje28_0_1, eje28_0_2, rfl, hst⟩
    refine loopQ (fun s a w => ∃ (x100 : List Int) (x101 : Int) (f : Nat → Value), (x100, x101) = s ∧ a = fr 49 f ∧ f 0 = h2.v ∧ f 1 = .int .i64 x3 ∧ f 2 = .int .i64 x4 ∧ f 6 = .int .i64 x45 ∧ f 7 = .int .i64 x101 ∧ St w0 (ros) (row 3 (rI .i64) h2.v x100 :: rs) w) go28 ⟨_, _, _, rfl, rfl, e21_0, e21_1, e21_2, e21_6, rfl, hst⟩ ?_
    clear hst
    rintro _ _ w r28_ ⟨x100, x101, f, rfl, rfl, e28_0, e28_1, e28_2, e28_6, e28_7, hst⟩ hM28 ho28 Q100028 n28 zz28
    refine seqQ fun Q53 k53 z53 => ?_
    refine seqQ fun Q54 k54 z54 => ?_
    obtain ⟨r116, gr116, hM28⟩ := bs hM28
    refine joinN (n := 49) (fun f w => f 0 = h2.v ∧ f 1 = .int .i64 x3 ∧ f 2 = .int .i64 x4 ∧ f 6 = .int .i64 x45 ∧ f 7 = .int .i64 x101 ∧ f 30 = .bool r116 ∧ St w0 (ros) (row 3 (rI .i64) h2.v x100 :: rs) w) (fun j29 => ?_) ?_
    · rcases iteS gr116 with ⟨c118, gr116⟩ | ⟨c118, gr116⟩
      · obtain ⟨x119, gx119, gr116⟩ := bs gr116
        obtain ⟨x120, gx120, gr116⟩ := bs gr116
        obtain ⟨r121, gr121, gr116⟩ := bs gr116
        have hr30 := someI gr116
        refine wp_drawR [0, 0, 3, 7, 15, 15, 63, 127, 15, 15, 527, 1807, 3855, 8191, 16383] [13] 1 folM (by kernel_rfl) (by kernel_rfl) (by kernel_rfl) ?_
        replace hst := hst.drew
        refine DRn (l1 := [0, 1, 2, 3, 4, 5, 6, 7, 8, 9, 10, 11, 12]) (l2 := []) (lc := [13]) (by kernel_rfl) (by kernel_rfl) (by kernel_rfl) ?_
        refine Ry rfl rfl wn (ym (v := .int .i64 x101) (et rfl e28_7)) ?_
        refine Ry rfl rfl wn (ym (v := .int .i64 x3) (et rfl e28_1)) ?_
        refine Ry rfl rfl wn (ygtr (et rfl rfl) (et rfl rfl)) ?_
        refine Ry rfl rfl wn (ym (v := .bool (decide (x3 < x101))) (et rfl rfl)) ?_
        refine Ry rfl rfl (wg rfl rfl rfl (decide_eq_true c118)) (ym (v := h2.v) (et rfl e28_0)) ?_
        refine Ry rfl rfl (wg rfl rfl rfl (decide_eq_true c118)) (ym (v := .int .i64 x101) (et rfl e28_7)) ?_
        refine Ry rfl rfl (wg rfl rfl rfl (decide_eq_true c118)) (yIa SL_22 (et rfl rfl) (et rfl rfl) hst (rdO mhR) gx119) ?_
        refine Ry rfl rfl (wg rfl rfl rfl (decide_eq_true c118)) (yI O_3 (et rfl rfl) hst (rdO mhR) gx119) ?_
        refine Ry rfl rfl (wg rfl rfl rfl (decide_eq_true c118)) (ym (v := h2.v) (et rfl e28_0)) ?_
        refine Ry rfl rfl (wg rfl rfl rfl (decide_eq_true c118)) (ym (v := .int .i64 x101) (et rfl e28_7)) ?_
        refine Ry rfl rfl (wg rfl rfl rfl (decide_eq_true c118)) (ysub (et rfl rfl) rfl) ?_
        refine Ry rfl rfl (wg rfl rfl rfl (decide_eq_true c118)) (yIa SL_22 (et rfl rfl) (et rfl rfl) hst (rdO mhR) gx120) ?_
        refine Ry rfl rfl (wg rfl rfl rfl (decide_eq_true c118)) (yI O_3 (et rfl rfl) hst (rdO mhR) gx120) ?_
        refine Rn QSn ?_
        refine Lc rfl ?_ LAn
        refine Lk (wg rfl rfl rfl (decide_eq_true c118)) (yCall FN_94 (a2 (et rfl rfl) (et rfl rfl))) (cmp_Less_int_ok (hM := gr121) (hst := hst) ) ?_
        clear hst
        rintro _ w ⟨rfl, hst⟩
        refine ⟨_, rfl, ?_⟩
        refine DRz (l1 := [14]) (l2 := []) (by kernel_rfl) (by kernel_rfl) ?_
        refine Ry rfl rfl wn (ypt (v := .bool r116) (et rfl rfl) (decide_eq_true c118) (eqv hr30 (et rfl rfl))) ?_
        refine Rn QSn ?_
        exact j29 _ _ ⟨e28_0, e28_1, e28_2, e28_6, e28_7, rfl, hst⟩
      · have hr31 := someI gr116
        refine wp_drawR [0, 0, 3, 7, 15, 15, 63, 127, 15, 15, 527, 1807, 3855, 8191, 16383] [13] 1 folM (by kernel_rfl) (by kernel_rfl) (by kernel_rfl) ?_
        replace hst := hst.drew
        refine DRn (l1 := [0, 1, 2, 3, 4, 5, 6, 7, 8, 9, 10, 11, 12]) (l2 := []) (lc := [13]) (by kernel_rfl) (by kernel_rfl) (by kernel_rfl) ?_
        refine Ry rfl rfl wn (ym (v := .int .i64 x101) (et rfl e28_7)) ?_
        refine Ry rfl rfl wn (ym (v := .int .i64 x3) (et rfl e28_1)) ?_
        refine Ry rfl rfl wn (ygtr (et rfl rfl) (et rfl rfl)) ?_
        refine Ry rfl rfl wn (ym (v := .bool (decide (x3 < x101))) (et rfl rfl)) ?_
        refine Rx rfl rfl (wx rfl rfl rfl (decide_eq_false c118)) ?_
        refine Rx rfl rfl (wx rfl rfl rfl (decide_eq_false c118)) ?_
        refine Rx rfl rfl (wx rfl rfl rfl (decide_eq_false c118)) ?_
        refine Rx rfl rfl (wx rfl rfl rfl (decide_eq_false c118)) ?_
        refine Rx rfl rfl (wx rfl rfl rfl (decide_eq_false c118)) ?_
        refine Rx rfl rfl (wx rfl rfl rfl (decide_eq_false c118)) ?_
        refine Rx rfl rfl (wx rfl rfl rfl (decide_eq_false c118)) ?_
        refine Rx rfl rfl (wx rfl rfl rfl (decide_eq_false c118)) ?_
        refine Rx rfl rfl (wx rfl rfl rfl (decide_eq_false c118)) ?_
        refine Rn QSn ?_
        refine Lc rfl ?_ LAn
        refine Lx (wx rfl rfl rfl (decide_eq_false c118)) ?_
        refine DRz (l1 := [14]) (l2 := []) (by kernel_rfl) (by kernel_rfl) ?_
        refine Ry rfl rfl wn (ypf (v := .bool r116) (et rfl rfl) (decide_eq_false c118) (eqv hr31 rfl)) ?_
        refine Rn QSn ?_
        exact j29 _ _ ⟨e28_0, e28_1, e28_2, e28_6, e28_7, rfl, hst⟩
    clear hst
    rintro f w ⟨e117_0, e117_1, e117_2, e117_6, e117_7, e117_30, hst⟩
    refine k54 _ _ ?_
    rcases iteS hM28 with ⟨c122, hM28⟩ | ⟨c122, hM28⟩
    · refine condT (et rfl e117_30) c122 ?_
      refine wp_skip ?_
      refine k53 _ _ ?_
      refine seqQ fun Q55 k55 z55 => ?_
      refine blockQ fun Q56 qb56 => ?_
      obtain ⟨x123, gx123, hM28⟩ := bs hM28
      obtain ⟨x124, gx124, hM28⟩ := bs hM28
      obtain ⟨x125, gx125, hM28⟩ := bs hM28
      obtain ⟨x126, gx126, hM28⟩ := bs hM28
      refine wp_drawR [0, 0, 0, 0, 8, 0, 0, 64, 224, 480, 0, 0, 3072, 7168, 16355, 32739, 65535, 131071] [15, 17] 2 folM (by kernel_rfl) (by kernel_rfl) (by kernel_rfl) ?_
      replace hst := hst.drew
      refine DRn (l1 := [0, 1, 2, 3, 4, 5, 6, 7, 8, 9, 10, 11, 12, 13, 14]) (l2 := []) (lc := [15]) (by kernel_rfl) (by kernel_rfl) (by kernel_rfl) ?_
      refine Ry rfl rfl wn (ym (v := h2.v) (et rfl e117_0)) ?_
      refine Ry rfl rfl wn (ym (v := .int .i64 x101) (et rfl e117_7)) ?_
      refine Ry rfl rfl wn (ym (v := h2.v) (et rfl e117_0)) ?_
      refine Ry rfl rfl wn (ym (v := .int .i64 x101) (et rfl e117_7)) ?_
      refine Ry rfl rfl wn (ysub (et rfl rfl) rfl) ?_
      refine Ry rfl rfl wn (ym (v := h2.v) (et rfl e117_0)) ?_
      refine Ry rfl rfl wn (ym (v := .int .i64 x101) (et rfl e117_7)) ?_
      refine Ry rfl rfl wn (ysub (et rfl rfl) rfl) ?_
      refine Ry rfl rfl wn (yIa SL_22 (et rfl rfl) (et rfl rfl) hst (rdO mhR) gx123) ?_
      refine Ry rfl rfl wn (yI O_3 (et rfl rfl) hst (rdO mhR) gx123) ?_
      refine Ry rfl rfl wn (ym (v := h2.v) (et rfl e117_0)) ?_
      refine Ry rfl rfl wn (ym (v := .int .i64 x101) (et rfl e117_7)) ?_
      refine Ry rfl rfl wn (yIa SL_22 (et rfl rfl) (et rfl rfl) hst (rdO mhR) gx124) ?_
      refine Ry rfl rfl wn (yI O_3 (et rfl rfl) hst (rdO mhR) gx124) ?_
      refine Ry rfl rfl wn (yIs SL_22 (et rfl rfl) (et rfl rfl) hst (rdO mhR) gx125) ?_
      refine Rn QSn ?_
      refine Lc rfl ?_ LAn
      refine LT wn (r_sti (cs := [.int .i64 x123]) hst O_3 rfl (et rfl rfl) (et rfl rfl) rfl mkI gx125) ?_
      clear hst
      intro w hst
      refine DRn (l1 := [16]) (l2 := [2, 3, 4]) (lc := [17]) (by kernel_rfl) (by kernel_rfl) (by kernel_rfl) ?_
      refine Ry rfl rfl wn (yIs SL_22 (et rfl rfl) (et rfl rfl) hst (rdO mhR) gx126) ?_
      refine Rn (Sy rfl rfl wn (ym (v := h2.v) (et rfl e117_0)) rfl (Sy rfl rfl wn (ym (v := .int .i64 x101) (et rfl e117_7)) rfl (Sy rfl rfl wn (ysub (et rfl rfl) rfl) rfl QSn))) ?_
      refine Lc rfl ?_ LAn
      refine LT wn (r_sti (cs := [.int .i64 x124]) hst O_3 rfl (et rfl rfl) (et rfl rfl) rfl mkI gx126) ?_
      clear hst
      intro w hst
      refine DRz (l1 := []) (l2 := []) (by kernel_rfl) (by kernel_rfl) ?_
      refine Rn QSn ?_
      refine qb56 _ _ _ ?_
      refine k55 _ _ ?_
      refine wp_region_lit ?_
      refine Y wn rfl (ym (v := .int .i64 x101) (et rfl e117_7)) ?_
      refine Y wn rfl (ysub (et rfl rfl) rfl) ?_
      refine Y wn rfl (ya (v := .int .i64 (ws .i64 x101 1)) (et rfl rfl)) ?_
      refine wpList_nil ?_
      obtain rfl := someI hM28
      exact n28 _ _ _ rfl ⟨_, _, _, rfl, rfl, e117_0, e117_1, e117_2, e117_6, rfl, hst⟩
    · refine condF (et rfl e117_30) (bfalse c122) ?_
      refine wp_exit ?_
      refine z53 _ _ _ rfl ?_
      obtain rfl := someI hM28
      refine zz28 _ _ _ _ rfl rfl ?_
      exact je28_0 _ _ _ e117_0 e117_1 e117_2 e117_6 hst (ho28 _ rfl)
  · refine condF (et rfl rfl) (decide_eq_false c88) ?_
    refine wp_exit ?_
    refine z39 _ _ _ rfl ?_
    obtain rfl := someI hM21
    refine zz21 _ _ _ _ rfl rfl ?_
    exact je21_0 _ _ _ hst (ho21 _ rfl)

theorem slices_order2Ordered_int_ok {w0 : World} {ros : List Fact} {rs : List Res} {w : World} {x1 : List Int} {x3 : Int} {x4 : Int} {x6 : Int} {h2 : Hdr} {b5 : Nat} {out : Int × Int × Int} (hM : slices_order2Ordered_int x1 x3 x4 x6 = some out) (q1 : imm (rI .i64) h2.v x1 ∈ ros) (hst : St w0 ros (box b5 3 [.int .i64 x6] :: rs) w) :
    Calls Try.prog 114 #[h2.v, .int .i64 x3, .int .i64 x4, .pointer (some ⟨b5, 0, none⟩)] w (fun e w => e = .returned (.tuple #[.int .i64 out.2.1, .int .i64 out.2.2]) ∧ St w0 (ros) (box b5 3 [.int .i64 out.1] :: rs) w) := by
  refine enterQ Try.func114 rfl Try.ntmps114 rfl fun Q hQ => ?_
  refine seqQ fun Q1 k1 z1 => ?_
  refine wp_region_lit ?_
  refine Y wn rfl (ya (v := .int .i64 0) rfl) ?_
  refine Y wn rfl (ya (v := .int .i64 0) rfl) ?_
  refine wpList_nil ?_
  refine k1 _ _ ?_
  refine seqQ fun Q2 k2 z2 => ?_
  refine seqQ fun Q3 k3 z3 => ?_
  obtain ⟨x7, gx7, hM⟩ := bs hM
  obtain ⟨x8, gx8, hM⟩ := bs hM
  obtain ⟨r9, gr9, hM⟩ := bs hM
  refine wp_drawR [0, 0, 3, 7, 0, 0, 48, 112, 255] [8] 1 folM (by kernel_rfl) (by kernel_rfl) (by kernel_rfl) ?_
  replace hst := hst.drew
  refine DRn (l1 := [0, 1, 2, 3, 4, 5, 6, 7]) (l2 := []) (lc := [8]) (by kernel_rfl) (by kernel_rfl) (by kernel_rfl) ?_
  refine Ry rfl rfl wn (ym (v := h2.v) (et rfl rfl)) ?_
  refine Ry rfl rfl wn (ym (v := .int .i64 x4) (et rfl rfl)) ?_
  refine Ry rfl rfl wn (yIa SL_22 (et rfl rfl) (et rfl rfl) hst (rdI q1) gx7) ?_
  refine Ry rfl rfl wn (yI O_3 (et rfl rfl) hst (rdI q1) gx7) ?_
  refine Ry rfl rfl wn (ym (v := h2.v) (et rfl rfl)) ?_
  refine Ry rfl rfl wn (ym (v := .int .i64 x3) (et rfl rfl)) ?_
  refine Ry rfl rfl wn (yIa SL_22 (et rfl rfl) (et rfl rfl) hst (rdI q1) gx8) ?_
  refine Ry rfl rfl wn (yI O_3 (et rfl rfl) hst (rdI q1) gx8) ?_
  refine Rn QSn ?_
  refine Lc rfl ?_ LAn
  refine Lk wn (yCall FN_94 (a2 (et rfl rfl) (et rfl rfl))) (cmp_Less_int_ok (hM := gr9) (hst := hst) ) ?_
  clear hst
  rintro _ w ⟨rfl, hst⟩
  refine ⟨_, rfl, ?_⟩
  refine DRz (l1 := []) (l2 := []) (by kernel_rfl) (by kernel_rfl) ?_
  refine Rn QSn ?_
  refine k3 _ _ ?_
  rcases iteS hM with ⟨c10, hM⟩ | ⟨c10, hM⟩
  · refine condT (et rfl rfl) c10 ?_
    refine seqQ fun Q4 k4 z4 => ?_
    refine wp_region_lit ?_
    refine Y wn rfl (ym (v := .pointer (some ⟨b5, 0, none⟩)) (et rfl rfl)) ?_
    refine Y wn rfl (yn (et rfl rfl)) ?_
    refine Y wn rfl (yLb (u := .int .i64 x6) O_3 (et rfl rfl) hst mhR rfl) ?_
    refine Y wn rfl (yadd (et rfl rfl) rfl) ?_
    refine Y wn rfl (yn (et rfl rfl)) ?_
    refine YT wn rfl (r_stb1 (vals' := [.int .i64 (wa .i64 x6 1)]) hst O_3 (et rfl rfl) (et rfl rfl) rfl rfl rfl rfl) ?_
    clear hst
    intro w hst
    refine wpList_nil ?_
    refine k4 _ _ ?_
    refine seqQ fun Q5 k5 z5 => ?_
    refine wp_region_lit ?_
    refine Y wn rfl (ym (v := .int .i64 x4) (et rfl rfl)) ?_
    refine Y wn rfl (ym (v := .int .i64 x3) (et rfl rfl)) ?_
    refine Y wn rfl (ya (v := .int .i64 x4) (et rfl rfl)) ?_
    refine Y wn rfl (ya (v := .int .i64 x3) (et rfl rfl)) ?_
    refine wpList_nil ?_
    refine k5 _ _ ?_
    refine wp_ret ?_
    refine z2 _ _ _ rfl ?_
    obtain rfl := someI hM
    exact hQ _ _ _ (fin2r Try.results114 ⟨rfl, rfl⟩ ⟨rfl, rfl⟩ ⟨rfl, hst⟩)
  · refine condF (et rfl rfl) (bfalse c10) ?_
    refine wp_skip ?_
    refine k2 _ _ ?_
    refine seqQ fun Q6 k6 z6 => ?_
    refine wp_region_lit ?_
    refine Y wn rfl (ym (v := .int .i64 x3) (et rfl rfl)) ?_
    refine Y wn rfl (ym (v := .int .i64 x4) (et rfl rfl)) ?_
    refine Y wn rfl (ya (v := .int .i64 x3) (et rfl rfl)) ?_
    refine Y wn rfl (ya (v := .int .i64 x4) (et rfl rfl)) ?_
    refine wpList_nil ?_
    refine k6 _ _ ?_
    refine wp_ret ?_
    obtain rfl := someI hM
    exact hQ _ _ _ (fin2r Try.results114 ⟨rfl, rfl⟩ ⟨rfl, rfl⟩ ⟨rfl, hst⟩)

theorem slices_medianOrdered_int_ok {w0 : World} {ros : List Fact} {rs : List Res} {w : World} {x1 : List Int} {x3 : Int} {x4 : Int} {x5 : Int} {x7 : Int} {h2 : Hdr} {b6 : Nat} {out : Int × Int} (hM : slices_medianOrdered_int x1 x3 x4 x5 x7 = some out) (q1 : imm (rI .i64) h2.v x1 ∈ ros) (hst : St w0 ros (box b6 3 [.int .i64 x7] :: rs) w) :
    Calls Try.prog 110 #[h2.v, .int .i64 x3, .int .i64 x4, .int .i64 x5, .pointer (some ⟨b6, 0, none⟩)] w (fun e w => e = .returned (.int .i64 out.2) ∧ St w0 (ros) (box b6 3 [.int .i64 out.1] :: rs) w) := by
  refine enterQ Try.func110 rfl Try.ntmps110 rfl fun Q hQ => ?_
  refine seqQ fun Q1 k1 z1 => ?_
  refine wp_region_lit ?_
  refine Y wn rfl (ya (v := .int .i64 0) rfl) ?_
  refine wpList_nil ?_
  refine k1 _ _ ?_
  refine seqQ fun Q2 k2 z2 => ?_
  refine wp_region_lit ?_
  refine Y wn rfl (ym (v := h2.v) (et rfl rfl)) ?_
  refine Y wn rfl (ym (v := .int .i64 x3) (et rfl rfl)) ?_
  refine Y wn rfl (ym (v := .int .i64 x4) (et rfl rfl)) ?_
  refine Y wn rfl (ym (v := .pointer (some ⟨b6, 0, none⟩)) (et rfl rfl)) ?_
  obtain ⟨r8, gr8, hM⟩ := bs hM
  refine Yc wn rfl (yCall FN_114 (a4 (et rfl rfl) (et rfl rfl) (et rfl rfl) (et rfl rfl))) (slices_order2Ordered_int_ok (hM := gr8) (hst := hst) (q1 := q1)) ?_
  clear hst
  rintro _ w ⟨rfl, hst⟩
  refine ⟨_, rfl, ?_⟩
  refine Y wn rfl (ym (v := .tuple #[.int .i64 r8.2.1, .int .i64 r8.2.2]) (et rfl rfl)) ?_
  refine Y wn rfl (yx (v := .int .i64 r8.2.1) (et rfl rfl) rfl) ?_
  refine Y wn rfl (yx (v := .int .i64 r8.2.2) (et rfl rfl) rfl) ?_
  refine Y wn rfl (ya (v := .int .i64 r8.2.1) (et rfl rfl)) ?_
  refine Y wn rfl (ya (v := .int .i64 r8.2.2) (et rfl rfl)) ?_
  refine wpList_nil ?_
  refine k2 _ _ ?_
  refine seqQ fun Q3 k3 z3 => ?_
  refine wp_region_lit ?_
  refine Y wn rfl (ym (v := h2.v) (et rfl rfl)) ?_
  refine Y wn rfl (ym (v := .int .i64 r8.2.2) (et rfl rfl)) ?_
  refine Y wn rfl (ym (v := .int .i64 x5) (et rfl rfl)) ?_
  refine Y wn rfl (ym (v := .pointer (some ⟨b6, 0, none⟩)) (et rfl rfl)) ?_
  obtain ⟨r9, gr9, hM⟩ := bs hM
  refine Yc wn rfl (yCall FN_114 (a4 (et rfl rfl) (et rfl rfl) (et rfl rfl) (et rfl rfl))) (slices_order2Ordered_int_ok (hM := gr9) (hst := hst) (q1 := q1)) ?_
  clear hst
  rintro _ w ⟨rfl, hst⟩
  refine ⟨_, rfl, ?_⟩
  refine Y wn rfl (ym (v := .tuple #[.int .i64 r9.2.1, .int .i64 r9.2.2]) (et rfl rfl)) ?_
  refine Y wn rfl (yx (v := .int .i64 r9.2.1) (et rfl rfl) rfl) ?_
  refine Y wn rfl (yx (v := .int .i64 r9.2.2) (et rfl rfl) rfl) ?_
  refine Y wn rfl (ya (v := .int .i64 r9.2.1) (et rfl rfl)) ?_
  refine Y wn rfl (ya (v := .int .i64 r9.2.2) (et rfl rfl)) ?_
  refine wpList_nil ?_
  refine k3 _ _ ?_
  refine seqQ fun Q4 k4 z4 => ?_
  refine wp_region_lit ?_
  refine Y wn rfl (ym (v := h2.v) (et rfl rfl)) ?_
  refine Y wn rfl (ym (v := .int .i64 r8.2.1) (et rfl rfl)) ?_
  refine Y wn rfl (ym (v := .int .i64 r9.2.1) (et rfl rfl)) ?_
  refine Y wn rfl (ym (v := .pointer (some ⟨b6, 0, none⟩)) (et rfl rfl)) ?_
  obtain ⟨r10, gr10, hM⟩ := bs hM
  refine Yc wn rfl (yCall FN_114 (a4 (et rfl rfl) (et rfl rfl) (et rfl rfl) (et rfl rfl))) (slices_order2Ordered_int_ok (hM := gr10) (hst := hst) (q1 := q1)) ?_
  clear hst
  rintro _ w ⟨rfl, hst⟩
  refine ⟨_, rfl, ?_⟩
  refine Y wn rfl (ym (v := .tuple #[.int .i64 r10.2.1, .int .i64 r10.2.2]) (et rfl rfl)) ?_
  refine Y wn rfl (yx (v := .int .i64 r10.2.1) (et rfl rfl) rfl) ?_
  refine Y wn rfl (yx (v := .int .i64 r10.2.2) (et rfl rfl) rfl) ?_
  refine Y wn rfl (ya (v := .int .i64 r10.2.1) (et rfl rfl)) ?_
  refine Y wn rfl (ya (v := .int .i64 r10.2.2) (et rfl rfl)) ?_
  refine wpList_nil ?_
  refine k4 _ _ ?_
  refine seqQ fun Q5 k5 z5 => ?_
  refine wp_region_lit ?_
  refine Y wn rfl (ym (v := .int .i64 r10.2.2) (et rfl rfl)) ?_
  refine Y wn rfl (ya (v := .int .i64 r10.2.2) (et rfl rfl)) ?_
  refine wpList_nil ?_
  refine k5 _ _ ?_
  refine wp_ret ?_
  obtain rfl := someI hM
  exact hQ _ _ _ (fin1r Try.results110 ⟨rfl, rfl⟩ ⟨rfl, hst⟩)

theorem slices_medianAdjacentOrdered_int_ok {w0 : World} {ros : List Fact} {rs : List Res} {w : World} {x1 : List Int} {x3 : Int} {x5 : Int} {h2 : Hdr} {b4 : Nat} {out : Int × Int} (hM : slices_medianAdjacentOrdered_int x1 x3 x5 = some out) (q1 : imm (rI .i64) h2.v x1 ∈ ros) (hst : St w0 ros (box b4 3 [.int .i64 x5] :: rs) w) :
    Calls Try.prog 109 #[h2.v, .int .i64 x3, .pointer (some ⟨b4, 0, none⟩)] w (fun e w => e = .returned (.int .i64 out.2) ∧ St w0 (ros) (box b4 3 [.int .i64 out.1] :: rs) w) := by
  refine enterQ Try.func109 rfl Try.ntmps109 rfl fun Q hQ => ?_
  refine seqQ fun Q1 k1 z1 => ?_
  refine wp_region_lit ?_
  refine Y wn rfl (ya (v := .int .i64 0) rfl) ?_
  refine wpList_nil ?_
  refine k1 _ _ ?_
  refine seqQ fun Q2 k2 z2 => ?_
  refine wp_region_lit ?_
  refine Y wn rfl (ym (v := h2.v) (et rfl rfl)) ?_
  refine Y wn rfl (ym (v := .int .i64 x3) (et rfl rfl)) ?_
  refine Y wn rfl (ysub (et rfl rfl) rfl) ?_
  refine Y wn rfl (ym (v := .int .i64 x3) (et rfl rfl)) ?_
  refine Y wn rfl (ym (v := .int .i64 x3) (et rfl rfl)) ?_
  refine Y wn rfl (yadd (et rfl rfl) rfl) ?_
  refine Y wn rfl (ym (v := .pointer (some ⟨b4, 0, none⟩)) (et rfl rfl)) ?_
  obtain ⟨r6, gr6, hM⟩ := bs hM
  refine Yc wn rfl (yCall FN_110 (a5 (et rfl rfl) (et rfl rfl) (et rfl rfl) (et rfl rfl) (et rfl rfl))) (slices_medianOrdered_int_ok (hM := gr6) (hst := hst) (q1 := q1)) ?_
  clear hst
  rintro _ w ⟨rfl, hst⟩
  refine ⟨_, rfl, ?_⟩
  refine Y wn rfl (ya (v := .int .i64 r6.2) (et rfl rfl)) ?_
  refine wpList_nil ?_
  refine k2 _ _ ?_
  refine wp_ret ?_
  obtain rfl := someI hM
  exact hQ _ _ _ (fin1r Try.results109 ⟨rfl, rfl⟩ ⟨rfl, hst⟩)

theorem slices_choosePivotOrdered_int_ok {w0 : World} {ros : List Fact} {rs : List Res} {w : World} {x1 : List Int} {x3 : Int} {x4 : Int} {h2 : Hdr} {out : Int × Int} (hM : slices_choosePivotOrdered_int x1 x3 x4 = some out) (q1 : imm (rI .i64) h2.v x1 ∈ ros) (hst : St w0 ros (rs) w) :
    Calls Try.prog 91 #[h2.v, .int .i64 x3, .int .i64 x4] w (fun e w => e = .returned (.tuple #[.int .i64 out.1, .int .i64 out.2]) ∧ St w0 (ros) (rs) w) := by
  refine enterQ Try.func91 rfl Try.ntmps91 rfl fun Q hQ => ?_
  refine seqQ fun Q1 k1 z1 => ?_
  refine wp_region_lit ?_
  refine Y wn rfl (ya (v := .int .i64 0) rfl) ?_
  refine Y wn rfl (ya (v := .int .i64 0) rfl) ?_
  refine wpList_nil ?_
  refine k1 _ _ ?_
  refine seqQ fun Q2 k2 z2 => ?_
  refine wp_region_lit ?_
  refine Y wn rfl (ym (v := .int .i64 x4) (et rfl rfl)) ?_
  refine Y wn rfl (ym (v := .int .i64 x3) (et rfl rfl)) ?_
  refine Y wn rfl (ysub (et rfl rfl) (et rfl rfl)) ?_
  refine Y wn rfl (ya (v := .int .i64 (ws .i64 x4 x3)) (et rfl rfl)) ?_
  refine wpList_nil ?_
  refine k2 _ _ ?_
  refine seqQ fun Q3 k3 z3 => ?_
  refine wp_region_lit ?_
  refine YB wn rfl (rAl hst ZT_3) ?_
  clear hst
  intro b5 w hst
  refine wpList_nil ?_
  refine k3 _ _ ?_
  refine seqQ fun Q4 k4 z4 => ?_
  refine wp_region_lit ?_
  refine Y wn rfl (ym (v := .int .i64 x3) (et rfl rfl)) ?_
  refine Y wn rfl (ym (v := .int .i64 (ws .i64 x4 x3)) (et rfl rfl)) ?_
  refine Y wn rfl (yquoc (et rfl rfl) rfl (by decide)) ?_
  refine Y wn rfl (ymul (et rfl rfl) rfl) ?_
  refine Y wn rfl (yadd (et rfl rfl) (et rfl rfl)) ?_
  refine Y wn rfl (ya (v := .int .i64 (wa .i64 x3 (wm .i64 (wqc .i64 (ws .i64 x4 x3) 4) 1))) (et rfl rfl)) ?_
  refine wpList_nil ?_
  refine k4 _ _ ?_
  refine seqQ fun Q5 k5 z5 => ?_
  refine wp_region_lit ?_
  refine Y wn rfl (ym (v := .int .i64 x3) (et rfl rfl)) ?_
  refine Y wn rfl (ym (v := .int .i64 (ws .i64 x4 x3)) (et rfl rfl)) ?_
  refine Y wn rfl (yquoc (et rfl rfl) rfl (by decide)) ?_
  refine Y wn rfl (ymul (et rfl rfl) rfl) ?_
  refine Y wn rfl (yadd (et rfl rfl) (et rfl rfl)) ?_
  refine Y wn rfl (ya (v := .int .i64 (wa .i64 x3 (wm .i64 (wqc .i64 (ws .i64 x4 x3) 4) 2))) (et rfl rfl)) ?_
  refine wpList_nil ?_
  refine k5 _ _ ?_
  refine seqQ fun Q6 k6 z6 => ?_
  refine wp_region_lit ?_
  refine Y wn rfl (ym (v := .int .i64 x3) (et rfl rfl)) ?_
  refine Y wn rfl (ym (v := .int .i64 (ws .i64 x4 x3)) (et rfl rfl)) ?_
  refine Y wn rfl (yquoc (et rfl rfl) rfl (by decide)) ?_
  refine Y wn rfl (ymul (et rfl rfl) rfl) ?_
  refine Y wn rfl (yadd (et rfl rfl) (et rfl rfl)) ?_
  refine Y wn rfl (ya (v := .int .i64 (wa .i64 x3 (wm .i64 (wqc .i64 (ws .i64 x4 x3) 4) 3))) (et rfl rfl)) ?_
  refine wpList_nil ?_
  refine k6 _ _ ?_
  refine seqQ fun Q7 k7 z7 => ?_
  refine seqQ fun Q8 k8 z8 => ?_
  refine wp_region_lit ?_
  refine Y wn rfl (ym (v := .int .i64 (ws .i64 x4 x3)) (et rfl rfl)) ?_
  refine Y wn rfl (ygeq (et rfl rfl) rfl) ?_
  refine wpList_nil ?_
  refine k8 _ _ ?_
  have j2 : ∀ (x18 : Int) (x19 : Int) (f : Nat → Value) (w : World), f 9 = .pointer (some ⟨b5, 0, none⟩) → f 11 = .int .i64 x19 → St w0 (ros) (box b5 3 [.int .i64 x18] :: rs) w → slices_choosePivotOrdered_int_j2 x18 x19 = some out → Q7 .normal (fr 57 f) w := by
    intro x18 x19 f w ej2_9 ej2_11 hst hM
    refine k7 _ _ ?_
    refine seqQ fun Q15 k15 z15 => ?_
    refine wp_region_lit ?_
    refine Y wn rfl (yLb (u := .int .i64 x18) O_3 (et rfl ej2_9) hst mhR rfl) ?_
    refine wpList_nil ?_
    refine k15 _ _ ?_
    refine blockQ fun Q16 qb16 => ?_
    refine seqQ fun Q17 k17 z17 => ?_
    refine wp_region_lit ?_
    refine Y wn rfl (yeql (et rfl rfl) rfl) ?_
    refine Y wn rfl (ya (v := .bool (decide (x18 = 0))) (et rfl rfl)) ?_
    refine wpList_nil ?_
    refine k17 _ _ ?_
    rcases iteS hM with ⟨c20, hM⟩ | ⟨c20, hM⟩
    · refine condT (et rfl rfl) (decide_eq_true c20) ?_
      refine seqQ fun Q18 k18 z18 => ?_
      refine wp_region_lit ?_
      refine Y wn rfl (ym (v := .int .i64 x19) (et rfl ej2_11)) ?_
      refine Y wn rfl (ya (v := .int .i64 x19) (et rfl rfl)) ?_
      refine Y wn rfl (ya (v := .int .i64 1) rfl) ?_
      refine wpList_nil ?_
      refine k18 _ _ ?_
      refine wp_ret ?_
      refine qb16 _ _ _ ?_
      obtain rfl := someI hM
      exact hQ _ _ _ (fin2r Try.results91 ⟨rfl, rfl⟩ ⟨rfl, rfl⟩ ⟨rfl, (hst.pk 1 [] rfl)⟩)
    · refine condF (et rfl rfl) (decide_eq_false c20) ?_
      refine seqQ fun Q19 k19 z19 => ?_
      refine wp_region_lit ?_
      refine Y wn rfl (yeql (et rfl rfl) rfl) ?_
      refine Y wn rfl (ya (v := .bool (decide (x18 = 12))) (et rfl rfl)) ?_
      refine wpList_nil ?_
      refine k19 _ _ ?_
      rcases iteS hM with ⟨c21, hM⟩ | ⟨c21, hM⟩
      · refine condT (et rfl rfl) (decide_eq_true c21) ?_
        refine seqQ fun Q20 k20 z20 => ?_
        refine wp_region_lit ?_
        refine Y wn rfl (ym (v := .int .i64 x19) (et rfl ej2_11)) ?_
        refine Y wn rfl (ya (v := .int .i64 x19) (et rfl rfl)) ?_
        refine Y wn rfl (ya (v := .int .i64 2) rfl) ?_
        refine wpList_nil ?_
        refine k20 _ _ ?_
        refine wp_ret ?_
        refine qb16 _ _ _ ?_
        obtain rfl := someI hM
        exact hQ _ _ _ (fin2r Try.results91 ⟨rfl, rfl⟩ ⟨rfl, rfl⟩ ⟨rfl, (hst.pk 1 [] rfl)⟩)
      · refine condF (et rfl rfl) (decide_eq_false c21) ?_
        refine seqQ fun Q21 k21 z21 => ?_
        refine wp_region_lit ?_
        refine Y wn rfl (ym (v := .int .i64 x19) (et rfl ej2_11)) ?_
        refine Y wn rfl (ya (v := .int .i64 x19) (et rfl rfl)) ?_
        refine Y wn rfl (ya (v := .int .i64 0) rfl) ?_
        refine wpList_nil ?_
        refine k21 _ _ ?_
        refine wp_ret ?_
        refine qb16 _ _ _ ?_
        obtain rfl := someI hM
        exact hQ _ _ _ (fin2r Try.results91 ⟨rfl, rfl⟩ ⟨rfl, rfl⟩ ⟨rfl, (hst.pk 1 [] rfl)⟩)
  rcases iteS hM with ⟨c22, hM⟩ | ⟨c22, hM⟩
  · refine condT (et rfl rfl) (decide_eq_true c22) ?_
    refine seqQ fun Q22 k22 z22 => ?_
    refine seqQ fun Q23 k23 z23 => ?_
    refine wp_region_lit ?_
    refine Y wn rfl (ym (v := .int .i64 (ws .i64 x4 x3)) (et rfl rfl)) ?_
    refine Y wn rfl (ygeq (et rfl rfl) rfl) ?_
    refine wpList_nil ?_
    refine k23 _ _ ?_
    have j3 : ∀ (x26 : Int) (x27 : Int) (x28 : Int) (x29 : Int) (f : Nat → Value) (w : World), f 0 = h2.v → f 9 = .pointer (some ⟨b5, 0, none⟩) → f 10 = .int .i64 x27 → f 11 = .int .i64 x28 → f 12 = .int .i64 x29 → St w0 (ros) (box b5 3 [.int .i64 x26] :: rs) w → slices_choosePivotOrdered_int_j3 x1 x26 x27 x28 x29 = some out → Q22 .normal (fr 57 f) w := by
      intro x26 x27 x28 x29 f w ej3_0 ej3_9 ej3_10 ej3_11 ej3_12 hst hM
      refine k22 _ _ ?_
      refine wp_region_lit ?_
      refine Y wn rfl (ym (v := h2.v) (et rfl ej3_0)) ?_
      refine Y wn rfl (ym (v := .int .i64 x27) (et rfl ej3_10)) ?_
      refine Y wn rfl (ym (v := .int .i64 x28) (et rfl ej3_11)) ?_
      refine Y wn rfl (ym (v := .int .i64 x29) (et rfl ej3_12)) ?_
      obtain ⟨r30, gr30, hM⟩ := bs hM
      refine Yc wn rfl (yCall FN_110 (a5 (et rfl rfl) (et rfl rfl) (et rfl rfl) (et rfl rfl) (et rfl ej3_9))) (slices_medianOrdered_int_ok (hM := gr30) (hst := hst) (q1 := q1)) ?_
      clear hst
      rintro _ w ⟨rfl, hst⟩
      refine ⟨_, rfl, ?_⟩
      refine Y wn rfl (ya (v := .int .i64 r30.2) (et rfl rfl)) ?_
      refine wpList_nil ?_
      exact j2 _ _ _ _ ej3_9 rfl hst hM
    rcases iteS hM with ⟨c31, hM⟩ | ⟨c31, hM⟩
    · refine condT (et rfl rfl) (decide_eq_true c31) ?_
      refine seqQ fun Q26 k26 z26 => ?_
      refine wp_region_lit ?_
      refine Y wn rfl (ym (v := h2.v) (et rfl rfl)) ?_
      refine Y wn rfl (ym (v := .int .i64 (wa .i64 x3 (wm .i64 (wqc .i64 (ws .i64 x4 x3) 4) 1))) (et rfl rfl)) ?_
      obtain ⟨r32, gr32, hM⟩ := bs hM
      refine Yc wn rfl (yCall FN_109 (a3 (et rfl rfl) (et rfl rfl) (et rfl rfl))) (slices_medianAdjacentOrdered_int_ok (hM := gr32) (hst := hst) (q1 := q1)) ?_
      clear hst
      rintro _ w ⟨rfl, hst⟩
      refine ⟨_, rfl, ?_⟩
      refine Y wn rfl (ya (v := .int .i64 r32.2) (et rfl rfl)) ?_
      refine wpList_nil ?_
      refine k26 _ _ ?_
      refine seqQ fun Q27 k27 z27 => ?_
      refine wp_region_lit ?_
      refine Y wn rfl (ym (v := h2.v) (et rfl rfl)) ?_
      refine Y wn rfl (ym (v := .int .i64 (wa .i64 x3 (wm .i64 (wqc .i64 (ws .i64 x4 x3) 4) 2))) (et rfl rfl)) ?_
      obtain ⟨r33, gr33, hM⟩ := bs hM
      refine Yc wn rfl (yCall FN_109 (a3 (et rfl rfl) (et rfl rfl) (et rfl rfl))) (slices_medianAdjacentOrdered_int_ok (hM := gr33) (hst := hst) (q1 := q1)) ?_
      clear hst
      rintro _ w ⟨rfl, hst⟩
      refine ⟨_, rfl, ?_⟩
      refine Y wn rfl (ya (v := .int .i64 r33.2) (et rfl rfl)) ?_
      refine wpList_nil ?_
      refine k27 _ _ ?_
      refine wp_region_lit ?_
      refine Y wn rfl (ym (v := h2.v) (et rfl rfl)) ?_
      refine Y wn rfl (ym (v := .int .i64 (wa .i64 x3 (wm .i64 (wqc .i64 (ws .i64 x4 x3) 4) 3))) (et rfl rfl)) ?_
      obtain ⟨r34, gr34, hM⟩ := bs hM
      refine Yc wn rfl (yCall FN_109 (a3 (et rfl rfl) (et rfl rfl) (et rfl rfl))) (slices_medianAdjacentOrdered_int_ok (hM := gr34) (hst := hst) (q1 := q1)) ?_
      clear hst
      rintro _ w ⟨rfl, hst⟩
      refine ⟨_, rfl, ?_⟩
      refine Y wn rfl (ya (v := .int .i64 r34.2) (et rfl rfl)) ?_
      refine wpList_nil ?_
      exact j3 _ _ _ _ _ _ rfl rfl rfl rfl rfl hst hM
    · refine condF (et rfl rfl) (decide_eq_false c31) ?_
      refine wp_skip ?_
      exact j3 _ _ _ _ _ _ rfl rfl rfl rfl rfl hst hM
  · refine condF (et rfl rfl) (decide_eq_false c22) ?_
    refine wp_skip ?_
    exact j2 _ _ _ _ rfl rfl hst hM

theorem slices_pdqsortOrdered_int_ok {w0 : World} {ros : List Fact} {rs : List Res} {w : World} {x1 : List Int} {x3 : Int} {x4 : Int} {x5 : Int} {h2 : Hdr} {out : (List Int)} (hM : slices_pdqsortOrdered_int x1 x3 x4 x5 = some out) (hst : St w0 ros (row 3 (rI .i64) h2.v x1 :: rs) w) :
    Calls Try.prog 74 #[h2.v, .int .i64 x3, .int .i64 x4, .int .i64 x5] w (fun e w => e = .returned (.tuple #[]) ∧ St w0 (ros) (row 3 (rI .i64) h2.v out :: rs) w) := by
  refine enterQ Try.func74 rfl Try.ntmps74 rfl fun Q hQ => ?_
  refine seqQ fun Q1 k1 z1 => ?_
  refine wp_region_lit ?_
  refine Y wn rfl (ya (v := .bool true) rfl) ?_
  refine wpList_nil ?_
  refine k1 _ _ ?_
  refine seqQ fun Q2 k2 z2 => ?_
  refine wp_region_lit ?_
  refine Y wn rfl (ya (v := .bool true) rfl) ?_
  refine wpList_nil ?_
  refine k2 _ _ ?_
  refine blockQ fun Q3 qb3 => ?_
  obtain ⟨o11, go11, hM⟩ := bs hM
  have je11_0 : ∀ (x32 : List Int) (f : Nat → Value) (w : World), St w0 (ros) (row 3 (rI .i64) h2.v x32 :: rs) w → x32 = o11 → Q3 .ret (fr 134 f) w := by
    intro x32 f w hst ho
    subst ho
    refine qb3 _ _ _ ?_
    obtain rfl := someI hM
    exact hQ _ _ _ (fin0r Try.results74 ⟨rfl, hst⟩)
  refine loopQ (fun s a w => ∃ (f : Nat → Value), () = s ∧ a = fr 134 f ∧ f 0 = h2.v ∧ f 1 = .int .i64 x3 ∧ f 2 = .int .i64 x4 ∧ f 3 = .int .i64 x5 ∧ f 8 = .bool true ∧ f 9 = .bool true ∧ St w0 (ros) (row 3 (rI .i64) h2.v x1 :: rs) w) go11 ⟨_, rfl, rfl, rfl, rfl, rfl, rfl, rfl, rfl, hst⟩ ?_
  clear hst
  rintro _ _ w r11_ ⟨f, rfl, rfl, e11_0, e11_1, e11_2, e11_3, e11_8, e11_9, hst⟩ hM11 ho11 Q100011 n11 zz11
  refine blockQ fun Q61 qb61 => ?_
  refine seqQ fun Q62 k62 z62 => ?_
  refine wp_region_lit ?_
  refine Y wn rfl (ym (v := .int .i64 x4) (et rfl e11_2)) ?_
  refine Y wn rfl (ym (v := .int .i64 x3) (et rfl e11_1)) ?_
  refine Y wn rfl (ysub (et rfl rfl) (et rfl rfl)) ?_
  refine Y wn rfl (ya (v := .int .i64 (ws .i64 x4 x3)) (et rfl rfl)) ?_
  refine wpList_nil ?_
  refine k62 _ _ ?_
  refine seqQ fun Q63 k63 z63 => ?_
  refine seqQ fun Q64 k64 z64 => ?_
  refine wp_region_lit ?_
  refine Y wn rfl (ym (v := .int .i64 (ws .i64 x4 x3)) (et rfl rfl)) ?_
  refine Y wn rfl (yleq (et rfl rfl) rfl) ?_
  refine wpList_nil ?_
  refine k64 _ _ ?_
  rcases iteS hM11 with ⟨c36, hM11⟩ | ⟨c36, hM11⟩
  · refine condT (et rfl rfl) (decide_eq_true c36) ?_
    refine seqQ fun Q65 k65 z65 => ?_
    refine wp_region_lit ?_
    refine Y wn rfl (ym (v := h2.v) (et rfl e11_0)) ?_
    refine Y wn rfl (ym (v := .int .i64 x3) (et rfl e11_1)) ?_
    refine Y wn rfl (ym (v := .int .i64 x4) (et rfl e11_2)) ?_
    obtain ⟨r37, gr37, hM11⟩ := bs hM11
    refine Yc wn rfl (yCall FN_88 (a3 (et rfl rfl) (et rfl rfl) (et rfl rfl))) (slices_insertionSortOrdered_int_ok (hM := gr37) (hst := hst) ) ?_
    clear hst
    rintro _ w ⟨rfl, hst⟩
    refine ⟨_, rfl, ?_⟩
    refine wpList_nil ?_
    refine k65 _ _ ?_
    refine wp_ret ?_
    refine z63 _ _ _ rfl ?_
    refine qb61 _ _ _ ?_
    obtain rfl := someI hM11
    refine zz11 _ _ _ _ rfl rfl ?_
    exact je11_0 _ _ _ hst (ho11 _ rfl)
  · refine condF (et rfl rfl) (decide_eq_false c36) ?_
    refine wp_skip ?_
    refine k63 _ _ ?_
    refine seqQ fun Q66 k66 z66 => ?_
    refine seqQ fun Q67 k67 z67 => ?_
    refine wp_region_lit ?_
    refine Y wn rfl (ym (v := .int .i64 x5) (et rfl e11_3)) ?_
    refine Y wn rfl (yeql (et rfl rfl) rfl) ?_
    refine wpList_nil ?_
    refine k67 _ _ ?_
    rcases iteS hM11 with ⟨c38, hM11⟩ | ⟨c38, hM11⟩
    · refine condT (et rfl rfl) (decide_eq_true c38) ?_
      cases hM11
    · refine condF (et rfl rfl) (decide_eq_false c38) ?_
      cases hM11

theorem slices_Sort_int_ok {w0 : World} {ros : List Fact} {rs : List Res} {w : World} {x1 : List Int} {h2 : Hdr} {out : (List Int)} (hM : slices_Sort_int x1 = some out) (hst : St w0 ros (row 3 (rI .i64) h2.v x1 :: rs) w) :
    Calls Try.prog 55 #[h2.v] w (fun e w => e = .returned (.tuple #[]) ∧ St w0 (ros) (row 3 (rI .i64) h2.v out :: rs) w) := by
  refine enterQ Try.func55 rfl Try.ntmps55 rfl fun Q hQ => ?_
  refine seqQ fun Q1 k1 z1 => ?_
  refine wp_region_lit ?_
  refine Y wn rfl (ym (v := h2.v) (et rfl rfl)) ?_
  refine Y wn rfl (yLen SL_22 (et rfl rfl) hst (rdO mhR)) ?_
  refine Y wn rfl (ya (v := .int .i64 (x1.length : Int)) (et rfl rfl)) ?_
  refine wpList_nil ?_
  refine k1 _ _ ?_
  refine wp_region_lit ?_
  refine Y wn rfl (ym (v := h2.v) (et rfl rfl)) ?_
  refine Y wn rfl (ym (v := .int .i64 (x1.length : Int)) (et rfl rfl)) ?_
  refine Y wn rfl (ym (v := .int .i64 (x1.length : Int)) (et rfl rfl)) ?_
  refine Y wn rfl (ycv (k' := .u64) (by kernel_rfl) (by kernel_rfl) (et rfl rfl)) ?_
  obtain ⟨r3, gr3, hM⟩ := bs hM
  refine Yc wn rfl (yCall FN_75 (a1 (et rfl rfl))) (math_bits_Len_ok (hM := gr3) (hst := hst) ) ?_
  clear hst
  rintro _ w ⟨rfl, hst⟩
  refine ⟨_, rfl, ?_⟩
  obtain ⟨r4, gr4, hM⟩ := bs hM
  refine Yc wn rfl (yCall FN_74 (a4 (et rfl rfl) rfl (et rfl rfl) (et rfl rfl))) (slices_pdqsortOrdered_int_ok (hM := gr4) (hst := hst) ) ?_
  clear hst
  rintro _ w ⟨rfl, hst⟩
  refine ⟨_, rfl, ?_⟩
  refine wpList_nil ?_
  obtain rfl := someI hM
  exact hQ _ _ _ (fin0n Try.results55 ⟨rfl, hst⟩)

theorem slices_Sorted_int_ok {w0 : World} {ros : List Fact} {rs : List Res} {w : World} {x2 : List Int} {b1 : Nat} {h3 : Hdr} {out : (List Int)} (hM : slices_Sorted_int x2 = some out) (q1 : imm (rI .i64) h3.v x2 ∈ ros) (hst : St w0 ros (box b1 22 [h3.v] :: rs) w) :
    Calls Try.prog 101 #[.func (.func 113) #[] #[.pointer (some ⟨b1, 0, none⟩)]] w (fun e w => ∃ (h100001 : Hdr), e = .returned (h100001.v) ∧ St w0 (ros) (box b1 22 [h3.v] :: row 3 (rI .i64) h100001.v out :: rs) w) := by
  refine enterQ Try.func101 rfl Try.ntmps101 rfl fun Q hQ => ?_
  refine seqQ fun Q1 k1 z1 => ?_
  refine wp_region_lit ?_
  refine Y wn rfl (ya (v := hnil.v) rfl) ?_
  refine wpList_nil ?_
  refine k1 _ _ ?_
  refine seqQ fun Q2 k2 z2 => ?_
  refine wp_region_lit ?_
  refine Y wn rfl (ym (v := .func (.func 113) #[] #[.pointer (some ⟨b1, 0, none⟩)]) (et rfl rfl)) ?_
  obtain ⟨r4, gr4, hM⟩ := bs hM
  refine Yc wn rfl (yCall FN_112 (a1 (et rfl rfl))) (slices_Collect_int_ok (hM := gr4) (hst := hst) (q1 := q1)) ?_
  clear hst
  rintro _ w ⟨h5, rfl, hst⟩
  refine ⟨_, rfl, ?_⟩
  refine Y wn rfl (ya (v := h5.v) (et rfl rfl)) ?_
  refine wpList_nil ?_
  refine k2 _ _ ?_
  refine seqQ fun Q3 k3 z3 => ?_
  refine wp_region_lit ?_
  refine Y wn rfl (ym (v := h5.v) (et rfl rfl)) ?_
  obtain ⟨r6, gr6, hM⟩ := bs hM
  replace hst := hst.pk 2 [1, 0] rfl
  refine Yc wn rfl (yCall FN_55 (a1 (et rfl rfl))) (slices_Sort_int_ok (hM := gr6) (hst := hst) ) ?_
  clear hst
  rintro _ w ⟨rfl, hst⟩
  refine ⟨_, rfl, ?_⟩
  refine wpList_nil ?_
  refine k3 _ _ ?_
  refine seqQ fun Q4 k4 z4 => ?_
  refine wp_region_lit ?_
  refine Y wn rfl (ym (v := h5.v) (et rfl rfl)) ?_
  refine Y wn rfl (ya (v := h5.v) (et rfl rfl)) ?_
  refine wpList_nil ?_
  refine k4 _ _ ?_
  refine wp_ret ?_
  obtain rfl := someI hM
  exact hQ _ _ _ (fin1r Try.results101 ⟨rfl, rfl⟩ ⟨_, rfl, (hst.pk 2 [1, 0] rfl)⟩)
end Go.Proofs.Ytoelidgkfpmgnaa
