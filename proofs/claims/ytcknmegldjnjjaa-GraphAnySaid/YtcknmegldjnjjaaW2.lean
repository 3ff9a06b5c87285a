/- Walks: each function computes its model, printed. -/
import Derived.Test.YtcknmegldjnjjaaW1
namespace Go.Proofs.Ytcknmegldjnjjaa
open Go Sx M
set_option maxRecDepth 100000
set_option maxHeartbeats 400000
set_option linter.unusedVariables false
attribute [local irreducible] wpList Code.wp Calls DR QR QS LA LS St
theorem slices_IndexFunc_int_ok {w0 : World} {ros : List Fact} {rs : List Res} {w : World} {x1 : List Int} {x4 : List (List Int)} {h2 : Hdr} {b3 : Nat} {h5 : Hdr} {out : Int} (hM : slices_IndexFunc_int x1 x4 = some out) (q1 : imm (rI .i64) h2.v x1 ∈ ros) (q2 : imm (rS (rI .i64)) h5.v x4 ∈ ros) (hst : St w0 ros (box b3 27 [h5.v] :: rs) w) :
    Calls Try.prog 67 #[h2.v, .func (.func 64) #[] #[.pointer (some ⟨b3, 0, none⟩)]] w (fun e w => e = .returned (.int .i64 out) ∧ St w0 (ros) (box b3 27 [h5.v] :: rs) w) := by
  refine enterQ Try.func67 rfl Try.ntmps67 rfl fun Q hQ => ?_
  refine seqQ fun Q1 k1 z1 => ?_
  refine wp_region_lit ?_
  refine Y wn rfl (ya (v := .int .i64 0) rfl) ?_
  refine wpList_nil ?_
  refine k1 _ _ ?_
  refine seqQ fun Q2 k2 z2 => ?_
  refine seqQ fun Q3 k3 z3 => ?_
  refine wp_region_lit ?_
  refine Y wn rfl (ym (v := h2.v) (et rfl rfl)) ?_
  refine Y wn rfl (yLen SL_22 (et rfl rfl) hst (rdI q1)) ?_
  refine Y wn rfl (ym (v := .int .i64 0) rfl) ?_
  refine wpList_nil ?_
  refine k3 _ _ ?_
  refine blockQ fun Q4 qb4 => ?_
  obtain ⟨o1, go1, hM⟩ := bs hM
  have je1_0 : ∀ (f : Nat → Value) (w : World), St w0 (ros) (box b3 27 [h5.v] :: rs) w → .inl () = o1 → Q4 (.exit 0) (fr 19 f) w := by
    intro f w hst ho
    subst ho
    refine qb4 _ _ _ ?_
    refine k2 _ _ ?_
    refine seqQ fun Q19 k19 z19 => ?_
    refine wp_region_lit ?_
    refine Y wn rfl (ya (v := .int .i64 (-1)) rfl) ?_
    refine wpList_nil ?_
    refine k19 _ _ ?_
    refine wp_ret ?_
    obtain rfl := someI hM
    exact hQ _ _ _ (fin1r Try.results67 ⟨rfl, rfl⟩ ⟨rfl, hst⟩)
  have je1_1 : ∀ (x16 : Int) (f : Nat → Value) (w : World), f 4 = .int .i64 x16 → St w0 (ros) (box b3 27 [h5.v] :: rs) w → .inr x16 = o1 → Q4 .ret (fr 19 f) w := by
    intro x16 f w eje1_1_4 hst ho
    subst ho
    refine qb4 _ _ _ ?_
    refine z2 _ _ _ rfl ?_
    obtain rfl := someI hM
    exact hQ _ _ _ (fin1r Try.results67 ⟨rfl, eje1_1_4⟩ ⟨rfl, hst⟩)
  refine loopQ (fun s a w => ∃ (x10 : Int) (f : Nat → Value), x10 = s ∧ a = fr 19 f ∧ f 0 = h2.v ∧ f 1 = .func (.func 64) #[] #[.pointer (some ⟨b3, 0, none⟩)] ∧ f 7 = .int .i64 (x1.length : Int) ∧ f 8 = .int .i64 x10 ∧ St w0 (ros) (box b3 27 [h5.v] :: rs) w) go1 ⟨_, _, rfl, rfl, rfl, rfl, rfl, rfl, hst⟩ ?_
  clear hst
  rintro _ _ w r1_ ⟨x10, f, rfl, rfl, e1_0, e1_1, e1_7, e1_8, hst⟩ hM1 ho1 Q100001 n1 zz1
  refine seqQ fun Q20 k20 z20 => ?_
  refine wp_region_lit ?_
  refine Y wn rfl (ylss (et rfl e1_8) (et rfl e1_7)) ?_
  refine wpList_nil ?_
  refine k20 _ _ ?_
  refine seqQ fun Q21 k21 z21 => ?_
  rcases iteS hM1 with ⟨c17, hM1⟩ | ⟨c17, hM1⟩
  · refine condT (et rfl rfl) (decide_eq_true c17) ?_
    refine wp_skip ?_
    refine k21 _ _ ?_
    refine seqQ fun Q22 k22 z22 => ?_
    refine blockQ fun Q23 qb23 => ?_
    refine seqQ fun Q24 k24 z24 => ?_
    refine wp_region_lit ?_
    refine Y wn rfl (ym (v := .int .i64 x10) (et rfl e1_8)) ?_
    refine Y wn rfl (ya (v := .int .i64 x10) (et rfl rfl)) ?_
    refine wpList_nil ?_
    refine k24 _ _ ?_
    refine seqQ fun Q25 k25 z25 => ?_
    refine wp_region_lit ?_
    refine Y wn rfl (ym (v := .func (.func 64) #[] #[.pointer (some ⟨b3, 0, none⟩)]) (et rfl e1_1)) ?_
    refine Y wn rfl (ym (v := h2.v) (et rfl e1_0)) ?_
    refine Y wn rfl (ym (v := .int .i64 x10) (et rfl rfl)) ?_
    obtain ⟨x18, gx18, hM1⟩ := bs hM1
    refine Y wn rfl (yIa SL_22 (et rfl rfl) (et rfl rfl) hst (rdI q1) gx18) ?_
    refine Y wn rfl (yI O_3 (et rfl rfl) hst (rdI q1) gx18) ?_
    obtain ⟨r19, gr19, hM1⟩ := bs hM1
    refine Yc wn rfl (yCallw FN_64 (et rfl rfl) (a1 (et rfl rfl))) (graph_Permuted_1_ok (hM := gr19) (hst := hst) (q1 := q2)) ?_
    clear hst
    rintro _ w ⟨rfl, hst⟩
    refine ⟨_, rfl, ?_⟩
    refine wpList_nil ?_
    refine k25 _ _ ?_
    rcases iteS hM1 with ⟨c20, hM1⟩ | ⟨c20, hM1⟩
    · refine condT (et rfl rfl) c20 ?_
      refine seqQ fun Q26 k26 z26 => ?_
      refine wp_region_lit ?_
      refine Y wn rfl (ym (v := .int .i64 x10) (et rfl rfl)) ?_
      refine Y wn rfl (ya (v := .int .i64 x10) (et rfl rfl)) ?_
      refine wpList_nil ?_
      refine k26 _ _ ?_
      refine wp_ret ?_
      refine qb23 _ _ _ ?_
      refine z22 _ _ _ rfl ?_
      obtain rfl := someI hM1
      refine zz1 _ _ _ _ rfl rfl ?_
      exact je1_1 _ _ _ rfl hst (ho1 _ rfl)
    · refine condF (et rfl rfl) (bfalse c20) ?_
      refine wp_skip ?_
      refine qb23 _ _ _ ?_
      refine k22 _ _ ?_
      refine wp_region_lit ?_
      refine Y wn rfl (yadd (et rfl e1_8) rfl) ?_
      refine Y wn rfl (ym (v := .int .i64 (wa .i64 x10 1)) (et rfl rfl)) ?_
      refine wpList_nil ?_
      obtain rfl := someI hM1
      exact n1 _ _ _ rfl ⟨_, _, rfl, rfl, e1_0, e1_1, e1_7, rfl, hst⟩
  · refine condF (et rfl rfl) (decide_eq_false c17) ?_
    refine wp_exit ?_
    refine z21 _ _ _ rfl ?_
    obtain rfl := someI hM1
    refine zz1 _ _ _ _ rfl rfl ?_
    exact je1_0 _ _ hst (ho1 _ rfl)

theorem slices_ContainsFunc_int_ok {w0 : World} {ros : List Fact} {rs : List Res} {w : World} {x1 : List Int} {x4 : List (List Int)} {h2 : Hdr} {b3 : Nat} {h5 : Hdr} {out : Bool} (hM : slices_ContainsFunc_int x1 x4 = some out) (q1 : imm (rI .i64) h2.v x1 ∈ ros) (q2 : imm (rS (rI .i64)) h5.v x4 ∈ ros) (hst : St w0 ros (box b3 27 [h5.v] :: rs) w) :
    Calls Try.prog 47 #[h2.v, .func (.func 64) #[] #[.pointer (some ⟨b3, 0, none⟩)]] w (fun e w => e = .returned (.bool out) ∧ St w0 (ros) (box b3 27 [h5.v] :: rs) w) := by
  refine enterQ Try.func47 rfl Try.ntmps47 rfl fun Q hQ => ?_
  refine seqQ fun Q1 k1 z1 => ?_
  refine wp_region_lit ?_
  refine Y wn rfl (ya (v := .bool false) rfl) ?_
  refine wpList_nil ?_
  refine k1 _ _ ?_
  refine seqQ fun Q2 k2 z2 => ?_
  refine wp_region_lit ?_
  refine Y wn rfl (ym (v := h2.v) (et rfl rfl)) ?_
  refine Y wn rfl (ym (v := .func (.func 64) #[] #[.pointer (some ⟨b3, 0, none⟩)]) (et rfl rfl)) ?_
  obtain ⟨r6, gr6, hM⟩ := bs hM
  refine Yc wn rfl (yCall FN_67 (a2 (et rfl rfl) (et rfl rfl))) (slices_IndexFunc_int_ok (hM := gr6) (hst := hst) (q1 := q1) (q2 := q2)) ?_
  clear hst
  rintro _ w ⟨rfl, hst⟩
  refine ⟨_, rfl, ?_⟩
  refine Y wn rfl (ygeq (et rfl rfl) rfl) ?_
  refine Y wn rfl (ya (v := .bool (decide ((0 : Int) ≤ r6))) (et rfl rfl)) ?_
  refine wpList_nil ?_
  refine k2 _ _ ?_
  refine wp_ret ?_
  obtain rfl := someI hM
  exact hQ _ _ _ (fin1r Try.results47 ⟨rfl, rfl⟩ ⟨rfl, hst⟩)

theorem slices_Values_int_ok {w0 : World} {ros : List Fact} {rs : List Res} {w : World} {x1 : List Int} {h2 : Hdr} {out : Unit} (hM : slices_Values_int x1 = some out) (q1 : imm (rI .i64) h2.v x1 ∈ ros) (hst : St w0 ros (rs) w) :
    Calls Try.prog 70 #[h2.v] w (fun e w => ∃ (b100001 : Nat), e = .returned (.func (.func 92) #[] #[.pointer (some ⟨b100001, 0, none⟩)]) ∧ St w0 (ros) (box b100001 22 [h2.v] :: rs) w) := by
  refine enterQ Try.func70 rfl Try.ntmps70 rfl fun Q hQ => ?_
  refine seqQ fun Q1 k1 z1 => ?_
  refine wp_region_lit ?_
  refine YB wn rfl (r_box (vals := [h2.v]) hst (et rfl rfl) rfl) ?_
  clear hst
  intro b3 w hst
  refine Y wn rfl (ya (v := .nilFunc) rfl) ?_
  refine wpList_nil ?_
  refine k1 _ _ ?_
  refine seqQ fun Q2 k2 z2 => ?_
  refine wp_region_lit ?_
  refine Y wn rfl (ymf (vf := #[]) (vc := #[.pointer (some ⟨b3, 0, none⟩)]) a0 (a1 (et rfl rfl))) ?_
  refine Y wn rfl (ya (v := .func (.func 92) #[] #[.pointer (some ⟨b3, 0, none⟩)]) (et rfl rfl)) ?_
  refine wpList_nil ?_
  refine k2 _ _ ?_
  refine wp_ret ?_
  obtain rfl := someI hM
  exact hQ _ _ _ (fin1r Try.results70 ⟨rfl, rfl⟩ ⟨_, rfl, hst⟩)

theorem slices_Collect_int_ok {w0 : World} {ros : List Fact} {rs : List Res} {w : World} {x2 : List Int} {b1 : Nat} {h3 : Hdr} {out : (List Int)} (hM : slices_Collect_int x2 = some out) (q1 : imm (rI .i64) h3.v x2 ∈ ros) (hst : St w0 ros (box b1 22 [h3.v] :: rs) w) :
    Calls Try.prog 91 #[.func (.func 92) #[] #[.pointer (some ⟨b1, 0, none⟩)]] w (fun e w => ∃ (h100001 : Hdr), e = .returned (h100001.v) ∧ St w0 (ros) (box b1 22 [h3.v] :: row 3 (rI .i64) h100001.v out :: rs) w) := by
  refine enterQ Try.func91 rfl Try.ntmps91 rfl fun Q hQ => ?_
  refine seqQ fun Q1 k1 z1 => ?_
  refine wp_region_lit ?_
  refine Y wn rfl (ya (v := hnil.v) rfl) ?_
  refine wpList_nil ?_
  refine k1 _ _ ?_
  refine seqQ fun Q2 k2 z2 => ?_
  refine wp_region_lit ?_
  refine Y wn rfl (ym (v := .func (.func 92) #[] #[.pointer (some ⟨b1, 0, none⟩)]) (et rfl rfl)) ?_
  obtain ⟨r4, gr4, hM⟩ := bs hM
  refine Yc wn rfl (yCall FN_103 (a2 rfl (et rfl rfl))) (colV_ok (hM := gr4) (hst := hst) (q1 := q1)) ?_
  clear hst
  rintro _ w ⟨h5, rfl, hst⟩
  refine ⟨_, rfl, ?_⟩
  refine Y wn rfl (ya (v := h5.v) (et rfl rfl)) ?_
  refine wpList_nil ?_
  refine k2 _ _ ?_
  refine wp_ret ?_
  obtain rfl := someI hM
  exact hQ _ _ _ (fin1r Try.results91 ⟨rfl, rfl⟩ ⟨_, rfl, (hst.pk 2 [1, 0] rfl)⟩)

theorem slices_Sorted_int_ok {w0 : World} {ros : List Fact} {rs : List Res} {w : World} {x2 : List Int} {b1 : Nat} {h3 : Hdr} {out : (List Int)} (hM : slices_Sorted_int x2 = some out) (q1 : imm (rI .i64) h3.v x2 ∈ ros) (hst : St w0 ros (box b1 22 [h3.v] :: rs) w) :
    Calls Try.prog 69 #[.func (.func 92) #[] #[.pointer (some ⟨b1, 0, none⟩)]] w (fun e w => ∃ (h100001 : Hdr), e = .returned (h100001.v) ∧ St w0 (ros) (box b1 22 [h3.v] :: row 3 (rI .i64) h100001.v out :: rs) w) := by
  refine enterQ Try.func69 rfl Try.ntmps69 rfl fun Q hQ => ?_
  refine seqQ fun Q1 k1 z1 => ?_
  refine wp_region_lit ?_
  refine Y wn rfl (ya (v := hnil.v) rfl) ?_
  refine wpList_nil ?_
  refine k1 _ _ ?_
  refine seqQ fun Q2 k2 z2 => ?_
  refine wp_region_lit ?_
  refine Y wn rfl (ym (v := .func (.func 92) #[] #[.pointer (some ⟨b1, 0, none⟩)]) (et rfl rfl)) ?_
  obtain ⟨r4, gr4, hM⟩ := bs hM
  refine Yc wn rfl (yCall FN_91 (a1 (et rfl rfl))) (slices_Collect_int_ok (hM := gr4) (hst := hst) (q1 := q1)) ?_
  clear hst
  rintro _ w ⟨h5, rfl, hst⟩
  refine ⟨_, rfl, ?_⟩
  refine Y wn rfl (ya (v := h5.v) (et rfl rfl)) ?_
  refine wpList_nil ?_
  refine k2 _ _ ?_
  refine seqQ fun Q3 k3 z3 => ?_
  refine wp_region_lit ?_
  refine Y wn rfl (ym (v := h5.v) (et rfl rfl)) ?_
  obtain ⟨r6, gr6, hM⟩ := bs hM
  replace hst := hst.pk 2 [1, 0] rfl
  refine Yc wn rfl (yCall FN_40 (a1 (et rfl rfl))) (sortI_ok (hM := gr6) (hst := hst) ) ?_
  clear hst
  rintro _ w ⟨rfl, hst⟩
  refine ⟨_, rfl, ?_⟩
  refine wpList_nil ?_
  refine k3 _ _ ?_
  refine seqQ fun Q4 k4 z4 => ?_
  refine wp_region_lit ?_
  refine Y wn rfl (ym (v := h5.v) (et rfl rfl)) ?_
  refine Y wn rfl (ya (v := h5.v) (et rfl rfl)) ?_
  refine wpList_nil ?_
  refine k4 _ _ ?_
  refine wp_ret ?_
  obtain rfl := someI hM
  exact hQ _ _ _ (fin1r Try.results69 ⟨rfl, rfl⟩ ⟨_, rfl, (hst.pk 2 [1, 0] rfl)⟩)

theorem graph_twice_ok {w0 : World} {ros : List Fact} {rs : List Res} {w : World} {x1 : List Int} {h2 : Hdr} {out : Bool} (hM : graph_twice x1 = some out) (q1 : imm (rI .i64) h2.v x1 ∈ ros) (hst : St w0 ros (rs) w) :
    Calls Try.prog 49 #[h2.v] w (fun e w => e = .returned (.bool out) ∧ St w0 (ros) (rs) w) := by
  refine enterQ Try.func49 rfl Try.ntmps49 rfl fun Q hQ => ?_
  refine seqQ fun Q1 k1 z1 => ?_
  refine wp_region_lit ?_
  refine Y wn rfl (ya (v := .bool false) rfl) ?_
  refine wpList_nil ?_
  refine k1 _ _ ?_
  refine seqQ fun Q2 k2 z2 => ?_
  refine wp_region_lit ?_
  refine Y wn rfl (ym (v := h2.v) (et rfl rfl)) ?_
  obtain ⟨r3, gr3, hM⟩ := bs hM
  refine Yc wn rfl (yCall FN_70 (a1 (et rfl rfl))) (slices_Values_int_ok (hM := gr3) (hst := hst) (q1 := q1)) ?_
  clear hst
  rintro _ w ⟨b4, rfl, hst⟩
  refine ⟨_, rfl, ?_⟩
  obtain ⟨r5, gr5, hM⟩ := bs hM
  refine Yc wn rfl (yCall FN_69 (a1 (et rfl rfl))) (slices_Sorted_int_ok (hM := gr5) (hst := hst) (q1 := q1)) ?_
  clear hst
  rintro _ w ⟨h6, rfl, hst⟩
  refine ⟨_, rfl, ?_⟩
  obtain ⟨r7, gr7, hM⟩ := bs hM
  replace hst := hst.pk 2 [1, 0] rfl
  refine Yc wn rfl (yCall FN_68 (a1 (et rfl rfl))) (compactI_ok (hM := gr7) (hst := hst) ) ?_
  clear hst
  rintro _ w ⟨h8, rfl, hst⟩
  refine ⟨_, rfl, ?_⟩
  refine Y wn rfl (yLen SL_22 (et rfl rfl) hst (rdO mhR)) ?_
  refine Y wn rfl (ym (v := h2.v) (et rfl rfl)) ?_
  refine Y wn rfl (yLen SL_22 (et rfl rfl) hst (rdI q1)) ?_
  refine Y wn rfl (ylss (et rfl rfl) (et rfl rfl)) ?_
  refine Y wn rfl (ya (v := .bool (decide ((r7.length : Int) < (x1.length : Int)))) (et rfl rfl)) ?_
  refine wpList_nil ?_
  refine k2 _ _ ?_
  refine wp_ret ?_
  obtain rfl := someI hM
  exact hQ _ _ _ (fin1r Try.results49 ⟨rfl, rfl⟩ ⟨rfl, (hst.pk 2 [] rfl)⟩)

theorem graph_Permuted_ok {w0 : World} {ros : List Fact} {rs : List Res} {w : World} {x1 : List (List Int)} {x3 : List Int} {h2 : Hdr} {h4 : Hdr} {out : Int} (hM : graph_Permuted x1 x3 = some out) (q1 : imm (rS (rI .i64)) h2.v x1 ∈ ros) (q2 : imm (rI .i64) h4.v x3 ∈ ros) (hst : St w0 ros (rs) w) :
    Calls Try.prog 41 #[.agg #[h2.v], h4.v] w (fun e w => e = .returned (.int .i64 out) ∧ St w0 (ros) (rs) w) := by
  refine enterQ Try.func41 rfl Try.ntmps41 rfl fun Q hQ => ?_
  refine seqQ fun Q1 k1 z1 => ?_
  refine wp_region_lit ?_
  refine YB wn rfl (r_box (vals := [h2.v]) hst (et rfl rfl) rfl) ?_
  clear hst
  intro b5 w hst
  refine Y wn rfl (ya (v := .int .i64 0) rfl) ?_
  refine wpList_nil ?_
  refine k1 _ _ ?_
  refine seqQ fun Q2 k2 z2 => ?_
  refine wp_region_lit ?_
  refine Y wn rfl (yLbs (us := [h2.v]) ST_27 (et rfl rfl) hst mhR rfl rfl) ?_
  obtain ⟨r6, gr6, hM⟩ := bs hM
  refine Yc wn rfl (yCall FN_22 (a1 (et rfl rfl))) (graph_Check_ok (hM := gr6) (hst := hst) (q1 := q1)) ?_
  clear hst
  rintro _ w ⟨rfl, hst⟩
  refine ⟨_, rfl, ?_⟩
  refine Y wn rfl (ya (v := .int .i64 r6) (et rfl rfl)) ?_
  refine wpList_nil ?_
  refine k2 _ _ ?_
  refine seqQ fun Q3 k3 z3 => ?_
  refine blockQ fun Q4 qb4 => ?_
  refine seqQ fun Q5 k5 z5 => ?_
  refine wp_region_lit ?_
  refine Y wn rfl (ym (v := .int .i64 r6) (et rfl rfl)) ?_
  refine Y wn rfl (yneq (et rfl rfl) rfl) ?_
  refine Y wn rfl (ya (v := .bool (!(decide (r6 = 0)))) (et rfl rfl)) ?_
  refine wpList_nil ?_
  refine k5 _ _ ?_
  rcases iteS hM with ⟨c7, hM⟩ | ⟨c7, hM⟩
  · refine condF (et rfl rfl) (nF (decide_eq_true c7)) ?_
    refine seqQ fun Q6 k6 z6 => ?_
    refine wp_region_lit ?_
    refine Y wn rfl (ym (v := h4.v) (et rfl rfl)) ?_
    refine Y wn rfl (yLen SL_22 (et rfl rfl) hst (rdI q2)) ?_
    refine Y wn rfl (yFb FL_27_0 (et rfl rfl)) ?_
    refine Y wn rfl (yLb (u := h2.v) O_25 (et rfl rfl) hst mhR rfl) ?_
    refine Y wn rfl (yLen SL_25 (et rfl rfl) hst (rdI q1)) ?_
    refine Y wn rfl (yneq (et rfl rfl) (et rfl rfl)) ?_
    refine Y wn rfl (ya (v := .bool (!(decide ((x3.length : Int) = (x1.length : Int))))) (et rfl rfl)) ?_
    refine wpList_nil ?_
    refine k6 _ _ ?_
    rcases iteS hM with ⟨c8, hM⟩ | ⟨c8, hM⟩
    · refine condF (et rfl rfl) (nF (decide_eq_true c8)) ?_
      refine seqQ fun Q7 k7 z7 => ?_
      refine wp_region_lit ?_
      refine Y wn rfl (ym (v := h4.v) (et rfl rfl)) ?_
      refine Y wn rfl (ymf (vf := #[]) (vc := #[.pointer (some ⟨b5, 0, none⟩)]) a0 (a1 (et rfl rfl))) ?_
      obtain ⟨r9, gr9, hM⟩ := bs hM
      refine Yc wn rfl (yCall FN_47 (a2 (et rfl rfl) (et rfl rfl))) (slices_ContainsFunc_int_ok (hM := gr9) (hst := hst) (q1 := q2) (q2 := q1)) ?_
      clear hst
      rintro _ w ⟨rfl, hst⟩
      refine ⟨_, rfl, ?_⟩
      refine Y wn rfl (ym (v := .bool r9) (et rfl rfl)) ?_
      obtain ⟨r11, gr11, hM⟩ := bs hM
      refine joinW 3 (fun f w => f 26 = .bool r11 ∧ St w0 (ros) (rs) w) (fun j1 => ?_) ?_
      · rcases iteS gr11 with ⟨c13, gr11⟩ | ⟨c13, gr11⟩
        · refine Gn (wx rfl rfl rfl c13) rfl ?_
          refine Gn (wx rfl rfl rfl c13) rfl ?_
          refine Y wn rfl (ypt (v := .bool true) (et rfl rfl) c13 rfl) ?_
          obtain rfl := someI gr11
          exact j1 _ _ ⟨rfl, (hst.pk 1 [] rfl)⟩
        · refine Y (wg rfl rfl rfl (bfalse c13)) rfl (ym (v := h4.v) (et rfl rfl)) ?_
          obtain ⟨r14, gr14, gr11⟩ := bs gr11
          refine Yc (wg rfl rfl rfl (bfalse c13)) rfl (yCall FN_49 (a1 (et rfl rfl))) (graph_twice_ok (hM := gr14) (hst := hst) (q1 := q2)) ?_
          clear hst
          rintro _ w ⟨rfl, hst⟩
          refine ⟨_, rfl, ?_⟩
          refine Y wn rfl (ypf (v := .bool r14) (et rfl rfl) (bfalse c13) (et rfl rfl)) ?_
          obtain rfl := someI gr11
          exact j1 _ _ ⟨rfl, (hst.pk 1 [] rfl)⟩
      clear hst
      rintro f w ⟨e12_26, hst⟩
      refine Y wn rfl (ya (v := .bool r11) (et rfl e12_26)) ?_
      refine wpList_nil ?_
      refine k7 _ _ ?_
      rcases iteS hM with ⟨c15, hM⟩ | ⟨c15, hM⟩
      · refine condT (et rfl rfl) c15 ?_
        refine seqQ fun Q8 k8 z8 => ?_
        refine wp_region_lit ?_
        refine Y wn rfl (ya (v := .int .i64 90) rfl) ?_
        refine wpList_nil ?_
        refine k8 _ _ ?_
        refine wp_ret ?_
        refine qb4 _ _ _ ?_
        refine z3 _ _ _ rfl ?_
        obtain rfl := someI hM
        exact hQ _ _ _ (fin1r Try.results41 ⟨rfl, rfl⟩ ⟨rfl, hst⟩)
      · refine condF (et rfl rfl) (bfalse c15) ?_
        refine wp_skip ?_
        refine qb4 _ _ _ ?_
        refine k3 _ _ ?_
        refine seqQ fun Q9 k9 z9 => ?_
        refine wp_region_lit ?_
        refine Y wn rfl (ya (v := .int .i64 0) rfl) ?_
        refine wpList_nil ?_
        refine k9 _ _ ?_
        refine wp_ret ?_
        obtain rfl := someI hM
        exact hQ _ _ _ (fin1r Try.results41 ⟨rfl, rfl⟩ ⟨rfl, hst⟩)
    · refine condT (et rfl rfl) (nT (decide_eq_false c8)) ?_
      refine seqQ fun Q10 k10 z10 => ?_
      refine wp_region_lit ?_
      refine Y wn rfl (ya (v := .int .i64 2) rfl) ?_
      refine wpList_nil ?_
      refine k10 _ _ ?_
      refine wp_ret ?_
      refine qb4 _ _ _ ?_
      refine z3 _ _ _ rfl ?_
      obtain rfl := someI hM
      exact hQ _ _ _ (fin1r Try.results41 ⟨rfl, rfl⟩ ⟨rfl, (hst.pk 1 [] rfl)⟩)
  · refine condT (et rfl rfl) (nT (decide_eq_false c7)) ?_
    refine seqQ fun Q11 k11 z11 => ?_
    refine wp_region_lit ?_
    refine Y wn rfl (ym (v := .int .i64 r6) (et rfl rfl)) ?_
    refine Y wn rfl (ya (v := .int .i64 r6) (et rfl rfl)) ?_
    refine wpList_nil ?_
    refine k11 _ _ ?_
    refine wp_ret ?_
    refine qb4 _ _ _ ?_
    refine z3 _ _ _ rfl ?_
    obtain rfl := someI hM
    exact hQ _ _ _ (fin1r Try.results41 ⟨rfl, rfl⟩ ⟨rfl, (hst.pk 1 [] rfl)⟩)

theorem graph_NewSets_ok {w0 : World} {ros : List Fact} {rs : List Res} {w : World} {x1 : Int} {out : (List (List Bool))} (hM : graph_NewSets x1 = some out) (hst : St w0 ros (rs) w) :
    Calls Try.prog 55 #[.int .i64 x1] w (fun e w => ∃ (h100001 : Hdr) (y100002 : List Hdr), e = .returned (h100001.v) ∧ St w0 (ros) (row 54 rH h100001.v y100002 :: fam 4 rB y100002 out :: rs) w) := by
  refine enterQ Try.func55 rfl Try.ntmps55 rfl fun Q hQ => ?_
  refine seqQ fun Q1 k1 z1 => ?_
  refine wp_region_lit ?_
  refine Y wn rfl (ya (v := hnil.v) rfl) ?_
  refine wpList_nil ?_
  refine k1 _ _ ?_
  refine seqQ fun Q2 k2 z2 => ?_
  refine wp_region_lit ?_
  refine Y wn rfl (ym (v := .int .i64 x1) (et rfl rfl)) ?_
  obtain ⟨x4, gx4, hM⟩ := bs hM
  obtain ⟨m3, em3, gm3⟩ := mkL_rep gx4 hnil
  refine YH wn rfl (rMk hst SLH_69 (et rfl rfl) gm3) ?_
  clear hst
  intro h2 w hst
  replace hst := (hst.fReps 4 rB m3).pk 2 [1, 0] rfl
  rw [← em3] at hst
  refine Y wn rfl (ya (v := h2.v) (et rfl rfl)) ?_
  refine wpList_nil ?_
  refine k2 _ _ ?_
  refine seqQ fun Q3 k3 z3 => ?_
  refine seqQ fun Q4 k4 z4 => ?_
  refine wp_region_lit ?_
  refine Y wn rfl (ym (v := h2.v) (et rfl rfl)) ?_
  refine Y wn rfl (yLenF SLH_69 (et rfl rfl) hst (rdO mhR) (mtR mhR)) ?_
  refine Y wn rfl (ym (v := .int .i64 0) rfl) ?_
  refine wpList_nil ?_
  refine k4 _ _ ?_
  refine blockQ fun Q5 qb5 => ?_
  obtain ⟨o1, go1, hM⟩ := bs hM
  have je1_0 : ∀ (x24 : List (List Bool)) (y23 : List Hdr) (f : Nat → Value) (w : World), f 3 = h2.v → St w0 (ros) (row 54 rH h2.v y23 :: fam 4 rB y23 x24 :: rs) w → x24 = o1 → Q5 (.exit 0) (fr 19 f) w := by
    intro x24 y23 f w eje1_0_3 hst ho
    subst ho
    refine qb5 _ _ _ ?_
    refine k3 _ _ ?_
    refine seqQ fun Q16 k16 z16 => ?_
    refine wp_region_lit ?_
    refine Y wn rfl (ym (v := h2.v) (et rfl eje1_0_3)) ?_
    refine Y wn rfl (ya (v := h2.v) (et rfl rfl)) ?_
    refine wpList_nil ?_
    refine k16 _ _ ?_
    refine wp_ret ?_
    obtain rfl := someI hM
    exact hQ _ _ _ (fin1r Try.results55 ⟨rfl, rfl⟩ ⟨_, _, rfl, hst⟩)
  refine loopQ (fun s a w => ∃ (x12 : List (List Bool)) (x13 : Int) (f : Nat → Value) (y11 : List Hdr), (x12, x13) = s ∧ a = fr 19 f ∧ f 0 = .int .i64 x1 ∧ f 3 = h2.v ∧ f 8 = .int .i64 (x4.length : Int) ∧ f 9 = .int .i64 x13 ∧ St w0 (ros) (row 54 rH h2.v y11 :: fam 4 rB y11 x12 :: rs) w) go1 ⟨_, _, _, _, rfl, rfl, rfl, rfl, rfl, rfl, hst⟩ ?_
  clear hst
  rintro _ _ w r1_ ⟨x12, x13, f, y11, rfl, rfl, e1_0, e1_3, e1_8, e1_9, hst⟩ hM1 ho1 Q100001 n1 zz1
  refine seqQ fun Q17 k17 z17 => ?_
  refine wp_region_lit ?_
  refine Y wn rfl (ylss (et rfl e1_9) (et rfl e1_8)) ?_
  refine wpList_nil ?_
  refine k17 _ _ ?_
  refine seqQ fun Q18 k18 z18 => ?_
  rcases iteS hM1 with ⟨c25, hM1⟩ | ⟨c25, hM1⟩
  · refine condT (et rfl rfl) (decide_eq_true c25) ?_
    refine wp_skip ?_
    refine k18 _ _ ?_
    refine seqQ fun Q19 k19 z19 => ?_
    refine blockQ fun Q20 qb20 => ?_
    refine seqQ fun Q21 k21 z21 => ?_
    refine wp_region_lit ?_
    refine Y wn rfl (ym (v := .int .i64 x13) (et rfl e1_9)) ?_
    refine Y wn rfl (ya (v := .int .i64 x13) (et rfl rfl)) ?_
    refine wpList_nil ?_
    refine k21 _ _ ?_
    refine wp_region_lit ?_
    refine Y wn rfl (ym (v := h2.v) (et rfl e1_3)) ?_
    refine Y wn rfl (ym (v := .int .i64 x13) (et rfl rfl)) ?_
    refine Y wn rfl (ym (v := .int .i64 x1) (et rfl e1_0)) ?_
    obtain ⟨x28, gx28, hM1⟩ := bs hM1
    refine YH wn rfl (rMk hst SL_54 (et rfl rfl) gx28) ?_
    clear hst
    intro h26 w hst
    obtain ⟨x29, gx29, hM1⟩ := bs hM1
    obtain ⟨y30, gy30⟩ := setI_len (u := h26) gx29 (hst.famL (mtR (mtR mhR)))
    refine Y wn rfl (yIs SLH_69 (et rfl rfl) (et rfl rfl) hst (rdO (mtR mhR)) gy30) ?_
    replace hst := hst.pk 2 [1, 0] rfl
    refine YT wn rfl (r_sti (cs := [h26.v]) hst O_54 rfl (et rfl rfl) (et rfl rfl) rfl (mkF rfl) gy30) ?_
    clear hst
    intro w hst
    replace hst := hst.pk 3 [1, 1, 0] rfl
    replace hst := hst.fput gy30 gx29
    refine wpList_nil ?_
    refine qb20 _ _ _ ?_
    refine k19 _ _ ?_
    refine wp_region_lit ?_
    refine Y wn rfl (yadd (et rfl e1_9) rfl) ?_
    refine Y wn rfl (ym (v := .int .i64 (wa .i64 x13 1)) (et rfl rfl)) ?_
    refine wpList_nil ?_
    obtain rfl := someI hM1
    exact n1 _ _ _ rfl ⟨_, _, _, _, rfl, rfl, e1_0, e1_3, e1_8, rfl, (hst.pk 2 [1, 0] rfl)⟩
  · refine condF (et rfl rfl) (decide_eq_false c25) ?_
    refine wp_exit ?_
    refine z18 _ _ _ rfl ?_
    obtain rfl := someI hM1
    refine zz1 _ _ _ _ rfl rfl ?_
    exact je1_0 _ _ _ _ e1_3 hst (ho1 _ rfl)

theorem graph_Sets_Join_ok {w0 : World} {ros : List Fact} {rs : List Res} {w : World} {x1 : List (List Bool)} {x4 : Int} {x5 : Int} {h2 : Hdr} {y3 : List Hdr} {out : (List (List Bool))} (hM : graph_Sets_Join x1 x4 x5 = some out) (hst : St w0 ros (row 54 rH h2.v y3 :: fam 4 rB y3 x1 :: rs) w) :
    Calls Try.prog 57 #[h2.v, .int .i64 x4, .int .i64 x5] w (fun e w => e = .returned (.tuple #[]) ∧ St w0 (ros) (row 54 rH h2.v y3 :: fam 4 rB y3 out :: rs) w) := by
  refine enterQ Try.func57 rfl Try.ntmps57 rfl fun Q hQ => ?_
  refine seqQ fun Q1 k1 z1 => ?_
  refine wp_region_lit ?_
  refine Y wn rfl (ym (v := .int .i64 x4) (et rfl rfl)) ?_
  refine Y wn rfl (ym (v := .int .i64 x5) (et rfl rfl)) ?_
  refine Y wn rfl (yneq (et rfl rfl) (et rfl rfl)) ?_
  refine wpList_nil ?_
  refine k1 _ _ ?_
  have j1 : ∀ (x15 : List (List Bool)) (f : Nat → Value) (w : World), St w0 (ros) (row 54 rH h2.v y3 :: fam 4 rB y3 x15 :: rs) w → graph_Sets_Join_j1 x15 = some out → Q .normal (fr 21 f) w := by
    intro x15 f w hst hM
    obtain rfl := someI hM
    exact hQ _ _ _ (fin0n Try.results57 ⟨rfl, hst⟩)
  rcases iteS hM with ⟨c16, hM⟩ | ⟨c16, hM⟩
  · refine condF (et rfl rfl) (nF (decide_eq_true c16)) ?_
    refine wp_skip ?_
    exact j1 _ _ _ hst hM
  · refine condT (et rfl rfl) (nT (decide_eq_false c16)) ?_
    obtain ⟨x17, gx17, hM⟩ := bs hM
    obtain ⟨x19, gx19, hM⟩ := bs hM
    obtain ⟨x21, gx21, hM⟩ := bs hM
    obtain ⟨x22, gx22, hM⟩ := bs hM
    obtain ⟨x23, gx23, hM⟩ := bs hM
    obtain ⟨x24, gx24, hM⟩ := bs hM
    obtain ⟨x25, gx25, hM⟩ := bs hM
    refine wp_drawR [0, 0, 3, 7, 0, 0, 0, 96, 224, 0, 511, 1535, 4095, 8191] [11, 13] 2 folM (by kernel_rfl) (by kernel_rfl) (by kernel_rfl) ?_
    replace hst := hst.drew
    refine DRn (l1 := [0, 1, 2, 3, 4, 5, 6, 7, 8, 9, 10]) (l2 := []) (lc := [11]) (by kernel_rfl) (by kernel_rfl) (by kernel_rfl) ?_
    refine Ry rfl rfl wn (ym (v := h2.v) (et rfl rfl)) ?_
    refine Ry rfl rfl wn (ym (v := .int .i64 x4) (et rfl rfl)) ?_
    obtain ⟨h18, gh18⟩ := hst.famI (mtR mhR) gx17
    refine Ry rfl rfl wn (yIa SLH_69 (et rfl rfl) (et rfl rfl) hst (rdO mhR) gh18) ?_
    refine Ry rfl rfl wn (yF1 O_54 (et rfl rfl) hst (rdO mhR) gh18 rfl) ?_
    refine Ry rfl rfl wn (ym (v := .int .i64 x5) (et rfl rfl)) ?_
    refine Ry rfl rfl wn (ym (v := h2.v) (et rfl rfl)) ?_
    refine Ry rfl rfl wn (ym (v := .int .i64 x5) (et rfl rfl)) ?_
    obtain ⟨h20, gh20⟩ := hst.famI (mtR mhR) gx19
    refine Ry rfl rfl wn (yIa SLH_69 (et rfl rfl) (et rfl rfl) hst (rdO mhR) gh20) ?_
    refine Ry rfl rfl wn (yF1 O_54 (et rfl rfl) hst (rdO mhR) gh20 rfl) ?_
    refine Ry rfl rfl wn (ym (v := .int .i64 x4) (et rfl rfl)) ?_
    refine Ry rfl rfl wn (yIs SL_54 (et rfl rfl) (et rfl rfl) hst (rdF (mtR mhR) gh18 gx17) gx21) ?_
    refine Rn QSn ?_
    refine Lc rfl ?_ LAn
    replace hst := hst.pk 2 [1, 0] rfl
    refine LT wn (r_sti (cs := [.bool true]) (hst.foc gh18 gx17) O_4 rfl (et rfl rfl) rfl rfl mkB gx21) ?_
    clear hst
    intro w hst
    replace hst := hst.unfoc' gh18 gx22
    refine DRn (l1 := [12]) (l2 := [9]) (lc := [13]) (by kernel_rfl) (by kernel_rfl) (by kernel_rfl) ?_
    refine Ry rfl rfl wn (yIs SL_54 (et rfl rfl) (et rfl rfl) hst (rdF mhR gh20 gx23) gx24) ?_
    refine Rn (Sy rfl rfl wn (ym (v := .int .i64 x4) (et rfl rfl)) rfl QSn) ?_
    refine Lc rfl ?_ LAn
    refine LT wn (r_sti (cs := [.bool true]) (hst.foc gh20 gx23) O_4 rfl (et rfl rfl) rfl rfl mkB gx24) ?_
    clear hst
    intro w hst
    replace hst := hst.unfoc' gh20 gx25
    refine DRz (l1 := []) (l2 := []) (by kernel_rfl) (by kernel_rfl) ?_
    refine Rn QSn ?_
    exact j1 _ _ _ (hst.pk 2 [1, 0] rfl) hM

theorem graph_Sets_List_ok {w0 : World} {ros : List Fact} {rs : List Res} {w : World} {x1 : List (List Bool)} {x3 : Int} {h2 : Hdr} {out : (List Int)} (hM : graph_Sets_List x1 x3 = some out) (q1 : imm (rS rB) h2.v x1 ∈ ros) (hst : St w0 ros (rs) w) :
    Calls Try.prog 77 #[h2.v, .int .i64 x3] w (fun e w => ∃ (h100001 : Hdr), e = .returned (h100001.v) ∧ St w0 (ros) (row 3 (rI .i64) h100001.v out :: rs) w) := by
  refine enterQ Try.func77 rfl Try.ntmps77 rfl fun Q hQ => ?_
  refine seqQ fun Q1 k1 z1 => ?_
  refine wp_region_lit ?_
  refine Y wn rfl (ya (v := hnil.v) rfl) ?_
  refine wpList_nil ?_
  refine k1 _ _ ?_
  refine seqQ fun Q2 k2 z2 => ?_
  refine wp_region_lit ?_
  refine Y wn rfl (ya (v := hnil.v) rfl) ?_
  refine wpList_nil ?_
  refine k2 _ _ ?_
  refine seqQ fun Q3 k3 z3 => ?_
  refine seqQ fun Q4 k4 z4 => ?_
  refine wp_region_lit ?_
  refine Y wn rfl (ym (v := h2.v) (et rfl rfl)) ?_
  refine Y wn rfl (ym (v := .int .i64 x3) (et rfl rfl)) ?_
  obtain ⟨x4, gx4, hM⟩ := bs hM
  refine Y wn rfl (yIa SL_69 (et rfl rfl) (et rfl rfl) hst (rdI q1) gx4) ?_
  obtain ⟨h5, hst⟩ := iLs hst q1 gx4
  refine Y wn rfl (yCt O_54 (et rfl rfl) hst (mtF mhF) rfl) ?_
  refine Y wn rfl (yLen SL_54 (et rfl rfl) hst (rdI mhF)) ?_
  refine Y wn rfl (ym (v := .int .i64 0) rfl) ?_
  refine wpList_nil ?_
  refine k4 _ _ ?_
  refine blockQ fun Q5 qb5 => ?_
  obtain ⟨o3, go3, hM⟩ := bs hM
  have je3_0 : ∀ (x35 : List Int) (h34 : Hdr) (f : Nat → Value) (w : World), f 5 = h34.v → St w0 (ros) (row 3 (rI .i64) h34.v x35 :: rs) w → x35 = o3 → Q5 (.exit 0) (fr 25 f) w := by
    intro x35 h34 f w eje3_0_5 hst ho
    subst ho
    refine qb5 _ _ _ ?_
    refine k3 _ _ ?_
    refine seqQ fun Q18 k18 z18 => ?_
    refine wp_region_lit ?_
    refine Y wn rfl (ym (v := h34.v) (et rfl eje3_0_5)) ?_
    refine Y wn rfl (ya (v := h34.v) (et rfl rfl)) ?_
    refine wpList_nil ?_
    refine k18 _ _ ?_
    refine wp_ret ?_
    obtain rfl := someI hM
    exact hQ _ _ _ (fin1r Try.results77 ⟨rfl, rfl⟩ ⟨_, rfl, hst⟩)
  replace hst := hst.rowNh 3 (rI .i64)
  refine loopQ (fun s a w => ∃ (x18 : List Int) (x19 : Int) (f : Nat → Value) (h17 : Hdr), (x18, x19) = s ∧ a = fr 25 f ∧ f 5 = h17.v ∧ f 11 = h5.v ∧ f 12 = .int .i64 (x4.length : Int) ∧ f 13 = .int .i64 x19 ∧ St w0 (imm rB h5.v x4 :: ros) (row 3 (rI .i64) h17.v x18 :: rs) w) go3 ⟨_, _, _, _, rfl, rfl, rfl, rfl, rfl, rfl, (hst.facts (allC mhF (allT (allT allI))))⟩ ?_
  clear hst
  rintro _ _ w r3_ ⟨x18, x19, f, h17, rfl, rfl, e3_5, e3_11, e3_12, e3_13, hst⟩ hM3 ho3 Q100003 n3 zz3
  refine seqQ fun Q19 k19 z19 => ?_
  refine wp_region_lit ?_
  refine Y wn rfl (ylss (et rfl e3_13) (et rfl e3_12)) ?_
  refine wpList_nil ?_
  refine k19 _ _ ?_
  refine seqQ fun Q20 k20 z20 => ?_
  rcases iteS hM3 with ⟨c36, hM3⟩ | ⟨c36, hM3⟩
  · refine condT (et rfl rfl) (decide_eq_true c36) ?_
    refine wp_skip ?_
    refine k20 _ _ ?_
    refine seqQ fun Q21 k21 z21 => ?_
    refine blockQ fun Q22 qb22 => ?_
    refine seqQ fun Q23 k23 z23 => ?_
    refine wp_region_lit ?_
    refine Y wn rfl (ym (v := .int .i64 x19) (et rfl e3_13)) ?_
    obtain ⟨x37, gx37, hM3⟩ := bs hM3
    refine Y wn rfl (yIa SL_54 (et rfl e3_11) (et rfl e3_13) hst (rdI mhF) gx37) ?_
    refine Y wn rfl (yB O_4 (et rfl rfl) hst (rdI mhF) gx37) ?_
    refine Y wn rfl (ya (v := .int .i64 x19) (et rfl rfl)) ?_
    refine Y wn rfl (ya (v := .bool x37) (et rfl rfl)) ?_
    refine wpList_nil ?_
    refine k23 _ _ ?_
    refine seqQ fun Q24 k24 z24 => ?_
    refine wp_region_lit ?_
    refine Y wn rfl (ym (v := .bool x37) (et rfl rfl)) ?_
    refine wpList_nil ?_
    refine k24 _ _ ?_
    have j4 : ∀ (x42 : List Int) (h41 : Hdr) (f : Nat → Value) (w : World), f 5 = h41.v → f 11 = h5.v → f 12 = .int .i64 (x4.length : Int) → f 13 = .int .i64 x19 → St w0 (imm rB h5.v x4 :: ros) (row 3 (rI .i64) h41.v x42 :: rs) w → graph_Sets_List_j4 x19 x42 = some r3_ → Q22 .normal (fr 25 f) w := by
      intro x42 h41 f w ej4_5 ej4_11 ej4_12 ej4_13 hst hM
      refine qb22 _ _ _ ?_
      refine k21 _ _ ?_
      refine wp_region_lit ?_
      refine Y wn rfl (yadd (et rfl ej4_13) rfl) ?_
      refine Y wn rfl (ym (v := .int .i64 (wa .i64 x19 1)) (et rfl rfl)) ?_
      refine wpList_nil ?_
      obtain rfl := someI hM
      exact n3 _ _ _ rfl ⟨_, _, _, _, rfl, rfl, ej4_5, ej4_11, ej4_12, rfl, hst⟩
    rcases iteS hM3 with ⟨c43, hM3⟩ | ⟨c43, hM3⟩
    · refine condT (et rfl rfl) c43 ?_
      refine wp_region_lit ?_
      refine Y wn rfl (ym (v := h17.v) (et rfl e3_5)) ?_
      refine Y wn rfl (ym (v := .int .i64 x19) (et rfl rfl)) ?_
      refine YH wn rfl (rLt (n := 1) (l := [x19]) hst SL_22 [.int .i64 x19] (bp1 (et rfl rfl)) rfl rfl (mks1 (cs := [.int .i64 x19]) rfl mkI mks0)) ?_
      clear hst
      intro h44 w hst
      obtain ⟨x46, gx46, hM3⟩ := bs hM3
      replace hst := hst.pk 2 [1, 0] rfl
      refine YH wn rfl (rAp hst SL_22 (et rfl rfl) (et rfl rfl) (rdO (mtR mhR)) gx46) ?_
      clear hst
      intro h45 w hst
      refine Y wn rfl (ya (v := h45.v) (et rfl rfl)) ?_
      refine wpList_nil ?_
      exact j4 _ _ _ _ rfl e3_11 e3_12 e3_13 (hst.pk 2 [0] rfl) hM3
    · refine condF (et rfl rfl) (bfalse c43) ?_
      refine wp_skip ?_
      exact j4 _ _ _ _ e3_5 e3_11 e3_12 e3_13 hst hM3
  · refine condF (et rfl rfl) (decide_eq_false c36) ?_
    refine wp_exit ?_
    refine z20 _ _ _ rfl ?_
    obtain rfl := someI hM3
    refine zz3 _ _ _ _ rfl rfl ?_
    exact je3_0 _ _ _ _ e3_5 (hst.facts (allT allI)) (ho3 _ rfl)

theorem graph_Sets_Graph_ok {w0 : World} {ros : List Fact} {rs : List Res} {w : World} {x1 : List (List Bool)} {h2 : Hdr} {out : (List (List Int))} (hM : graph_Sets_Graph x1 = some out) (q1 : imm (rS rB) h2.v x1 ∈ ros) (hst : St w0 ros (rs) w) :
    Calls Try.prog 58 #[h2.v] w (fun e w => ∃ (h100001 : Hdr), e = .returned (.agg #[h100001.v]) ∧ St w0 (ros) (row 22 (rS (rI .i64)) h100001.v out :: rs) w) := by
  refine enterQ Try.func58 rfl Try.ntmps58 rfl fun Q hQ => ?_
  refine seqQ fun Q1 k1 z1 => ?_
  refine wp_region_lit ?_
  refine YB wn rfl (rAl hst ZT_27) ?_
  clear hst
  intro b3 w hst
  refine wpList_nil ?_
  refine k1 _ _ ?_
  refine seqQ fun Q2 k2 z2 => ?_
  refine wp_region_lit ?_
  refine Y wn rfl (ym (v := h2.v) (et rfl rfl)) ?_
  refine Y wn rfl (yLen SL_69 (et rfl rfl) hst (rdI q1)) ?_
  obtain ⟨x6, gx6, hM⟩ := bs hM
  refine YH wn rfl (rMk hst SL_25 (et rfl rfl) gx6) ?_
  clear hst
  intro h4 w hst
  refine Y wn rfl (ybuild (us := [h4.v]) [(0, h4.v)] SO_27 (bp1 (et rfl rfl)) rfl) ?_
  refine YB wn rfl (rAl hst ZT_27) ?_
  clear hst
  intro b7 w hst
  refine YT wn rfl (r_stbn (vals' := [h4.v]) (us := [h4.v]) hst ST_27 (et rfl rfl) (et rfl rfl) rfl rfl (one_of rfl) rfl) ?_
  clear hst
  intro w hst
  refine wpList_nil ?_
  refine k2 _ _ ?_
  refine seqQ fun Q3 k3 z3 => ?_
  refine seqQ fun Q4 k4 z4 => ?_
  refine wp_region_lit ?_
  refine Y wn rfl (ym (v := h2.v) (et rfl rfl)) ?_
  refine Y wn rfl (yLen SL_69 (et rfl rfl) hst (rdI q1)) ?_
  refine Y wn rfl (ym (v := .int .i64 0) rfl) ?_
  refine wpList_nil ?_
  refine k4 _ _ ?_
  refine blockQ fun Q5 qb5 => ?_
  obtain ⟨o1, go1, hM⟩ := bs hM
  have je1_0 : ∀ (x20 : List (List Int)) (f : Nat → Value) (w : World), f 2 = .pointer (some ⟨b3, 0, none⟩) → f 3 = .pointer (some ⟨b7, 0, none⟩) → St w0 (ros) (box b3 27 [hnil.v] :: row 22 (rS (rI .i64)) h4.v x20 :: box b7 27 [h4.v] :: rs) w → x20 = o1 → Q5 (.exit 0) (fr 23 f) w := by
    intro x20 f w eje1_0_2 eje1_0_3 hst ho
    subst ho
    refine qb5 _ _ _ ?_
    refine k3 _ _ ?_
    refine seqQ fun Q16 k16 z16 => ?_
    refine wp_region_lit ?_
    refine Y wn rfl (yLbs (us := [h4.v]) ST_27 (et rfl eje1_0_3) hst (mtR (mtR mhR)) rfl rfl) ?_
    refine YT wn rfl (r_stbn (vals' := [h4.v]) (us := [h4.v]) hst ST_27 (et rfl eje1_0_2) (et rfl rfl) rfl rfl (one_of rfl) rfl) ?_
    clear hst
    intro w hst
    refine wpList_nil ?_
    refine k16 _ _ ?_
    refine wp_ret ?_
    obtain rfl := someI hM
    exact hQ _ _ _ (fin1r Try.results58 (rcs2 rfl eje1_0_2 hst mhR ST_27 rfl) ⟨_, rfl, (hst.pk 3 [1] rfl)⟩)
  refine loopQ (fun s a w => ∃ (x12 : List (List Int)) (x13 : Int) (f : Nat → Value), (x12, x13) = s ∧ a = fr 23 f ∧ f 0 = h2.v ∧ f 2 = .pointer (some ⟨b3, 0, none⟩) ∧ f 3 = .pointer (some ⟨b7, 0, none⟩) ∧ f 10 = .int .i64 (x1.length : Int) ∧ f 11 = .int .i64 x13 ∧ St w0 (ros) (box b3 27 [hnil.v] :: row 22 (rS (rI .i64)) h4.v x12 :: box b7 27 [h4.v] :: rs) w) go1 ⟨_, _, _, rfl, rfl, rfl, rfl, rfl, rfl, rfl, (hst.pk 3 [2, 1, 0] rfl)⟩ ?_
  clear hst
  rintro _ _ w r1_ ⟨x12, x13, f, rfl, rfl, e1_0, e1_2, e1_3, e1_10, e1_11, hst⟩ hM1 ho1 Q100001 n1 zz1
  refine seqQ fun Q17 k17 z17 => ?_
  refine wp_region_lit ?_
  refine Y wn rfl (ylss (et rfl e1_11) (et rfl e1_10)) ?_
  refine wpList_nil ?_
  refine k17 _ _ ?_
  refine seqQ fun Q18 k18 z18 => ?_
  rcases iteS hM1 with ⟨c21, hM1⟩ | ⟨c21, hM1⟩
  · refine condT (et rfl rfl) (decide_eq_true c21) ?_
    refine wp_skip ?_
    refine k18 _ _ ?_
    refine seqQ fun Q19 k19 z19 => ?_
    refine blockQ fun Q20 qb20 => ?_
    refine seqQ fun Q21 k21 z21 => ?_
    refine wp_region_lit ?_
    refine Y wn rfl (ym (v := .int .i64 x13) (et rfl e1_11)) ?_
    refine Y wn rfl (ya (v := .int .i64 x13) (et rfl rfl)) ?_
    refine wpList_nil ?_
    refine k21 _ _ ?_
    obtain ⟨r22, gr22, hM1⟩ := bs hM1
    obtain ⟨x24, gx24, hM1⟩ := bs hM1
    refine wp_drawR [0, 1, 0, 0, 0, 24, 63, 127] [5, 7] 2 folM (by kernel_rfl) (by kernel_rfl) (by kernel_rfl) ?_
    replace hst := hst.drew
    refine DRn (l1 := [0, 1, 2, 3, 4]) (l2 := []) (lc := [5]) (by kernel_rfl) (by kernel_rfl) (by kernel_rfl) ?_
    refine Ry rfl rfl wn (yFb FL_27_0 (et rfl e1_3)) ?_
    refine Ry rfl rfl wn (yLb (u := h4.v) O_25 (et rfl rfl) hst (mtR (mtR mhR)) rfl) ?_
    refine Ry rfl rfl wn (ym (v := .int .i64 x13) (et rfl rfl)) ?_
    refine Ry rfl rfl wn (ym (v := h2.v) (et rfl e1_0)) ?_
    refine Ry rfl rfl wn (ym (v := .int .i64 x13) (et rfl rfl)) ?_
    refine Rn QSn ?_
    refine Lc rfl ?_ LAn
    refine Lk wn (yCall FN_77 (a2 (et rfl rfl) (et rfl rfl))) (graph_Sets_List_ok (hM := gr22) (hst := hst) (q1 := q1)) ?_
    clear hst
    rintro _ w ⟨h23, rfl, hst⟩
    refine ⟨_, rfl, ?_⟩
    refine DRn (l1 := [6]) (l2 := [0, 1, 2]) (lc := [7]) (by kernel_rfl) (by kernel_rfl) (by kernel_rfl) ?_
    refine Ry rfl rfl wn (yIs SL_25 (et rfl rfl) (et rfl rfl) hst (rdO (mtR (mtR mhR))) gx24) ?_
    refine Rn (Sy rfl rfl wn (yFb FL_27_0 (et rfl e1_3)) rfl (Sy rfl rfl wn (yLb (u := h4.v) O_25 (et rfl rfl) hst (mtR (mtR (mtR mhR))) rfl) rfl (Sy rfl rfl wn (ym (v := .int .i64 x13) (et rfl rfl)) rfl QSn))) ?_
    refine Lc rfl ?_ LAn
    replace hst := hst.fz
    replace hst := hst.pk 2 [1, 0] rfl
    refine LT wn (r_sti (cs := [h23.v]) hst O_22 rfl (et rfl rfl) (et rfl rfl) rfl (mkS mhF) gx24) ?_
    clear hst
    intro w hst
    refine DRz (l1 := []) (l2 := []) (by kernel_rfl) (by kernel_rfl) ?_
    refine Rn QSn ?_
    refine qb20 _ _ _ ?_
    refine k19 _ _ ?_
    refine wp_region_lit ?_
    refine Y wn rfl (yadd (et rfl e1_11) rfl) ?_
    refine Y wn rfl (ym (v := .int .i64 (wa .i64 x13 1)) (et rfl rfl)) ?_
    refine wpList_nil ?_
    obtain rfl := someI hM1
    exact n1 _ _ _ rfl ⟨_, _, _, rfl, rfl, e1_0, e1_2, e1_3, e1_10, rfl, ((hst.pk 3 [1, 0, 0] rfl).facts (allT allI))⟩
  · refine condF (et rfl rfl) (decide_eq_false c21) ?_
    refine wp_exit ?_
    refine z18 _ _ _ rfl ?_
    obtain rfl := someI hM1
    refine zz1 _ _ _ _ rfl rfl ?_
    exact je1_0 _ _ _ e1_2 e1_3 hst (ho1 _ rfl)

theorem graph_induced_ok {w0 : World} {ros : List Fact} {rs : List Res} {w : World} {x1 : List (List Int)} {x3 : List Int} {h2 : Hdr} {h4 : Hdr} {out : (List (List Int))} (hM : graph_induced x1 x3 = some out) (q1 : imm (rS (rI .i64)) h2.v x1 ∈ ros) (q2 : imm (rI .i64) h4.v x3 ∈ ros) (hst : St w0 ros (rs) w) :
    Calls Try.prog 42 #[.agg #[h2.v], h4.v] w (fun e w => ∃ (h100001 : Hdr), e = .returned (.agg #[h100001.v]) ∧ St w0 (ros) (row 22 (rS (rI .i64)) h100001.v out :: rs) w) := by
  refine enterQ Try.func42 rfl Try.ntmps42 rfl fun Q hQ => ?_
  refine seqQ fun Q1 k1 z1 => ?_
  refine wp_region_lit ?_
  refine YB wn rfl (r_box (vals := [h2.v]) hst (et rfl rfl) rfl) ?_
  clear hst
  intro b5 w hst
  refine YB wn rfl (rAl hst ZT_27) ?_
  clear hst
  intro b6 w hst
  refine wpList_nil ?_
  refine k1 _ _ ?_
  refine seqQ fun Q2 k2 z2 => ?_
  refine wp_region_lit ?_
  refine Y wn rfl (ym (v := h4.v) (et rfl rfl)) ?_
  refine Y wn rfl (yLen SL_22 (et rfl rfl) hst (rdI q2)) ?_
  obtain ⟨r7, gr7, hM⟩ := bs hM
  refine Yc wn rfl (yCall FN_55 (a1 (et rfl rfl))) (graph_NewSets_ok (hM := gr7) (hst := hst) ) ?_
  clear hst
  rintro _ w ⟨h8, y9, rfl, hst⟩
  refine ⟨_, rfl, ?_⟩
  refine Y wn rfl (ya (v := h8.v) (et rfl rfl)) ?_
  refine wpList_nil ?_
  refine k2 _ _ ?_
  refine seqQ fun Q3 k3 z3 => ?_
  refine seqQ fun Q4 k4 z4 => ?_
  refine wp_region_lit ?_
  refine Y wn rfl (ym (v := h4.v) (et rfl rfl)) ?_
  refine Y wn rfl (yLen SL_22 (et rfl rfl) hst (rdI q2)) ?_
  refine Y wn rfl (ym (v := .int .i64 0) rfl) ?_
  refine wpList_nil ?_
  refine k4 _ _ ?_
  refine blockQ fun Q5 qb5 => ?_
  obtain ⟨o9, go9, hM⟩ := bs hM
  have je9_0 : ∀ (x72 : List (List Bool)) (f : Nat → Value) (w : World), f 4 = .pointer (some ⟨b6, 0, none⟩) → f 5 = h8.v → St w0 (ros) (box b6 27 [hnil.v] :: row 54 rH h8.v y9 :: fam 4 rB y9 x72 :: rs) w → x72 = o9 → Q5 (.exit 0) (fr 41 f) w := by
    intro x72 f w eje9_0_4 eje9_0_5 hst ho
    subst ho
    refine qb5 _ _ _ ?_
    refine k3 _ _ ?_
    refine seqQ fun Q56 k56 z56 => ?_
    refine wp_region_lit ?_
    refine Y wn rfl (ym (v := h8.v) (et rfl eje9_0_5)) ?_
    obtain ⟨r73, gr73, hM⟩ := bs hM
    replace hst := hst.pk 3 [1, 1, 0] rfl
    replace hst := hst.ffz
    refine Yc wn rfl (yCall FN_58 (a1 (et rfl rfl))) (graph_Sets_Graph_ok (hM := gr73) (hst := hst) (q1 := mhF)) ?_
    clear hst
    rintro _ w ⟨h74, rfl, hst⟩
    refine ⟨_, rfl, ?_⟩
    replace hst := hst.pk 2 [1, 0] rfl
    refine YT wn rfl (r_stbn (vals' := [h74.v]) (us := [h74.v]) hst ST_27 (et rfl eje9_0_4) (et rfl rfl) rfl rfl (one_of rfl) rfl) ?_
    clear hst
    intro w hst
    refine wpList_nil ?_
    refine k56 _ _ ?_
    refine wp_ret ?_
    obtain rfl := someI hM
    exact hQ _ _ _ (fin1r Try.results42 (rcs2 rfl eje9_0_4 hst mhR ST_27 rfl) ⟨_, rfl, ((hst.pk 2 [1] rfl).facts (allT allI))⟩)
  refine loopQ (fun s a w => ∃ (x39 : List (List Bool)) (x40 : Int) (f : Nat → Value), (x39, x40) = s ∧ a = fr 41 f ∧ f 1 = h4.v ∧ f 2 = .pointer (some ⟨b5, 0, none⟩) ∧ f 4 = .pointer (some ⟨b6, 0, none⟩) ∧ f 5 = h8.v ∧ f 13 = h4.v ∧ f 14 = .int .i64 (x3.length : Int) ∧ f 15 = .int .i64 x40 ∧ St w0 (ros) (box b5 27 [h2.v] :: box b6 27 [hnil.v] :: row 54 rH h8.v y9 :: fam 4 rB y9 x39 :: rs) w) go9 ⟨_, _, _, rfl, rfl, rfl, rfl, rfl, rfl, rfl, rfl, rfl, (hst.pk 4 [3, 2, 0, 0] rfl)⟩ ?_
  clear hst
  rintro _ _ w r9_ ⟨x39, x40, f, rfl, rfl, e9_1, e9_2, e9_4, e9_5, e9_13, e9_14, e9_15, hst⟩ hM9 ho9 Q100009 n9 zz9
  refine seqQ fun Q57 k57 z57 => ?_
  refine wp_region_lit ?_
  refine Y wn rfl (ylss (et rfl e9_15) (et rfl e9_14)) ?_
  refine wpList_nil ?_
  refine k57 _ _ ?_
  refine seqQ fun Q58 k58 z58 => ?_
  rcases iteS hM9 with ⟨c75, hM9⟩ | ⟨c75, hM9⟩
  · refine condT (et rfl rfl) (decide_eq_true c75) ?_
    refine wp_skip ?_
    refine k58 _ _ ?_
    refine seqQ fun Q59 k59 z59 => ?_
    refine blockQ fun Q60 qb60 => ?_
    refine seqQ fun Q61 k61 z61 => ?_
    refine wp_region_lit ?_
    refine Y wn rfl (ym (v := .int .i64 x40) (et rfl e9_15)) ?_
    obtain ⟨x76, gx76, hM9⟩ := bs hM9
    refine Y wn rfl (yIa SL_22 (et rfl e9_13) (et rfl e9_15) hst (rdI q2) gx76) ?_
    refine Y wn rfl (yI O_3 (et rfl rfl) hst (rdI q2) gx76) ?_
    refine Y wn rfl (ya (v := .int .i64 x40) (et rfl rfl)) ?_
    refine Y wn rfl (ya (v := .int .i64 x76) (et rfl rfl)) ?_
    refine wpList_nil ?_
    refine k61 _ _ ?_
    refine seqQ fun Q62 k62 z62 => ?_
    refine wp_region_lit ?_
    refine Y wn rfl (ym (v := h4.v) (et rfl e9_1)) ?_
    refine Y wn rfl (ym (v := .int .i64 x40) (et rfl rfl)) ?_
    obtain ⟨x77, gx77, hM9⟩ := bs hM9
    refine Y wn rfl (ySl (k1 := .i64) SL_22 (et rfl rfl) hst (rdI q2) (.inr ⟨rfl, rfl⟩) (.inl (congrArg some (et rfl rfl))) gx77) ?_
    replace hst := hst.sub q2 gx77
    refine Y wn rfl (yLen SL_22 (et rfl rfl) hst (rdI mhF)) ?_
    refine Y wn rfl (ym (v := .int .i64 0) rfl) ?_
    refine wpList_nil ?_
    refine k62 _ _ ?_
    refine blockQ fun Q63 qb63 => ?_
    obtain ⟨o12, go12, hM9⟩ := bs hM9
    have je12_0 : ∀ (x96 : List (List Bool)) (f : Nat → Value) (w : World), f 1 = h4.v → f 2 = .pointer (some ⟨b5, 0, none⟩) → f 4 = .pointer (some ⟨b6, 0, none⟩) → f 5 = h8.v → f 13 = h4.v → f 14 = .int .i64 (x3.length : Int) → f 15 = .int .i64 x40 → St w0 (ros) (box b5 27 [h2.v] :: box b6 27 [hnil.v] :: row 54 rH h8.v y9 :: fam 4 rB y9 x96 :: rs) w → x96 = o12 → Q63 (.exit 2) (fr 41 f) w := by
      intro x96 f w eje12_0_1 eje12_0_2 eje12_0_4 eje12_0_5 eje12_0_13 eje12_0_14 eje12_0_15 hst ho
      subst ho
      refine qb63 _ _ _ ?_
      refine qb60 _ _ _ ?_
      refine k59 _ _ ?_
      refine wp_region_lit ?_
      refine Y wn rfl (yadd (et rfl eje12_0_15) rfl) ?_
      refine Y wn rfl (ym (v := .int .i64 (wa .i64 x40 1)) (et rfl rfl)) ?_
      refine wpList_nil ?_
      obtain rfl := someI hM9
      exact n9 _ _ _ rfl ⟨_, _, _, rfl, rfl, eje12_0_1, eje12_0_2, eje12_0_4, eje12_0_5, eje12_0_13, eje12_0_14, rfl, hst⟩
    refine loopQ (fun s a w => ∃ (x85 : List (List Bool)) (x86 : Int) (f : Nat → Value), (x85, x86) = s ∧ a = fr 41 f ∧ f 1 = h4.v ∧ f 2 = .pointer (some ⟨b5, 0, none⟩) ∧ f 4 = .pointer (some ⟨b6, 0, none⟩) ∧ f 5 = h8.v ∧ f 6 = .int .i64 x40 ∧ f 7 = .int .i64 x76 ∧ f 13 = h4.v ∧ f 14 = .int .i64 (x3.length : Int) ∧ f 15 = .int .i64 x40 ∧ f 22 = (subH h4 1 0 x40).v ∧ f 23 = .int .i64 (x77.length : Int) ∧ f 24 = .int .i64 x86 ∧ St w0 (imm (rI .i64) (subH h4 1 0 x40).v x77 :: ros) (box b5 27 [h2.v] :: box b6 27 [hnil.v] :: row 54 rH h8.v y9 :: fam 4 rB y9 x85 :: rs) w) go12 ⟨_, _, _, rfl, rfl, e9_1, e9_2, e9_4, e9_5, rfl, rfl, e9_13, e9_14, e9_15, rfl, rfl, rfl, hst⟩ ?_
    clear hst
    rintro _ _ w r12_ ⟨x85, x86, f, rfl, rfl, e12_1, e12_2, e12_4, e12_5, e12_6, e12_7, e12_13, e12_14, e12_15, e12_22, e12_23, e12_24, hst⟩ hM12 ho12 Q100012 n12 zz12
    refine seqQ fun Q76 k76 z76 => ?_
    refine wp_region_lit ?_
    refine Y wn rfl (ylss (et rfl e12_24) (et rfl e12_23)) ?_
    refine wpList_nil ?_
    refine k76 _ _ ?_
    refine seqQ fun Q77 k77 z77 => ?_
    rcases iteS hM12 with ⟨c97, hM12⟩ | ⟨c97, hM12⟩
    · refine condT (et rfl rfl) (decide_eq_true c97) ?_
      refine wp_skip ?_
      refine k77 _ _ ?_
      refine seqQ fun Q78 k78 z78 => ?_
      refine blockQ fun Q79 qb79 => ?_
      refine seqQ fun Q80 k80 z80 => ?_
      refine wp_region_lit ?_
      refine Y wn rfl (ym (v := .int .i64 x86) (et rfl e12_24)) ?_
      obtain ⟨x98, gx98, hM12⟩ := bs hM12
      refine Y wn rfl (yIa SL_22 (et rfl e12_22) (et rfl e12_24) hst (rdI mhF) gx98) ?_
      refine Y wn rfl (yI O_3 (et rfl rfl) hst (rdI mhF) gx98) ?_
      refine Y wn rfl (ya (v := .int .i64 x86) (et rfl rfl)) ?_
      refine Y wn rfl (ya (v := .int .i64 x98) (et rfl rfl)) ?_
      refine wpList_nil ?_
      refine k80 _ _ ?_
      refine seqQ fun Q81 k81 z81 => ?_
      refine wp_region_lit ?_
      refine Y wn rfl (yLbs (us := [h2.v]) ST_27 (et rfl e12_2) hst mhR rfl rfl) ?_
      refine Y wn rfl (ym (v := .int .i64 x76) (et rfl e12_7)) ?_
      refine Y wn rfl (ym (v := .int .i64 x98) (et rfl rfl)) ?_
      obtain ⟨r99, gr99, hM12⟩ := bs hM12
      refine Yc wn rfl (yCall FN_44 (a3 (et rfl rfl) (et rfl rfl) (et rfl rfl))) (graph_joined_ok (hM := gr99) (hst := hst) (q1 := (mtF q1))) ?_
      clear hst
      rintro _ w ⟨rfl, hst⟩
      refine ⟨_, rfl, ?_⟩
      refine wpList_nil ?_
      refine k81 _ _ ?_
      have j13 : ∀ (x101 : List (List Bool)) (f : Nat → Value) (w : World), f 1 = h4.v → f 2 = .pointer (some ⟨b5, 0, none⟩) → f 4 = .pointer (some ⟨b6, 0, none⟩) → f 5 = h8.v → f 6 = .int .i64 x40 → f 7 = .int .i64 x76 → f 13 = h4.v → f 14 = .int .i64 (x3.length : Int) → f 15 = .int .i64 x40 → f 22 = (subH h4 1 0 x40).v → f 23 = .int .i64 (x77.length : Int) → f 24 = .int .i64 x86 → St w0 (imm (rI .i64) (subH h4 1 0 x40).v x77 :: ros) (box b5 27 [h2.v] :: box b6 27 [hnil.v] :: row 54 rH h8.v y9 :: fam 4 rB y9 x101 :: rs) w → graph_induced_j13 x86 x101 = some r12_ → Q79 .normal (fr 41 f) w := by
        intro x101 f w ej13_1 ej13_2 ej13_4 ej13_5 ej13_6 ej13_7 ej13_13 ej13_14 ej13_15 ej13_22 ej13_23 ej13_24 hst hM
        refine qb79 _ _ _ ?_
        refine k78 _ _ ?_
        refine wp_region_lit ?_
        refine Y wn rfl (yadd (et rfl ej13_24) rfl) ?_
        refine Y wn rfl (ym (v := .int .i64 (wa .i64 x86 1)) (et rfl rfl)) ?_
        refine wpList_nil ?_
        obtain rfl := someI hM
        exact n12 _ _ _ rfl ⟨_, _, _, rfl, rfl, ej13_1, ej13_2, ej13_4, ej13_5, ej13_6, ej13_7, ej13_13, ej13_14, ej13_15, ej13_22, ej13_23, rfl, hst⟩
      rcases iteS hM12 with ⟨c102, hM12⟩ | ⟨c102, hM12⟩
      · refine condT (et rfl rfl) c102 ?_
        refine wp_region_lit ?_
        refine Y wn rfl (ym (v := h8.v) (et rfl e12_5)) ?_
        refine Y wn rfl (ym (v := .int .i64 x40) (et rfl e12_6)) ?_
        refine Y wn rfl (ym (v := .int .i64 x86) (et rfl rfl)) ?_
        obtain ⟨r103, gr103, hM12⟩ := bs hM12
        replace hst := hst.pk 4 [2, 2, 0, 0] rfl
        refine Yc wn rfl (yCall FN_57 (a3 (et rfl rfl) (et rfl rfl) (et rfl rfl))) (graph_Sets_Join_ok (hM := gr103) (hst := hst) ) ?_
        clear hst
        rintro _ w ⟨rfl, hst⟩
        refine ⟨_, rfl, ?_⟩
        refine wpList_nil ?_
        exact j13 _ _ _ e12_1 e12_2 e12_4 e12_5 e12_6 e12_7 e12_13 e12_14 e12_15 e12_22 e12_23 e12_24 (hst.pk 4 [2, 2, 0, 0] rfl) hM12
      · refine condF (et rfl rfl) (bfalse c102) ?_
        refine wp_skip ?_
        exact j13 _ _ _ e12_1 e12_2 e12_4 e12_5 e12_6 e12_7 e12_13 e12_14 e12_15 e12_22 e12_23 e12_24 hst hM12
    · refine condF (et rfl rfl) (decide_eq_false c97) ?_
      refine wp_exit ?_
      refine z77 _ _ _ rfl ?_
      obtain rfl := someI hM12
      refine zz12 _ _ _ _ rfl rfl ?_
      exact je12_0 _ _ _ e12_1 e12_2 e12_4 e12_5 e12_13 e12_14 e12_15 (hst.facts (allT allI)) (ho12 _ rfl)
  · refine condF (et rfl rfl) (decide_eq_false c75) ?_
    refine wp_exit ?_
    refine z58 _ _ _ rfl ?_
    obtain rfl := someI hM9
    refine zz9 _ _ _ _ rfl rfl ?_
    exact je9_0 _ _ _ e9_4 e9_5 (hst.pk 4 [1, 1, 1] rfl) (ho9 _ rfl)
end Go.Proofs.Ytcknmegldjnjjaa
