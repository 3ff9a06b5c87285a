/- Walks: each function computes its model, printed. -/
import Derived.Test.YtcknmegldjnjjaaW0
namespace Go.Proofs.Ytcknmegldjnjjaa
open Go Sx M
set_option maxRecDepth 100000
set_option maxHeartbeats 400000
set_option linter.unusedVariables false
attribute [local irreducible] wpList Code.wp Calls DR QR QS LA LS St
theorem slices_medianOrdered_int_ok {w0 : World} {ros : List Fact} {rs : List Res} {w : World} {x1 : List Int} {x3 : Int} {x4 : Int} {x5 : Int} {x7 : Int} {h2 : Hdr} {b6 : Nat} {out : Int × Int} (hM : slices_medianOrdered_int x1 x3 x4 x5 x7 = some out) (q1 : imm (rI .i64) h2.v x1 ∈ ros) (hst : St w0 ros (box b6 3 [.int .i64 x7] :: rs) w) :
    Calls Try.prog 101 #[h2.v, .int .i64 x3, .int .i64 x4, .int .i64 x5, .pointer (some ⟨b6, 0, none⟩)] w (fun e w => e = .returned (.int .i64 out.2) ∧ St w0 (ros) (box b6 3 [.int .i64 out.1] :: rs) w) := by
  refine enterQ Try.func101 rfl Try.ntmps101 rfl fun Q hQ => ?_
  refine seqQ fun Q1 k1 z1 => ?_
  refine wp_region_lit ?_
  refine Y wn rfl (ya (v := .int .i64 0) rfl) ?_
  refine wpList_nil ?_
  refine k1 _ _ ?_
  refine seqQ fun Q2 k2 z2 => ?_
  refine wp_region_lit ?_
  refine Y wn rfl (ym (v := h2.v) (et rfl rfl)) ?_
  refine Y wn rfl (ym (v := .int .i64 x3) (et rfl rfl)) ?_
  refine Y wn rfl (ym (v := .int .i64 x4) (et rfl rfl)) ?_
  refine Y wn rfl (ym (v := .pointer (some ⟨b6, 0, none⟩)) (et rfl rfl)) ?_
  obtain ⟨r8, gr8, hM⟩ := bs hM
  refine Yc wn rfl (yCall FN_104 (a4 (et rfl rfl) (et rfl rfl) (et rfl rfl) (et rfl rfl))) (slices_order2Ordered_int_ok (hM := gr8) (hst := hst) (q1 := q1)) ?_
  clear hst
  rintro _ w ⟨rfl, hst⟩
  refine ⟨_, rfl, ?_⟩
  refine Y wn rfl (ym (v := .tuple #[.int .i64 r8.2.1, .int .i64 r8.2.2]) (et rfl rfl)) ?_
  refine Y wn rfl (yx (v := .int .i64 r8.2.1) (et rfl rfl) rfl) ?_
  refine Y wn rfl (yx (v := .int .i64 r8.2.2) (et rfl rfl) rfl) ?_
  refine Y wn rfl (ya (v := .int .i64 r8.2.1) (et rfl rfl)) ?_
  refine Y wn rfl (ya (v := .int .i64 r8.2.2) (et rfl rfl)) ?_
  refine wpList_nil ?_
  refine k2 _ _ ?_
  refine seqQ fun Q3 k3 z3 => ?_
  refine wp_region_lit ?_
  refine Y wn rfl (ym (v := h2.v) (et rfl rfl)) ?_
  refine Y wn rfl (ym (v := .int .i64 r8.2.2) (et rfl rfl)) ?_
  refine Y wn rfl (ym (v := .int .i64 x5) (et rfl rfl)) ?_
  refine Y wn rfl (ym (v := .pointer (some ⟨b6, 0, none⟩)) (et rfl rfl)) ?_
  obtain ⟨r9, gr9, hM⟩ := bs hM
  refine Yc wn rfl (yCall FN_104 (a4 (et rfl rfl) (et rfl rfl) (et rfl rfl) (et rfl rfl))) (slices_order2Ordered_int_ok (hM := gr9) (hst := hst) (q1 := q1)) ?_
  clear hst
  rintro _ w ⟨rfl, hst⟩
  refine ⟨_, rfl, ?_⟩
  refine Y wn rfl (ym (v := .tuple #[.int .i64 r9.2.1, .int .i64 r9.2.2]) (et rfl rfl)) ?_
  refine Y wn rfl (yx (v := .int .i64 r9.2.1) (et rfl rfl) rfl) ?_
  refine Y wn rfl (yx (v := .int .i64 r9.2.2) (et rfl rfl) rfl) ?_
  refine Y wn rfl (ya (v := .int .i64 r9.2.1) (et rfl rfl)) ?_
  refine Y wn rfl (ya (v := .int .i64 r9.2.2) (et rfl rfl)) ?_
  refine wpList_nil ?_
  refine k3 _ _ ?_
  refine seqQ fun Q4 k4 z4 => ?_
  refine wp_region_lit ?_
  refine Y wn rfl (ym (v := h2.v) (et rfl rfl)) ?_
  refine Y wn rfl (ym (v := .int .i64 r8.2.1) (et rfl rfl)) ?_
  refine Y wn rfl (ym (v := .int .i64 r9.2.1) (et rfl rfl)) ?_
  refine Y wn rfl (ym (v := .pointer (some ⟨b6, 0, none⟩)) (et rfl rfl)) ?_
  obtain ⟨r10, gr10, hM⟩ := bs hM
  refine Yc wn rfl (yCall FN_104 (a4 (et rfl rfl) (et rfl rfl) (et rfl rfl) (et rfl rfl))) (slices_order2Ordered_int_ok (hM := gr10) (hst := hst) (q1 := q1)) ?_
  clear hst
  rintro _ w ⟨rfl, hst⟩
  refine ⟨_, rfl, ?_⟩
  refine Y wn rfl (ym (v := .tuple #[.int .i64 r10.2.1, .int .i64 r10.2.2]) (et rfl rfl)) ?_
  refine Y wn rfl (yx (v := .int .i64 r10.2.1) (et rfl rfl) rfl) ?_
  refine Y wn rfl (yx (v := .int .i64 r10.2.2) (et rfl rfl) rfl) ?_
  refine Y wn rfl (ya (v := .int .i64 r10.2.1) (et rfl rfl)) ?_
  refine Y wn rfl (ya (v := .int .i64 r10.2.2) (et rfl rfl)) ?_
  refine wpList_nil ?_
  refine k4 _ _ ?_
  refine seqQ fun Q5 k5 z5 => ?_
  refine wp_region_lit ?_
  refine Y wn rfl (ym (v := .int .i64 r10.2.2) (et rfl rfl)) ?_
  refine Y wn rfl (ya (v := .int .i64 r10.2.2) (et rfl rfl)) ?_
  refine wpList_nil ?_
  refine k5 _ _ ?_
  refine wp_ret ?_
  obtain rfl := someI hM
  exact hQ _ _ _ (fin1r Try.results101 ⟨rfl, rfl⟩ ⟨rfl, hst⟩)

theorem slices_medianAdjacentOrdered_int_ok {w0 : World} {ros : List Fact} {rs : List Res} {w : World} {x1 : List Int} {x3 : Int} {x5 : Int} {h2 : Hdr} {b4 : Nat} {out : Int × Int} (hM : slices_medianAdjacentOrdered_int x1 x3 x5 = some out) (q1 : imm (rI .i64) h2.v x1 ∈ ros) (hst : St w0 ros (box b4 3 [.int .i64 x5] :: rs) w) :
    Calls Try.prog 100 #[h2.v, .int .i64 x3, .pointer (some ⟨b4, 0, none⟩)] w (fun e w => e = .returned (.int .i64 out.2) ∧ St w0 (ros) (box b4 3 [.int .i64 out.1] :: rs) w) := by
  refine enterQ Try.func100 rfl Try.ntmps100 rfl fun Q hQ => ?_
  refine seqQ fun Q1 k1 z1 => ?_
  refine wp_region_lit ?_
  refine Y wn rfl (ya (v := .int .i64 0) rfl) ?_
  refine wpList_nil ?_
  refine k1 _ _ ?_
  refine seqQ fun Q2 k2 z2 => ?_
  refine wp_region_lit ?_
  refine Y wn rfl (ym (v := h2.v) (et rfl rfl)) ?_
  refine Y wn rfl (ym (v := .int .i64 x3) (et rfl rfl)) ?_
  refine Y wn rfl (ysub (et rfl rfl) rfl) ?_
  refine Y wn rfl (ym (v := .int .i64 x3) (et rfl rfl)) ?_
  refine Y wn rfl (ym (v := .int .i64 x3) (et rfl rfl)) ?_
  refine Y wn rfl (yadd (et rfl rfl) rfl) ?_
  refine Y wn rfl (ym (v := .pointer (some ⟨b4, 0, none⟩)) (et rfl rfl)) ?_
  obtain ⟨r6, gr6, hM⟩ := bs hM
  refine Yc wn rfl (yCall FN_101 (a5 (et rfl rfl) (et rfl rfl) (et rfl rfl) (et rfl rfl) (et rfl rfl))) (slices_medianOrdered_int_ok (hM := gr6) (hst := hst) (q1 := q1)) ?_
  clear hst
  rintro _ w ⟨rfl, hst⟩
  refine ⟨_, rfl, ?_⟩
  refine Y wn rfl (ya (v := .int .i64 r6.2) (et rfl rfl)) ?_
  refine wpList_nil ?_
  refine k2 _ _ ?_
  refine wp_ret ?_
  obtain rfl := someI hM
  exact hQ _ _ _ (fin1r Try.results100 ⟨rfl, rfl⟩ ⟨rfl, hst⟩)

theorem slices_choosePivotOrdered_int_ok {w0 : World} {ros : List Fact} {rs : List Res} {w : World} {x1 : List Int} {x3 : Int} {x4 : Int} {h2 : Hdr} {out : Int × Int} (hM : slices_choosePivotOrdered_int x1 x3 x4 = some out) (q1 : imm (rI .i64) h2.v x1 ∈ ros) (hst : St w0 ros (rs) w) :
    Calls Try.prog 82 #[h2.v, .int .i64 x3, .int .i64 x4] w (fun e w => e = .returned (.tuple #[.int .i64 out.1, .int .i64 out.2]) ∧ St w0 (ros) (rs) w) := by
  refine enterQ Try.func82 rfl Try.ntmps82 rfl fun Q hQ => ?_
  refine seqQ fun Q1 k1 z1 => ?_
  refine wp_region_lit ?_
  refine Y wn rfl (ya (v := .int .i64 0) rfl) ?_
  refine Y wn rfl (ya (v := .int .i64 0) rfl) ?_
  refine wpList_nil ?_
  refine k1 _ _ ?_
  refine seqQ fun Q2 k2 z2 => ?_
  refine wp_region_lit ?_
  refine Y wn rfl (ym (v := .int .i64 x4) (et rfl rfl)) ?_
  refine Y wn rfl (ym (v := .int .i64 x3) (et rfl rfl)) ?_
  refine Y wn rfl (ysub (et rfl rfl) (et rfl rfl)) ?_
  refine Y wn rfl (ya (v := .int .i64 (ws .i64 x4 x3)) (et rfl rfl)) ?_
  refine wpList_nil ?_
  refine k2 _ _ ?_
  refine seqQ fun Q3 k3 z3 => ?_
  refine wp_region_lit ?_
  refine YB wn rfl (rAl hst ZT_3) ?_
  clear hst
  intro b5 w hst
  refine wpList_nil ?_
  refine k3 _ _ ?_
  refine seqQ fun Q4 k4 z4 => ?_
  refine wp_region_lit ?_
  refine Y wn rfl (ym (v := .int .i64 x3) (et rfl rfl)) ?_
  refine Y wn rfl (ym (v := .int .i64 (ws .i64 x4 x3)) (et rfl rfl)) ?_
  refine Y wn rfl (yquoc (et rfl rfl) rfl (by decide)) ?_
  refine Y wn rfl (ymul (et rfl rfl) rfl) ?_
  refine Y wn rfl (yadd (et rfl rfl) (et rfl rfl)) ?_
  refine Y wn rfl (ya (v := .int .i64 (wa .i64 x3 (wm .i64 (wqc .i64 (ws .i64 x4 x3) 4) 1))) (et rfl rfl)) ?_
  refine wpList_nil ?_
  refine k4 _ _ ?_
  refine seqQ fun Q5 k5 z5 => ?_
  refine wp_region_lit ?_
  refine Y wn rfl (ym (v := .int .i64 x3) (et rfl rfl)) ?_
  refine Y wn rfl (ym (v := .int .i64 (ws .i64 x4 x3)) (et rfl rfl)) ?_
  refine Y wn rfl (yquoc (et rfl rfl) rfl (by decide)) ?_
  refine Y wn rfl (ymul (et rfl rfl) rfl) ?_
  refine Y wn rfl (yadd (et rfl rfl) (et rfl rfl)) ?_
  refine Y wn rfl (ya (v := .int .i64 (wa .i64 x3 (wm .i64 (wqc .i64 (ws .i64 x4 x3) 4) 2))) (et rfl rfl)) ?_
  refine wpList_nil ?_
  refine k5 _ _ ?_
  refine seqQ fun Q6 k6 z6 => ?_
  refine wp_region_lit ?_
  refine Y wn rfl (ym (v := .int .i64 x3) (et rfl rfl)) ?_
  refine Y wn rfl (ym (v := .int .i64 (ws .i64 x4 x3)) (et rfl rfl)) ?_
  refine Y wn rfl (yquoc (et rfl rfl) rfl (by decide)) ?_
  refine Y wn rfl (ymul (et rfl rfl) rfl) ?_
  refine Y wn rfl (yadd (et rfl rfl) (et rfl rfl)) ?_
  refine Y wn rfl (ya (v := .int .i64 (wa .i64 x3 (wm .i64 (wqc .i64 (ws .i64 x4 x3) 4) 3))) (et rfl rfl)) ?_
  refine wpList_nil ?_
  refine k6 _ _ ?_
  refine seqQ fun Q7 k7 z7 => ?_
  refine seqQ fun Q8 k8 z8 => ?_
  refine wp_region_lit ?_
  refine Y wn rfl (ym (v := .int .i64 (ws .i64 x4 x3)) (et rfl rfl)) ?_
  refine Y wn rfl (ygeq (et rfl rfl) rfl) ?_
  refine wpList_nil ?_
  refine k8 _ _ ?_
  have j2 : ∀ (x18 : Int) (x19 : Int) (f : Nat → Value) (w : World), f 9 = .pointer (some ⟨b5, 0, none⟩) → f 11 = .int .i64 x19 → St w0 (ros) (box b5 3 [.int .i64 x18] :: rs) w → slices_choosePivotOrdered_int_j2 x18 x19 = some out → Q7 .normal (fr 57 f) w := by
    intro x18 x19 f w ej2_9 ej2_11 hst hM
    refine k7 _ _ ?_
    refine seqQ fun Q15 k15 z15 => ?_
    refine wp_region_lit ?_
    refine Y wn rfl (yLb (u := .int .i64 x18) O_3 (et rfl ej2_9) hst mhR rfl) ?_
    refine wpList_nil ?_
    refine k15 _ _ ?_
    refine blockQ fun Q16 q16 => ?_
    refine seqQ fun Q17 k17 z17 => ?_
    refine wp_region_lit ?_
    refine Y wn rfl (yeql (et rfl rfl) rfl) ?_
    refine Y wn rfl (ya (v := .bool (decide (x18 = 0))) (et rfl rfl)) ?_
    refine wpList_nil ?_
    refine k17 _ _ ?_
    rcases iteS hM with ⟨c20, hM⟩ | ⟨c20, hM⟩
    · refine condT (et rfl rfl) (decide_eq_true c20) ?_
      refine seqQ fun Q18 k18 z18 => ?_
      refine wp_region_lit ?_
      refine Y wn rfl (ym (v := .int .i64 x19) (et rfl ej2_11)) ?_
      refine Y wn rfl (ya (v := .int .i64 x19) (et rfl rfl)) ?_
      refine Y wn rfl (ya (v := .int .i64 1) rfl) ?_
      refine wpList_nil ?_
      refine k18 _ _ ?_
      refine wp_ret ?_
      refine q16 _ _ _ ?_
      obtain rfl := someI hM
      exact hQ _ _ _ (fin2r Try.results82 ⟨rfl, rfl⟩ ⟨rfl, rfl⟩ ⟨rfl, (hst.pk 1 [] rfl)⟩)
    · refine condF (et rfl rfl) (decide_eq_false c20) ?_
      refine seqQ fun Q19 k19 z19 => ?_
      refine wp_region_lit ?_
      refine Y wn rfl (yeql (et rfl rfl) rfl) ?_
      refine Y wn rfl (ya (v := .bool (decide (x18 = 12))) (et rfl rfl)) ?_
      refine wpList_nil ?_
      refine k19 _ _ ?_
      rcases iteS hM with ⟨c21, hM⟩ | ⟨c21, hM⟩
      · refine condT (et rfl rfl) (decide_eq_true c21) ?_
        refine seqQ fun Q20 k20 z20 => ?_
        refine wp_region_lit ?_
        refine Y wn rfl (ym (v := .int .i64 x19) (et rfl ej2_11)) ?_
        refine Y wn rfl (ya (v := .int .i64 x19) (et rfl rfl)) ?_
        refine Y wn rfl (ya (v := .int .i64 2) rfl) ?_
        refine wpList_nil ?_
        refine k20 _ _ ?_
        refine wp_ret ?_
        refine q16 _ _ _ ?_
        obtain rfl := someI hM
        exact hQ _ _ _ (fin2r Try.results82 ⟨rfl, rfl⟩ ⟨rfl, rfl⟩ ⟨rfl, (hst.pk 1 [] rfl)⟩)
      · refine condF (et rfl rfl) (decide_eq_false c21) ?_
        refine seqQ fun Q21 k21 z21 => ?_
        refine wp_region_lit ?_
        refine Y wn rfl (ym (v := .int .i64 x19) (et rfl ej2_11)) ?_
        refine Y wn rfl (ya (v := .int .i64 x19) (et rfl rfl)) ?_
        refine Y wn rfl (ya (v := .int .i64 0) rfl) ?_
        refine wpList_nil ?_
        refine k21 _ _ ?_
        refine wp_ret ?_
        refine q16 _ _ _ ?_
        obtain rfl := someI hM
        exact hQ _ _ _ (fin2r Try.results82 ⟨rfl, rfl⟩ ⟨rfl, rfl⟩ ⟨rfl, (hst.pk 1 [] rfl)⟩)
  rcases iteS hM with ⟨c22, hM⟩ | ⟨c22, hM⟩
  · refine condT (et rfl rfl) (decide_eq_true c22) ?_
    refine seqQ fun Q22 k22 z22 => ?_
    refine seqQ fun Q23 k23 z23 => ?_
    refine wp_region_lit ?_
    refine Y wn rfl (ym (v := .int .i64 (ws .i64 x4 x3)) (et rfl rfl)) ?_
    refine Y wn rfl (ygeq (et rfl rfl) rfl) ?_
    refine wpList_nil ?_
    refine k23 _ _ ?_
    have j3 : ∀ (x26 : Int) (x27 : Int) (x28 : Int) (x29 : Int) (f : Nat → Value) (w : World), f 0 = h2.v → f 9 = .pointer (some ⟨b5, 0, none⟩) → f 10 = .int .i64 x27 → f 11 = .int .i64 x28 → f 12 = .int .i64 x29 → St w0 (ros) (box b5 3 [.int .i64 x26] :: rs) w → slices_choosePivotOrdered_int_j3 x1 x26 x27 x28 x29 = some out → Q22 .normal (fr 57 f) w := by
      intro x26 x27 x28 x29 f w ej3_0 ej3_9 ej3_10 ej3_11 ej3_12 hst hM
      refine k22 _ _ ?_
      refine wp_region_lit ?_
      refine Y wn rfl (ym (v := h2.v) (et rfl ej3_0)) ?_
      refine Y wn rfl (ym (v := .int .i64 x27) (et rfl ej3_10)) ?_
      refine Y wn rfl (ym (v := .int .i64 x28) (et rfl ej3_11)) ?_
      refine Y wn rfl (ym (v := .int .i64 x29) (et rfl ej3_12)) ?_
      obtain ⟨r30, gr30, hM⟩ := bs hM
      refine Yc wn rfl (yCall FN_101 (a5 (et rfl rfl) (et rfl rfl) (et rfl rfl) (et rfl rfl) (et rfl ej3_9))) (slices_medianOrdered_int_ok (hM := gr30) (hst := hst) (q1 := q1)) ?_
      clear hst
      rintro _ w ⟨rfl, hst⟩
      refine ⟨_, rfl, ?_⟩
      refine Y wn rfl (ya (v := .int .i64 r30.2) (et rfl rfl)) ?_
      refine wpList_nil ?_
      exact j2 _ _ _ _ ej3_9 rfl hst hM
    rcases iteS hM with ⟨c31, hM⟩ | ⟨c31, hM⟩
    · refine condT (et rfl rfl) (decide_eq_true c31) ?_
      refine seqQ fun Q26 k26 z26 => ?_
      refine wp_region_lit ?_
      refine Y wn rfl (ym (v := h2.v) (et rfl rfl)) ?_
      refine Y wn rfl (ym (v := .int .i64 (wa .i64 x3 (wm .i64 (wqc .i64 (ws .i64 x4 x3) 4) 1))) (et rfl rfl)) ?_
      obtain ⟨r32, gr32, hM⟩ := bs hM
      refine Yc wn rfl (yCall FN_100 (a3 (et rfl rfl) (et rfl rfl) (et rfl rfl))) (slices_medianAdjacentOrdered_int_ok (hM := gr32) (hst := hst) (q1 := q1)) ?_
      clear hst
      rintro _ w ⟨rfl, hst⟩
      refine ⟨_, rfl, ?_⟩
      refine Y wn rfl (ya (v := .int .i64 r32.2) (et rfl rfl)) ?_
      refine wpList_nil ?_
      refine k26 _ _ ?_
      refine seqQ fun Q27 k27 z27 => ?_
      refine wp_region_lit ?_
      refine Y wn rfl (ym (v := h2.v) (et rfl rfl)) ?_
      refine Y wn rfl (ym (v := .int .i64 (wa .i64 x3 (wm .i64 (wqc .i64 (ws .i64 x4 x3) 4) 2))) (et rfl rfl)) ?_
      obtain ⟨r33, gr33, hM⟩ := bs hM
      refine Yc wn rfl (yCall FN_100 (a3 (et rfl rfl) (et rfl rfl) (et rfl rfl))) (slices_medianAdjacentOrdered_int_ok (hM := gr33) (hst := hst) (q1 := q1)) ?_
      clear hst
      rintro _ w ⟨rfl, hst⟩
      refine ⟨_, rfl, ?_⟩
      refine Y wn rfl (ya (v := .int .i64 r33.2) (et rfl rfl)) ?_
      refine wpList_nil ?_
      refine k27 _ _ ?_
      refine wp_region_lit ?_
      refine Y wn rfl (ym (v := h2.v) (et rfl rfl)) ?_
      refine Y wn rfl (ym (v := .int .i64 (wa .i64 x3 (wm .i64 (wqc .i64 (ws .i64 x4 x3) 4) 3))) (et rfl rfl)) ?_
      obtain ⟨r34, gr34, hM⟩ := bs hM
      refine Yc wn rfl (yCall FN_100 (a3 (et rfl rfl) (et rfl rfl) (et rfl rfl))) (slices_medianAdjacentOrdered_int_ok (hM := gr34) (hst := hst) (q1 := q1)) ?_
      clear hst
      rintro _ w ⟨rfl, hst⟩
      refine ⟨_, rfl, ?_⟩
      refine Y wn rfl (ya (v := .int .i64 r34.2) (et rfl rfl)) ?_
      refine wpList_nil ?_
      exact j3 _ _ _ _ _ _ rfl rfl rfl rfl rfl hst hM
    · refine condF (et rfl rfl) (decide_eq_false c31) ?_
      refine wp_skip ?_
      exact j3 _ _ _ _ _ _ rfl rfl rfl rfl rfl hst hM
  · refine condF (et rfl rfl) (decide_eq_false c22) ?_
    refine wp_skip ?_
    exact j2 _ _ _ _ rfl rfl hst hM

theorem slices_pdqsortOrdered_int_ok {w0 : World} {ros : List Fact} {rs : List Res} {w : World} {x1 : List Int} {x3 : Int} {x4 : Int} {x5 : Int} {h2 : Hdr} {out : (List Int)} (hM : slices_pdqsortOrdered_int x1 x3 x4 x5 = some out) (hst : St w0 ros (row 3 (rI .i64) h2.v x1 :: rs) w) :
    Calls Try.prog 62 #[h2.v, .int .i64 x3, .int .i64 x4, .int .i64 x5] w (fun e w => e = .returned (.tuple #[]) ∧ St w0 (ros) (row 3 (rI .i64) h2.v out :: rs) w) := by
  refine enterQ Try.func62 rfl Try.ntmps62 rfl fun Q hQ => ?_
  refine seqQ fun Q1 k1 z1 => ?_
  refine wp_region_lit ?_
  refine Y wn rfl (ya (v := .bool true) rfl) ?_
  refine wpList_nil ?_
  refine k1 _ _ ?_
  refine seqQ fun Q2 k2 z2 => ?_
  refine wp_region_lit ?_
  refine Y wn rfl (ya (v := .bool true) rfl) ?_
  refine wpList_nil ?_
  refine k2 _ _ ?_
  refine blockQ fun Q3 q3 => ?_
  obtain ⟨o11, go11, hM⟩ := bs hM
  have je11_0 : ∀ (x32 : List Int) (f : Nat → Value) (w : World), St w0 (ros) (row 3 (rI .i64) h2.v x32 :: rs) w → x32 = o11 → Q3 .ret (fr 134 f) w := by
    intro x32 f w hst ho
    subst ho
    refine q3 _ _ _ ?_
    obtain rfl := someI hM
    exact hQ _ _ _ (fin0r Try.results62 ⟨rfl, hst⟩)
  refine loopQ (fun s a w => ∃ (f : Nat → Value), () = s ∧ a = fr 134 f ∧ f 0 = h2.v ∧ f 1 = .int .i64 x3 ∧ f 2 = .int .i64 x4 ∧ f 3 = .int .i64 x5 ∧ f 8 = .bool true ∧ f 9 = .bool true ∧ St w0 (ros) (row 3 (rI .i64) h2.v x1 :: rs) w) go11 ⟨_, rfl, rfl, rfl, rfl, rfl, rfl, rfl, rfl, hst⟩ ?_
  clear hst
  rintro _ _ w r11_ ⟨f, rfl, rfl, e11_0, e11_1, e11_2, e11_3, e11_8, e11_9, hst⟩ hM11 ho11 Q100011 n11 zz11
  refine blockQ fun Q61 q61 => ?_
  refine seqQ fun Q62 k62 z62 => ?_
  refine wp_region_lit ?_
  refine Y wn rfl (ym (v := .int .i64 x4) (et rfl e11_2)) ?_
  refine Y wn rfl (ym (v := .int .i64 x3) (et rfl e11_1)) ?_
  refine Y wn rfl (ysub (et rfl rfl) (et rfl rfl)) ?_
  refine Y wn rfl (ya (v := .int .i64 (ws .i64 x4 x3)) (et rfl rfl)) ?_
  refine wpList_nil ?_
  refine k62 _ _ ?_
  refine seqQ fun Q63 k63 z63 => ?_
  refine seqQ fun Q64 k64 z64 => ?_
  refine wp_region_lit ?_
  refine Y wn rfl (ym (v := .int .i64 (ws .i64 x4 x3)) (et rfl rfl)) ?_
  refine Y wn rfl (yleq (et rfl rfl) rfl) ?_
  refine wpList_nil ?_
  refine k64 _ _ ?_
  rcases iteS hM11 with ⟨c36, hM11⟩ | ⟨c36, hM11⟩
  · refine condT (et rfl rfl) (decide_eq_true c36) ?_
    refine seqQ fun Q65 k65 z65 => ?_
    refine wp_region_lit ?_
    refine Y wn rfl (ym (v := h2.v) (et rfl e11_0)) ?_
    refine Y wn rfl (ym (v := .int .i64 x3) (et rfl e11_1)) ?_
    refine Y wn rfl (ym (v := .int .i64 x4) (et rfl e11_2)) ?_
    obtain ⟨r37, gr37, hM11⟩ := bs hM11
    refine Yc wn rfl (yCall FN_79 (a3 (et rfl rfl) (et rfl rfl) (et rfl rfl))) (slices_insertionSortOrdered_int_ok (hM := gr37) (hst := hst) ) ?_
    clear hst
    rintro _ w ⟨rfl, hst⟩
    refine ⟨_, rfl, ?_⟩
    refine wpList_nil ?_
    refine k65 _ _ ?_
    refine wp_ret ?_
    refine z63 _ _ _ rfl ?_
    refine q61 _ _ _ ?_
    obtain rfl := someI hM11
    refine zz11 _ _ _ _ rfl rfl ?_
    exact je11_0 _ _ _ hst (ho11 _ rfl)
  · refine condF (et rfl rfl) (decide_eq_false c36) ?_
    refine wp_skip ?_
    refine k63 _ _ ?_
    refine seqQ fun Q66 k66 z66 => ?_
    refine seqQ fun Q67 k67 z67 => ?_
    refine wp_region_lit ?_
    refine Y wn rfl (ym (v := .int .i64 x5) (et rfl e11_3)) ?_
    refine Y wn rfl (yeql (et rfl rfl) rfl) ?_
    refine wpList_nil ?_
    refine k67 _ _ ?_
    rcases iteS hM11 with ⟨c38, hM11⟩ | ⟨c38, hM11⟩
    · refine condT (et rfl rfl) (decide_eq_true c38) ?_
      cases hM11
    · refine condF (et rfl rfl) (decide_eq_false c38) ?_
      cases hM11

theorem slices_Sort_int_ok {w0 : World} {ros : List Fact} {rs : List Res} {w : World} {x1 : List Int} {h2 : Hdr} {out : (List Int)} (hM : slices_Sort_int x1 = some out) (hst : St w0 ros (row 3 (rI .i64) h2.v x1 :: rs) w) :
    Calls Try.prog 40 #[h2.v] w (fun e w => e = .returned (.tuple #[]) ∧ St w0 (ros) (row 3 (rI .i64) h2.v out :: rs) w) := by
  refine enterQ Try.func40 rfl Try.ntmps40 rfl fun Q hQ => ?_
  refine seqQ fun Q1 k1 z1 => ?_
  refine wp_region_lit ?_
  refine Y wn rfl (ym (v := h2.v) (et rfl rfl)) ?_
  refine Y wn rfl (yLen SL_22 (et rfl rfl) hst (rdO mhR)) ?_
  refine Y wn rfl (ya (v := .int .i64 (x1.length : Int)) (et rfl rfl)) ?_
  refine wpList_nil ?_
  refine k1 _ _ ?_
  refine wp_region_lit ?_
  refine Y wn rfl (ym (v := h2.v) (et rfl rfl)) ?_
  refine Y wn rfl (ym (v := .int .i64 (x1.length : Int)) (et rfl rfl)) ?_
  refine Y wn rfl (ym (v := .int .i64 (x1.length : Int)) (et rfl rfl)) ?_
  refine Y wn rfl (ycv (k' := .u64) (by kernel_rfl) (by kernel_rfl) (et rfl rfl)) ?_
  obtain ⟨r3, gr3, hM⟩ := bs hM
  refine Yc wn rfl (yCall FN_63 (a1 (et rfl rfl))) (math_bits_Len_ok (hM := gr3) (hst := hst) ) ?_
  clear hst
  rintro _ w ⟨rfl, hst⟩
  refine ⟨_, rfl, ?_⟩
  obtain ⟨r4, gr4, hM⟩ := bs hM
  refine Yc wn rfl (yCall FN_62 (a4 (et rfl rfl) rfl (et rfl rfl) (et rfl rfl))) (slices_pdqsortOrdered_int_ok (hM := gr4) (hst := hst) ) ?_
  clear hst
  rintro _ w ⟨rfl, hst⟩
  refine ⟨_, rfl, ?_⟩
  refine wpList_nil ?_
  obtain rfl := someI hM
  exact hQ _ _ _ (fin0n Try.results40 ⟨rfl, hst⟩)

theorem graph_levels_ok {w0 : World} {ros : List Fact} {rs : List Res} {w : World} {x1 : List (List Int)} {x3 : Int} {h2 : Hdr} {out : (List (List Int))} (hM : graph_levels x1 x3 = some out) (q1 : imm (rS (rI .i64)) h2.v x1 ∈ ros) (hst : St w0 ros (rs) w) :
    Calls Try.prog 38 #[.agg #[h2.v], .int .i64 x3] w (fun e w => ∃ (h100001 : Hdr), e = .returned (h100001.v) ∧ St w0 (ros) (row 22 (rS (rI .i64)) h100001.v out :: rs) w) := by
  refine enterQ Try.func38 rfl Try.ntmps38 rfl fun Q hQ => ?_
  refine seqQ fun Q1 k1 z1 => ?_
  refine wp_region_lit ?_
  refine YB wn rfl (r_box (vals := [h2.v]) hst (et rfl rfl) rfl) ?_
  clear hst
  intro b4 w hst
  refine Y wn rfl (ya (v := hnil.v) rfl) ?_
  refine wpList_nil ?_
  refine k1 _ _ ?_
  refine seqQ fun Q2 k2 z2 => ?_
  refine wp_region_lit ?_
  refine Y wn rfl (yFb FL_27_0 (et rfl rfl)) ?_
  refine Y wn rfl (yLb (u := h2.v) O_25 (et rfl rfl) hst mhR rfl) ?_
  refine Y wn rfl (yLen SL_25 (et rfl rfl) hst (rdI q1)) ?_
  obtain ⟨x7, gx7, hM⟩ := bs hM
  refine YH wn rfl (rMk hst SL_54 (et rfl rfl) gx7) ?_
  clear hst
  intro h5 w hst
  refine Y wn rfl (ya (v := h5.v) (et rfl rfl)) ?_
  refine wpList_nil ?_
  refine k2 _ _ ?_
  refine seqQ fun Q3 k3 z3 => ?_
  refine wp_region_lit ?_
  refine Y wn rfl (ym (v := h5.v) (et rfl rfl)) ?_
  refine Y wn rfl (ym (v := .int .i64 x3) (et rfl rfl)) ?_
  obtain ⟨x8, gx8, hM⟩ := bs hM
  refine Y wn rfl (yIs SL_54 (et rfl rfl) (et rfl rfl) hst (rdO mhR) gx8) ?_
  refine YT wn rfl (r_sti (cs := [.bool true]) hst O_4 rfl (et rfl rfl) rfl rfl mkB gx8) ?_
  clear hst
  intro w hst
  refine wpList_nil ?_
  refine k3 _ _ ?_
  refine seqQ fun Q4 k4 z4 => ?_
  refine wp_region_lit ?_
  refine Y wn rfl (ya (v := hnil.v) rfl) ?_
  refine wpList_nil ?_
  refine k4 _ _ ?_
  refine seqQ fun Q5 k5 z5 => ?_
  refine seqQ fun Q6 k6 z6 => ?_
  refine wp_region_lit ?_
  refine Y wn rfl (ym (v := .int .i64 x3) (et rfl rfl)) ?_
  refine YH wn rfl (rLt (n := 1) (l := [x3]) hst SL_22 [.int .i64 x3] (bp1 (et rfl rfl)) rfl rfl (mks1 (cs := [.int .i64 x3]) rfl mkI mks0)) ?_
  clear hst
  intro h9 w hst
  refine Y wn rfl (ya (v := h9.v) (et rfl rfl)) ?_
  refine wpList_nil ?_
  refine k6 _ _ ?_
  refine blockQ fun Q7 q7 => ?_
  obtain ⟨o27, go27, hM⟩ := bs hM
  have je27_0 : ∀ (x413 : List (List Int)) (h412 : Hdr) (f : Nat → Value) (w : World), f 6 = h412.v → St w0 (ros) (row 22 (rS (rI .i64)) h412.v x413 :: rs) w → x413 = o27 → Q7 (.exit 0) (fr 63 f) w := by
    intro x413 h412 f w eje27_0_6 hst ho
    subst ho
    refine q7 _ _ _ ?_
    refine k5 _ _ ?_
    refine seqQ fun Q212 k212 z212 => ?_
    refine wp_region_lit ?_
    refine Y wn rfl (ym (v := h412.v) (et rfl eje27_0_6)) ?_
    refine Y wn rfl (ya (v := h412.v) (et rfl rfl)) ?_
    refine wpList_nil ?_
    refine k212 _ _ ?_
    refine wp_ret ?_
    obtain rfl := someI hM
    exact hQ _ _ _ (fin1r Try.results38 ⟨rfl, rfl⟩ ⟨_, rfl, hst⟩)
  replace hst := hst.rowNh 22 (rS (rI .i64))
  refine loopQ (fun s a w => ∃ (x206 : List Bool) (x208 : List (List Int)) (x210 : List Int) (f : Nat → Value) (h207 : Hdr) (h209 : Hdr), (x206, x208, x210) = s ∧ a = fr 63 f ∧ f 2 = .pointer (some ⟨b4, 0, none⟩) ∧ f 5 = h5.v ∧ f 6 = h207.v ∧ f 7 = h209.v ∧ St w0 (ros) (box b4 27 [h2.v] :: row 4 rB h5.v x206 :: row 22 (rS (rI .i64)) h207.v x208 :: row 3 (rI .i64) h209.v x210 :: rs) w) go27 ⟨_, _, _, _, _, _, rfl, rfl, rfl, rfl, rfl, rfl, (hst.pk 4 [3, 2, 0, 0] rfl)⟩ ?_
  clear hst
  rintro _ _ w r27_ ⟨x206, x208, x210, f, h207, h209, rfl, rfl, e27_2, e27_5, e27_6, e27_7, hst⟩ hM27 ho27 Q100027 n27 zz27
  refine seqQ fun Q213 k213 z213 => ?_
  refine seqQ fun Q214 k214 z214 => ?_
  refine wp_region_lit ?_
  refine Y wn rfl (ym (v := h209.v) (et rfl e27_7)) ?_
  refine Y wn rfl (yLen SL_22 (et rfl rfl) hst (rdO (mtR (mtR (mtR mhR))))) ?_
  refine Y wn rfl (ygtr (et rfl rfl) rfl) ?_
  refine wpList_nil ?_
  refine k214 _ _ ?_
  rcases iteS hM27 with ⟨c414, hM27⟩ | ⟨c414, hM27⟩
  · refine condT (et rfl rfl) (decide_eq_true c414) ?_
    refine wp_skip ?_
    refine k213 _ _ ?_
    refine blockQ fun Q215 q215 => ?_
    refine seqQ fun Q216 k216 z216 => ?_
    refine wp_region_lit ?_
    refine Y wn rfl (ym (v := h207.v) (et rfl e27_6)) ?_
    refine Y wn rfl (ym (v := h209.v) (et rfl e27_7)) ?_
    replace hst := hst.pk 4 [3, 0, 0, 0] rfl
    replace hst := hst.fz
    refine YH wn rfl (rLt (n := 1) (l := [x210]) hst SL_25 [h209.v] (bp1 (et rfl rfl)) rfl rfl (mks1 (cs := [h209.v]) rfl (mkS mhF) mks0)) ?_
    clear hst
    intro h415 w hst
    obtain ⟨x417, gx417, hM27⟩ := bs hM27
    replace hst := hst.pk 4 [3, 0, 0, 0] rfl
    refine YH wn rfl (rAp hst SL_25 (et rfl rfl) (et rfl rfl) (rdO (mtR mhR)) gx417) ?_
    clear hst
    intro h416 w hst
    refine Y wn rfl (ya (v := h416.v) (et rfl rfl)) ?_
    refine wpList_nil ?_
    refine k216 _ _ ?_
    refine seqQ fun Q217 k217 z217 => ?_
    refine wp_region_lit ?_
    refine Y wn rfl (ya (v := hnil.v) rfl) ?_
    refine wpList_nil ?_
    refine k217 _ _ ?_
    refine seqQ fun Q218 k218 z218 => ?_
    refine seqQ fun Q219 k219 z219 => ?_
    refine wp_region_lit ?_
    refine Y wn rfl (ym (v := h209.v) (et rfl e27_7)) ?_
    refine Y wn rfl (yLen SL_22 (et rfl rfl) hst (rdI mhF)) ?_
    refine Y wn rfl (ym (v := .int .i64 0) rfl) ?_
    refine wpList_nil ?_
    refine k219 _ _ ?_
    refine blockQ fun Q220 q220 => ?_
    obtain ⟨o36, go36, hM27⟩ := bs hM27
    have je36_0 : ∀ (x546 : List Bool) (x548 : List Int) (h547 : Hdr) (f : Nat → Value) (w : World), f 2 = .pointer (some ⟨b4, 0, none⟩) → f 5 = h5.v → f 6 = h416.v → f 8 = h547.v → St w0 (ros) (box b4 27 [h2.v] :: row 4 rB h5.v x546 :: row 22 (rS (rI .i64)) h416.v x417 :: row 3 (rI .i64) h547.v x548 :: rs) w → (x546, x548) = o36 → Q220 (.exit 2) (fr 63 f) w := by
      intro x546 x548 h547 f w eje36_0_2 eje36_0_5 eje36_0_6 eje36_0_8 hst ho
      subst ho
      refine q220 _ _ _ ?_
      refine k218 _ _ ?_
      refine seqQ fun Q283 k283 z283 => ?_
      refine wp_region_lit ?_
      refine Y wn rfl (ym (v := h547.v) (et rfl eje36_0_8)) ?_
      obtain ⟨r549, gr549, hM27⟩ := bs hM27
      replace hst := hst.pk 4 [3, 0, 0, 0] rfl
      refine Yc wn rfl (yCall FN_40 (a1 (et rfl rfl))) (slices_Sort_int_ok (hM := gr549) (hst := hst) ) ?_
      clear hst
      rintro _ w ⟨rfl, hst⟩
      refine ⟨_, rfl, ?_⟩
      refine wpList_nil ?_
      refine k283 _ _ ?_
      refine wp_region_lit ?_
      refine Y wn rfl (ym (v := h547.v) (et rfl eje36_0_8)) ?_
      refine Y wn rfl (ya (v := h547.v) (et rfl rfl)) ?_
      refine wpList_nil ?_
      refine q215 _ _ _ ?_
      obtain rfl := someI hM27
      exact n27 _ _ _ rfl ⟨_, _, _, _, _, _, rfl, rfl, eje36_0_2, eje36_0_5, eje36_0_6, rfl, (hst.pk 4 [1, 1, 1, 0] rfl)⟩
    replace hst := hst.rowNh 3 (rI .i64)
    refine loopQ (fun s a w => ∃ (x478 : List Bool) (x480 : List Int) (x481 : Int) (f : Nat → Value) (h479 : Hdr), (x478, x480, x481) = s ∧ a = fr 63 f ∧ f 2 = .pointer (some ⟨b4, 0, none⟩) ∧ f 5 = h5.v ∧ f 6 = h416.v ∧ f 8 = h479.v ∧ f 29 = h209.v ∧ f 30 = .int .i64 (x210.length : Int) ∧ f 31 = .int .i64 x481 ∧ St w0 (imm (rI .i64) h209.v x210 :: ros) (box b4 27 [h2.v] :: row 4 rB h5.v x478 :: row 22 (rS (rI .i64)) h416.v x417 :: row 3 (rI .i64) h479.v x480 :: rs) w) go36 ⟨_, _, _, _, _, rfl, rfl, e27_2, e27_5, rfl, rfl, rfl, rfl, rfl, (hst.pk 5 [3, 3, 1, 0] rfl)⟩ ?_
    clear hst
    rintro _ _ w r36_ ⟨x478, x480, x481, f, h479, rfl, rfl, e36_2, e36_5, e36_6, e36_8, e36_29, e36_30, e36_31, hst⟩ hM36 ho36 Q100036 n36 zz36
    refine seqQ fun Q284 k284 z284 => ?_
    refine wp_region_lit ?_
    refine Y wn rfl (ylss (et rfl e36_31) (et rfl e36_30)) ?_
    refine wpList_nil ?_
    refine k284 _ _ ?_
    refine seqQ fun Q285 k285 z285 => ?_
    rcases iteS hM36 with ⟨c550, hM36⟩ | ⟨c550, hM36⟩
    · refine condT (et rfl rfl) (decide_eq_true c550) ?_
      refine wp_skip ?_
      refine k285 _ _ ?_
      refine seqQ fun Q286 k286 z286 => ?_
      refine blockQ fun Q287 q287 => ?_
      refine seqQ fun Q288 k288 z288 => ?_
      refine wp_region_lit ?_
      obtain ⟨x551, gx551, hM36⟩ := bs hM36
      refine Y wn rfl (yIa SL_22 (et rfl e36_29) (et rfl e36_31) hst (rdI mhF) gx551) ?_
      refine Y wn rfl (yI O_3 (et rfl rfl) hst (rdI mhF) gx551) ?_
      refine Y wn rfl (ya (v := .int .i64 x551) (et rfl rfl)) ?_
      refine wpList_nil ?_
      refine k288 _ _ ?_
      refine seqQ fun Q289 k289 z289 => ?_
      refine wp_region_lit ?_
      refine Y wn rfl (yFb FL_27_0 (et rfl e36_2)) ?_
      refine Y wn rfl (yLb (u := h2.v) O_25 (et rfl rfl) hst mhR rfl) ?_
      refine Y wn rfl (ym (v := .int .i64 x551) (et rfl rfl)) ?_
      obtain ⟨x552, gx552, hM36⟩ := bs hM36
      refine Y wn rfl (yIa SL_25 (et rfl rfl) (et rfl rfl) hst (rdI (mtF q1)) gx552) ?_
      obtain ⟨h553, hst⟩ := iLs hst (mtF q1) gx552
      refine Y wn rfl (yCt O_22 (et rfl rfl) hst (mtF mhF) rfl) ?_
      refine Y wn rfl (yLen SL_22 (et rfl rfl) hst (rdI mhF)) ?_
      refine Y wn rfl (ym (v := .int .i64 0) rfl) ?_
      refine wpList_nil ?_
      refine k289 _ _ ?_
      refine blockQ fun Q290 q290 => ?_
      obtain ⟨o39, go39, hM36⟩ := bs hM36
      have je39_0 : ∀ (x592 : List Bool) (x594 : List Int) (h593 : Hdr) (f : Nat → Value) (w : World), f 2 = .pointer (some ⟨b4, 0, none⟩) → f 5 = h5.v → f 6 = h416.v → f 8 = h593.v → f 29 = h209.v → f 30 = .int .i64 (x210.length : Int) → f 31 = .int .i64 x481 → St w0 (imm (rI .i64) h209.v x210 :: ros) (box b4 27 [h2.v] :: row 4 rB h5.v x592 :: row 22 (rS (rI .i64)) h416.v x417 :: row 3 (rI .i64) h593.v x594 :: rs) w → (x592, x594) = o39 → Q290 (.exit 4) (fr 63 f) w := by
        intro x592 x594 h593 f w eje39_0_2 eje39_0_5 eje39_0_6 eje39_0_8 eje39_0_29 eje39_0_30 eje39_0_31 hst ho
        subst ho
        refine q290 _ _ _ ?_
        refine q287 _ _ _ ?_
        refine k286 _ _ ?_
        refine wp_region_lit ?_
        refine Y wn rfl (yadd (et rfl eje39_0_31) rfl) ?_
        refine Y wn rfl (ym (v := .int .i64 (wa .i64 x481 1)) (et rfl rfl)) ?_
        refine wpList_nil ?_
        obtain rfl := someI hM36
        exact n36 _ _ _ rfl ⟨_, _, _, _, _, rfl, rfl, eje39_0_2, eje39_0_5, eje39_0_6, eje39_0_8, eje39_0_29, eje39_0_30, rfl, hst⟩
      refine loopQ (fun s a w => ∃ (x569 : List Bool) (x571 : List Int) (x572 : Int) (f : Nat → Value) (h570 : Hdr), (x569, x571, x572) = s ∧ a = fr 63 f ∧ f 2 = .pointer (some ⟨b4, 0, none⟩) ∧ f 5 = h5.v ∧ f 6 = h416.v ∧ f 8 = h570.v ∧ f 29 = h209.v ∧ f 30 = .int .i64 (x210.length : Int) ∧ f 31 = .int .i64 x481 ∧ f 39 = h553.v ∧ f 40 = .int .i64 (x552.length : Int) ∧ f 41 = .int .i64 x572 ∧ St w0 (imm (rI .i64) h209.v x210 :: imm (rI .i64) h553.v x552 :: ros) (box b4 27 [h2.v] :: row 4 rB h5.v x569 :: row 22 (rS (rI .i64)) h416.v x417 :: row 3 (rI .i64) h570.v x571 :: rs) w) go39 ⟨_, _, _, _, _, rfl, rfl, e36_2, e36_5, e36_6, e36_8, e36_29, e36_30, e36_31, rfl, rfl, rfl, (hst.facts (allC (mtF (mtF mhF)) (allC mhF (allT (allT (allT allI))))))⟩ ?_
      clear hst
      rintro _ _ w r39_ ⟨x569, x571, x572, f, h570, rfl, rfl, e39_2, e39_5, e39_6, e39_8, e39_29, e39_30, e39_31, e39_39, e39_40, e39_41, hst⟩ hM39 ho39 Q100039 n39 zz39
      refine seqQ fun Q307 k307 z307 => ?_
      refine wp_region_lit ?_
      refine Y wn rfl (ylss (et rfl e39_41) (et rfl e39_40)) ?_
      refine wpList_nil ?_
      refine k307 _ _ ?_
      refine seqQ fun Q308 k308 z308 => ?_
      rcases iteS hM39 with ⟨c595, hM39⟩ | ⟨c595, hM39⟩
      · refine condT (et rfl rfl) (decide_eq_true c595) ?_
        refine wp_skip ?_
        refine k308 _ _ ?_
        refine seqQ fun Q309 k309 z309 => ?_
        refine blockQ fun Q310 q310 => ?_
        refine seqQ fun Q311 k311 z311 => ?_
        refine wp_region_lit ?_
        obtain ⟨x596, gx596, hM39⟩ := bs hM39
        refine Y wn rfl (yIa SL_22 (et rfl e39_39) (et rfl e39_41) hst (rdI (mtF mhF)) gx596) ?_
        refine Y wn rfl (yI O_3 (et rfl rfl) hst (rdI (mtF mhF)) gx596) ?_
        refine Y wn rfl (ya (v := .int .i64 x596) (et rfl rfl)) ?_
        refine wpList_nil ?_
        refine k311 _ _ ?_
        refine seqQ fun Q312 k312 z312 => ?_
        refine wp_region_lit ?_
        refine Y wn rfl (ym (v := h5.v) (et rfl e39_5)) ?_
        refine Y wn rfl (ym (v := .int .i64 x596) (et rfl rfl)) ?_
        obtain ⟨x597, gx597, hM39⟩ := bs hM39
        refine Y wn rfl (yIa SL_54 (et rfl rfl) (et rfl rfl) hst (rdO (mtR mhR)) gx597) ?_
        refine Y wn rfl (yB O_4 (et rfl rfl) hst (rdO (mtR mhR)) gx597) ?_
        refine Y wn rfl (ynot (et rfl rfl)) ?_
        refine wpList_nil ?_
        refine k312 _ _ ?_
        have j40 : ∀ (x602 : List Bool) (x604 : List Int) (h603 : Hdr) (f : Nat → Value) (w : World), f 2 = .pointer (some ⟨b4, 0, none⟩) → f 5 = h5.v → f 6 = h416.v → f 8 = h603.v → f 29 = h209.v → f 30 = .int .i64 (x210.length : Int) → f 31 = .int .i64 x481 → f 39 = h553.v → f 40 = .int .i64 (x552.length : Int) → f 41 = .int .i64 x572 → St w0 (imm (rI .i64) h209.v x210 :: imm (rI .i64) h553.v x552 :: ros) (box b4 27 [h2.v] :: row 4 rB h5.v x602 :: row 22 (rS (rI .i64)) h416.v x417 :: row 3 (rI .i64) h603.v x604 :: rs) w → graph_levels_j40 x572 x602 x604 = some r39_ → Q310 .normal (fr 63 f) w := by
          intro x602 x604 h603 f w ej40_2 ej40_5 ej40_6 ej40_8 ej40_29 ej40_30 ej40_31 ej40_39 ej40_40 ej40_41 hst hM
          refine q310 _ _ _ ?_
          refine k309 _ _ ?_
          refine wp_region_lit ?_
          refine Y wn rfl (yadd (et rfl ej40_41) rfl) ?_
          refine Y wn rfl (ym (v := .int .i64 (wa .i64 x572 1)) (et rfl rfl)) ?_
          refine wpList_nil ?_
          obtain rfl := someI hM
          exact n39 _ _ _ rfl ⟨_, _, _, _, _, rfl, rfl, ej40_2, ej40_5, ej40_6, ej40_8, ej40_29, ej40_30, ej40_31, ej40_39, ej40_40, rfl, hst⟩
        rcases iteS hM39 with ⟨c605, hM39⟩ | ⟨c605, hM39⟩
        · refine condF (et rfl rfl) (nF c605) ?_
          refine wp_skip ?_
          exact j40 _ _ _ _ _ e39_2 e39_5 e39_6 e39_8 e39_29 e39_30 e39_31 e39_39 e39_40 e39_41 hst hM39
        · refine condT (et rfl rfl) (nT (bfalse c605)) ?_
          refine seqQ fun Q314 k314 z314 => ?_
          refine wp_region_lit ?_
          refine Y wn rfl (ym (v := h5.v) (et rfl e39_5)) ?_
          refine Y wn rfl (ym (v := .int .i64 x596) (et rfl rfl)) ?_
          obtain ⟨x606, gx606, hM39⟩ := bs hM39
          refine Y wn rfl (yIs SL_54 (et rfl rfl) (et rfl rfl) hst (rdO (mtR mhR)) gx606) ?_
          replace hst := hst.pk 2 [1, 0] rfl
          refine YT wn rfl (r_sti (cs := [.bool true]) hst O_4 rfl (et rfl rfl) rfl rfl mkB gx606) ?_
          clear hst
          intro w hst
          refine wpList_nil ?_
          refine k314 _ _ ?_
          refine wp_region_lit ?_
          refine Y wn rfl (ym (v := h570.v) (et rfl e39_8)) ?_
          refine Y wn rfl (ym (v := .int .i64 x596) (et rfl rfl)) ?_
          refine YH wn rfl (rLt (n := 1) (l := [x596]) hst SL_22 [.int .i64 x596] (bp1 (et rfl rfl)) rfl rfl (mks1 (cs := [.int .i64 x596]) rfl mkI mks0)) ?_
          clear hst
          intro h607 w hst
          obtain ⟨x609, gx609, hM39⟩ := bs hM39
          replace hst := hst.pk 5 [4, 0, 0, 0, 0] rfl
          refine YH wn rfl (rAp hst SL_22 (et rfl rfl) (et rfl rfl) (rdO (mtR mhR)) gx609) ?_
          clear hst
          intro h608 w hst
          refine Y wn rfl (ya (v := h608.v) (et rfl rfl)) ?_
          refine wpList_nil ?_
          exact j40 _ _ _ _ _ e39_2 e39_5 e39_6 rfl e39_29 e39_30 e39_31 e39_39 e39_40 e39_41 (hst.pk 5 [3, 2, 2, 0] rfl) hM39
      · refine condF (et rfl rfl) (decide_eq_false c595) ?_
        refine wp_exit ?_
        refine z308 _ _ _ rfl ?_
        obtain rfl := someI hM39
        refine zz39 _ _ _ _ rfl rfl ?_
        exact je39_0 _ _ _ _ _ e39_2 e39_5 e39_6 e39_8 e39_29 e39_30 e39_31 (hst.facts (allC mhF (allT (allT allI)))) (ho39 _ rfl)
    · refine condF (et rfl rfl) (decide_eq_false c550) ?_
      refine wp_exit ?_
      refine z285 _ _ _ rfl ?_
      obtain rfl := someI hM36
      refine zz36 _ _ _ _ rfl rfl ?_
      exact je36_0 _ _ _ _ _ e36_2 e36_5 e36_6 e36_8 (hst.facts (allT allI)) (ho36 _ rfl)
  · refine condF (et rfl rfl) (decide_eq_false c414) ?_
    refine wp_exit ?_
    refine z213 _ _ _ rfl ?_
    obtain rfl := someI hM27
    refine zz27 _ _ _ _ rfl rfl ?_
    exact je27_0 _ _ _ _ e27_6 (hst.pk 4 [2] rfl) (ho27 _ rfl)

theorem graph_Peripheral_ok {w0 : World} {ros : List Fact} {rs : List Res} {w : World} {x1 : List (List Int)} {x3 : Int} {h2 : Hdr} {out : Int} (hM : graph_Peripheral x1 x3 = some out) (q1 : imm (rS (rI .i64)) h2.v x1 ∈ ros) (hst : St w0 ros (rs) w) :
    Calls Try.prog 17 #[.agg #[h2.v], .int .i64 x3] w (fun e w => e = .returned (.int .i64 out) ∧ St w0 (ros) (rs) w) := by
  refine enterQ Try.func17 rfl Try.ntmps17 rfl fun Q hQ => ?_
  refine seqQ fun Q1 k1 z1 => ?_
  refine wp_region_lit ?_
  refine YB wn rfl (r_box (vals := [h2.v]) hst (et rfl rfl) rfl) ?_
  clear hst
  intro b4 w hst
  refine Y wn rfl (ya (v := .int .i64 0) rfl) ?_
  refine wpList_nil ?_
  refine k1 _ _ ?_
  refine seqQ fun Q2 k2 z2 => ?_
  refine seqQ fun Q3 k3 z3 => ?_
  refine wp_region_lit ?_
  refine Y wn rfl (yLbs (us := [h2.v]) ST_27 (et rfl rfl) hst mhR rfl rfl) ?_
  obtain ⟨r5, gr5, hM⟩ := bs hM
  refine Yc wn rfl (yCall FN_22 (a1 (et rfl rfl))) (graph_Check_ok (hM := gr5) (hst := hst) (q1 := q1)) ?_
  clear hst
  rintro _ w ⟨rfl, hst⟩
  refine ⟨_, rfl, ?_⟩
  refine Y wn rfl (yneq (et rfl rfl) rfl) ?_
  refine Y wn rfl (ym (v := .bool (!(decide (r5 = 0)))) (et rfl rfl)) ?_
  obtain ⟨r7, gr7, hM⟩ := bs hM
  refine joinW 5 (fun f w => f 1 = .int .i64 x3 ∧ f 2 = .pointer (some ⟨b4, 0, none⟩) ∧ f 19 = .bool r7 ∧ St w0 (ros) (box b4 27 [h2.v] :: rs) w) (fun j1 => ?_) ?_
  · rcases iteS gr7 with ⟨c9, gr7⟩ | ⟨c9, gr7⟩
    · refine Y (wg rfl rfl rfl (nF (decide_eq_true c9))) rfl (yLbs (us := [h2.v]) ST_27 (et rfl rfl) hst mhR rfl rfl) ?_
      refine Y (wg rfl rfl rfl (nF (decide_eq_true c9))) rfl (ym (v := .int .i64 x3) (et rfl rfl)) ?_
      obtain ⟨r10, gr10, gr7⟩ := bs gr7
      refine Yc (wg rfl rfl rfl (nF (decide_eq_true c9))) rfl (yCall FN_37 (a2 (et rfl rfl) (et rfl rfl))) (graph_vertex_ok (hM := gr10) (hst := hst) (q1 := q1)) ?_
      clear hst
      rintro _ w ⟨rfl, hst⟩
      refine ⟨_, rfl, ?_⟩
      refine Y (wg rfl rfl rfl (nF (decide_eq_true c9))) rfl (ynot (et rfl rfl)) ?_
      refine Y wn rfl (ypf (v := .bool (!(r10))) (et rfl rfl) (nF (decide_eq_true c9)) (et rfl rfl)) ?_
      obtain rfl := someI gr7
      exact j1 _ _ ⟨rfl, rfl, rfl, hst⟩
    · refine Gn (wx rfl rfl rfl (nT (decide_eq_false c9))) rfl ?_
      refine Gn (wx rfl rfl rfl (nT (decide_eq_false c9))) rfl ?_
      refine Gn (wx rfl rfl rfl (nT (decide_eq_false c9))) rfl ?_
      refine Gn (wx rfl rfl rfl (nT (decide_eq_false c9))) rfl ?_
      refine Y wn rfl (ypt (v := .bool true) (et rfl rfl) (nT (decide_eq_false c9)) rfl) ?_
      obtain rfl := someI gr7
      exact j1 _ _ ⟨rfl, rfl, rfl, hst⟩
  clear hst
  rintro f w ⟨e8_1, e8_2, e8_19, hst⟩
  refine wpList_nil ?_
  refine k3 _ _ ?_
  rcases iteS hM with ⟨c11, hM⟩ | ⟨c11, hM⟩
  · refine condT (et rfl e8_19) c11 ?_
    refine seqQ fun Q4 k4 z4 => ?_
    refine wp_region_lit ?_
    refine Y wn rfl (ya (v := .int .i64 (-1)) rfl) ?_
    refine wpList_nil ?_
    refine k4 _ _ ?_
    refine wp_ret ?_
    refine z2 _ _ _ rfl ?_
    obtain rfl := someI hM
    exact hQ _ _ _ (fin1r Try.results17 ⟨rfl, rfl⟩ ⟨rfl, (hst.pk 1 [] rfl)⟩)
  · refine condF (et rfl e8_19) (bfalse c11) ?_
    refine wp_skip ?_
    refine k2 _ _ ?_
    refine seqQ fun Q5 k5 z5 => ?_
    refine wp_region_lit ?_
    refine Y wn rfl (yLbs (us := [h2.v]) ST_27 (et rfl e8_2) hst mhR rfl rfl) ?_
    refine Y wn rfl (ym (v := .int .i64 x3) (et rfl e8_1)) ?_
    obtain ⟨r12, gr12, hM⟩ := bs hM
    refine Yc wn rfl (yCall FN_38 (a2 (et rfl rfl) (et rfl rfl))) (graph_levels_ok (hM := gr12) (hst := hst) (q1 := q1)) ?_
    clear hst
    rintro _ w ⟨h13, rfl, hst⟩
    refine ⟨_, rfl, ?_⟩
    refine Y wn rfl (ya (v := h13.v) (et rfl rfl)) ?_
    refine wpList_nil ?_
    refine k5 _ _ ?_
    refine blockQ fun Q6 q6 => ?_
    obtain ⟨o10, go10, hM⟩ := bs hM
    have je10_0 : ∀ (x90 : Int) (f : Nat → Value) (w : World), f 4 = .int .i64 x90 → St w0 (ros) (rs) w → x90 = o10 → Q6 .ret (fr 64 f) w := by
      intro x90 f w eje10_0_4 hst ho
      subst ho
      refine q6 _ _ _ ?_
      obtain rfl := someI hM
      exact hQ _ _ _ (fin1r Try.results17 ⟨rfl, eje10_0_4⟩ ⟨rfl, hst⟩)
    refine loopQ (fun s a w => ∃ (x49 : Int) (x51 : List (List Int)) (f : Nat → Value) (h50 : Hdr), (x49, x51) = s ∧ a = fr 64 f ∧ f 1 = .int .i64 x49 ∧ f 2 = .pointer (some ⟨b4, 0, none⟩) ∧ f 5 = h50.v ∧ St w0 (ros) (box b4 27 [h2.v] :: row 22 (rS (rI .i64)) h50.v x51 :: rs) w) go10 ⟨_, _, _, _, rfl, rfl, e8_1, e8_2, rfl, (hst.pk 2 [1, 0] rfl)⟩ ?_
    clear hst
    rintro _ _ w r10_ ⟨x49, x51, f, h50, rfl, rfl, e10_1, e10_2, e10_5, hst⟩ hM10 ho10 Q100010 n10 zz10
    refine blockQ fun Q63 q63 => ?_
    refine seqQ fun Q64 k64 z64 => ?_
    refine wp_region_lit ?_
    refine Y wn rfl (ym (v := h50.v) (et rfl e10_5)) ?_
    refine Y wn rfl (ym (v := h50.v) (et rfl e10_5)) ?_
    refine Y wn rfl (yLen SL_25 (et rfl rfl) hst (rdO (mtR mhR))) ?_
    refine Y wn rfl (ysub (et rfl rfl) rfl) ?_
    obtain ⟨x91, gx91, hM10⟩ := bs hM10
    refine Y wn rfl (yIa SL_25 (et rfl rfl) (et rfl rfl) hst (rdO (mtR mhR)) gx91) ?_
    obtain ⟨h92, ch92, hst⟩ := rLs hst (rdO (mtR mhR)) gx91
    refine Y wn rfl (yCe O_22 (et rfl rfl) ch92 rfl) ?_
    refine Y wn rfl (ya (v := h92.v) (et rfl rfl)) ?_
    refine wpList_nil ?_
    refine k64 _ _ ?_
    refine seqQ fun Q65 k65 z65 => ?_
    refine wp_region_lit ?_
    refine Y wn rfl (ym (v := h92.v) (et rfl rfl)) ?_
    obtain ⟨x93, gx93, hM10⟩ := bs hM10
    refine Y wn rfl (yIa SL_22 (et rfl rfl) rfl hst (rdI mhF) gx93) ?_
    refine Y wn rfl (yI O_3 (et rfl rfl) hst (rdI mhF) gx93) ?_
    refine Y wn rfl (ya (v := .int .i64 x93) (et rfl rfl)) ?_
    refine wpList_nil ?_
    refine k65 _ _ ?_
    refine seqQ fun Q66 k66 z66 => ?_
    refine seqQ fun Q67 k67 z67 => ?_
    refine wp_region_lit ?_
    refine Y wn rfl (ym (v := h92.v) (et rfl rfl)) ?_
    refine Y wn rfl (yLen SL_22 (et rfl rfl) hst (rdI mhF)) ?_
    refine Y wn rfl (ym (v := .int .i64 0) rfl) ?_
    refine wpList_nil ?_
    refine k67 _ _ ?_
    refine blockQ fun Q68 q68 => ?_
    obtain ⟨o13, go13, hM10⟩ := bs hM10
    have je13_0 : ∀ (x114 : Int) (f : Nat → Value) (w : World), f 1 = .int .i64 x49 → f 2 = .pointer (some ⟨b4, 0, none⟩) → f 5 = h50.v → f 7 = .int .i64 x114 → St w0 (ros) (box b4 27 [h2.v] :: row 22 (rS (rI .i64)) h50.v x51 :: rs) w → x114 = o13 → Q68 (.exit 2) (fr 64 f) w := by
      intro x114 f w eje13_0_1 eje13_0_2 eje13_0_5 eje13_0_7 hst ho
      subst ho
      refine q68 _ _ _ ?_
      refine k66 _ _ ?_
      refine seqQ fun Q81 k81 z81 => ?_
      refine wp_region_lit ?_
      refine Y wn rfl (yLbs (us := [h2.v]) ST_27 (et rfl eje13_0_2) hst mhR rfl rfl) ?_
      refine Y wn rfl (ym (v := .int .i64 x114) (et rfl eje13_0_7)) ?_
      obtain ⟨r115, gr115, hM10⟩ := bs hM10
      refine Yc wn rfl (yCall FN_38 (a2 (et rfl rfl) (et rfl rfl))) (graph_levels_ok (hM := gr115) (hst := hst) (q1 := q1)) ?_
      clear hst
      rintro _ w ⟨h116, rfl, hst⟩
      refine ⟨_, rfl, ?_⟩
      refine Y wn rfl (ya (v := h116.v) (et rfl rfl)) ?_
      refine wpList_nil ?_
      refine k81 _ _ ?_
      refine seqQ fun Q82 k82 z82 => ?_
      refine seqQ fun Q83 k83 z83 => ?_
      refine wp_region_lit ?_
      refine Y wn rfl (ym (v := h116.v) (et rfl rfl)) ?_
      refine Y wn rfl (yLen SL_25 (et rfl rfl) hst (rdO mhR)) ?_
      refine Y wn rfl (ym (v := h50.v) (et rfl eje13_0_5)) ?_
      refine Y wn rfl (yLen SL_25 (et rfl rfl) hst (rdO (mtR (mtR mhR)))) ?_
      refine Y wn rfl (yleq (et rfl rfl) (et rfl rfl)) ?_
      refine wpList_nil ?_
      refine k83 _ _ ?_
      rcases iteS hM10 with ⟨c117, hM10⟩ | ⟨c117, hM10⟩
      · refine condT (et rfl rfl) (decide_eq_true c117) ?_
        refine seqQ fun Q84 k84 z84 => ?_
        refine wp_region_lit ?_
        refine Y wn rfl (ym (v := .int .i64 x49) (et rfl eje13_0_1)) ?_
        refine Y wn rfl (ya (v := .int .i64 x49) (et rfl rfl)) ?_
        refine wpList_nil ?_
        refine k84 _ _ ?_
        refine wp_ret ?_
        refine z82 _ _ _ rfl ?_
        refine q63 _ _ _ ?_
        obtain rfl := someI hM10
        refine zz10 _ _ _ _ rfl rfl ?_
        exact je10_0 _ _ _ rfl (hst.pk 3 [] rfl) (ho10 _ rfl)
      · refine condF (et rfl rfl) (decide_eq_false c117) ?_
        refine wp_skip ?_
        refine k82 _ _ ?_
        refine wp_region_lit ?_
        refine Y wn rfl (ym (v := .int .i64 x114) (et rfl eje13_0_7)) ?_
        refine Y wn rfl (ym (v := h116.v) (et rfl rfl)) ?_
        refine Y wn rfl (ya (v := .int .i64 x114) (et rfl rfl)) ?_
        refine Y wn rfl (ya (v := h116.v) (et rfl rfl)) ?_
        refine wpList_nil ?_
        refine q63 _ _ _ ?_
        obtain rfl := someI hM10
        exact n10 _ _ _ rfl ⟨_, _, _, _, rfl, rfl, rfl, eje13_0_2, rfl, (hst.pk 3 [1, 0] rfl)⟩
    refine loopQ (fun s a w => ∃ (x102 : Int) (x103 : Int) (f : Nat → Value), (x102, x103) = s ∧ a = fr 64 f ∧ f 1 = .int .i64 x49 ∧ f 2 = .pointer (some ⟨b4, 0, none⟩) ∧ f 5 = h50.v ∧ f 7 = .int .i64 x102 ∧ f 32 = h92.v ∧ f 33 = .int .i64 (x91.length : Int) ∧ f 34 = .int .i64 x103 ∧ St w0 (imm (rI .i64) h92.v x91 :: ros) (box b4 27 [h2.v] :: row 22 (rS (rI .i64)) h50.v x51 :: rs) w) go13 ⟨_, _, _, rfl, rfl, e10_1, e10_2, e10_5, rfl, rfl, rfl, rfl, hst⟩ ?_
    clear hst
    rintro _ _ w r13_ ⟨x102, x103, f, rfl, rfl, e13_1, e13_2, e13_5, e13_7, e13_32, e13_33, e13_34, hst⟩ hM13 ho13 Q100013 n13 zz13
    refine seqQ fun Q85 k85 z85 => ?_
    refine wp_region_lit ?_
    refine Y wn rfl (ylss (et rfl e13_34) (et rfl e13_33)) ?_
    refine wpList_nil ?_
    refine k85 _ _ ?_
    refine seqQ fun Q86 k86 z86 => ?_
    rcases iteS hM13 with ⟨c118, hM13⟩ | ⟨c118, hM13⟩
    · refine condT (et rfl rfl) (decide_eq_true c118) ?_
      refine wp_skip ?_
      refine k86 _ _ ?_
      refine seqQ fun Q87 k87 z87 => ?_
      refine blockQ fun Q88 q88 => ?_
      refine seqQ fun Q89 k89 z89 => ?_
      refine wp_region_lit ?_
      obtain ⟨x119, gx119, hM13⟩ := bs hM13
      refine Y wn rfl (yIa SL_22 (et rfl e13_32) (et rfl e13_34) hst (rdI mhF) gx119) ?_
      refine Y wn rfl (yI O_3 (et rfl rfl) hst (rdI mhF) gx119) ?_
      refine Y wn rfl (ya (v := .int .i64 x119) (et rfl rfl)) ?_
      refine wpList_nil ?_
      refine k89 _ _ ?_
      refine seqQ fun Q90 k90 z90 => ?_
      obtain ⟨x120, gx120, hM13⟩ := bs hM13
      obtain ⟨x122, gx122, hM13⟩ := bs hM13
      refine wp_drawR [0, 1, 0, 7, 15, 31, 0, 64, 0, 448, 960, 1984, 4095] [] 0 folM (by kernel_rfl) (by kernel_rfl) (by kernel_rfl) ?_
      replace hst := hst.drew
      refine DRz (l1 := [0, 1, 2, 3, 4, 5, 6, 7, 8, 9, 10, 11, 12]) (l2 := []) (by kernel_rfl) (by kernel_rfl) ?_
      refine Ry rfl rfl wn (yFb FL_27_0 (et rfl e13_2)) ?_
      refine Ry rfl rfl wn (yLb (u := h2.v) O_25 (et rfl rfl) hst mhR rfl) ?_
      refine Ry rfl rfl wn (ym (v := .int .i64 x119) (et rfl rfl)) ?_
      refine Ry rfl rfl wn (yIa SL_25 (et rfl rfl) (et rfl rfl) hst (rdI (mtF q1)) gx120) ?_
      obtain ⟨h121, hst⟩ := iLs hst (mtF q1) gx120
      refine Ry rfl rfl wn (yCt O_22 (et rfl rfl) hst (mtF mhF) rfl) ?_
      refine Ry rfl rfl wn (yLen SL_22 (et rfl rfl) hst (rdI mhF)) ?_
      refine Ry rfl rfl wn (yFb FL_27_0 (et rfl e13_2)) ?_
      refine Ry rfl rfl wn (yLb (u := h2.v) O_25 (et rfl rfl) hst mhR rfl) ?_
      refine Ry rfl rfl wn (ym (v := .int .i64 x102) (et rfl e13_7)) ?_
      refine Ry rfl rfl wn (yIa SL_25 (et rfl rfl) (et rfl rfl) hst (rdI (mtF (mtF (mtF q1)))) gx122) ?_
      obtain ⟨h123, hst⟩ := iLs hst (mtF (mtF (mtF q1))) gx122
      refine Ry rfl rfl wn (yCt O_22 (et rfl rfl) hst (mtF mhF) rfl) ?_
      refine Ry rfl rfl wn (yLen SL_22 (et rfl rfl) hst (rdI mhF)) ?_
      refine Ry rfl rfl wn (ylss (et rfl rfl) (et rfl rfl)) ?_
      refine Rn QSn ?_
      refine k90 _ _ ?_
      have j14 : ∀ (x124 : Int) (f : Nat → Value) (w : World), f 1 = .int .i64 x49 → f 2 = .pointer (some ⟨b4, 0, none⟩) → f 5 = h50.v → f 7 = .int .i64 x124 → f 32 = h92.v → f 33 = .int .i64 (x91.length : Int) → f 34 = .int .i64 x103 → St w0 (imm (rI .i64) h92.v x91 :: ros) (box b4 27 [h2.v] :: row 22 (rS (rI .i64)) h50.v x51 :: rs) w → graph_Peripheral_j14 x103 x124 = some r13_ → Q88 .normal (fr 64 f) w := by
        intro x124 f w ej14_1 ej14_2 ej14_5 ej14_7 ej14_32 ej14_33 ej14_34 hst hM
        refine q88 _ _ _ ?_
        refine k87 _ _ ?_
        refine wp_region_lit ?_
        refine Y wn rfl (yadd (et rfl ej14_34) rfl) ?_
        refine Y wn rfl (ym (v := .int .i64 (wa .i64 x103 1)) (et rfl rfl)) ?_
        refine wpList_nil ?_
        obtain rfl := someI hM
        exact n13 _ _ _ rfl ⟨_, _, _, rfl, rfl, ej14_1, ej14_2, ej14_5, ej14_7, ej14_32, ej14_33, rfl, hst⟩
      rcases iteS hM13 with ⟨c125, hM13⟩ | ⟨c125, hM13⟩
      · refine condT (et rfl rfl) (decide_eq_true c125) ?_
        refine wp_region_lit ?_
        refine Y wn rfl (ym (v := .int .i64 x119) (et rfl rfl)) ?_
        refine Y wn rfl (ya (v := .int .i64 x119) (et rfl rfl)) ?_
        refine wpList_nil ?_
        exact j14 _ _ _ e13_1 e13_2 e13_5 rfl e13_32 e13_33 e13_34 (hst.facts (allC (mtF (mtF (mtF (mtF mhF)))) (allT (allT (allT (allT (allT allI))))))) hM13
      · refine condF (et rfl rfl) (decide_eq_false c125) ?_
        refine wp_skip ?_
        exact j14 _ _ _ e13_1 e13_2 e13_5 e13_7 e13_32 e13_33 e13_34 (hst.facts (allC (mtF (mtF (mtF (mtF mhF)))) (allT (allT (allT (allT (allT allI))))))) hM13
    · refine condF (et rfl rfl) (decide_eq_false c118) ?_
      refine wp_exit ?_
      refine z86 _ _ _ rfl ?_
      obtain rfl := someI hM13
      refine zz13 _ _ _ _ rfl rfl ?_
      exact je13_0 _ _ _ e13_1 e13_2 e13_5 e13_7 (hst.facts (allT allI)) (ho13 _ rfl)

theorem graph_Levels_ok {w0 : World} {ros : List Fact} {rs : List Res} {w : World} {x1 : List (List Int)} {x3 : Int} {h2 : Hdr} {out : (List (List Int))} (hM : graph_Levels x1 x3 = some out) (q1 : imm (rS (rI .i64)) h2.v x1 ∈ ros) (hst : St w0 ros (rs) w) :
    Calls Try.prog 12 #[.agg #[h2.v], .int .i64 x3] w (fun e w => ∃ (h100001 : Hdr), e = .returned (h100001.v) ∧ St w0 (ros) (row 22 (rS (rI .i64)) h100001.v out :: rs) w) := by
  refine enterQ Try.func12 rfl Try.ntmps12 rfl fun Q hQ => ?_
  refine seqQ fun Q1 k1 z1 => ?_
  refine wp_region_lit ?_
  refine YB wn rfl (r_box (vals := [h2.v]) hst (et rfl rfl) rfl) ?_
  clear hst
  intro b4 w hst
  refine Y wn rfl (ya (v := hnil.v) rfl) ?_
  refine wpList_nil ?_
  refine k1 _ _ ?_
  refine seqQ fun Q2 k2 z2 => ?_
  refine seqQ fun Q3 k3 z3 => ?_
  refine wp_region_lit ?_
  refine Y wn rfl (yLbs (us := [h2.v]) ST_27 (et rfl rfl) hst mhR rfl rfl) ?_
  obtain ⟨r5, gr5, hM⟩ := bs hM
  refine Yc wn rfl (yCall FN_22 (a1 (et rfl rfl))) (graph_Check_ok (hM := gr5) (hst := hst) (q1 := q1)) ?_
  clear hst
  rintro _ w ⟨rfl, hst⟩
  refine ⟨_, rfl, ?_⟩
  refine Y wn rfl (yneq (et rfl rfl) rfl) ?_
  refine Y wn rfl (ym (v := .bool (!(decide (r5 = 0)))) (et rfl rfl)) ?_
  obtain ⟨r7, gr7, hM⟩ := bs hM
  refine joinW 5 (fun f w => f 1 = .int .i64 x3 ∧ f 2 = .pointer (some ⟨b4, 0, none⟩) ∧ f 13 = .bool r7 ∧ St w0 (ros) (box b4 27 [h2.v] :: rs) w) (fun j1 => ?_) ?_
  · rcases iteS gr7 with ⟨c9, gr7⟩ | ⟨c9, gr7⟩
    · refine Y (wg rfl rfl rfl (nF (decide_eq_true c9))) rfl (yLbs (us := [h2.v]) ST_27 (et rfl rfl) hst mhR rfl rfl) ?_
      refine Y (wg rfl rfl rfl (nF (decide_eq_true c9))) rfl (ym (v := .int .i64 x3) (et rfl rfl)) ?_
      obtain ⟨r10, gr10, gr7⟩ := bs gr7
      refine Yc (wg rfl rfl rfl (nF (decide_eq_true c9))) rfl (yCall FN_37 (a2 (et rfl rfl) (et rfl rfl))) (graph_vertex_ok (hM := gr10) (hst := hst) (q1 := q1)) ?_
      clear hst
      rintro _ w ⟨rfl, hst⟩
      refine ⟨_, rfl, ?_⟩
      refine Y (wg rfl rfl rfl (nF (decide_eq_true c9))) rfl (ynot (et rfl rfl)) ?_
      refine Y wn rfl (ypf (v := .bool (!(r10))) (et rfl rfl) (nF (decide_eq_true c9)) (et rfl rfl)) ?_
      obtain rfl := someI gr7
      exact j1 _ _ ⟨rfl, rfl, rfl, hst⟩
    · refine Gn (wx rfl rfl rfl (nT (decide_eq_false c9))) rfl ?_
      refine Gn (wx rfl rfl rfl (nT (decide_eq_false c9))) rfl ?_
      refine Gn (wx rfl rfl rfl (nT (decide_eq_false c9))) rfl ?_
      refine Gn (wx rfl rfl rfl (nT (decide_eq_false c9))) rfl ?_
      refine Y wn rfl (ypt (v := .bool true) (et rfl rfl) (nT (decide_eq_false c9)) rfl) ?_
      obtain rfl := someI gr7
      exact j1 _ _ ⟨rfl, rfl, rfl, hst⟩
  clear hst
  rintro f w ⟨e8_1, e8_2, e8_13, hst⟩
  refine wpList_nil ?_
  refine k3 _ _ ?_
  rcases iteS hM with ⟨c11, hM⟩ | ⟨c11, hM⟩
  · refine condT (et rfl e8_13) c11 ?_
    refine seqQ fun Q4 k4 z4 => ?_
    refine wp_region_lit ?_
    refine Y wn rfl (ya (v := hnil.v) rfl) ?_
    refine wpList_nil ?_
    refine k4 _ _ ?_
    refine wp_ret ?_
    refine z2 _ _ _ rfl ?_
    obtain rfl := someI hM
    replace hst := hst.rowNh 22 (rS (rI .i64))
    exact hQ _ _ _ (fin1r Try.results12 ⟨rfl, rfl⟩ ⟨_, rfl, (hst.pk 2 [0] rfl)⟩)
  · refine condF (et rfl e8_13) (bfalse c11) ?_
    refine wp_skip ?_
    refine k2 _ _ ?_
    refine seqQ fun Q5 k5 z5 => ?_
    refine wp_region_lit ?_
    refine Y wn rfl (yLbs (us := [h2.v]) ST_27 (et rfl e8_2) hst mhR rfl rfl) ?_
    refine Y wn rfl (ym (v := .int .i64 x3) (et rfl e8_1)) ?_
    obtain ⟨r12, gr12, hM⟩ := bs hM
    refine Yc wn rfl (yCall FN_38 (a2 (et rfl rfl) (et rfl rfl))) (graph_levels_ok (hM := gr12) (hst := hst) (q1 := q1)) ?_
    clear hst
    rintro _ w ⟨h13, rfl, hst⟩
    refine ⟨_, rfl, ?_⟩
    refine Y wn rfl (ya (v := h13.v) (et rfl rfl)) ?_
    refine wpList_nil ?_
    refine k5 _ _ ?_
    refine wp_ret ?_
    obtain rfl := someI hM
    exact hQ _ _ _ (fin1r Try.results12 ⟨rfl, rfl⟩ ⟨_, rfl, (hst.pk 2 [0] rfl)⟩)

theorem sparsekit_Ints_ok {w0 : World} {ros : List Fact} {rs : List Res} {w : World} {x1 : List Int} {x3 : List Int} {h2 : Hdr} {h4 : Hdr} {out : Bool} (hM : sparsekit_Ints x1 x3 = some out) (q1 : imm (rI .i64) h2.v x1 ∈ ros) (q2 : imm (rI .i64) h4.v x3 ∈ ros) (hst : St w0 ros (rs) w) :
    Calls Try.prog 45 #[h2.v, h4.v] w (fun e w => e = .returned (.bool out) ∧ St w0 (ros) (rs) w) := by
  refine enterQ Try.func45 rfl Try.ntmps45 rfl fun Q hQ => ?_
  refine seqQ fun Q1 k1 z1 => ?_
  refine wp_region_lit ?_
  refine Y wn rfl (ya (v := .bool false) rfl) ?_
  refine wpList_nil ?_
  refine k1 _ _ ?_
  refine seqQ fun Q2 k2 z2 => ?_
  refine seqQ fun Q3 k3 z3 => ?_
  refine wp_region_lit ?_
  refine Y wn rfl (ym (v := h2.v) (et rfl rfl)) ?_
  refine Y wn rfl (yLen SL_22 (et rfl rfl) hst (rdI q1)) ?_
  refine Y wn rfl (ym (v := h4.v) (et rfl rfl)) ?_
  refine Y wn rfl (yLen SL_22 (et rfl rfl) hst (rdI q2)) ?_
  refine Y wn rfl (yneq (et rfl rfl) (et rfl rfl)) ?_
  refine wpList_nil ?_
  refine k3 _ _ ?_
  rcases iteS hM with ⟨c5, hM⟩ | ⟨c5, hM⟩
  · refine condF (et rfl rfl) (nF (decide_eq_true c5)) ?_
    refine wp_skip ?_
    refine k2 _ _ ?_
    refine seqQ fun Q4 k4 z4 => ?_
    refine seqQ fun Q5 k5 z5 => ?_
    refine wp_region_lit ?_
    refine Y wn rfl (ya (v := .int .i64 0) rfl) ?_
    refine wpList_nil ?_
    refine k5 _ _ ?_
    refine blockQ fun Q6 q6 => ?_
    obtain ⟨o1, go1, hM⟩ := bs hM
    have je1_0 : ∀ (f : Nat → Value) (w : World), St w0 (ros) (rs) w → .inl () = o1 → Q6 (.exit 0) (fr 26 f) w := by
      intro f w hst ho
      subst ho
      refine q6 _ _ _ ?_
      refine k4 _ _ ?_
      refine seqQ fun Q19 k19 z19 => ?_
      refine wp_region_lit ?_
      refine Y wn rfl (ya (v := .bool true) rfl) ?_
      refine wpList_nil ?_
      refine k19 _ _ ?_
      refine wp_ret ?_
      obtain rfl := someI hM
      exact hQ _ _ _ (fin1r Try.results45 ⟨rfl, rfl⟩ ⟨rfl, hst⟩)
    have je1_1 : ∀ (f : Nat → Value) (w : World), f 4 = .bool false → St w0 (ros) (rs) w → .inr () = o1 → Q6 .ret (fr 26 f) w := by
      intro f w eje1_1_4 hst ho
      subst ho
      refine q6 _ _ _ ?_
      refine z4 _ _ _ rfl ?_
      obtain rfl := someI hM
      exact hQ _ _ _ (fin1r Try.results45 ⟨rfl, eje1_1_4⟩ ⟨rfl, hst⟩)
    refine loopQ (fun s a w => ∃ (x10 : Int) (f : Nat → Value), x10 = s ∧ a = fr 26 f ∧ f 0 = h2.v ∧ f 1 = h4.v ∧ f 5 = .int .i64 x10 ∧ St w0 (ros) (rs) w) go1 ⟨_, _, rfl, rfl, rfl, rfl, rfl, hst⟩ ?_
    clear hst
    rintro _ _ w r1_ ⟨x10, f, rfl, rfl, e1_0, e1_1, e1_5, hst⟩ hM1 ho1 Q100001 n1 zz1
    refine seqQ fun Q20 k20 z20 => ?_
    refine seqQ fun Q21 k21 z21 => ?_
    refine wp_region_lit ?_
    refine Y wn rfl (ym (v := .int .i64 x10) (et rfl e1_5)) ?_
    refine Y wn rfl (ym (v := h2.v) (et rfl e1_0)) ?_
    refine Y wn rfl (yLen SL_22 (et rfl rfl) hst (rdI q1)) ?_
    refine Y wn rfl (ylss (et rfl rfl) (et rfl rfl)) ?_
    refine wpList_nil ?_
    refine k21 _ _ ?_
    rcases iteS hM1 with ⟨c16, hM1⟩ | ⟨c16, hM1⟩
    · refine condT (et rfl rfl) (decide_eq_true c16) ?_
      refine wp_skip ?_
      refine k20 _ _ ?_
      refine seqQ fun Q22 k22 z22 => ?_
      refine blockQ fun Q23 q23 => ?_
      refine seqQ fun Q24 k24 z24 => ?_
      obtain ⟨x17, gx17, hM1⟩ := bs hM1
      obtain ⟨x18, gx18, hM1⟩ := bs hM1
      refine wp_drawR [0, 0, 3, 7, 0, 0, 48, 112, 255] [] 0 folM (by kernel_rfl) (by kernel_rfl) (by kernel_rfl) ?_
      replace hst := hst.drew
      refine DRz (l1 := [0, 1, 2, 3, 4, 5, 6, 7, 8]) (l2 := []) (by kernel_rfl) (by kernel_rfl) ?_
      refine Ry rfl rfl wn (ym (v := h2.v) (et rfl e1_0)) ?_
      refine Ry rfl rfl wn (ym (v := .int .i64 x10) (et rfl e1_5)) ?_
      refine Ry rfl rfl wn (yIa SL_22 (et rfl rfl) (et rfl rfl) hst (rdI q1) gx17) ?_
      refine Ry rfl rfl wn (yI O_3 (et rfl rfl) hst (rdI q1) gx17) ?_
      refine Ry rfl rfl wn (ym (v := h4.v) (et rfl e1_1)) ?_
      refine Ry rfl rfl wn (ym (v := .int .i64 x10) (et rfl e1_5)) ?_
      refine Ry rfl rfl wn (yIa SL_22 (et rfl rfl) (et rfl rfl) hst (rdI q2) gx18) ?_
      refine Ry rfl rfl wn (yI O_3 (et rfl rfl) hst (rdI q2) gx18) ?_
      refine Ry rfl rfl wn (yneq (et rfl rfl) (et rfl rfl)) ?_
      refine Rn QSn ?_
      refine k24 _ _ ?_
      rcases iteS hM1 with ⟨c19, hM1⟩ | ⟨c19, hM1⟩
      · refine condF (et rfl rfl) (nF (decide_eq_true c19)) ?_
        refine wp_skip ?_
        refine q23 _ _ _ ?_
        refine k22 _ _ ?_
        refine wp_region_lit ?_
        refine Y wn rfl (ym (v := .int .i64 x10) (et rfl e1_5)) ?_
        refine Y wn rfl (yadd (et rfl rfl) rfl) ?_
        refine Y wn rfl (ya (v := .int .i64 (wa .i64 x10 1)) (et rfl rfl)) ?_
        refine wpList_nil ?_
        obtain rfl := someI hM1
        exact n1 _ _ _ rfl ⟨_, _, rfl, rfl, e1_0, e1_1, rfl, hst⟩
      · refine condT (et rfl rfl) (nT (decide_eq_false c19)) ?_
        refine seqQ fun Q25 k25 z25 => ?_
        refine wp_region_lit ?_
        refine Y wn rfl (ya (v := .bool false) rfl) ?_
        refine wpList_nil ?_
        refine k25 _ _ ?_
        refine wp_ret ?_
        refine q23 _ _ _ ?_
        refine z22 _ _ _ rfl ?_
        obtain rfl := someI hM1
        refine zz1 _ _ _ _ rfl rfl ?_
        exact je1_1 _ _ rfl hst (ho1 _ rfl)
    · refine condF (et rfl rfl) (decide_eq_false c16) ?_
      refine wp_exit ?_
      refine z20 _ _ _ rfl ?_
      obtain rfl := someI hM1
      refine zz1 _ _ _ _ rfl rfl ?_
      exact je1_0 _ _ hst (ho1 _ rfl)
  · refine condT (et rfl rfl) (nT (decide_eq_false c5)) ?_
    refine seqQ fun Q26 k26 z26 => ?_
    refine wp_region_lit ?_
    refine Y wn rfl (ya (v := .bool false) rfl) ?_
    refine wpList_nil ?_
    refine k26 _ _ ?_
    refine wp_ret ?_
    refine z2 _ _ _ rfl ?_
    obtain rfl := someI hM
    exact hQ _ _ _ (fin1r Try.results45 ⟨rfl, rfl⟩ ⟨rfl, hst⟩)

theorem sparsekit_Lists_ok {w0 : World} {ros : List Fact} {rs : List Res} {w : World} {x1 : List (List Int)} {x3 : List (List Int)} {h2 : Hdr} {h4 : Hdr} {out : Bool} (hM : sparsekit_Lists x1 x3 = some out) (q1 : imm (rS (rI .i64)) h2.v x1 ∈ ros) (q2 : imm (rS (rI .i64)) h4.v x3 ∈ ros) (hst : St w0 ros (rs) w) :
    Calls Try.prog 24 #[h2.v, h4.v] w (fun e w => e = .returned (.bool out) ∧ St w0 (ros) (rs) w) := by
  refine enterQ Try.func24 rfl Try.ntmps24 rfl fun Q hQ => ?_
  refine seqQ fun Q1 k1 z1 => ?_
  refine wp_region_lit ?_
  refine Y wn rfl (ya (v := .bool false) rfl) ?_
  refine wpList_nil ?_
  refine k1 _ _ ?_
  refine seqQ fun Q2 k2 z2 => ?_
  refine seqQ fun Q3 k3 z3 => ?_
  refine wp_region_lit ?_
  refine Y wn rfl (ym (v := h2.v) (et rfl rfl)) ?_
  refine Y wn rfl (yLen SL_25 (et rfl rfl) hst (rdI q1)) ?_
  refine Y wn rfl (ym (v := h4.v) (et rfl rfl)) ?_
  refine Y wn rfl (yLen SL_25 (et rfl rfl) hst (rdI q2)) ?_
  refine Y wn rfl (yneq (et rfl rfl) (et rfl rfl)) ?_
  refine wpList_nil ?_
  refine k3 _ _ ?_
  rcases iteS hM with ⟨c5, hM⟩ | ⟨c5, hM⟩
  · refine condF (et rfl rfl) (nF (decide_eq_true c5)) ?_
    refine wp_skip ?_
    refine k2 _ _ ?_
    refine seqQ fun Q4 k4 z4 => ?_
    refine seqQ fun Q5 k5 z5 => ?_
    refine wp_region_lit ?_
    refine Y wn rfl (ya (v := .int .i64 0) rfl) ?_
    refine wpList_nil ?_
    refine k5 _ _ ?_
    refine blockQ fun Q6 q6 => ?_
    obtain ⟨o1, go1, hM⟩ := bs hM
    have je1_0 : ∀ (f : Nat → Value) (w : World), St w0 (ros) (rs) w → .inl () = o1 → Q6 (.exit 0) (fr 27 f) w := by
      intro f w hst ho
      subst ho
      refine q6 _ _ _ ?_
      refine k4 _ _ ?_
      refine seqQ fun Q19 k19 z19 => ?_
      refine wp_region_lit ?_
      refine Y wn rfl (ya (v := .bool true) rfl) ?_
      refine wpList_nil ?_
      refine k19 _ _ ?_
      refine wp_ret ?_
      obtain rfl := someI hM
      exact hQ _ _ _ (fin1r Try.results24 ⟨rfl, rfl⟩ ⟨rfl, hst⟩)
    have je1_1 : ∀ (f : Nat → Value) (w : World), f 4 = .bool false → St w0 (ros) (rs) w → .inr () = o1 → Q6 .ret (fr 27 f) w := by
      intro f w eje1_1_4 hst ho
      subst ho
      refine q6 _ _ _ ?_
      refine z4 _ _ _ rfl ?_
      obtain rfl := someI hM
      exact hQ _ _ _ (fin1r Try.results24 ⟨rfl, eje1_1_4⟩ ⟨rfl, hst⟩)
    refine loopQ (fun s a w => ∃ (x13 : Int) (f : Nat → Value), x13 = s ∧ a = fr 27 f ∧ f 0 = h2.v ∧ f 1 = h4.v ∧ f 5 = .int .i64 x13 ∧ St w0 (ros) (rs) w) go1 ⟨_, _, rfl, rfl, rfl, rfl, rfl, hst⟩ ?_
    clear hst
    rintro _ _ w r1_ ⟨x13, f, rfl, rfl, e1_0, e1_1, e1_5, hst⟩ hM1 ho1 Q100001 n1 zz1
    refine seqQ fun Q20 k20 z20 => ?_
    refine seqQ fun Q21 k21 z21 => ?_
    refine wp_region_lit ?_
    refine Y wn rfl (ym (v := .int .i64 x13) (et rfl e1_5)) ?_
    refine Y wn rfl (ym (v := h2.v) (et rfl e1_0)) ?_
    refine Y wn rfl (yLen SL_25 (et rfl rfl) hst (rdI q1)) ?_
    refine Y wn rfl (ylss (et rfl rfl) (et rfl rfl)) ?_
    refine wpList_nil ?_
    refine k21 _ _ ?_
    rcases iteS hM1 with ⟨c22, hM1⟩ | ⟨c22, hM1⟩
    · refine condT (et rfl rfl) (decide_eq_true c22) ?_
      refine wp_skip ?_
      refine k20 _ _ ?_
      refine seqQ fun Q22 k22 z22 => ?_
      refine blockQ fun Q23 q23 => ?_
      refine seqQ fun Q24 k24 z24 => ?_
      obtain ⟨x23, gx23, hM1⟩ := bs hM1
      obtain ⟨x25, gx25, hM1⟩ := bs hM1
      obtain ⟨r27, gr27, hM1⟩ := bs hM1
      refine wp_drawR [0, 0, 3, 7, 0, 0, 48, 112, 255, 511] [8] 1 folM (by kernel_rfl) (by kernel_rfl) (by kernel_rfl) ?_
      replace hst := hst.drew
      refine DRn (l1 := [0, 1, 2, 3, 4, 5, 6, 7]) (l2 := []) (lc := [8]) (by kernel_rfl) (by kernel_rfl) (by kernel_rfl) ?_
      refine Ry rfl rfl wn (ym (v := h2.v) (et rfl e1_0)) ?_
      refine Ry rfl rfl wn (ym (v := .int .i64 x13) (et rfl e1_5)) ?_
      refine Ry rfl rfl wn (yIa SL_25 (et rfl rfl) (et rfl rfl) hst (rdI q1) gx23) ?_
      obtain ⟨h24, hst⟩ := iLs hst q1 gx23
      refine Ry rfl rfl wn (yCt O_22 (et rfl rfl) hst (mtF mhF) rfl) ?_
      refine Ry rfl rfl wn (ym (v := h4.v) (et rfl e1_1)) ?_
      refine Ry rfl rfl wn (ym (v := .int .i64 x13) (et rfl e1_5)) ?_
      refine Ry rfl rfl wn (yIa SL_25 (et rfl rfl) (et rfl rfl) hst (rdI (mtF (mtF q2))) gx25) ?_
      obtain ⟨h26, hst⟩ := iLs hst (mtF (mtF q2)) gx25
      refine Ry rfl rfl wn (yCt O_22 (et rfl rfl) hst (mtF mhF) rfl) ?_
      refine Rn QSn ?_
      refine Lc rfl ?_ LAn
      refine Lk wn (yCall FN_45 (a2 (et rfl rfl) (et rfl rfl))) (sparsekit_Ints_ok (hM := gr27) (hst := hst) (q1 := (mtF (mtF mhF))) (q2 := mhF)) ?_
      clear hst
      rintro _ w ⟨rfl, hst⟩
      refine ⟨_, rfl, ?_⟩
      refine DRz (l1 := [9]) (l2 := []) (by kernel_rfl) (by kernel_rfl) ?_
      refine Ry rfl rfl wn (ynot (et rfl rfl)) ?_
      refine Rn QSn ?_
      refine k24 _ _ ?_
      rcases iteS hM1 with ⟨c28, hM1⟩ | ⟨c28, hM1⟩
      · refine condF (et rfl rfl) (nF c28) ?_
        refine wp_skip ?_
        refine q23 _ _ _ ?_
        refine k22 _ _ ?_
        refine wp_region_lit ?_
        refine Y wn rfl (ym (v := .int .i64 x13) (et rfl e1_5)) ?_
        refine Y wn rfl (yadd (et rfl rfl) rfl) ?_
        refine Y wn rfl (ya (v := .int .i64 (wa .i64 x13 1)) (et rfl rfl)) ?_
        refine wpList_nil ?_
        obtain rfl := someI hM1
        exact n1 _ _ _ rfl ⟨_, _, rfl, rfl, e1_0, e1_1, rfl, (hst.facts (allT (allT (allT (allT allI)))))⟩
      · refine condT (et rfl rfl) (nT (bfalse c28)) ?_
        refine seqQ fun Q25 k25 z25 => ?_
        refine wp_region_lit ?_
        refine Y wn rfl (ya (v := .bool false) rfl) ?_
        refine wpList_nil ?_
        refine k25 _ _ ?_
        refine wp_ret ?_
        refine q23 _ _ _ ?_
        refine z22 _ _ _ rfl ?_
        obtain rfl := someI hM1
        refine zz1 _ _ _ _ rfl rfl ?_
        exact je1_1 _ _ rfl (hst.facts (allT (allT (allT (allT allI))))) (ho1 _ rfl)
    · refine condF (et rfl rfl) (decide_eq_false c22) ?_
      refine wp_exit ?_
      refine z20 _ _ _ rfl ?_
      obtain rfl := someI hM1
      refine zz1 _ _ _ _ rfl rfl ?_
      exact je1_0 _ _ hst (ho1 _ rfl)
  · refine condT (et rfl rfl) (nT (decide_eq_false c5)) ?_
    refine seqQ fun Q26 k26 z26 => ?_
    refine wp_region_lit ?_
    refine Y wn rfl (ya (v := .bool false) rfl) ?_
    refine wpList_nil ?_
    refine k26 _ _ ?_
    refine wp_ret ?_
    refine z2 _ _ _ rfl ?_
    obtain rfl := someI hM
    exact hQ _ _ _ (fin1r Try.results24 ⟨rfl, rfl⟩ ⟨rfl, hst⟩)

theorem slices_Grow_int_ok {w0 : World} {ros : List Fact} {rs : List Res} {w : World} {x1 : Int} {out : (List Int)} (hM : slices_Grow_int x1 = some out) (hst : St w0 ros (rs) w) :
    Calls Try.prog 61 #[hnil.v, .int .i64 x1] w (fun e w => ∃ (h100001 : Hdr), e = .returned (h100001.v) ∧ St w0 (ros) (row 3 (rI .i64) h100001.v out :: rs) w) := by
  refine enterQ Try.func61 rfl Try.ntmps61 rfl fun Q hQ => ?_
  refine seqQ fun Q1 k1 z1 => ?_
  refine wp_region_lit ?_
  refine Y wn rfl (ya (v := hnil.v) rfl) ?_
  refine wpList_nil ?_
  refine k1 _ _ ?_
  refine seqQ fun Q2 k2 z2 => ?_
  refine seqQ fun Q3 k3 z3 => ?_
  refine wp_region_lit ?_
  refine Y wn rfl (ym (v := .int .i64 x1) (et rfl rfl)) ?_
  refine Y wn rfl (ylss (et rfl rfl) rfl) ?_
  refine wpList_nil ?_
  refine k3 _ _ ?_
  have j1 : ∀ (f : Nat → Value) (w : World), f 0 = hnil.v → f 1 = .int .i64 x1 → St w0 (ros) (rs) w → slices_Grow_int_j1 x1 = some out → Q2 .normal (fr 27 f) w := by
    intro f w ej1_0 ej1_1 hst hM
    refine k2 _ _ ?_
    refine seqQ fun Q4 k4 z4 => ?_
    refine seqQ fun Q5 k5 z5 => ?_
    refine wp_region_lit ?_
    refine Y wn rfl (ym (v := .int .i64 x1) (et rfl ej1_1)) ?_
    refine Y wn rfl (ym (v := hnil.v) (et rfl ej1_0)) ?_
    refine Y wn rfl (yCapN (by kernel_rfl : Try.prog.underlying 22 = some (.slice 3)) (et rfl rfl)) ?_
    refine Y wn rfl (ym (v := hnil.v) (et rfl ej1_0)) ?_
    refine Y wn rfl (yLen SL_22 (et rfl rfl) hst rdN) ?_
    refine Y wn rfl (ysub (et rfl rfl) (et rfl rfl)) ?_
    refine Y wn rfl (ysub (et rfl rfl) (et rfl rfl)) ?_
    refine Y wn rfl (ya (v := .int .i64 (ws .i64 x1 (ws .i64 0 0))) (et rfl rfl)) ?_
    refine wpList_nil ?_
    refine k5 _ _ ?_
    refine seqQ fun Q6 k6 z6 => ?_
    refine wp_region_lit ?_
    refine Y wn rfl (ym (v := .int .i64 (ws .i64 x1 (ws .i64 0 0))) (et rfl rfl)) ?_
    refine Y wn rfl (ygtr (et rfl rfl) rfl) ?_
    refine wpList_nil ?_
    refine k6 _ _ ?_
    have j2 : ∀ (x7 : List Int) (h6 : Hdr) (f : Nat → Value) (w : World), f 0 = h6.v → St w0 (ros) (row 3 (rI .i64) h6.v x7 :: rs) w → slices_Grow_int_j2 x7 = some out → Q4 .normal (fr 27 f) w := by
      intro x7 h6 f w ej2_0 hst hM
      refine k4 _ _ ?_
      refine seqQ fun Q7 k7 z7 => ?_
      refine wp_region_lit ?_
      refine Y wn rfl (ym (v := h6.v) (et rfl ej2_0)) ?_
      refine Y wn rfl (ya (v := h6.v) (et rfl rfl)) ?_
      refine wpList_nil ?_
      refine k7 _ _ ?_
      refine wp_ret ?_
      obtain rfl := someI hM
      exact hQ _ _ _ (fin1r Try.results61 ⟨rfl, rfl⟩ ⟨_, rfl, hst⟩)
    rcases iteS hM with ⟨c8, hM⟩ | ⟨c8, hM⟩
    · refine condT (et rfl rfl) (decide_eq_true c8) ?_
      refine wp_region_lit ?_
      refine Y wn rfl (ym (v := hnil.v) (et rfl ej1_0)) ?_
      refine Y wn rfl (ym (v := hnil.v) (et rfl ej1_0)) ?_
      refine Y wn rfl (yCapN (by kernel_rfl : Try.prog.underlying 22 = some (.slice 3)) (et rfl rfl)) ?_
      refine Y wn rfl (ySlN SL_22 (et rfl rfl) (et rfl rfl)) ?_
      refine Y wn rfl (ym (v := .int .i64 (ws .i64 x1 (ws .i64 0 0))) (et rfl rfl)) ?_
      obtain ⟨x10, gx10, hM⟩ := bs hM
      refine YH wn rfl (rZn hst SL_22 (by kernel_rfl : Try.prog.underlying 3 = some (.int .i64)) (et rfl rfl) (et rfl rfl) gx10) ?_
      clear hst
      intro h9 w hst
      refine Y wn rfl (ym (v := hnil.v) (et rfl ej1_0)) ?_
      refine Y wn rfl (yLen SL_22 (et rfl rfl) hst rdN) ?_
      obtain ⟨x11, gx11, hM⟩ := bs hM
      refine Y wn rfl (ySl (k1 := .i64) (hi := (0 : Int)) SL_22 (et rfl rfl) hst (rdO mhR) (.inr ⟨rfl, rfl⟩) (.inl (congrArg some (et rfl rfl))) gx11) ?_
      obtain ⟨h12, eh12, hst⟩ := hst.resl gx11
      rw [← eh12]
      refine Y wn rfl (ya (v := h12.v) (et rfl rfl)) ?_
      refine wpList_nil ?_
      exact j2 _ _ _ _ rfl hst hM
    · refine condF (et rfl rfl) (decide_eq_false c8) ?_
      refine wp_skip ?_
      replace hst := hst.rowNh 3 (rI .i64)
      exact j2 _ _ _ _ ej1_0 hst hM
  rcases iteS hM with ⟨c13, hM⟩ | ⟨c13, hM⟩
  · refine condT (et rfl rfl) (decide_eq_true c13) ?_
    cases hM
  · refine condF (et rfl rfl) (decide_eq_false c13) ?_
    refine wp_skip ?_
    exact j1 _ _ rfl rfl hst hM

theorem slices_Concat_int_ok {w0 : World} {ros : List Fact} {rs : List Res} {w : World} {x1 : List (List Int)} {h2 : Hdr} {out : (List Int)} (hM : slices_Concat_int x1 = some out) (q1 : imm (rS (rI .i64)) h2.v x1 ∈ ros) (hst : St w0 ros (rs) w) :
    Calls Try.prog 39 #[h2.v] w (fun e w => ∃ (h100001 : Hdr), e = .returned (h100001.v) ∧ St w0 (ros) (row 3 (rI .i64) h100001.v out :: rs) w) := by
  refine enterQ Try.func39 rfl Try.ntmps39 rfl fun Q hQ => ?_
  refine seqQ fun Q1 k1 z1 => ?_
  refine wp_region_lit ?_
  refine Y wn rfl (ya (v := hnil.v) rfl) ?_
  refine wpList_nil ?_
  refine k1 _ _ ?_
  refine seqQ fun Q2 k2 z2 => ?_
  refine wp_region_lit ?_
  refine Y wn rfl (ya (v := .int .i64 0) rfl) ?_
  refine wpList_nil ?_
  refine k2 _ _ ?_
  refine seqQ fun Q3 k3 z3 => ?_
  refine seqQ fun Q4 k4 z4 => ?_
  refine wp_region_lit ?_
  refine Y wn rfl (ym (v := h2.v) (et rfl rfl)) ?_
  refine Y wn rfl (yLen SL_25 (et rfl rfl) hst (rdI q1)) ?_
  refine Y wn rfl (ym (v := .int .i64 0) rfl) ?_
  refine wpList_nil ?_
  refine k4 _ _ ?_
  refine blockQ fun Q5 q5 => ?_
  obtain ⟨o3, go3, hM⟩ := bs hM
  have je3_0 : ∀ (x15 : Int) (f : Nat → Value) (w : World), f 0 = h2.v → f 3 = .int .i64 x15 → St w0 (ros) (rs) w → x15 = o3 → Q5 (.exit 0) (fr 36 f) w := by
    intro x15 f w eje3_0_0 eje3_0_3 hst ho
    subst ho
    refine q5 _ _ _ ?_
    refine k3 _ _ ?_
    refine seqQ fun Q20 k20 z20 => ?_
    refine wp_region_lit ?_
    refine Y wn rfl (ym (v := .int .i64 x15) (et rfl eje3_0_3)) ?_
    obtain ⟨r16, gr16, hM⟩ := bs hM
    refine Yc wn rfl (yCall FN_61 (a2 rfl (et rfl rfl))) (slices_Grow_int_ok (hM := gr16) (hst := hst) ) ?_
    clear hst
    rintro _ w ⟨h17, rfl, hst⟩
    refine ⟨_, rfl, ?_⟩
    refine Y wn rfl (ya (v := h17.v) (et rfl rfl)) ?_
    refine wpList_nil ?_
    refine k20 _ _ ?_
    refine seqQ fun Q21 k21 z21 => ?_
    refine seqQ fun Q22 k22 z22 => ?_
    refine wp_region_lit ?_
    refine Y wn rfl (ym (v := h2.v) (et rfl eje3_0_0)) ?_
    refine Y wn rfl (yLen SL_25 (et rfl rfl) hst (rdI q1)) ?_
    refine Y wn rfl (ym (v := .int .i64 0) rfl) ?_
    refine wpList_nil ?_
    refine k22 _ _ ?_
    refine blockQ fun Q23 q23 => ?_
    obtain ⟨o4, go4, hM⟩ := bs hM
    have je4_0 : ∀ (x35 : List Int) (h34 : Hdr) (f : Nat → Value) (w : World), f 6 = h34.v → St w0 (ros) (row 3 (rI .i64) h34.v x35 :: rs) w → x35 = o4 → Q23 (.exit 2) (fr 36 f) w := by
      intro x35 h34 f w eje4_0_6 hst ho
      subst ho
      refine q23 _ _ _ ?_
      refine k21 _ _ ?_
      refine seqQ fun Q34 k34 z34 => ?_
      refine wp_region_lit ?_
      refine Y wn rfl (ym (v := h34.v) (et rfl eje4_0_6)) ?_
      refine Y wn rfl (ya (v := h34.v) (et rfl rfl)) ?_
      refine wpList_nil ?_
      refine k34 _ _ ?_
      refine wp_ret ?_
      obtain rfl := someI hM
      exact hQ _ _ _ (fin1r Try.results39 ⟨rfl, rfl⟩ ⟨_, rfl, hst⟩)
    refine loopQ (fun s a w => ∃ (x24 : List Int) (x25 : Int) (f : Nat → Value) (h23 : Hdr), (x24, x25) = s ∧ a = fr 36 f ∧ f 6 = h23.v ∧ f 25 = h2.v ∧ f 26 = .int .i64 (x1.length : Int) ∧ f 27 = .int .i64 x25 ∧ St w0 (ros) (row 3 (rI .i64) h23.v x24 :: rs) w) go4 ⟨_, _, _, _, rfl, rfl, rfl, rfl, rfl, rfl, hst⟩ ?_
    clear hst
    rintro _ _ w r4_ ⟨x24, x25, f, h23, rfl, rfl, e4_6, e4_25, e4_26, e4_27, hst⟩ hM4 ho4 Q100004 n4 zz4
    refine seqQ fun Q35 k35 z35 => ?_
    refine wp_region_lit ?_
    refine Y wn rfl (ylss (et rfl e4_27) (et rfl e4_26)) ?_
    refine wpList_nil ?_
    refine k35 _ _ ?_
    refine seqQ fun Q36 k36 z36 => ?_
    rcases iteS hM4 with ⟨c36, hM4⟩ | ⟨c36, hM4⟩
    · refine condT (et rfl rfl) (decide_eq_true c36) ?_
      refine wp_skip ?_
      refine k36 _ _ ?_
      refine seqQ fun Q37 k37 z37 => ?_
      refine blockQ fun Q38 q38 => ?_
      refine seqQ fun Q39 k39 z39 => ?_
      refine wp_region_lit ?_
      obtain ⟨x37, gx37, hM4⟩ := bs hM4
      refine Y wn rfl (yIa SL_25 (et rfl e4_25) (et rfl e4_27) hst (rdI q1) gx37) ?_
      obtain ⟨h38, hst⟩ := iLs hst q1 gx37
      refine Y wn rfl (yCt O_22 (et rfl rfl) hst (mtF mhF) rfl) ?_
      refine Y wn rfl (ya (v := h38.v) (et rfl rfl)) ?_
      refine wpList_nil ?_
      refine k39 _ _ ?_
      refine wp_region_lit ?_
      refine Y wn rfl (ym (v := h23.v) (et rfl e4_6)) ?_
      refine Y wn rfl (ym (v := h38.v) (et rfl rfl)) ?_
      obtain ⟨x40, gx40, hM4⟩ := bs hM4
      refine YH wn rfl (rAp hst SL_22 (et rfl rfl) (et rfl rfl) (rdI mhF) gx40) ?_
      clear hst
      intro h39 w hst
      refine Y wn rfl (ya (v := h39.v) (et rfl rfl)) ?_
      refine wpList_nil ?_
      refine q38 _ _ _ ?_
      refine k37 _ _ ?_
      refine wp_region_lit ?_
      refine Y wn rfl (yadd (et rfl e4_27) rfl) ?_
      refine Y wn rfl (ym (v := .int .i64 (wa .i64 x25 1)) (et rfl rfl)) ?_
      refine wpList_nil ?_
      obtain rfl := someI hM4
      exact n4 _ _ _ rfl ⟨_, _, _, _, rfl, rfl, rfl, e4_25, e4_26, rfl, (hst.facts (allT (allT allI)))⟩
    · refine condF (et rfl rfl) (decide_eq_false c36) ?_
      refine wp_exit ?_
      refine z36 _ _ _ rfl ?_
      obtain rfl := someI hM4
      refine zz4 _ _ _ _ rfl rfl ?_
      exact je4_0 _ _ _ _ e4_6 hst (ho4 _ rfl)
  refine loopQ (fun s a w => ∃ (x7 : Int) (x8 : Int) (f : Nat → Value), (x7, x8) = s ∧ a = fr 36 f ∧ f 0 = h2.v ∧ f 3 = .int .i64 x7 ∧ f 9 = h2.v ∧ f 10 = .int .i64 (x1.length : Int) ∧ f 11 = .int .i64 x8 ∧ St w0 (ros) (rs) w) go3 ⟨_, _, _, rfl, rfl, rfl, rfl, rfl, rfl, rfl, hst⟩ ?_
  clear hst
  rintro _ _ w r3_ ⟨x7, x8, f, rfl, rfl, e3_0, e3_3, e3_9, e3_10, e3_11, hst⟩ hM3 ho3 Q100003 n3 zz3
  refine seqQ fun Q40 k40 z40 => ?_
  refine wp_region_lit ?_
  refine Y wn rfl (ylss (et rfl e3_11) (et rfl e3_10)) ?_
  refine wpList_nil ?_
  refine k40 _ _ ?_
  refine seqQ fun Q41 k41 z41 => ?_
  rcases iteS hM3 with ⟨c41, hM3⟩ | ⟨c41, hM3⟩
  · refine condT (et rfl rfl) (decide_eq_true c41) ?_
    refine wp_skip ?_
    refine k41 _ _ ?_
    refine seqQ fun Q42 k42 z42 => ?_
    refine blockQ fun Q43 q43 => ?_
    refine seqQ fun Q44 k44 z44 => ?_
    refine wp_region_lit ?_
    obtain ⟨x42, gx42, hM3⟩ := bs hM3
    refine Y wn rfl (yIa SL_25 (et rfl e3_9) (et rfl e3_11) hst (rdI q1) gx42) ?_
    obtain ⟨h43, hst⟩ := iLs hst q1 gx42
    refine Y wn rfl (yCt O_22 (et rfl rfl) hst (mtF mhF) rfl) ?_
    refine Y wn rfl (ya (v := h43.v) (et rfl rfl)) ?_
    refine wpList_nil ?_
    refine k44 _ _ ?_
    refine seqQ fun Q45 k45 z45 => ?_
    refine wp_region_lit ?_
    refine Y wn rfl (ym (v := .int .i64 x7) (et rfl e3_3)) ?_
    refine Y wn rfl (ym (v := h43.v) (et rfl rfl)) ?_
    refine Y wn rfl (yLen SL_22 (et rfl rfl) hst (rdI mhF)) ?_
    refine Y wn rfl (yadd (et rfl rfl) (et rfl rfl)) ?_
    refine Y wn rfl (ya (v := .int .i64 (wa .i64 x7 (x42.length : Int))) (et rfl rfl)) ?_
    refine wpList_nil ?_
    refine k45 _ _ ?_
    refine seqQ fun Q46 k46 z46 => ?_
    refine wp_region_lit ?_
    refine Y wn rfl (ym (v := .int .i64 (wa .i64 x7 (x42.length : Int))) (et rfl rfl)) ?_
    refine Y wn rfl (ylss (et rfl rfl) rfl) ?_
    refine wpList_nil ?_
    refine k46 _ _ ?_
    have j5 : ∀ (f : Nat → Value) (w : World), f 0 = h2.v → f 3 = .int .i64 (wa .i64 x7 (x42.length : Int)) → f 9 = h2.v → f 10 = .int .i64 (x1.length : Int) → f 11 = .int .i64 x8 → St w0 (ros) (rs) w → slices_Concat_int_j5 x7 x42 x8 = some r3_ → Q43 .normal (fr 36 f) w := by
      intro f w ej5_0 ej5_3 ej5_9 ej5_10 ej5_11 hst hM
      refine q43 _ _ _ ?_
      refine k42 _ _ ?_
      refine wp_region_lit ?_
      refine Y wn rfl (yadd (et rfl ej5_11) rfl) ?_
      refine Y wn rfl (ym (v := .int .i64 (wa .i64 x8 1)) (et rfl rfl)) ?_
      refine wpList_nil ?_
      obtain rfl := someI hM
      exact n3 _ _ _ rfl ⟨_, _, _, rfl, rfl, ej5_0, ej5_3, ej5_9, ej5_10, rfl, hst⟩
    rcases iteS hM3 with ⟨c44, hM3⟩ | ⟨c44, hM3⟩
    · refine condT (et rfl rfl) (decide_eq_true c44) ?_
      cases hM3
    · refine condF (et rfl rfl) (decide_eq_false c44) ?_
      refine wp_skip ?_
      exact j5 _ _ e3_0 rfl e3_9 e3_10 e3_11 (hst.facts (allT (allT allI))) hM3
  · refine condF (et rfl rfl) (decide_eq_false c41) ?_
    refine wp_exit ?_
    refine z41 _ _ _ rfl ?_
    obtain rfl := someI hM3
    refine zz3 _ _ _ _ rfl rfl ?_
    exact je3_0 _ _ _ e3_0 e3_3 hst (ho3 _ rfl)
end Go.Proofs.Ytcknmegldjnjjaa
