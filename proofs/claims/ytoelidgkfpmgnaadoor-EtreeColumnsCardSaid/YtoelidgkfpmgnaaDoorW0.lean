/- Walks: each function computes its model, printed. -/
import Derived.Test.YtoelidgkfpmgnaaDoorTy
import Derived.Test.YtoelidgkfpmgnaaDoorM4
import Derived.Test.YtoelidgkfpmgnaaDoorSxT
namespace Go.Proofs.YtoelidgkfpmgnaaDoor
open Go Sx M
set_option maxRecDepth 100000
set_option maxHeartbeats 400000
set_option linter.unusedVariables false
attribute [local irreducible] wpList Code.wp Calls DR QR QS LA LS St
theorem graph_ascending_ok {w0 : World} {ros : List Fact} {rs : List Res} {w : World} {x1 : List Int} {x3 : Int} {h2 : Hdr} {out : Bool} (hM : graph_ascending x1 x3 = some out) (q1 : imm (rI .i64) h2.v x1 ∈ ros) (hst : St w0 ros (rs) w) :
    Calls Tryd.prog 35 #[h2.v, .int .i64 x3] w (fun e w => e = .returned (.bool out) ∧ St w0 (ros) (rs) w) := by
  refine enterQ Tryd.func35 rfl Tryd.ntmps35 rfl fun Q hQ => ?_
  refine seqQ fun Q1 k1 z1 => ?_
  refine wp_region_lit ?_
  refine Y wn rfl (ya (v := .bool false) rfl) ?_
  refine wpList_nil ?_
  refine k1 _ _ ?_
  refine seqQ fun Q2 k2 z2 => ?_
  refine wp_region_lit ?_
  refine Y wn rfl (ya (v := .int .i64 (-1)) rfl) ?_
  refine wpList_nil ?_
  refine k2 _ _ ?_
  refine seqQ fun Q3 k3 z3 => ?_
  refine seqQ fun Q4 k4 z4 => ?_
  refine wp_region_lit ?_
  refine Y wn rfl (ym (v := h2.v) (et rfl rfl)) ?_
  refine Y wn rfl (yLen SL_22 (et rfl rfl) hst (rdI q1)) ?_
  refine Y wn rfl (ym (v := .int .i64 0) rfl) ?_
  refine wpList_nil ?_
  refine k4 _ _ ?_
  refine blockQ fun Q5 qb5 => ?_
  obtain ⟨o3, go3, hM⟩ := bs hM
  have je3_0 : ∀ (f : Nat → Value) (w : World), St w0 (ros) (rs) w → .inl () = o3 → Q5 (.exit 0) (fr 24 f) w := by
    intro f w hst ho
    subst ho
    refine qb5 _ _ _ ?_
    refine k3 _ _ ?_
    refine seqQ fun Q22 k22 z22 => ?_
    refine wp_region_lit ?_
    refine Y wn rfl (ya (v := .bool true) rfl) ?_
    refine wpList_nil ?_
    refine k22 _ _ ?_
    refine wp_ret ?_
    obtain rfl := someI hM
    exact hQ _ _ _ (fin1r Tryd.results35 ⟨rfl, rfl⟩ ⟨rfl, hst⟩)
  have je3_1 : ∀ (f : Nat → Value) (w : World), f 4 = .bool false → St w0 (ros) (rs) w → .inr () = o3 → Q5 .ret (fr 24 f) w := by
    intro f w eje3_1_4 hst ho
    subst ho
    refine qb5 _ _ _ ?_
    refine z3 _ _ _ rfl ?_
    obtain rfl := someI hM
    exact hQ _ _ _ (fin1r Tryd.results35 ⟨rfl, eje3_1_4⟩ ⟨rfl, hst⟩)
  refine loopQ (fun s a w => ∃ (x9 : Int) (x10 : Int) (f : Nat → Value), (x9, x10) = s ∧ a = fr 24 f ∧ f 1 = .int .i64 x3 ∧ f 5 = .int .i64 x9 ∧ f 8 = h2.v ∧ f 9 = .int .i64 (x1.length : Int) ∧ f 10 = .int .i64 x10 ∧ St w0 (ros) (rs) w) go3 ⟨_, _, _, rfl, rfl, rfl, rfl, rfl, rfl, rfl, hst⟩ ?_
  clear hst
  rintro _ _ w r3_ ⟨x9, x10, f, rfl, rfl, e3_1, e3_5, e3_8, e3_9, e3_10, hst⟩ hM3 ho3 Q100003 n3 zz3
  refine seqQ fun Q23 k23 z23 => ?_
  refine wp_region_lit ?_
  refine Y wn rfl (ylss (et rfl e3_10) (et rfl e3_9)) ?_
  refine wpList_nil ?_
  refine k23 _ _ ?_
  refine seqQ fun Q24 k24 z24 => ?_
  rcases iteS hM3 with ⟨c18, hM3⟩ | ⟨c18, hM3⟩
  · refine condT (et rfl rfl) (decide_eq_true c18) ?_
    refine wp_skip ?_
    refine k24 _ _ ?_
    refine seqQ fun Q25 k25 z25 => ?_
    refine blockQ fun Q26 qb26 => ?_
    refine seqQ fun Q27 k27 z27 => ?_
    refine wp_region_lit ?_
    obtain ⟨x19, gx19, hM3⟩ := bs hM3
    refine Y wn rfl (yIa SL_22 (et rfl e3_8) (et rfl e3_10) hst (rdI q1) gx19) ?_
    refine Y wn rfl (yI O_3 (et rfl rfl) hst (rdI q1) gx19) ?_
    refine Y wn rfl (ya (v := .int .i64 x19) (et rfl rfl)) ?_
    refine wpList_nil ?_
    refine k27 _ _ ?_
    refine seqQ fun Q28 k28 z28 => ?_
    refine seqQ fun Q29 k29 z29 => ?_
    refine wp_region_lit ?_
    refine Y wn rfl (ym (v := .int .i64 x19) (et rfl rfl)) ?_
    refine Y wn rfl (ym (v := .int .i64 x9) (et rfl e3_5)) ?_
    refine Y wn rfl (yleq (et rfl rfl) (et rfl rfl)) ?_
    refine Y wn rfl (ym (v := .bool (decide (x19 ≤ x9))) (et rfl rfl)) ?_
    refine joinW 4 (fun f w => f 1 = .int .i64 x3 ∧ f 7 = .int .i64 x19 ∧ f 8 = h2.v ∧ f 9 = .int .i64 (x1.length : Int) ∧ f 10 = .int .i64 x10 ∧ f 21 = .bool ((decide (x19 ≤ x9)) || (decide (x3 ≤ x19))) ∧ St w0 (ros) (rs) w) (fun j4 => ?_) ?_
    · rcases Bool.eq_false_or_eq_true (decide (x19 ≤ x9)) with c21 | c21
      · refine Gn (wx rfl rfl rfl c21) rfl ?_
        refine Gn (wx rfl rfl rfl c21) rfl ?_
        refine Gn (wx rfl rfl rfl c21) rfl ?_
        refine Y wn rfl (ypt (v := .bool true) (et rfl rfl) c21 rfl) ?_
        exact j4 _ _ ⟨e3_1, rfl, e3_8, e3_9, e3_10, (congrArg Value.bool (orT c21)), hst⟩
      · refine Y (wg rfl rfl rfl c21) rfl (ym (v := .int .i64 x19) (et rfl rfl)) ?_
        refine Y (wg rfl rfl rfl c21) rfl (ym (v := .int .i64 x3) (et rfl e3_1)) ?_
        refine Y (wg rfl rfl rfl c21) rfl (ygeq (et rfl rfl) (et rfl rfl)) ?_
        refine Y wn rfl (ypf (v := .bool (decide (x3 ≤ x19))) (et rfl rfl) c21 (et rfl rfl)) ?_
        exact j4 _ _ ⟨e3_1, rfl, e3_8, e3_9, e3_10, (congrArg Value.bool (orF c21)), hst⟩
    clear hst
    rintro f w ⟨e20_1, e20_7, e20_8, e20_9, e20_10, e20_21, hst⟩
    refine wpList_nil ?_
    refine k29 _ _ ?_
    rcases iteS hM3 with ⟨c22, hM3⟩ | ⟨c22, hM3⟩
    · refine condT (et rfl e20_21) c22 ?_
      refine seqQ fun Q30 k30 z30 => ?_
      refine wp_region_lit ?_
      refine Y wn rfl (ya (v := .bool false) rfl) ?_
      refine wpList_nil ?_
      refine k30 _ _ ?_
      refine wp_ret ?_
      refine z28 _ _ _ rfl ?_
      refine qb26 _ _ _ ?_
      refine z25 _ _ _ rfl ?_
      obtain rfl := someI hM3
      refine zz3 _ _ _ _ rfl rfl ?_
      exact je3_1 _ _ rfl hst (ho3 _ rfl)
    · refine condF (et rfl e20_21) (bfalse c22) ?_
      refine wp_skip ?_
      refine k28 _ _ ?_
      refine wp_region_lit ?_
      refine Y wn rfl (ym (v := .int .i64 x19) (et rfl e20_7)) ?_
      refine Y wn rfl (ya (v := .int .i64 x19) (et rfl rfl)) ?_
      refine wpList_nil ?_
      refine qb26 _ _ _ ?_
      refine k25 _ _ ?_
      refine wp_region_lit ?_
      refine Y wn rfl (yadd (et rfl e20_10) rfl) ?_
      refine Y wn rfl (ym (v := .int .i64 (wa .i64 x10 1)) (et rfl rfl)) ?_
      refine wpList_nil ?_
      obtain rfl := someI hM3
      exact n3 _ _ _ rfl ⟨_, _, _, rfl, rfl, e20_1, rfl, e20_8, e20_9, rfl, hst⟩
  · refine condF (et rfl rfl) (decide_eq_false c18) ?_
    refine wp_exit ?_
    refine z24 _ _ _ rfl ?_
    obtain rfl := someI hM3
    refine zz3 _ _ _ _ rfl rfl ?_
    exact je3_0 _ _ hst (ho3 _ rfl)

theorem cmp_isNaN_int_ok {w0 : World} {ros : List Fact} {rs : List Res} {w : World} {x1 : Int} {out : Bool} (hM : cmp_isNaN_int x1 = some out) (hst : St w0 ros (rs) w) :
    Calls Tryd.prog 69 #[.int .i64 x1] w (fun e w => e = .returned (.bool out) ∧ St w0 (ros) (rs) w) := by
  refine enterQ Tryd.func69 rfl Tryd.ntmps69 rfl fun Q hQ => ?_
  refine seqQ fun Q1 k1 z1 => ?_
  refine wp_region_lit ?_
  refine Y wn rfl (ya (v := .bool false) rfl) ?_
  refine wpList_nil ?_
  refine k1 _ _ ?_
  refine seqQ fun Q2 k2 z2 => ?_
  refine wp_region_lit ?_
  refine Y wn rfl (ym (v := .int .i64 x1) (et rfl rfl)) ?_
  refine Y wn rfl (ym (v := .int .i64 x1) (et rfl rfl)) ?_
  refine Y wn rfl (yneq (et rfl rfl) (et rfl rfl)) ?_
  refine Y wn rfl (ya (v := .bool (!(decide (x1 = x1)))) (et rfl rfl)) ?_
  refine wpList_nil ?_
  refine k2 _ _ ?_
  refine wp_ret ?_
  obtain rfl := someI hM
  exact hQ _ _ _ (fin1r Tryd.results69 ⟨rfl, rfl⟩ ⟨rfl, hst⟩)

theorem cmp_Less_int_ok {w0 : World} {ros : List Fact} {rs : List Res} {w : World} {x1 : Int} {x2 : Int} {out : Bool} (hM : cmp_Less_int x1 x2 = some out) (hst : St w0 ros (rs) w) :
    Calls Tryd.prog 58 #[.int .i64 x1, .int .i64 x2] w (fun e w => e = .returned (.bool out) ∧ St w0 (ros) (rs) w) := by
  refine enterQ Tryd.func58 rfl Tryd.ntmps58 rfl fun Q hQ => ?_
  refine seqQ fun Q1 k1 z1 => ?_
  refine wp_region_lit ?_
  refine Y wn rfl (ya (v := .bool false) rfl) ?_
  refine wpList_nil ?_
  refine k1 _ _ ?_
  refine seqQ fun Q2 k2 z2 => ?_
  refine wp_region_lit ?_
  refine Y wn rfl (ym (v := .int .i64 x1) (et rfl rfl)) ?_
  obtain ⟨r3, gr3, hM⟩ := bs hM
  refine Yc wn rfl (yCall FN_69 (a1 (et rfl rfl))) (cmp_isNaN_int_ok (hM := gr3) (hst := hst) ) ?_
  clear hst
  rintro _ w ⟨rfl, hst⟩
  refine ⟨_, rfl, ?_⟩
  refine Y wn rfl (ym (v := .bool r3) (et rfl rfl)) ?_
  obtain ⟨r5, gr5, hM⟩ := bs hM
  refine joinW 4 (fun f w => f 0 = .int .i64 x1 ∧ f 1 = .int .i64 x2 ∧ f 11 = .bool r5 ∧ St w0 (ros) (rs) w) (fun j1 => ?_) ?_
  · rcases iteS gr5 with ⟨c7, gr5⟩ | ⟨c7, gr5⟩
    · refine Y (wg rfl rfl rfl c7) rfl (ym (v := .int .i64 x2) (et rfl rfl)) ?_
      obtain ⟨r8, gr8, gr5⟩ := bs gr5
      refine Yc (wg rfl rfl rfl c7) rfl (yCall FN_69 (a1 (et rfl rfl))) (cmp_isNaN_int_ok (hM := gr8) (hst := hst) ) ?_
      clear hst
      rintro _ w ⟨rfl, hst⟩
      refine ⟨_, rfl, ?_⟩
      refine Y (wg rfl rfl rfl c7) rfl (ynot (et rfl rfl)) ?_
      refine Y wn rfl (ypt (v := .bool (!(r8))) (et rfl rfl) c7 (et rfl rfl)) ?_
      obtain rfl := someI gr5
      exact j1 _ _ ⟨rfl, rfl, rfl, hst⟩
    · refine Gn (wx rfl rfl rfl (bfalse c7)) rfl ?_
      refine Gn (wx rfl rfl rfl (bfalse c7)) rfl ?_
      refine Gn (wx rfl rfl rfl (bfalse c7)) rfl ?_
      refine Y wn rfl (ypf (v := .bool false) (et rfl rfl) (bfalse c7) rfl) ?_
      obtain rfl := someI gr5
      exact j1 _ _ ⟨rfl, rfl, rfl, hst⟩
  clear hst
  rintro f w ⟨e6_0, e6_1, e6_11, hst⟩
  refine Y wn rfl (ym (v := .bool r5) (et rfl e6_11)) ?_
  refine joinW 4 (fun f w => f 16 = .bool (r5 || (decide (x1 < x2))) ∧ St w0 (ros) (rs) w) (fun j2 => ?_) ?_
  · rcases Bool.eq_false_or_eq_true (r5) with c10 | c10
    · refine Gn (wx rfl rfl rfl c10) rfl ?_
      refine Gn (wx rfl rfl rfl c10) rfl ?_
      refine Gn (wx rfl rfl rfl c10) rfl ?_
      refine Y wn rfl (ypt (v := .bool true) (et rfl rfl) c10 rfl) ?_
      exact j2 _ _ ⟨(congrArg Value.bool (orT c10)), hst⟩
    · refine Y (wg rfl rfl rfl c10) rfl (ym (v := .int .i64 x1) (et rfl e6_0)) ?_
      refine Y (wg rfl rfl rfl c10) rfl (ym (v := .int .i64 x2) (et rfl e6_1)) ?_
      refine Y (wg rfl rfl rfl c10) rfl (ylss (et rfl rfl) (et rfl rfl)) ?_
      refine Y wn rfl (ypf (v := .bool (decide (x1 < x2))) (et rfl rfl) c10 (et rfl rfl)) ?_
      exact j2 _ _ ⟨(congrArg Value.bool (orF c10)), hst⟩
  clear hst
  rintro f w ⟨e9_16, hst⟩
  refine Y wn rfl (ya (v := .bool (r5 || (decide (x1 < x2)))) (et rfl e9_16)) ?_
  refine wpList_nil ?_
  refine k2 _ _ ?_
  refine wp_ret ?_
  obtain rfl := someI hM
  exact hQ _ _ _ (fin1r Tryd.results58 ⟨rfl, rfl⟩ ⟨rfl, hst⟩)

theorem slices_isNaN_int_ok {w0 : World} {ros : List Fact} {rs : List Res} {w : World} {x1 : Int} {out : Bool} (hM : slices_isNaN_int x1 = some out) (hst : St w0 ros (rs) w) :
    Calls Tryd.prog 59 #[.int .i64 x1] w (fun e w => e = .returned (.bool out) ∧ St w0 (ros) (rs) w) := by
  refine enterQ Tryd.func59 rfl Tryd.ntmps59 rfl fun Q hQ => ?_
  refine seqQ fun Q1 k1 z1 => ?_
  refine wp_region_lit ?_
  refine Y wn rfl (ya (v := .bool false) rfl) ?_
  refine wpList_nil ?_
  refine k1 _ _ ?_
  refine seqQ fun Q2 k2 z2 => ?_
  refine wp_region_lit ?_
  refine Y wn rfl (ym (v := .int .i64 x1) (et rfl rfl)) ?_
  refine Y wn rfl (ym (v := .int .i64 x1) (et rfl rfl)) ?_
  refine Y wn rfl (yneq (et rfl rfl) (et rfl rfl)) ?_
  refine Y wn rfl (ya (v := .bool (!(decide (x1 = x1)))) (et rfl rfl)) ?_
  refine wpList_nil ?_
  refine k2 _ _ ?_
  refine wp_ret ?_
  obtain rfl := someI hM
  exact hQ _ _ _ (fin1r Tryd.results59 ⟨rfl, rfl⟩ ⟨rfl, hst⟩)

theorem slices_BinarySearch_int_ok {w0 : World} {ros : List Fact} {rs : List Res} {w : World} {x1 : List Int} {x3 : Int} {h2 : Hdr} {out : Int × Bool} (hM : slices_BinarySearch_int x1 x3 = some out) (q1 : imm (rI .i64) h2.v x1 ∈ ros) (hst : St w0 ros (rs) w) :
    Calls Tryd.prog 47 #[h2.v, .int .i64 x3] w (fun e w => e = .returned (.tuple #[.int .i64 out.1, .bool out.2]) ∧ St w0 (ros) (rs) w) := by
  refine enterQ Tryd.func47 rfl Tryd.ntmps47 rfl fun Q hQ => ?_
  refine seqQ fun Q1 k1 z1 => ?_
  refine wp_region_lit ?_
  refine Y wn rfl (ya (v := .int .i64 0) rfl) ?_
  refine Y wn rfl (ya (v := .bool false) rfl) ?_
  refine wpList_nil ?_
  refine k1 _ _ ?_
  refine seqQ fun Q2 k2 z2 => ?_
  refine wp_region_lit ?_
  refine Y wn rfl (ym (v := h2.v) (et rfl rfl)) ?_
  refine Y wn rfl (yLen SL_22 (et rfl rfl) hst (rdI q1)) ?_
  refine Y wn rfl (ya (v := .int .i64 (x1.length : Int)) (et rfl rfl)) ?_
  refine wpList_nil ?_
  refine k2 _ _ ?_
  refine seqQ fun Q3 k3 z3 => ?_
  refine wp_region_lit ?_
  refine Y wn rfl (ym (v := .int .i64 (x1.length : Int)) (et rfl rfl)) ?_
  refine Y wn rfl (ya (v := .int .i64 0) rfl) ?_
  refine Y wn rfl (ya (v := .int .i64 (x1.length : Int)) (et rfl rfl)) ?_
  refine wpList_nil ?_
  refine k3 _ _ ?_
  refine seqQ fun Q4 k4 z4 => ?_
  refine blockQ fun Q5 qb5 => ?_
  obtain ⟨o3, go3, hM⟩ := bs hM
  have je3_0 : ∀ (x20 : Int) (f : Nat → Value) (w : World), f 0 = h2.v → f 1 = .int .i64 x3 → f 6 = .int .i64 (x1.length : Int) → f 7 = .int .i64 x20 → St w0 (ros) (rs) w → x20 = o3 → Q5 (.exit 0) (fr 54 f) w := by
    intro x20 f w eje3_0_0 eje3_0_1 eje3_0_6 eje3_0_7 hst ho
    subst ho
    refine qb5 _ _ _ ?_
    refine k4 _ _ ?_
    refine seqQ fun Q16 k16 z16 => ?_
    refine wp_region_lit ?_
    refine Y wn rfl (ym (v := .int .i64 x20) (et rfl eje3_0_7)) ?_
    refine Y wn rfl (ym (v := .int .i64 x20) (et rfl eje3_0_7)) ?_
    refine Y wn rfl (ym (v := .int .i64 (x1.length : Int)) (et rfl eje3_0_6)) ?_
    refine Y wn rfl (ylss (et rfl rfl) (et rfl rfl)) ?_
    refine Y wn rfl (ym (v := .bool (decide (x20 < (x1.length : Int)))) (et rfl rfl)) ?_
    obtain ⟨r39, gr39, hM⟩ := bs hM
    refine joinW 18 (fun f w => f 31 = .int .i64 x20 ∧ f 53 = .bool r39 ∧ St w0 (ros) (rs) w) (fun j7 => ?_) ?_
    · rcases iteS gr39 with ⟨c41, gr39⟩ | ⟨c41, gr39⟩
      · refine Y (wg rfl rfl rfl (decide_eq_true c41)) rfl (ym (v := h2.v) (et rfl eje3_0_0)) ?_
        refine Y (wg rfl rfl rfl (decide_eq_true c41)) rfl (ym (v := .int .i64 x20) (et rfl eje3_0_7)) ?_
        obtain ⟨x42, gx42, gr39⟩ := bs gr39
        refine Y (wg rfl rfl rfl (decide_eq_true c41)) rfl (yIa SL_22 (et rfl rfl) (et rfl rfl) hst (rdI q1) gx42) ?_
        refine Y (wg rfl rfl rfl (decide_eq_true c41)) rfl (yI O_3 (et rfl rfl) hst (rdI q1) gx42) ?_
        refine Y (wg rfl rfl rfl (decide_eq_true c41)) rfl (ym (v := .int .i64 x3) (et rfl eje3_0_1)) ?_
        refine Y (wg rfl rfl rfl (decide_eq_true c41)) rfl (yeql (et rfl rfl) (et rfl rfl)) ?_
        refine Y (wg rfl rfl rfl (decide_eq_true c41)) rfl (ym (v := .bool (decide (x42 = x3))) (et rfl rfl)) ?_
        obtain ⟨r50, gr50, gr39⟩ := bs gr39
        refine joinW 10 (fun f w => f 31 = .int .i64 x20 ∧ f 35 = .bool (decide (x20 < (x1.length : Int))) ∧ f 52 = .bool r50 ∧ St w0 (ros) (rs) w) (fun j9 => ?_) ?_
        · rcases iteS gr50 with ⟨c52, gr50⟩ | ⟨c52, gr50⟩
          · refine Gn (wx rfl rfl rfl (decide_eq_true c52)) rfl ?_
            refine Gn (wx rfl rfl rfl (decide_eq_true c52)) rfl ?_
            refine Gn (wx rfl rfl rfl (decide_eq_true c52)) rfl ?_
            refine Gn (wx rfl rfl rfl (decide_eq_true c52)) rfl ?_
            refine Gn (wx rfl rfl rfl (decide_eq_true c52)) rfl ?_
            refine Gn (wx rfl rfl rfl (decide_eq_true c52)) rfl ?_
            refine Gn (wxu rfl rfl rfl) rfl ?_
            refine Gn (wxu rfl rfl rfl) rfl ?_
            refine Gn (wx rfl rfl rfl (decide_eq_true c52)) rfl ?_
            refine Y (wg rfl rfl rfl (decide_eq_true c41)) rfl (ypt (v := .bool true) (et rfl rfl) (decide_eq_true c52) rfl) ?_
            obtain rfl := someI gr50
            exact j9 _ _ ⟨rfl, rfl, rfl, hst⟩
          · refine Y (wg rfl rfl rfl (decide_eq_false c52)) rfl (ym (v := h2.v) (et rfl eje3_0_0)) ?_
            refine Y (wg rfl rfl rfl (decide_eq_false c52)) rfl (ym (v := .int .i64 x20) (et rfl eje3_0_7)) ?_
            obtain ⟨x53, gx53, gr50⟩ := bs gr50
            refine Y (wg rfl rfl rfl (decide_eq_false c52)) rfl (yIa SL_22 (et rfl rfl) (et rfl rfl) hst (rdI q1) gx53) ?_
            refine Y (wg rfl rfl rfl (decide_eq_false c52)) rfl (yI O_3 (et rfl rfl) hst (rdI q1) gx53) ?_
            obtain ⟨r54, gr54, gr50⟩ := bs gr50
            refine Yc (wg rfl rfl rfl (decide_eq_false c52)) rfl (yCall FN_59 (a1 (et rfl rfl))) (slices_isNaN_int_ok (hM := gr54) (hst := hst) ) ?_
            clear hst
            rintro _ w ⟨rfl, hst⟩
            refine ⟨_, rfl, ?_⟩
            refine Y (wg rfl rfl rfl (decide_eq_false c52)) rfl (ym (v := .bool r54) (et rfl rfl)) ?_
            obtain ⟨r56, gr56, gr50⟩ := bs gr50
            refine joinW 3 (fun f w => f 31 = .int .i64 x20 ∧ f 35 = .bool (decide (x20 < (x1.length : Int))) ∧ f 42 = .bool (decide (x42 = x3)) ∧ f 51 = .bool r56 ∧ St w0 (ros) (rs) w) (fun j10 => ?_) ?_
            · rcases iteS gr56 with ⟨c58, gr56⟩ | ⟨c58, gr56⟩
              · refine Y (wg rfl rfl rfl c58) rfl (ym (v := .int .i64 x3) (et rfl eje3_0_1)) ?_
                obtain ⟨r59, gr59, gr56⟩ := bs gr56
                refine Yc (wg rfl rfl rfl c58) rfl (yCall FN_59 (a1 (et rfl rfl))) (slices_isNaN_int_ok (hM := gr59) (hst := hst) ) ?_
                clear hst
                rintro _ w ⟨rfl, hst⟩
                refine ⟨_, rfl, ?_⟩
                refine Y (wg rfl rfl rfl (decide_eq_false c52)) rfl (ypt (v := .bool r59) (et rfl rfl) c58 (et rfl rfl)) ?_
                obtain rfl := someI gr56
                exact j10 _ _ ⟨rfl, rfl, rfl, rfl, hst⟩
              · refine Gn (wx rfl rfl rfl (bfalse c58)) rfl ?_
                refine Gn (wx rfl rfl rfl (bfalse c58)) rfl ?_
                refine Y (wg rfl rfl rfl (decide_eq_false c52)) rfl (ypf (v := .bool false) (et rfl rfl) (bfalse c58) rfl) ?_
                obtain rfl := someI gr56
                exact j10 _ _ ⟨rfl, rfl, rfl, rfl, hst⟩
            clear hst
            rintro f w ⟨e57_31, e57_35, e57_42, e57_51, hst⟩
            refine Y (wg rfl rfl e57_35 (decide_eq_true c41)) rfl (ypf (v := .bool r56) (et rfl e57_42) (decide_eq_false c52) (et rfl e57_51)) ?_
            obtain rfl := someI gr50
            exact j9 _ _ ⟨e57_31, e57_35, rfl, hst⟩
        clear hst
        rintro f w ⟨e51_31, e51_35, e51_52, hst⟩
        refine Y wn rfl (ypt (v := .bool r50) (et rfl e51_35) (decide_eq_true c41) (et rfl e51_52)) ?_
        obtain rfl := someI gr39
        exact j7 _ _ ⟨e51_31, rfl, hst⟩
      · refine Gn (wx rfl rfl rfl (decide_eq_false c41)) rfl ?_
        refine Gn (wx rfl rfl rfl (decide_eq_false c41)) rfl ?_
        refine Gn (wx rfl rfl rfl (decide_eq_false c41)) rfl ?_
        refine Gn (wx rfl rfl rfl (decide_eq_false c41)) rfl ?_
        refine Gn (wx rfl rfl rfl (decide_eq_false c41)) rfl ?_
        refine Gn (wx rfl rfl rfl (decide_eq_false c41)) rfl ?_
        refine Gn (wx rfl rfl rfl (decide_eq_false c41)) rfl ?_
        refine Gn (wxu rfl rfl rfl) rfl ?_
        refine Gn (wxu rfl rfl rfl) rfl ?_
        refine Gn (wxu rfl rfl rfl) rfl ?_
        refine Gn (wxu rfl rfl rfl) rfl ?_
        refine Gn (wxu rfl rfl rfl) rfl ?_
        refine Gn (wxu rfl rfl rfl) rfl ?_
        refine Gn (wxu rfl rfl rfl) rfl ?_
        refine Gn (wxu rfl rfl rfl) rfl ?_
        refine Gn (wxu rfl rfl rfl) rfl ?_
        refine Gn (wx rfl rfl rfl (decide_eq_false c41)) rfl ?_
        refine Y wn rfl (ypf (v := .bool false) (et rfl rfl) (decide_eq_false c41) rfl) ?_
        obtain rfl := someI gr39
        exact j7 _ _ ⟨rfl, rfl, hst⟩
    clear hst
    rintro f w ⟨e40_31, e40_53, hst⟩
    refine Y wn rfl (ya (v := .int .i64 x20) (et rfl e40_31)) ?_
    refine Y wn rfl (ya (v := .bool r39) (et rfl e40_53)) ?_
    refine wpList_nil ?_
    refine k16 _ _ ?_
    refine wp_ret ?_
    obtain rfl := someI hM
    exact hQ _ _ _ (fin2r Tryd.results47 ⟨rfl, rfl⟩ ⟨rfl, rfl⟩ ⟨rfl, hst⟩)
  refine loopQ (fun s a w => ∃ (x10 : Int) (x11 : Int) (f : Nat → Value), (x10, x11) = s ∧ a = fr 54 f ∧ f 0 = h2.v ∧ f 1 = .int .i64 x3 ∧ f 6 = .int .i64 (x1.length : Int) ∧ f 7 = .int .i64 x10 ∧ f 8 = .int .i64 x11 ∧ St w0 (ros) (rs) w) go3 ⟨_, _, _, rfl, rfl, rfl, rfl, rfl, rfl, rfl, hst⟩ ?_
  clear hst
  rintro _ _ w r3_ ⟨x10, x11, f, rfl, rfl, e3_0, e3_1, e3_6, e3_7, e3_8, hst⟩ hM3 ho3 Q100003 n3 zz3
  refine seqQ fun Q17 k17 z17 => ?_
  refine seqQ fun Q18 k18 z18 => ?_
  refine wp_region_lit ?_
  refine Y wn rfl (ym (v := .int .i64 x10) (et rfl e3_7)) ?_
  refine Y wn rfl (ym (v := .int .i64 x11) (et rfl e3_8)) ?_
  refine Y wn rfl (ylss (et rfl rfl) (et rfl rfl)) ?_
  refine wpList_nil ?_
  refine k18 _ _ ?_
  rcases iteS hM3 with ⟨c60, hM3⟩ | ⟨c60, hM3⟩
  · refine condT (et rfl rfl) (decide_eq_true c60) ?_
    refine wp_skip ?_
    refine k17 _ _ ?_
    refine blockQ fun Q19 qb19 => ?_
    refine seqQ fun Q20 k20 z20 => ?_
    refine wp_region_lit ?_
    refine Y wn rfl (ym (v := .int .i64 x10) (et rfl e3_7)) ?_
    refine Y wn rfl (ym (v := .int .i64 x11) (et rfl e3_8)) ?_
    refine Y wn rfl (yadd (et rfl rfl) (et rfl rfl)) ?_
    refine Y wn rfl (ycv (k' := .u64) (by kernel_rfl) (by kernel_rfl) (et rfl rfl)) ?_
    refine Y wn rfl (yshrc (et rfl rfl) rfl) ?_
    refine Y wn rfl (ycv (k' := .i64) (by kernel_rfl) (by kernel_rfl) (et rfl rfl)) ?_
    refine Y wn rfl (ya (v := .int .i64 (wc .i64 (wsrc .u64 (wc .u64 (wa .i64 x10 x11)) 1))) (et rfl rfl)) ?_
    refine wpList_nil ?_
    refine k20 _ _ ?_
    refine seqQ fun Q21 k21 z21 => ?_
    refine wp_region_lit ?_
    refine Y wn rfl (ym (v := h2.v) (et rfl e3_0)) ?_
    refine Y wn rfl (ym (v := .int .i64 (wc .i64 (wsrc .u64 (wc .u64 (wa .i64 x10 x11)) 1))) (et rfl rfl)) ?_
    obtain ⟨x61, gx61, hM3⟩ := bs hM3
    refine Y wn rfl (yIa SL_22 (et rfl rfl) (et rfl rfl) hst (rdI q1) gx61) ?_
    refine Y wn rfl (yI O_3 (et rfl rfl) hst (rdI q1) gx61) ?_
    refine Y wn rfl (ym (v := .int .i64 x3) (et rfl e3_1)) ?_
    obtain ⟨r62, gr62, hM3⟩ := bs hM3
    refine Yc wn rfl (yCall FN_58 (a2 (et rfl rfl) (et rfl rfl))) (cmp_Less_int_ok (hM := gr62) (hst := hst) ) ?_
    clear hst
    rintro _ w ⟨rfl, hst⟩
    refine ⟨_, rfl, ?_⟩
    refine wpList_nil ?_
    refine k21 _ _ ?_
    have j11 : ∀ (x63 : Int) (x64 : Int) (f : Nat → Value) (w : World), f 0 = h2.v → f 1 = .int .i64 x3 → f 6 = .int .i64 (x1.length : Int) → f 7 = .int .i64 x63 → f 8 = .int .i64 x64 → St w0 (ros) (rs) w → slices_BinarySearch_int_j11 x63 x64 = some r3_ → Q19 .normal (fr 54 f) w := by
      intro x63 x64 f w ej11_0 ej11_1 ej11_6 ej11_7 ej11_8 hst hM
      refine qb19 _ _ _ ?_
      obtain rfl := someI hM
      exact n3 _ _ _ rfl ⟨_, _, _, rfl, rfl, ej11_0, ej11_1, ej11_6, ej11_7, ej11_8, hst⟩
    rcases iteS hM3 with ⟨c65, hM3⟩ | ⟨c65, hM3⟩
    · refine condT (et rfl rfl) c65 ?_
      refine wp_region_lit ?_
      refine Y wn rfl (ym (v := .int .i64 (wc .i64 (wsrc .u64 (wc .u64 (wa .i64 x10 x11)) 1))) (et rfl rfl)) ?_
      refine Y wn rfl (yadd (et rfl rfl) rfl) ?_
      refine Y wn rfl (ya (v := .int .i64 (wa .i64 (wc .i64 (wsrc .u64 (wc .u64 (wa .i64 x10 x11)) 1)) 1)) (et rfl rfl)) ?_
      refine wpList_nil ?_
      exact j11 _ _ _ _ e3_0 e3_1 e3_6 rfl e3_8 hst hM3
    · refine condF (et rfl rfl) (bfalse c65) ?_
      refine wp_region_lit ?_
      refine Y wn rfl (ym (v := .int .i64 (wc .i64 (wsrc .u64 (wc .u64 (wa .i64 x10 x11)) 1))) (et rfl rfl)) ?_
      refine Y wn rfl (ya (v := .int .i64 (wc .i64 (wsrc .u64 (wc .u64 (wa .i64 x10 x11)) 1))) (et rfl rfl)) ?_
      refine wpList_nil ?_
      exact j11 _ _ _ _ e3_0 e3_1 e3_6 e3_7 rfl hst hM3
  · refine condF (et rfl rfl) (decide_eq_false c60) ?_
    refine wp_exit ?_
    refine z17 _ _ _ rfl ?_
    obtain rfl := someI hM3
    refine zz3 _ _ _ _ rfl rfl ?_
    exact je3_0 _ _ _ e3_0 e3_1 e3_6 e3_7 hst (ho3 _ rfl)

theorem graph_joined_ok {w0 : World} {ros : List Fact} {rs : List Res} {w : World} {x1 : List (List Int)} {x3 : Int} {x4 : Int} {h2 : Hdr} {out : Bool} (hM : graph_joined x1 x3 x4 = some out) (q1 : imm (rS (rI .i64)) h2.v x1 ∈ ros) (hst : St w0 ros (rs) w) :
    Calls Tryd.prog 36 #[.agg #[h2.v], .int .i64 x3, .int .i64 x4] w (fun e w => e = .returned (.bool out) ∧ St w0 (ros) (rs) w) := by
  refine enterQ Tryd.func36 rfl Tryd.ntmps36 rfl fun Q hQ => ?_
  refine seqQ fun Q1 k1 z1 => ?_
  refine wp_region_lit ?_
  refine YB wn rfl (r_box (vals := [h2.v]) hst (et rfl rfl) rfl) ?_
  clear hst
  intro b5 w hst
  refine Y wn rfl (ya (v := .bool false) rfl) ?_
  refine wpList_nil ?_
  refine k1 _ _ ?_
  refine seqQ fun Q2 k2 z2 => ?_
  refine wp_region_lit ?_
  refine Y wn rfl (yFb FL_34_0 (et rfl rfl)) ?_
  refine Y wn rfl (yLb (u := h2.v) O_32 (et rfl rfl) hst mhR rfl) ?_
  refine Y wn rfl (ym (v := .int .i64 x3) (et rfl rfl)) ?_
  obtain ⟨x6, gx6, hM⟩ := bs hM
  refine Y wn rfl (yIa SL_32 (et rfl rfl) (et rfl rfl) hst (rdI q1) gx6) ?_
  obtain ⟨h7, hst⟩ := iLs hst q1 gx6
  refine Y wn rfl (yCt O_22 (et rfl rfl) hst (mtF mhF) rfl) ?_
  refine Y wn rfl (ym (v := .int .i64 x4) (et rfl rfl)) ?_
  obtain ⟨r8, gr8, hM⟩ := bs hM
  refine Yc wn rfl (yCall FN_47 (a2 (et rfl rfl) (et rfl rfl))) (slices_BinarySearch_int_ok (hM := gr8) (hst := hst) (q1 := mhF)) ?_
  clear hst
  rintro _ w ⟨rfl, hst⟩
  refine ⟨_, rfl, ?_⟩
  refine Y wn rfl (ym (v := .tuple #[.int .i64 r8.1, .bool r8.2]) (et rfl rfl)) ?_
  refine Y wn rfl (yx (v := .int .i64 r8.1) (et rfl rfl) rfl) ?_
  refine Y wn rfl (yx (v := .bool r8.2) (et rfl rfl) rfl) ?_
  refine Y wn rfl (ya (v := .int .i64 r8.1) (et rfl rfl)) ?_
  refine Y wn rfl (ya (v := .bool r8.2) (et rfl rfl)) ?_
  refine wpList_nil ?_
  refine k2 _ _ ?_
  refine seqQ fun Q3 k3 z3 => ?_
  refine wp_region_lit ?_
  refine Y wn rfl (ym (v := .bool r8.2) (et rfl rfl)) ?_
  refine Y wn rfl (ya (v := .bool r8.2) (et rfl rfl)) ?_
  refine wpList_nil ?_
  refine k3 _ _ ?_
  refine wp_ret ?_
  obtain rfl := someI hM
  exact hQ _ _ _ (fin1r Tryd.results36 ⟨rfl, rfl⟩ ⟨rfl, ((hst.pk 1 [] rfl).facts (allT (allT allI)))⟩)

theorem graph_Check_ok {w0 : World} {ros : List Fact} {rs : List Res} {w : World} {x1 : List (List Int)} {h2 : Hdr} {out : Int} (hM : graph_Check x1 = some out) (q1 : imm (rS (rI .i64)) h2.v x1 ∈ ros) (hst : St w0 ros (rs) w) :
    Calls Tryd.prog 22 #[.agg #[h2.v]] w (fun e w => e = .returned (.int .i64 out) ∧ St w0 (ros) (rs) w) := by
  refine enterQ Tryd.func22 rfl Tryd.ntmps22 rfl fun Q hQ => ?_
  refine seqQ fun Q1 k1 z1 => ?_
  refine wp_region_lit ?_
  refine YB wn rfl (r_box (vals := [h2.v]) hst (et rfl rfl) rfl) ?_
  clear hst
  intro b3 w hst
  refine Y wn rfl (ya (v := .int .i64 0) rfl) ?_
  refine wpList_nil ?_
  refine k1 _ _ ?_
  refine seqQ fun Q2 k2 z2 => ?_
  refine wp_region_lit ?_
  refine Y wn rfl (yFb FL_34_0 (et rfl rfl)) ?_
  refine Y wn rfl (yLb (u := h2.v) O_32 (et rfl rfl) hst mhR rfl) ?_
  refine Y wn rfl (yLen SL_32 (et rfl rfl) hst (rdI q1)) ?_
  refine Y wn rfl (ya (v := .int .i64 (x1.length : Int)) (et rfl rfl)) ?_
  refine wpList_nil ?_
  refine k2 _ _ ?_
  refine seqQ fun Q3 k3 z3 => ?_
  refine seqQ fun Q4 k4 z4 => ?_
  refine wp_region_lit ?_
  refine Y wn rfl (ym (v := .int .i64 (x1.length : Int)) (et rfl rfl)) ?_
  refine Y wn rfl (ygtr (et rfl rfl) rfl) ?_
  refine wpList_nil ?_
  refine k4 _ _ ?_
  rcases iteS hM with ⟨c4, hM⟩ | ⟨c4, hM⟩
  · refine condT (et rfl rfl) (decide_eq_true c4) ?_
    refine seqQ fun Q5 k5 z5 => ?_
    refine wp_region_lit ?_
    refine Y wn rfl (ya (v := .int .i64 6) rfl) ?_
    refine wpList_nil ?_
    refine k5 _ _ ?_
    refine wp_ret ?_
    refine z3 _ _ _ rfl ?_
    obtain rfl := someI hM
    exact hQ _ _ _ (fin1r Tryd.results22 ⟨rfl, rfl⟩ ⟨rfl, (hst.pk 1 [] rfl)⟩)
  · refine condF (et rfl rfl) (decide_eq_false c4) ?_
    refine wp_skip ?_
    refine k3 _ _ ?_
    refine seqQ fun Q6 k6 z6 => ?_
    refine seqQ fun Q7 k7 z7 => ?_
    refine wp_region_lit ?_
    refine Y wn rfl (yFb FL_34_0 (et rfl rfl)) ?_
    refine Y wn rfl (yLb (u := h2.v) O_32 (et rfl rfl) hst mhR rfl) ?_
    refine Y wn rfl (yLen SL_32 (et rfl rfl) hst (rdI q1)) ?_
    refine Y wn rfl (ym (v := .int .i64 0) rfl) ?_
    refine wpList_nil ?_
    refine k7 _ _ ?_
    refine blockQ fun Q8 qb8 => ?_
    obtain ⟨o3, go3, hM⟩ := bs hM
    have je3_0 : ∀ (f : Nat → Value) (w : World), f 1 = .pointer (some ⟨b3, 0, none⟩) → St w0 (ros) (box b3 34 [h2.v] :: rs) w → .inl () = o3 → Q8 (.exit 0) (fr 55 f) w := by
      intro f w eje3_0_1 hst ho
      subst ho
      refine qb8 _ _ _ ?_
      refine k6 _ _ ?_
      refine seqQ fun Q23 k23 z23 => ?_
      refine seqQ fun Q24 k24 z24 => ?_
      refine wp_region_lit ?_
      refine Y wn rfl (yFb FL_34_0 (et rfl eje3_0_1)) ?_
      refine Y wn rfl (yLb (u := h2.v) O_32 (et rfl rfl) hst mhR rfl) ?_
      refine Y wn rfl (yLen SL_32 (et rfl rfl) hst (rdI q1)) ?_
      refine Y wn rfl (ym (v := .int .i64 0) rfl) ?_
      refine wpList_nil ?_
      refine k24 _ _ ?_
      refine blockQ fun Q25 qb25 => ?_
      obtain ⟨o6, go6, hM⟩ := bs hM
      have je6_0 : ∀ (f : Nat → Value) (w : World), St w0 (ros) (rs) w → .inl () = o6 → Q25 (.exit 2) (fr 55 f) w := by
        intro f w hst ho
        subst ho
        refine qb25 _ _ _ ?_
        refine k23 _ _ ?_
        refine seqQ fun Q82 k82 z82 => ?_
        refine wp_region_lit ?_
        refine Y wn rfl (ya (v := .int .i64 0) rfl) ?_
        refine wpList_nil ?_
        refine k82 _ _ ?_
        refine wp_ret ?_
        obtain rfl := someI hM
        exact hQ _ _ _ (fin1r Tryd.results22 ⟨rfl, rfl⟩ ⟨rfl, hst⟩)
      have je6_1 : ∀ (f : Nat → Value) (w : World), f 2 = .int .i64 1 → St w0 (ros) (rs) w → .inr () = o6 → Q25 .ret (fr 55 f) w := by
        intro f w eje6_1_2 hst ho
        subst ho
        refine qb25 _ _ _ ?_
        refine z23 _ _ _ rfl ?_
        obtain rfl := someI hM
        exact hQ _ _ _ (fin1r Tryd.results22 ⟨rfl, eje6_1_2⟩ ⟨rfl, hst⟩)
      refine loopQ (fun s a w => ∃ (x44 : Int) (f : Nat → Value), x44 = s ∧ a = fr 55 f ∧ f 1 = .pointer (some ⟨b3, 0, none⟩) ∧ f 35 = h2.v ∧ f 36 = .int .i64 (x1.length : Int) ∧ f 37 = .int .i64 x44 ∧ St w0 (ros) (box b3 34 [h2.v] :: rs) w) go6 ⟨_, _, rfl, rfl, eje3_0_1, rfl, rfl, rfl, hst⟩ ?_
      clear hst
      rintro _ _ w r6_ ⟨x44, f, rfl, rfl, e6_1, e6_35, e6_36, e6_37, hst⟩ hM6 ho6 Q100006 n6 zz6
      refine seqQ fun Q83 k83 z83 => ?_
      refine wp_region_lit ?_
      refine Y wn rfl (ylss (et rfl e6_37) (et rfl e6_36)) ?_
      refine wpList_nil ?_
      refine k83 _ _ ?_
      refine seqQ fun Q84 k84 z84 => ?_
      rcases iteS hM6 with ⟨c63, hM6⟩ | ⟨c63, hM6⟩
      · refine condT (et rfl rfl) (decide_eq_true c63) ?_
        refine wp_skip ?_
        refine k84 _ _ ?_
        refine seqQ fun Q85 k85 z85 => ?_
        refine blockQ fun Q86 qb86 => ?_
        refine seqQ fun Q87 k87 z87 => ?_
        refine wp_region_lit ?_
        refine Y wn rfl (ym (v := .int .i64 x44) (et rfl e6_37)) ?_
        obtain ⟨x64, gx64, hM6⟩ := bs hM6
        refine Y wn rfl (yIa SL_32 (et rfl e6_35) (et rfl e6_37) hst (rdI q1) gx64) ?_
        obtain ⟨h65, hst⟩ := iLs hst q1 gx64
        refine Y wn rfl (yCt O_22 (et rfl rfl) hst (mtF mhF) rfl) ?_
        refine Y wn rfl (ya (v := .int .i64 x44) (et rfl rfl)) ?_
        refine Y wn rfl (ya (v := h65.v) (et rfl rfl)) ?_
        refine wpList_nil ?_
        refine k87 _ _ ?_
        refine seqQ fun Q88 k88 z88 => ?_
        refine wp_region_lit ?_
        refine Y wn rfl (ym (v := h65.v) (et rfl rfl)) ?_
        refine Y wn rfl (yLen SL_22 (et rfl rfl) hst (rdI mhF)) ?_
        refine Y wn rfl (ym (v := .int .i64 0) rfl) ?_
        refine wpList_nil ?_
        refine k88 _ _ ?_
        refine blockQ fun Q89 qb89 => ?_
        obtain ⟨o7, go7, hM6⟩ := bs hM6
        have je7_0 : ∀ (f : Nat → Value) (w : World), f 1 = .pointer (some ⟨b3, 0, none⟩) → f 35 = h2.v → f 36 = .int .i64 (x1.length : Int) → f 37 = .int .i64 x44 → St w0 (ros) (box b3 34 [h2.v] :: rs) w → .inl () = o7 → Q89 (.exit 4) (fr 55 f) w := by
          intro f w eje7_0_1 eje7_0_35 eje7_0_36 eje7_0_37 hst ho
          subst ho
          refine qb89 _ _ _ ?_
          refine qb86 _ _ _ ?_
          refine k85 _ _ ?_
          refine wp_region_lit ?_
          refine Y wn rfl (yadd (et rfl eje7_0_37) rfl) ?_
          refine Y wn rfl (ym (v := .int .i64 (wa .i64 x44 1)) (et rfl rfl)) ?_
          refine wpList_nil ?_
          obtain rfl := someI hM6
          exact n6 _ _ _ rfl ⟨_, _, rfl, rfl, eje7_0_1, eje7_0_35, eje7_0_36, rfl, hst⟩
        have je7_1 : ∀ (f : Nat → Value) (w : World), f 2 = .int .i64 1 → St w0 (ros) (rs) w → .inr () = o7 → Q89 .ret (fr 55 f) w := by
          intro f w eje7_1_2 hst ho
          subst ho
          refine qb89 _ _ _ ?_
          refine qb86 _ _ _ ?_
          refine z85 _ _ _ rfl ?_
          obtain rfl := someI hM6
          refine zz6 _ _ _ _ rfl rfl ?_
          exact je6_1 _ _ eje7_1_2 hst (ho6 _ rfl)
        refine loopQ (fun s a w => ∃ (x70 : Int) (f : Nat → Value), x70 = s ∧ a = fr 55 f ∧ f 1 = .pointer (some ⟨b3, 0, none⟩) ∧ f 6 = .int .i64 x44 ∧ f 35 = h2.v ∧ f 36 = .int .i64 (x1.length : Int) ∧ f 37 = .int .i64 x44 ∧ f 42 = h65.v ∧ f 43 = .int .i64 (x64.length : Int) ∧ f 44 = .int .i64 x70 ∧ St w0 (imm (rI .i64) h65.v x64 :: ros) (box b3 34 [h2.v] :: rs) w) go7 ⟨_, _, rfl, rfl, e6_1, rfl, e6_35, e6_36, e6_37, rfl, rfl, rfl, (hst.facts (allC mhF (allT (allT allI))))⟩ ?_
        clear hst
        rintro _ _ w r7_ ⟨x70, f, rfl, rfl, e7_1, e7_6, e7_35, e7_36, e7_37, e7_42, e7_43, e7_44, hst⟩ hM7 ho7 Q100007 n7 zz7
        refine seqQ fun Q104 k104 z104 => ?_
        refine wp_region_lit ?_
        refine Y wn rfl (ylss (et rfl e7_44) (et rfl e7_43)) ?_
        refine wpList_nil ?_
        refine k104 _ _ ?_
        refine seqQ fun Q105 k105 z105 => ?_
        rcases iteS hM7 with ⟨c76, hM7⟩ | ⟨c76, hM7⟩
        · refine condT (et rfl rfl) (decide_eq_true c76) ?_
          refine wp_skip ?_
          refine k105 _ _ ?_
          refine seqQ fun Q106 k106 z106 => ?_
          refine blockQ fun Q107 qb107 => ?_
          refine seqQ fun Q108 k108 z108 => ?_
          refine wp_region_lit ?_
          obtain ⟨x77, gx77, hM7⟩ := bs hM7
          refine Y wn rfl (yIa SL_22 (et rfl e7_42) (et rfl e7_44) hst (rdI mhF) gx77) ?_
          refine Y wn rfl (yI O_3 (et rfl rfl) hst (rdI mhF) gx77) ?_
          refine Y wn rfl (ya (v := .int .i64 x77) (et rfl rfl)) ?_
          refine wpList_nil ?_
          refine k108 _ _ ?_
          refine seqQ fun Q109 k109 z109 => ?_
          refine wp_region_lit ?_
          refine Y wn rfl (yLbs (us := [h2.v]) ST_34 (et rfl e7_1) hst mhR rfl rfl) ?_
          refine Y wn rfl (ym (v := .int .i64 x77) (et rfl rfl)) ?_
          refine Y wn rfl (ym (v := .int .i64 x44) (et rfl e7_6)) ?_
          obtain ⟨r78, gr78, hM7⟩ := bs hM7
          refine Yc wn rfl (yCall FN_36 (a3 (et rfl rfl) (et rfl rfl) (et rfl rfl))) (graph_joined_ok (hM := gr78) (hst := hst) (q1 := (mtF q1))) ?_
          clear hst
          rintro _ w ⟨rfl, hst⟩
          refine ⟨_, rfl, ?_⟩
          refine Y wn rfl (ynot (et rfl rfl)) ?_
          refine wpList_nil ?_
          refine k109 _ _ ?_
          rcases iteS hM7 with ⟨c79, hM7⟩ | ⟨c79, hM7⟩
          · refine condF (et rfl rfl) (nF c79) ?_
            refine wp_skip ?_
            refine qb107 _ _ _ ?_
            refine k106 _ _ ?_
            refine wp_region_lit ?_
            refine Y wn rfl (yadd (et rfl e7_44) rfl) ?_
            refine Y wn rfl (ym (v := .int .i64 (wa .i64 x70 1)) (et rfl rfl)) ?_
            refine wpList_nil ?_
            obtain rfl := someI hM7
            exact n7 _ _ _ rfl ⟨_, _, rfl, rfl, e7_1, e7_6, e7_35, e7_36, e7_37, e7_42, e7_43, rfl, hst⟩
          · refine condT (et rfl rfl) (nT (bfalse c79)) ?_
            refine seqQ fun Q110 k110 z110 => ?_
            refine wp_region_lit ?_
            refine Y wn rfl (ya (v := .int .i64 1) rfl) ?_
            refine wpList_nil ?_
            refine k110 _ _ ?_
            refine wp_ret ?_
            refine qb107 _ _ _ ?_
            refine z106 _ _ _ rfl ?_
            obtain rfl := someI hM7
            refine zz7 _ _ _ _ rfl rfl ?_
            exact je7_1 _ _ rfl ((hst.pk 1 [] rfl).facts (allT allI)) (ho7 _ rfl)
        · refine condF (et rfl rfl) (decide_eq_false c76) ?_
          refine wp_exit ?_
          refine z105 _ _ _ rfl ?_
          obtain rfl := someI hM7
          refine zz7 _ _ _ _ rfl rfl ?_
          exact je7_0 _ _ e7_1 e7_35 e7_36 e7_37 (hst.facts (allT allI)) (ho7 _ rfl)
      · refine condF (et rfl rfl) (decide_eq_false c63) ?_
        refine wp_exit ?_
        refine z84 _ _ _ rfl ?_
        obtain rfl := someI hM6
        refine zz6 _ _ _ _ rfl rfl ?_
        exact je6_0 _ _ (hst.pk 1 [] rfl) (ho6 _ rfl)
    have je3_1 : ∀ (f : Nat → Value) (w : World), f 2 = .int .i64 1 → St w0 (ros) (rs) w → .inr () = o3 → Q8 .ret (fr 55 f) w := by
      intro f w eje3_1_2 hst ho
      subst ho
      refine qb8 _ _ _ ?_
      refine z6 _ _ _ rfl ?_
      obtain rfl := someI hM
      exact hQ _ _ _ (fin1r Tryd.results22 ⟨rfl, eje3_1_2⟩ ⟨rfl, hst⟩)
    refine loopQ (fun s a w => ∃ (x15 : Int) (f : Nat → Value), x15 = s ∧ a = fr 55 f ∧ f 1 = .pointer (some ⟨b3, 0, none⟩) ∧ f 3 = .int .i64 (x1.length : Int) ∧ f 16 = h2.v ∧ f 17 = .int .i64 (x1.length : Int) ∧ f 18 = .int .i64 x15 ∧ St w0 (ros) (box b3 34 [h2.v] :: rs) w) go3 ⟨_, _, rfl, rfl, rfl, rfl, rfl, rfl, rfl, hst⟩ ?_
    clear hst
    rintro _ _ w r3_ ⟨x15, f, rfl, rfl, e3_1, e3_3, e3_16, e3_17, e3_18, hst⟩ hM3 ho3 Q100003 n3 zz3
    refine seqQ fun Q111 k111 z111 => ?_
    refine wp_region_lit ?_
    refine Y wn rfl (ylss (et rfl e3_18) (et rfl e3_17)) ?_
    refine wpList_nil ?_
    refine k111 _ _ ?_
    refine seqQ fun Q112 k112 z112 => ?_
    rcases iteS hM3 with ⟨c80, hM3⟩ | ⟨c80, hM3⟩
    · refine condT (et rfl rfl) (decide_eq_true c80) ?_
      refine wp_skip ?_
      refine k112 _ _ ?_
      refine seqQ fun Q113 k113 z113 => ?_
      refine blockQ fun Q114 qb114 => ?_
      refine seqQ fun Q115 k115 z115 => ?_
      refine wp_region_lit ?_
      refine Y wn rfl (ym (v := .int .i64 x15) (et rfl e3_18)) ?_
      obtain ⟨x81, gx81, hM3⟩ := bs hM3
      refine Y wn rfl (yIa SL_32 (et rfl e3_16) (et rfl e3_18) hst (rdI q1) gx81) ?_
      obtain ⟨h82, hst⟩ := iLs hst q1 gx81
      refine Y wn rfl (yCt O_22 (et rfl rfl) hst (mtF mhF) rfl) ?_
      refine Y wn rfl (ya (v := .int .i64 x15) (et rfl rfl)) ?_
      refine Y wn rfl (ya (v := h82.v) (et rfl rfl)) ?_
      refine wpList_nil ?_
      refine k115 _ _ ?_
      refine seqQ fun Q116 k116 z116 => ?_
      refine wp_region_lit ?_
      refine Y wn rfl (ym (v := h82.v) (et rfl rfl)) ?_
      refine Y wn rfl (ym (v := .int .i64 (x1.length : Int)) (et rfl e3_3)) ?_
      obtain ⟨r83, gr83, hM3⟩ := bs hM3
      refine Yc wn rfl (yCall FN_35 (a2 (et rfl rfl) (et rfl rfl))) (graph_ascending_ok (hM := gr83) (hst := hst) (q1 := mhF)) ?_
      clear hst
      rintro _ w ⟨rfl, hst⟩
      refine ⟨_, rfl, ?_⟩
      refine Y wn rfl (ynot (et rfl rfl)) ?_
      refine Y wn rfl (ym (v := .bool (!(r83))) (et rfl rfl)) ?_
      obtain ⟨r85, gr85, hM3⟩ := bs hM3
      refine joinW 5 (fun f w => f 1 = .pointer (some ⟨b3, 0, none⟩) ∧ f 3 = .int .i64 (x1.length : Int) ∧ f 16 = h2.v ∧ f 17 = .int .i64 (x1.length : Int) ∧ f 18 = .int .i64 x15 ∧ f 32 = .bool r85 ∧ St w0 (ros) (box b3 34 [h2.v] :: rs) w) (fun j8 => ?_) ?_
      · rcases iteS gr85 with ⟨c87, gr85⟩ | ⟨c87, gr85⟩
        · refine Y (wg rfl rfl rfl (nF c87)) rfl (yLbs (us := [h2.v]) ST_34 (et rfl e3_1) hst mhR rfl rfl) ?_
          refine Y (wg rfl rfl rfl (nF c87)) rfl (ym (v := .int .i64 x15) (et rfl rfl)) ?_
          refine Y (wg rfl rfl rfl (nF c87)) rfl (ym (v := .int .i64 x15) (et rfl rfl)) ?_
          obtain ⟨r88, gr88, gr85⟩ := bs gr85
          refine Yc (wg rfl rfl rfl (nF c87)) rfl (yCall FN_36 (a3 (et rfl rfl) (et rfl rfl) (et rfl rfl))) (graph_joined_ok (hM := gr88) (hst := hst) (q1 := (mtF (mtF q1)))) ?_
          clear hst
          rintro _ w ⟨rfl, hst⟩
          refine ⟨_, rfl, ?_⟩
          refine Y wn rfl (ypf (v := .bool r88) (et rfl rfl) (nF c87) (et rfl rfl)) ?_
          obtain rfl := someI gr85
          exact j8 _ _ ⟨e3_1, e3_3, e3_16, e3_17, e3_18, rfl, (hst.facts (allT (allT allI)))⟩
        · refine Gn (wx rfl rfl rfl (nT (bfalse c87))) rfl ?_
          refine Gn (wx rfl rfl rfl (nT (bfalse c87))) rfl ?_
          refine Gn (wx rfl rfl rfl (nT (bfalse c87))) rfl ?_
          refine Gn (wx rfl rfl rfl (nT (bfalse c87))) rfl ?_
          refine Y wn rfl (ypt (v := .bool true) (et rfl rfl) (nT (bfalse c87)) rfl) ?_
          obtain rfl := someI gr85
          exact j8 _ _ ⟨e3_1, e3_3, e3_16, e3_17, e3_18, rfl, (hst.facts (allT (allT allI)))⟩
      clear hst
      rintro f w ⟨e86_1, e86_3, e86_16, e86_17, e86_18, e86_32, hst⟩
      refine wpList_nil ?_
      refine k116 _ _ ?_
      rcases iteS hM3 with ⟨c89, hM3⟩ | ⟨c89, hM3⟩
      · refine condT (et rfl e86_32) c89 ?_
        refine seqQ fun Q117 k117 z117 => ?_
        refine wp_region_lit ?_
        refine Y wn rfl (ya (v := .int .i64 1) rfl) ?_
        refine wpList_nil ?_
        refine k117 _ _ ?_
        refine wp_ret ?_
        refine qb114 _ _ _ ?_
        refine z113 _ _ _ rfl ?_
        obtain rfl := someI hM3
        refine zz3 _ _ _ _ rfl rfl ?_
        exact je3_1 _ _ rfl (hst.pk 1 [] rfl) (ho3 _ rfl)
      · refine condF (et rfl e86_32) (bfalse c89) ?_
        refine wp_skip ?_
        refine qb114 _ _ _ ?_
        refine k113 _ _ ?_
        refine wp_region_lit ?_
        refine Y wn rfl (yadd (et rfl e86_18) rfl) ?_
        refine Y wn rfl (ym (v := .int .i64 (wa .i64 x15 1)) (et rfl rfl)) ?_
        refine wpList_nil ?_
        obtain rfl := someI hM3
        exact n3 _ _ _ rfl ⟨_, _, rfl, rfl, e86_1, e86_3, e86_16, e86_17, rfl, hst⟩
    · refine condF (et rfl rfl) (decide_eq_false c80) ?_
      refine wp_exit ?_
      refine z112 _ _ _ rfl ?_
      obtain rfl := someI hM3
      refine zz3 _ _ _ _ rfl rfl ?_
      exact je3_0 _ _ e3_1 hst (ho3 _ rfl)

theorem etree_newForest_ok {w0 : World} {ros : List Fact} {rs : List Res} {w : World} {x1 : Int} {out : (List Int) × (List Int)} (hM : etree_newForest x1 = some out) (hst : St w0 ros (rs) w) :
    Calls Tryd.prog 16 #[.int .i64 x1] w (fun e w => ∃ (b100001 : Nat) (h100002 : Hdr) (h100004 : Hdr), e = .returned (.pointer (some ⟨b100001, 0, none⟩)) ∧ St w0 (ros) (row 3 (rI .i64) h100002.v out.1 :: row 3 (rI .i64) h100004.v out.2 :: box b100001 56 [h100002.v, h100004.v] :: rs) w) := by
  refine enterQ Tryd.func16 rfl Tryd.ntmps16 rfl fun Q hQ => ?_
  refine seqQ fun Q1 k1 z1 => ?_
  refine wp_region_lit ?_
  refine Y wn rfl (ya (v := .pointer none) rfl) ?_
  refine wpList_nil ?_
  refine k1 _ _ ?_
  refine seqQ fun Q2 k2 z2 => ?_
  obtain ⟨x4, gx4, hM⟩ := bs hM
  obtain ⟨x7, gx7, hM⟩ := bs hM
  refine joinN (n := 29) (fun f w => ∃ (b9 : Nat) (h10 : Hdr) (h11 : Hdr), f 0 = .int .i64 x1 ∧ f 3 = .pointer (some ⟨b9, 0, none⟩) ∧ St w0 (ros) (row 3 (rI .i64) h10.v x4 :: row 3 (rI .i64) h11.v x7 :: box b9 56 [h10.v, h11.v] :: rs) w) (fun j1 => ?_) ?_
  · refine wp_drawR [0, 1, 0, 4, 15, 31, 63] [1, 3, 5, 6] 4 folM (by kernel_rfl) (by kernel_rfl) (by kernel_rfl) ?_
    replace hst := hst.drew
    refine DRn (l1 := [0, 2]) (l2 := []) (lc := [1, 3]) (by kernel_rfl) (by kernel_rfl) (by kernel_rfl) ?_
    refine Ry rfl rfl wn (ym (v := .int .i64 x1) (et rfl rfl)) ?_
    refine Ry rfl rfl wn (ym (v := .int .i64 x1) (et rfl rfl)) ?_
    refine Rn QSn ?_
    refine Lc rfl ?_ (Lc rfl ?_ LAn)
    · refine LH wn (rMk hst SL_22 (et rfl rfl) gx4) ?_
      clear hst
      intro h2 w hst
      refine DRn (l1 := []) (l2 := [2]) (lc := [3]) (by kernel_rfl) (by kernel_rfl) (by kernel_rfl) ?_
      refine Rn (Sy rfl rfl wn (ym (v := .int .i64 x1) (et rfl rfl)) rfl QSn) ?_
      refine Lc rfl ?_ LAn
      refine LH wn (rMk hst SL_22 (et rfl rfl) gx7) ?_
      clear hst
      intro h5 w hst
      refine DRn (l1 := [4]) (l2 := []) (lc := [5]) (by kernel_rfl) (by kernel_rfl) (by kernel_rfl) ?_
      refine Ry rfl rfl wn (ybuild (us := [h2.v, h5.v]) [(0, h2.v), (1, h5.v)] SO_56 (bp2 (et rfl rfl) (et rfl rfl)) rfl) ?_
      refine Rn QSn ?_
      refine Lc rfl ?_ LAn
      refine LB wn (r_box (vals := [h2.v, h5.v]) hst (et rfl rfl) rfl) ?_
      clear hst
      intro b8 w hst
      refine DRn (l1 := []) (l2 := []) (lc := [6]) (by kernel_rfl) (by kernel_rfl) (by kernel_rfl) ?_
      refine Rn QSn ?_
      refine Lc rfl ?_ LAn
      refine Ly wn (ya (v := .pointer (some ⟨b8, 0, none⟩)) (et rfl rfl)) ?_
      refine DRz (l1 := []) (l2 := []) (by kernel_rfl) (by kernel_rfl) ?_
      refine Rn QSn ?_
      exact j1 _ _ ⟨_, _, _, rfl, rfl, (hst.pk 3 [2, 1, 0] rfl)⟩
    · refine LH wn (rMk hst SL_22 (et rfl rfl) gx7) ?_
      clear hst
      intro h5 w hst
      refine DRn (l1 := []) (l2 := [0]) (lc := [1]) (by kernel_rfl) (by kernel_rfl) (by kernel_rfl) ?_
      refine Rn (Sy rfl rfl wn (ym (v := .int .i64 x1) (et rfl rfl)) rfl QSn) ?_
      refine Lc rfl ?_ LAn
      refine LH wn (rMk hst SL_22 (et rfl rfl) gx4) ?_
      clear hst
      intro h2 w hst
      refine DRn (l1 := [4]) (l2 := []) (lc := [5]) (by kernel_rfl) (by kernel_rfl) (by kernel_rfl) ?_
      refine Ry rfl rfl wn (ybuild (us := [h2.v, h5.v]) [(0, h2.v), (1, h5.v)] SO_56 (bp2 (et rfl rfl) (et rfl rfl)) rfl) ?_
      refine Rn QSn ?_
      refine Lc rfl ?_ LAn
      refine LB wn (r_box (vals := [h2.v, h5.v]) hst (et rfl rfl) rfl) ?_
      clear hst
      intro b8 w hst
      refine DRn (l1 := []) (l2 := []) (lc := [6]) (by kernel_rfl) (by kernel_rfl) (by kernel_rfl) ?_
      refine Rn QSn ?_
      refine Lc rfl ?_ LAn
      refine Ly wn (ya (v := .pointer (some ⟨b8, 0, none⟩)) (et rfl rfl)) ?_
      refine DRz (l1 := []) (l2 := []) (by kernel_rfl) (by kernel_rfl) ?_
      refine Rn QSn ?_
      exact j1 _ _ ⟨_, _, _, rfl, rfl, (hst.pk 3 [1, 1, 0] rfl)⟩
  clear hst
  rintro f w ⟨b9, h10, h11, e12_0, e12_3, hst⟩
  refine k2 _ _ ?_
  refine seqQ fun Q3 k3 z3 => ?_
  refine seqQ fun Q4 k4 z4 => ?_
  refine wp_region_lit ?_
  refine Y wn rfl (ym (v := .int .i64 x1) (et rfl e12_0)) ?_
  refine Y wn rfl (ym (v := .int .i64 0) rfl) ?_
  refine wpList_nil ?_
  refine k4 _ _ ?_
  refine blockQ fun Q5 qb5 => ?_
  obtain ⟨o2, go2, hM⟩ := bs hM
  have je2_0 : ∀ (x25 : List Int) (x26 : List Int) (f : Nat → Value) (w : World), f 3 = .pointer (some ⟨b9, 0, none⟩) → St w0 (ros) (row 3 (rI .i64) h10.v x25 :: row 3 (rI .i64) h11.v x26 :: box b9 56 [h10.v, h11.v] :: rs) w → (x25, x26) = o2 → Q5 (.exit 0) (fr 29 f) w := by
    intro x25 x26 f w eje2_0_3 hst ho
    subst ho
    refine qb5 _ _ _ ?_
    refine k3 _ _ ?_
    refine seqQ fun Q16 k16 z16 => ?_
    refine wp_region_lit ?_
    refine Y wn rfl (ym (v := .pointer (some ⟨b9, 0, none⟩)) (et rfl eje2_0_3)) ?_
    refine Y wn rfl (ya (v := .pointer (some ⟨b9, 0, none⟩)) (et rfl rfl)) ?_
    refine wpList_nil ?_
    refine k16 _ _ ?_
    refine wp_ret ?_
    obtain rfl := someI hM
    exact hQ _ _ _ (fin1r Tryd.results16 ⟨rfl, rfl⟩ ⟨_, _, _, rfl, hst⟩)
  refine loopQ (fun s a w => ∃ (x16 : List Int) (x17 : List Int) (x18 : Int) (f : Nat → Value), (x16, x17, x18) = s ∧ a = fr 29 f ∧ f 3 = .pointer (some ⟨b9, 0, none⟩) ∧ f 11 = .int .i64 x1 ∧ f 12 = .int .i64 x18 ∧ St w0 (ros) (row 3 (rI .i64) h10.v x16 :: row 3 (rI .i64) h11.v x17 :: box b9 56 [h10.v, h11.v] :: rs) w) go2 ⟨_, _, _, _, rfl, rfl, e12_3, rfl, rfl, hst⟩ ?_
  clear hst
  rintro _ _ w r2_ ⟨x16, x17, x18, f, rfl, rfl, e2_3, e2_11, e2_12, hst⟩ hM2 ho2 Q100002 n2 zz2
  refine seqQ fun Q17 k17 z17 => ?_
  refine wp_region_lit ?_
  refine Y wn rfl (ylss (et rfl e2_12) (et rfl e2_11)) ?_
  refine wpList_nil ?_
  refine k17 _ _ ?_
  refine seqQ fun Q18 k18 z18 => ?_
  rcases iteS hM2 with ⟨c27, hM2⟩ | ⟨c27, hM2⟩
  · refine condT (et rfl rfl) (decide_eq_true c27) ?_
    refine wp_skip ?_
    refine k18 _ _ ?_
    refine seqQ fun Q19 k19 z19 => ?_
    refine blockQ fun Q20 qb20 => ?_
    refine seqQ fun Q21 k21 z21 => ?_
    refine wp_region_lit ?_
    refine Y wn rfl (ym (v := .int .i64 x18) (et rfl e2_12)) ?_
    refine Y wn rfl (ya (v := .int .i64 x18) (et rfl rfl)) ?_
    refine wpList_nil ?_
    refine k21 _ _ ?_
    obtain ⟨x28, gx28, hM2⟩ := bs hM2
    obtain ⟨x29, gx29, hM2⟩ := bs hM2
    refine wp_drawR [0, 1, 3, 7, 0, 0, 32, 96, 224, 0, 511, 1535, 4095, 8191] [11, 13] 2 folM (by kernel_rfl) (by kernel_rfl) (by kernel_rfl) ?_
    replace hst := hst.drew
    refine DRn (l1 := [0, 1, 2, 3, 4, 5, 6, 7, 8, 9, 10]) (l2 := []) (lc := [11]) (by kernel_rfl) (by kernel_rfl) (by kernel_rfl) ?_
    refine Ry rfl rfl wn (ym (v := .pointer (some ⟨b9, 0, none⟩)) (et rfl e2_3)) ?_
    refine Ry rfl rfl wn (yn (et rfl rfl)) ?_
    refine Ry rfl rfl wn (yFb FL_56_0 (et rfl rfl)) ?_
    refine Ry rfl rfl wn (yLb (u := h10.v) O_22 (et rfl rfl) hst (mtR (mtR mhR)) rfl) ?_
    refine Ry rfl rfl wn (ym (v := .int .i64 x18) (et rfl rfl)) ?_
    refine Ry rfl rfl wn (ym (v := .pointer (some ⟨b9, 0, none⟩)) (et rfl e2_3)) ?_
    refine Ry rfl rfl wn (yn (et rfl rfl)) ?_
    refine Ry rfl rfl wn (yFb FL_56_1 (et rfl rfl)) ?_
    refine Ry rfl rfl wn (yLb (u := h11.v) O_22 (et rfl rfl) hst (mtR (mtR mhR)) rfl) ?_
    refine Ry rfl rfl wn (ym (v := .int .i64 x18) (et rfl rfl)) ?_
    refine Ry rfl rfl wn (yIs SL_22 (et rfl rfl) (et rfl rfl) hst (rdO mhR) gx28) ?_
    refine Rn QSn ?_
    refine Lc rfl ?_ LAn
    refine LT wn (r_sti (cs := [.int .i64 (-1)]) hst O_3 rfl (et rfl rfl) rfl rfl mkI gx28) ?_
    clear hst
    intro w hst
    refine DRn (l1 := [12]) (l2 := [9]) (lc := [13]) (by kernel_rfl) (by kernel_rfl) (by kernel_rfl) ?_
    refine Ry rfl rfl wn (yIs SL_22 (et rfl rfl) (et rfl rfl) hst (rdO (mtR mhR)) gx29) ?_
    refine Rn (Sy rfl rfl wn (ym (v := .int .i64 x18) (et rfl rfl)) rfl QSn) ?_
    refine Lc rfl ?_ LAn
    replace hst := hst.pk 2 [1, 0] rfl
    refine LT wn (r_sti (cs := [.int .i64 (-1)]) hst O_3 rfl (et rfl rfl) rfl rfl mkI gx29) ?_
    clear hst
    intro w hst
    refine DRz (l1 := []) (l2 := []) (by kernel_rfl) (by kernel_rfl) ?_
    refine Rn QSn ?_
    refine qb20 _ _ _ ?_
    refine k19 _ _ ?_
    refine wp_region_lit ?_
    refine Y wn rfl (yadd (et rfl e2_12) rfl) ?_
    refine Y wn rfl (ym (v := .int .i64 (wa .i64 x18 1)) (et rfl rfl)) ?_
    refine wpList_nil ?_
    obtain rfl := someI hM2
    exact n2 _ _ _ rfl ⟨_, _, _, _, rfl, rfl, e2_3, e2_11, rfl, (hst.pk 3 [1, 0, 0] rfl)⟩
  · refine condF (et rfl rfl) (decide_eq_false c27) ?_
    refine wp_exit ?_
    refine z18 _ _ _ rfl ?_
    obtain rfl := someI hM2
    refine zz2 _ _ _ _ rfl rfl ?_
    exact je2_0 _ _ _ _ e2_3 hst (ho2 _ rfl)

theorem etree_forest_join_ok {w0 : World} {ros : List Fact} {rs : List Res} {w : World} {x2 : List Int} {x4 : List Int} {x6 : Int} {x7 : Int} {b1 : Nat} {h3 : Hdr} {h5 : Hdr} {out : (List Int) × (List Int)} (hM : etree_forest_join x2 x4 x6 x7 = some out) (hst : St w0 ros (box b1 56 [h3.v, h5.v] :: row 3 (rI .i64) h3.v x2 :: row 3 (rI .i64) h5.v x4 :: rs) w) :
    Calls Tryd.prog 18 #[.pointer (some ⟨b1, 0, none⟩), .int .i64 x6, .int .i64 x7] w (fun e w => e = .returned (.tuple #[]) ∧ St w0 (ros) (row 3 (rI .i64) h3.v out.1 :: row 3 (rI .i64) h5.v out.2 :: box b1 56 [h3.v, h5.v] :: rs) w) := by
  refine enterQ Tryd.func18 rfl Tryd.ntmps18 rfl fun Q hQ => ?_
  refine blockQ fun Q1 qb1 => ?_
  obtain ⟨o5, go5, hM⟩ := bs hM
  have je5_0 : ∀ (x32 : List Int) (x33 : List Int) (f : Nat → Value) (w : World), St w0 (ros) (row 3 (rI .i64) h3.v x32 :: row 3 (rI .i64) h5.v x33 :: box b1 56 [h3.v, h5.v] :: rs) w → (x32, x33) = o5 → Q1 (.exit 0) (fr 38 f) w := by
    intro x32 x33 f w hst ho
    subst ho
    refine qb1 _ _ _ ?_
    obtain rfl := someI hM
    exact hQ _ _ _ (fin0n Tryd.results18 ⟨rfl, hst⟩)
  refine loopQ (fun s a w => ∃ (x17 : List Int) (x18 : List Int) (x19 : Int) (f : Nat → Value), (x17, x18, x19) = s ∧ a = fr 38 f ∧ f 0 = .pointer (some ⟨b1, 0, none⟩) ∧ f 1 = .int .i64 x19 ∧ f 2 = .int .i64 x7 ∧ St w0 (ros) (row 3 (rI .i64) h3.v x17 :: row 3 (rI .i64) h5.v x18 :: box b1 56 [h3.v, h5.v] :: rs) w) go5 ⟨_, _, _, _, rfl, rfl, rfl, rfl, rfl, (hst.pk 3 [1, 1, 0] rfl)⟩ ?_
  clear hst
  rintro _ _ w r5_ ⟨x17, x18, x19, f, rfl, rfl, e5_0, e5_1, e5_2, hst⟩ hM5 ho5 Q100005 n5 zz5
  refine seqQ fun Q16 k16 z16 => ?_
  refine seqQ fun Q17 k17 z17 => ?_
  refine wp_region_lit ?_
  refine Y wn rfl (ym (v := .int .i64 x19) (et rfl e5_1)) ?_
  refine Y wn rfl (yneq (et rfl rfl) rfl) ?_
  refine Y wn rfl (ym (v := .bool (!(decide (x19 = (-1))))) (et rfl rfl)) ?_
  refine joinW 4 (fun f w => f 0 = .pointer (some ⟨b1, 0, none⟩) ∧ f 1 = .int .i64 x19 ∧ f 2 = .int .i64 x7 ∧ f 13 = .bool ((!(decide (x19 = (-1)))) && (decide (x19 < x7))) ∧ St w0 (ros) (row 3 (rI .i64) h3.v x17 :: row 3 (rI .i64) h5.v x18 :: box b1 56 [h3.v, h5.v] :: rs) w) (fun j6 => ?_) ?_
  · rcases Bool.eq_false_or_eq_true (!(decide (x19 = (-1)))) with c35 | c35
    · refine Y (wg rfl rfl rfl c35) rfl (ym (v := .int .i64 x19) (et rfl e5_1)) ?_
      refine Y (wg rfl rfl rfl c35) rfl (ym (v := .int .i64 x7) (et rfl e5_2)) ?_
      refine Y (wg rfl rfl rfl c35) rfl (ylss (et rfl rfl) (et rfl rfl)) ?_
      refine Y wn rfl (ypt (v := .bool (decide (x19 < x7))) (et rfl rfl) c35 (et rfl rfl)) ?_
      exact j6 _ _ ⟨e5_0, e5_1, e5_2, (congrArg Value.bool (andT c35)), hst⟩
    · refine Gn (wx rfl rfl rfl c35) rfl ?_
      refine Gn (wx rfl rfl rfl c35) rfl ?_
      refine Gn (wx rfl rfl rfl c35) rfl ?_
      refine Y wn rfl (ypf (v := .bool false) (et rfl rfl) c35 rfl) ?_
      exact j6 _ _ ⟨e5_0, e5_1, e5_2, (congrArg Value.bool (andF c35)), hst⟩
  clear hst
  rintro f w ⟨e34_0, e34_1, e34_2, e34_13, hst⟩
  refine wpList_nil ?_
  refine k17 _ _ ?_
  rcases iteS hM5 with ⟨c36, hM5⟩ | ⟨c36, hM5⟩
  · refine condT (et rfl e34_13) c36 ?_
    refine wp_skip ?_
    refine k16 _ _ ?_
    refine blockQ fun Q18 qb18 => ?_
    refine seqQ fun Q19 k19 z19 => ?_
    refine wp_region_lit ?_
    refine Y wn rfl (ym (v := .pointer (some ⟨b1, 0, none⟩)) (et rfl e34_0)) ?_
    refine Y wn rfl (yn (et rfl rfl)) ?_
    refine Y wn rfl (yFb FL_56_1 (et rfl rfl)) ?_
    refine Y wn rfl (yLb (u := h5.v) O_22 (et rfl rfl) hst (mtR (mtR mhR)) rfl) ?_
    refine Y wn rfl (ym (v := .int .i64 x19) (et rfl e34_1)) ?_
    obtain ⟨x37, gx37, hM5⟩ := bs hM5
    refine Y wn rfl (yIa SL_22 (et rfl rfl) (et rfl rfl) hst (rdO (mtR mhR)) gx37) ?_
    refine Y wn rfl (yI O_3 (et rfl rfl) hst (rdO (mtR mhR)) gx37) ?_
    refine Y wn rfl (ya (v := .int .i64 x37) (et rfl rfl)) ?_
    refine wpList_nil ?_
    refine k19 _ _ ?_
    refine seqQ fun Q20 k20 z20 => ?_
    refine wp_region_lit ?_
    refine Y wn rfl (ym (v := .pointer (some ⟨b1, 0, none⟩)) (et rfl e34_0)) ?_
    refine Y wn rfl (yn (et rfl rfl)) ?_
    refine Y wn rfl (yFb FL_56_1 (et rfl rfl)) ?_
    refine Y wn rfl (yLb (u := h5.v) O_22 (et rfl rfl) hst (mtR (mtR mhR)) rfl) ?_
    refine Y wn rfl (ym (v := .int .i64 x19) (et rfl e34_1)) ?_
    refine Y wn rfl (ym (v := .int .i64 x7) (et rfl e34_2)) ?_
    obtain ⟨x38, gx38, hM5⟩ := bs hM5
    refine Y wn rfl (yIs SL_22 (et rfl rfl) (et rfl rfl) hst (rdO (mtR mhR)) gx38) ?_
    replace hst := hst.pk 2 [1, 0] rfl
    refine YT wn rfl (r_sti (cs := [.int .i64 x7]) hst O_3 rfl (et rfl rfl) (et rfl rfl) rfl mkI gx38) ?_
    clear hst
    intro w hst
    refine wpList_nil ?_
    refine k20 _ _ ?_
    refine seqQ fun Q21 k21 z21 => ?_
    refine seqQ fun Q22 k22 z22 => ?_
    refine wp_region_lit ?_
    refine Y wn rfl (ym (v := .int .i64 x37) (et rfl rfl)) ?_
    refine Y wn rfl (yeql (et rfl rfl) rfl) ?_
    refine wpList_nil ?_
    refine k22 _ _ ?_
    have j7 : ∀ (x40 : List Int) (f : Nat → Value) (w : World), f 0 = .pointer (some ⟨b1, 0, none⟩) → f 2 = .int .i64 x7 → f 6 = .int .i64 x37 → St w0 (ros) (row 3 (rI .i64) h3.v x40 :: row 3 (rI .i64) h5.v x38 :: box b1 56 [h3.v, h5.v] :: rs) w → etree_forest_join_j7 x38 x37 x40 = some r5_ → Q21 .normal (fr 38 f) w := by
      intro x40 f w ej7_0 ej7_2 ej7_6 hst hM
      refine k21 _ _ ?_
      refine wp_region_lit ?_
      refine Y wn rfl (ym (v := .int .i64 x37) (et rfl ej7_6)) ?_
      refine Y wn rfl (ya (v := .int .i64 x37) (et rfl rfl)) ?_
      refine wpList_nil ?_
      refine qb18 _ _ _ ?_
      obtain rfl := someI hM
      exact n5 _ _ _ rfl ⟨_, _, _, _, rfl, rfl, ej7_0, rfl, ej7_2, hst⟩
    rcases iteS hM5 with ⟨c41, hM5⟩ | ⟨c41, hM5⟩
    · refine condT (et rfl rfl) (decide_eq_true c41) ?_
      refine wp_region_lit ?_
      refine Y wn rfl (ym (v := .pointer (some ⟨b1, 0, none⟩)) (et rfl e34_0)) ?_
      refine Y wn rfl (yn (et rfl rfl)) ?_
      refine Y wn rfl (yFb FL_56_0 (et rfl rfl)) ?_
      refine Y wn rfl (yLb (u := h3.v) O_22 (et rfl rfl) hst (mtR (mtR mhR)) rfl) ?_
      refine Y wn rfl (ym (v := .int .i64 x19) (et rfl e34_1)) ?_
      refine Y wn rfl (ym (v := .int .i64 x7) (et rfl e34_2)) ?_
      obtain ⟨x42, gx42, hM5⟩ := bs hM5
      refine Y wn rfl (yIs SL_22 (et rfl rfl) (et rfl rfl) hst (rdO (mtR mhR)) gx42) ?_
      replace hst := hst.pk 2 [1, 0] rfl
      refine YT wn rfl (r_sti (cs := [.int .i64 x7]) hst O_3 rfl (et rfl rfl) (et rfl rfl) rfl mkI gx42) ?_
      clear hst
      intro w hst
      refine wpList_nil ?_
      exact j7 _ _ _ e34_0 e34_2 rfl hst hM5
    · refine condF (et rfl rfl) (decide_eq_false c41) ?_
      refine wp_skip ?_
      exact j7 _ _ _ e34_0 e34_2 rfl (hst.pk 3 [1, 0, 0] rfl) hM5
  · refine condF (et rfl e34_13) (bfalse c36) ?_
    refine wp_exit ?_
    refine z16 _ _ _ rfl ?_
    obtain rfl := someI hM5
    refine zz5 _ _ _ _ rfl rfl ?_
    exact je5_0 _ _ _ _ hst (ho5 _ rfl)

theorem etree_Parent_ok {w0 : World} {ros : List Fact} {rs : List Res} {w : World} {x1 : List (List Int)} {h2 : Hdr} {out : (List Int) × Int} (hM : etree_Parent x1 = some out) (q1 : imm (rS (rI .i64)) h2.v x1 ∈ ros) (hst : St w0 ros (rs) w) :
    Calls Tryd.prog 9 #[.agg #[h2.v]] w (fun e w => ∃ (h100001 : Hdr), e = .returned (.tuple #[h100001.v, .int .i64 out.2]) ∧ St w0 (ros) (row 3 (rI .i64) h100001.v out.1 :: rs) w) := by
  refine enterQ Tryd.func9 rfl Tryd.ntmps9 rfl fun Q hQ => ?_
  refine seqQ fun Q1 k1 z1 => ?_
  refine wp_region_lit ?_
  refine YB wn rfl (r_box (vals := [h2.v]) hst (et rfl rfl) rfl) ?_
  clear hst
  intro b3 w hst
  refine Y wn rfl (ya (v := hnil.v) rfl) ?_
  refine Y wn rfl (ya (v := .int .i64 0) rfl) ?_
  refine wpList_nil ?_
  refine k1 _ _ ?_
  refine seqQ fun Q2 k2 z2 => ?_
  refine wp_region_lit ?_
  refine Y wn rfl (yLbs (us := [h2.v]) ST_34 (et rfl rfl) hst mhR rfl rfl) ?_
  obtain ⟨r4, gr4, hM⟩ := bs hM
  refine Yc wn rfl (yCall FN_22 (a1 (et rfl rfl))) (graph_Check_ok (hM := gr4) (hst := hst) (q1 := q1)) ?_
  clear hst
  rintro _ w ⟨rfl, hst⟩
  refine ⟨_, rfl, ?_⟩
  refine Y wn rfl (ya (v := .int .i64 r4) (et rfl rfl)) ?_
  refine wpList_nil ?_
  refine k2 _ _ ?_
  refine seqQ fun Q3 k3 z3 => ?_
  refine seqQ fun Q4 k4 z4 => ?_
  refine wp_region_lit ?_
  refine Y wn rfl (ym (v := .int .i64 r4) (et rfl rfl)) ?_
  refine Y wn rfl (yneq (et rfl rfl) rfl) ?_
  refine wpList_nil ?_
  refine k4 _ _ ?_
  rcases iteS hM with ⟨c5, hM⟩ | ⟨c5, hM⟩
  · refine condF (et rfl rfl) (nF (decide_eq_true c5)) ?_
    refine wp_skip ?_
    refine k3 _ _ ?_
    refine seqQ fun Q5 k5 z5 => ?_
    refine wp_region_lit ?_
    refine Y wn rfl (yFb FL_34_0 (et rfl rfl)) ?_
    refine Y wn rfl (yLb (u := h2.v) O_32 (et rfl rfl) hst mhR rfl) ?_
    refine Y wn rfl (yLen SL_32 (et rfl rfl) hst (rdI q1)) ?_
    obtain ⟨r6, gr6, hM⟩ := bs hM
    refine Yc wn rfl (yCall FN_16 (a1 (et rfl rfl))) (etree_newForest_ok (hM := gr6) (hst := hst) ) ?_
    clear hst
    rintro _ w ⟨b7, h8, h9, rfl, hst⟩
    refine ⟨_, rfl, ?_⟩
    refine Y wn rfl (ya (v := .pointer (some ⟨b7, 0, none⟩)) (et rfl rfl)) ?_
    refine wpList_nil ?_
    refine k5 _ _ ?_
    refine seqQ fun Q6 k6 z6 => ?_
    refine seqQ fun Q7 k7 z7 => ?_
    refine wp_region_lit ?_
    refine Y wn rfl (yFb FL_34_0 (et rfl rfl)) ?_
    refine Y wn rfl (yLb (u := h2.v) O_32 (et rfl rfl) hst (mtR (mtR (mtR mhR))) rfl) ?_
    refine Y wn rfl (yLen SL_32 (et rfl rfl) hst (rdI q1)) ?_
    refine Y wn rfl (ym (v := .int .i64 0) rfl) ?_
    refine wpList_nil ?_
    refine k7 _ _ ?_
    refine blockQ fun Q8 qb8 => ?_
    obtain ⟨o3, go3, hM⟩ := bs hM
    have je3_0 : ∀ (x56 : List Int) (x57 : List Int) (f : Nat → Value) (w : World), f 5 = .pointer (some ⟨b7, 0, none⟩) → St w0 (ros) (row 3 (rI .i64) h8.v x56 :: row 3 (rI .i64) h9.v x57 :: box b7 56 [h8.v, h9.v] :: rs) w → (x56, x57) = o3 → Q8 (.exit 0) (fr 43 f) w := by
      intro x56 x57 f w eje3_0_5 hst ho
      subst ho
      refine qb8 _ _ _ ?_
      refine k6 _ _ ?_
      refine seqQ fun Q53 k53 z53 => ?_
      refine wp_region_lit ?_
      refine Y wn rfl (ym (v := .pointer (some ⟨b7, 0, none⟩)) (et rfl eje3_0_5)) ?_
      refine Y wn rfl (yn (et rfl rfl)) ?_
      refine Y wn rfl (yFb FL_56_0 (et rfl rfl)) ?_
      refine Y wn rfl (yLb (u := h8.v) O_22 (et rfl rfl) hst (mtR (mtR mhR)) rfl) ?_
      refine Y wn rfl (ya (v := h8.v) (et rfl rfl)) ?_
      refine Y wn rfl (ya (v := .int .i64 0) rfl) ?_
      refine wpList_nil ?_
      refine k53 _ _ ?_
      refine wp_ret ?_
      obtain rfl := someI hM
      exact hQ _ _ _ (fin2r Tryd.results9 ⟨rfl, rfl⟩ ⟨rfl, rfl⟩ ⟨_, rfl, (hst.pk 3 [0] rfl)⟩)
    refine loopQ (fun s a w => ∃ (x30 : List Int) (x31 : List Int) (x32 : Int) (f : Nat → Value), (x30, x31, x32) = s ∧ a = fr 43 f ∧ f 5 = .pointer (some ⟨b7, 0, none⟩) ∧ f 20 = h2.v ∧ f 21 = .int .i64 (x1.length : Int) ∧ f 22 = .int .i64 x32 ∧ St w0 (ros) (row 3 (rI .i64) h8.v x30 :: row 3 (rI .i64) h9.v x31 :: box b7 56 [h8.v, h9.v] :: rs) w) go3 ⟨_, _, _, _, rfl, rfl, rfl, rfl, rfl, rfl, (hst.pk 4 [0, 0, 0] rfl)⟩ ?_
    clear hst
    rintro _ _ w r3_ ⟨x30, x31, x32, f, rfl, rfl, e3_5, e3_20, e3_21, e3_22, hst⟩ hM3 ho3 Q100003 n3 zz3
    refine seqQ fun Q54 k54 z54 => ?_
    refine wp_region_lit ?_
    refine Y wn rfl (ylss (et rfl e3_22) (et rfl e3_21)) ?_
    refine wpList_nil ?_
    refine k54 _ _ ?_
    refine seqQ fun Q55 k55 z55 => ?_
    rcases iteS hM3 with ⟨c58, hM3⟩ | ⟨c58, hM3⟩
    · refine condT (et rfl rfl) (decide_eq_true c58) ?_
      refine wp_skip ?_
      refine k55 _ _ ?_
      refine seqQ fun Q56 k56 z56 => ?_
      refine blockQ fun Q57 qb57 => ?_
      refine seqQ fun Q58 k58 z58 => ?_
      refine wp_region_lit ?_
      refine Y wn rfl (ym (v := .int .i64 x32) (et rfl e3_22)) ?_
      obtain ⟨x59, gx59, hM3⟩ := bs hM3
      refine Y wn rfl (yIa SL_32 (et rfl e3_20) (et rfl e3_22) hst (rdI q1) gx59) ?_
      obtain ⟨h60, hst⟩ := iLs hst q1 gx59
      refine Y wn rfl (yCt O_22 (et rfl rfl) hst (mtF mhF) rfl) ?_
      refine Y wn rfl (ya (v := .int .i64 x32) (et rfl rfl)) ?_
      refine Y wn rfl (ya (v := h60.v) (et rfl rfl)) ?_
      refine wpList_nil ?_
      refine k58 _ _ ?_
      refine seqQ fun Q59 k59 z59 => ?_
      refine wp_region_lit ?_
      refine Y wn rfl (ym (v := h60.v) (et rfl rfl)) ?_
      refine Y wn rfl (yLen SL_22 (et rfl rfl) hst (rdI mhF)) ?_
      refine Y wn rfl (ym (v := .int .i64 0) rfl) ?_
      refine wpList_nil ?_
      refine k59 _ _ ?_
      refine blockQ fun Q60 qb60 => ?_
      obtain ⟨o4, go4, hM3⟩ := bs hM3
      have je4_0 : ∀ (x73 : List Int) (x74 : List Int) (f : Nat → Value) (w : World), f 5 = .pointer (some ⟨b7, 0, none⟩) → f 20 = h2.v → f 21 = .int .i64 (x1.length : Int) → f 22 = .int .i64 x32 → St w0 (ros) (row 3 (rI .i64) h8.v x73 :: row 3 (rI .i64) h9.v x74 :: box b7 56 [h8.v, h9.v] :: rs) w → (x73, x74) = o4 → Q60 (.exit 2) (fr 43 f) w := by
        intro x73 x74 f w eje4_0_5 eje4_0_20 eje4_0_21 eje4_0_22 hst ho
        subst ho
        refine qb60 _ _ _ ?_
        refine qb57 _ _ _ ?_
        refine k56 _ _ ?_
        refine wp_region_lit ?_
        refine Y wn rfl (yadd (et rfl eje4_0_22) rfl) ?_
        refine Y wn rfl (ym (v := .int .i64 (wa .i64 x32 1)) (et rfl rfl)) ?_
        refine wpList_nil ?_
        obtain rfl := someI hM3
        exact n3 _ _ _ rfl ⟨_, _, _, _, rfl, rfl, eje4_0_5, eje4_0_20, eje4_0_21, rfl, hst⟩
      refine loopQ (fun s a w => ∃ (x64 : List Int) (x65 : List Int) (x66 : Int) (f : Nat → Value), (x64, x65, x66) = s ∧ a = fr 43 f ∧ f 5 = .pointer (some ⟨b7, 0, none⟩) ∧ f 6 = .int .i64 x32 ∧ f 20 = h2.v ∧ f 21 = .int .i64 (x1.length : Int) ∧ f 22 = .int .i64 x32 ∧ f 27 = h60.v ∧ f 28 = .int .i64 (x59.length : Int) ∧ f 29 = .int .i64 x66 ∧ St w0 (imm (rI .i64) h60.v x59 :: ros) (row 3 (rI .i64) h8.v x64 :: row 3 (rI .i64) h9.v x65 :: box b7 56 [h8.v, h9.v] :: rs) w) go4 ⟨_, _, _, _, rfl, rfl, e3_5, rfl, e3_20, e3_21, e3_22, rfl, rfl, rfl, (hst.facts (allC mhF (allT (allT allI))))⟩ ?_
      clear hst
      rintro _ _ w r4_ ⟨x64, x65, x66, f, rfl, rfl, e4_5, e4_6, e4_20, e4_21, e4_22, e4_27, e4_28, e4_29, hst⟩ hM4 ho4 Q100004 n4 zz4
      refine seqQ fun Q71 k71 z71 => ?_
      refine wp_region_lit ?_
      refine Y wn rfl (ylss (et rfl e4_29) (et rfl e4_28)) ?_
      refine wpList_nil ?_
      refine k71 _ _ ?_
      refine seqQ fun Q72 k72 z72 => ?_
      rcases iteS hM4 with ⟨c75, hM4⟩ | ⟨c75, hM4⟩
      · refine condT (et rfl rfl) (decide_eq_true c75) ?_
        refine wp_skip ?_
        refine k72 _ _ ?_
        refine seqQ fun Q73 k73 z73 => ?_
        refine blockQ fun Q74 qb74 => ?_
        refine seqQ fun Q75 k75 z75 => ?_
        refine wp_region_lit ?_
        obtain ⟨x76, gx76, hM4⟩ := bs hM4
        refine Y wn rfl (yIa SL_22 (et rfl e4_27) (et rfl e4_29) hst (rdI mhF) gx76) ?_
        refine Y wn rfl (yI O_3 (et rfl rfl) hst (rdI mhF) gx76) ?_
        refine Y wn rfl (ya (v := .int .i64 x76) (et rfl rfl)) ?_
        refine wpList_nil ?_
        refine k75 _ _ ?_
        refine wp_region_lit ?_
        refine Y wn rfl (ym (v := .pointer (some ⟨b7, 0, none⟩)) (et rfl e4_5)) ?_
        refine Y wn rfl (ym (v := .int .i64 x76) (et rfl rfl)) ?_
        refine Y wn rfl (ym (v := .int .i64 x32) (et rfl e4_6)) ?_
        obtain ⟨r77, gr77, hM4⟩ := bs hM4
        replace hst := hst.pk 3 [2, 0, 0] rfl
        refine Yc wn rfl (yCall FN_18 (a3 (et rfl rfl) (et rfl rfl) (et rfl rfl))) (etree_forest_join_ok (hM := gr77) (hst := hst) ) ?_
        clear hst
        rintro _ w ⟨rfl, hst⟩
        refine ⟨_, rfl, ?_⟩
        refine wpList_nil ?_
        refine qb74 _ _ _ ?_
        refine k73 _ _ ?_
        refine wp_region_lit ?_
        refine Y wn rfl (yadd (et rfl e4_29) rfl) ?_
        refine Y wn rfl (ym (v := .int .i64 (wa .i64 x66 1)) (et rfl rfl)) ?_
        refine wpList_nil ?_
        obtain rfl := someI hM4
        exact n4 _ _ _ rfl ⟨_, _, _, _, rfl, rfl, e4_5, e4_6, e4_20, e4_21, e4_22, e4_27, e4_28, rfl, hst⟩
      · refine condF (et rfl rfl) (decide_eq_false c75) ?_
        refine wp_exit ?_
        refine z72 _ _ _ rfl ?_
        obtain rfl := someI hM4
        refine zz4 _ _ _ _ rfl rfl ?_
        exact je4_0 _ _ _ _ e4_5 e4_20 e4_21 e4_22 (hst.facts (allT allI)) (ho4 _ rfl)
    · refine condF (et rfl rfl) (decide_eq_false c58) ?_
      refine wp_exit ?_
      refine z55 _ _ _ rfl ?_
      obtain rfl := someI hM3
      refine zz3 _ _ _ _ rfl rfl ?_
      exact je3_0 _ _ _ _ e3_5 hst (ho3 _ rfl)
  · refine condT (et rfl rfl) (nT (decide_eq_false c5)) ?_
    refine seqQ fun Q76 k76 z76 => ?_
    refine wp_region_lit ?_
    refine Y wn rfl (ym (v := .int .i64 r4) (et rfl rfl)) ?_
    refine Y wn rfl (ya (v := hnil.v) rfl) ?_
    refine Y wn rfl (ya (v := .int .i64 r4) (et rfl rfl)) ?_
    refine wpList_nil ?_
    refine k76 _ _ ?_
    refine wp_ret ?_
    refine z3 _ _ _ rfl ?_
    obtain rfl := someI hM
    replace hst := hst.rowNh 3 (rI .i64)
    exact hQ _ _ _ (fin2r Tryd.results9 ⟨rfl, rfl⟩ ⟨rfl, rfl⟩ ⟨_, rfl, (hst.pk 2 [0] rfl)⟩)

theorem etree_Check_ok {w0 : World} {ros : List Fact} {rs : List Res} {w : World} {x1 : List Int} {h2 : Hdr} {out : Int} (hM : etree_Check x1 = some out) (q1 : imm (rI .i64) h2.v x1 ∈ ros) (hst : St w0 ros (rs) w) :
    Calls Tryd.prog 12 #[h2.v] w (fun e w => e = .returned (.int .i64 out) ∧ St w0 (ros) (rs) w) := by
  refine enterQ Tryd.func12 rfl Tryd.ntmps12 rfl fun Q hQ => ?_
  refine seqQ fun Q1 k1 z1 => ?_
  refine wp_region_lit ?_
  refine Y wn rfl (ya (v := .int .i64 0) rfl) ?_
  refine wpList_nil ?_
  refine k1 _ _ ?_
  refine seqQ fun Q2 k2 z2 => ?_
  refine seqQ fun Q3 k3 z3 => ?_
  refine wp_region_lit ?_
  refine Y wn rfl (ym (v := h2.v) (et rfl rfl)) ?_
  refine Y wn rfl (yLen SL_22 (et rfl rfl) hst (rdI q1)) ?_
  refine Y wn rfl (ygtr (et rfl rfl) rfl) ?_
  refine wpList_nil ?_
  refine k3 _ _ ?_
  rcases iteS hM with ⟨c3, hM⟩ | ⟨c3, hM⟩
  · refine condT (et rfl rfl) (decide_eq_true c3) ?_
    refine seqQ fun Q4 k4 z4 => ?_
    refine wp_region_lit ?_
    refine Y wn rfl (ya (v := .int .i64 6) rfl) ?_
    refine wpList_nil ?_
    refine k4 _ _ ?_
    refine wp_ret ?_
    refine z2 _ _ _ rfl ?_
    obtain rfl := someI hM
    exact hQ _ _ _ (fin1r Tryd.results12 ⟨rfl, rfl⟩ ⟨rfl, hst⟩)
  · refine condF (et rfl rfl) (decide_eq_false c3) ?_
    refine wp_skip ?_
    refine k2 _ _ ?_
    refine seqQ fun Q5 k5 z5 => ?_
    refine seqQ fun Q6 k6 z6 => ?_
    refine wp_region_lit ?_
    refine Y wn rfl (ym (v := h2.v) (et rfl rfl)) ?_
    refine Y wn rfl (yLen SL_22 (et rfl rfl) hst (rdI q1)) ?_
    refine Y wn rfl (ym (v := .int .i64 0) rfl) ?_
    refine wpList_nil ?_
    refine k6 _ _ ?_
    refine blockQ fun Q7 qb7 => ?_
    obtain ⟨o7, go7, hM⟩ := bs hM
    have je7_0 : ∀ (f : Nat → Value) (w : World), St w0 (ros) (rs) w → .inl () = o7 → Q7 (.exit 0) (fr 29 f) w := by
      intro f w hst ho
      subst ho
      refine qb7 _ _ _ ?_
      refine k5 _ _ ?_
      refine seqQ fun Q22 k22 z22 => ?_
      refine wp_region_lit ?_
      refine Y wn rfl (ya (v := .int .i64 0) rfl) ?_
      refine wpList_nil ?_
      refine k22 _ _ ?_
      refine wp_ret ?_
      obtain rfl := someI hM
      exact hQ _ _ _ (fin1r Tryd.results12 ⟨rfl, rfl⟩ ⟨rfl, hst⟩)
    have je7_1 : ∀ (f : Nat → Value) (w : World), f 2 = .int .i64 190 → St w0 (ros) (rs) w → .inr () = o7 → Q7 .ret (fr 29 f) w := by
      intro f w eje7_1_2 hst ho
      subst ho
      refine qb7 _ _ _ ?_
      refine z5 _ _ _ rfl ?_
      obtain rfl := someI hM
      exact hQ _ _ _ (fin1r Tryd.results12 ⟨rfl, eje7_1_2⟩ ⟨rfl, hst⟩)
    refine loopQ (fun s a w => ∃ (x13 : Int) (f : Nat → Value), x13 = s ∧ a = fr 29 f ∧ f 0 = h2.v ∧ f 8 = h2.v ∧ f 9 = .int .i64 (x1.length : Int) ∧ f 10 = .int .i64 x13 ∧ St w0 (ros) (rs) w) go7 ⟨_, _, rfl, rfl, rfl, rfl, rfl, rfl, hst⟩ ?_
    clear hst
    rintro _ _ w r7_ ⟨x13, f, rfl, rfl, e7_0, e7_8, e7_9, e7_10, hst⟩ hM7 ho7 Q100007 n7 zz7
    refine seqQ fun Q23 k23 z23 => ?_
    refine wp_region_lit ?_
    refine Y wn rfl (ylss (et rfl e7_10) (et rfl e7_9)) ?_
    refine wpList_nil ?_
    refine k23 _ _ ?_
    refine seqQ fun Q24 k24 z24 => ?_
    rcases iteS hM7 with ⟨c24, hM7⟩ | ⟨c24, hM7⟩
    · refine condT (et rfl rfl) (decide_eq_true c24) ?_
      refine wp_skip ?_
      refine k24 _ _ ?_
      refine seqQ fun Q25 k25 z25 => ?_
      refine blockQ fun Q26 qb26 => ?_
      refine seqQ fun Q27 k27 z27 => ?_
      refine wp_region_lit ?_
      refine Y wn rfl (ym (v := .int .i64 x13) (et rfl e7_10)) ?_
      obtain ⟨x25, gx25, hM7⟩ := bs hM7
      refine Y wn rfl (yIa SL_22 (et rfl e7_8) (et rfl e7_10) hst (rdI q1) gx25) ?_
      refine Y wn rfl (yI O_3 (et rfl rfl) hst (rdI q1) gx25) ?_
      refine Y wn rfl (ya (v := .int .i64 x13) (et rfl rfl)) ?_
      refine Y wn rfl (ya (v := .int .i64 x25) (et rfl rfl)) ?_
      refine wpList_nil ?_
      refine k27 _ _ ?_
      refine seqQ fun Q28 k28 z28 => ?_
      refine wp_region_lit ?_
      refine Y wn rfl (ym (v := .int .i64 x25) (et rfl rfl)) ?_
      refine Y wn rfl (yneq (et rfl rfl) rfl) ?_
      refine Y wn rfl (ym (v := .bool (!(decide (x25 = (-1))))) (et rfl rfl)) ?_
      refine joinW 10 (fun f w => f 0 = h2.v ∧ f 8 = h2.v ∧ f 9 = .int .i64 (x1.length : Int) ∧ f 10 = .int .i64 x13 ∧ f 27 = .bool ((!(decide (x25 = (-1)))) && ((decide (x25 ≤ x13)) || (decide ((x1.length : Int) ≤ x25)))) ∧ St w0 (ros) (rs) w) (fun j9 => ?_) ?_
      · rcases Bool.eq_false_or_eq_true (!(decide (x25 = (-1)))) with c29 | c29
        · refine Y (wg rfl rfl rfl c29) rfl (ym (v := .int .i64 x25) (et rfl rfl)) ?_
          refine Y (wg rfl rfl rfl c29) rfl (ym (v := .int .i64 x13) (et rfl rfl)) ?_
          refine Y (wg rfl rfl rfl c29) rfl (yleq (et rfl rfl) (et rfl rfl)) ?_
          refine Y (wg rfl rfl rfl c29) rfl (ym (v := .bool (decide (x25 ≤ x13))) (et rfl rfl)) ?_
          refine joinW 5 (fun f w => f 0 = h2.v ∧ f 8 = h2.v ∧ f 9 = .int .i64 (x1.length : Int) ∧ f 10 = .int .i64 x13 ∧ f 17 = .bool (!(decide (x25 = (-1)))) ∧ f 18 = .int .i64 x25 ∧ f 19 = .int .i64 x13 ∧ f 20 = .bool (decide (x25 ≤ x13)) ∧ f 21 = .bool (decide (x25 ≤ x13)) ∧ f 26 = .bool ((decide (x25 ≤ x13)) || (decide ((x1.length : Int) ≤ x25))) ∧ St w0 (ros) (rs) w) (fun j10 => ?_) ?_
          · rcases Bool.eq_false_or_eq_true (decide (x25 ≤ x13)) with c31 | c31
            · refine Gn (wx rfl rfl rfl c31) rfl ?_
              refine Gn (wx rfl rfl rfl c31) rfl ?_
              refine Gn (wx rfl rfl rfl c31) rfl ?_
              refine Gn (wx rfl rfl rfl c31) rfl ?_
              refine Y (wg rfl rfl rfl c29) rfl (ypt (v := .bool true) (et rfl rfl) c31 rfl) ?_
              exact j10 _ _ ⟨e7_0, e7_8, e7_9, e7_10, rfl, rfl, rfl, rfl, rfl, (congrArg Value.bool (orT c31)), hst⟩
            · refine Y (wg rfl rfl rfl c31) rfl (ym (v := .int .i64 x25) (et rfl rfl)) ?_
              refine Y (wg rfl rfl rfl c31) rfl (ym (v := h2.v) (et rfl e7_0)) ?_
              refine Y (wg rfl rfl rfl c31) rfl (yLen SL_22 (et rfl rfl) hst (rdI q1)) ?_
              refine Y (wg rfl rfl rfl c31) rfl (ygeq (et rfl rfl) (et rfl rfl)) ?_
              refine Y (wg rfl rfl rfl c29) rfl (ypf (v := .bool (decide ((x1.length : Int) ≤ x25))) (et rfl rfl) c31 (et rfl rfl)) ?_
              exact j10 _ _ ⟨e7_0, e7_8, e7_9, e7_10, rfl, rfl, rfl, rfl, rfl, (congrArg Value.bool (orF c31)), hst⟩
          clear hst
          rintro f w ⟨e30_0, e30_8, e30_9, e30_10, e30_17, e30_18, e30_19, e30_20, e30_21, e30_26, hst⟩
          refine Y wn rfl (ypt (v := .bool ((decide (x25 ≤ x13)) || (decide ((x1.length : Int) ≤ x25)))) (et rfl e30_17) c29 (et rfl e30_26)) ?_
          exact j9 _ _ ⟨e30_0, e30_8, e30_9, e30_10, (congrArg Value.bool (andT c29)), hst⟩
        · refine Gn (wx rfl rfl rfl c29) rfl ?_
          refine Gn (wx rfl rfl rfl c29) rfl ?_
          refine Gn (wx rfl rfl rfl c29) rfl ?_
          refine Gn (wx rfl rfl rfl c29) rfl ?_
          refine Gn (wxu rfl rfl rfl) rfl ?_
          refine Gn (wxu rfl rfl rfl) rfl ?_
          refine Gn (wxu rfl rfl rfl) rfl ?_
          refine Gn (wxu rfl rfl rfl) rfl ?_
          refine Gn (wx rfl rfl rfl c29) rfl ?_
          refine Y wn rfl (ypf (v := .bool false) (et rfl rfl) c29 rfl) ?_
          exact j9 _ _ ⟨e7_0, e7_8, e7_9, e7_10, (congrArg Value.bool (andF c29)), hst⟩
      clear hst
      rintro f w ⟨e28_0, e28_8, e28_9, e28_10, e28_27, hst⟩
      refine wpList_nil ?_
      refine k28 _ _ ?_
      rcases iteS hM7 with ⟨c32, hM7⟩ | ⟨c32, hM7⟩
      · refine condT (et rfl e28_27) c32 ?_
        refine seqQ fun Q29 k29 z29 => ?_
        refine wp_region_lit ?_
        refine Y wn rfl (ya (v := .int .i64 190) rfl) ?_
        refine wpList_nil ?_
        refine k29 _ _ ?_
        refine wp_ret ?_
        refine qb26 _ _ _ ?_
        refine z25 _ _ _ rfl ?_
        obtain rfl := someI hM7
        refine zz7 _ _ _ _ rfl rfl ?_
        exact je7_1 _ _ rfl hst (ho7 _ rfl)
      · refine condF (et rfl e28_27) (bfalse c32) ?_
        refine wp_skip ?_
        refine qb26 _ _ _ ?_
        refine k25 _ _ ?_
        refine wp_region_lit ?_
        refine Y wn rfl (yadd (et rfl e28_10) rfl) ?_
        refine Y wn rfl (ym (v := .int .i64 (wa .i64 x13 1)) (et rfl rfl)) ?_
        refine wpList_nil ?_
        obtain rfl := someI hM7
        exact n7 _ _ _ rfl ⟨_, _, rfl, rfl, e28_0, e28_8, e28_9, rfl, hst⟩
    · refine condF (et rfl rfl) (decide_eq_false c24) ?_
      refine wp_exit ?_
      refine z24 _ _ _ rfl ?_
      obtain rfl := someI hM7
      refine zz7 _ _ _ _ rfl rfl ?_
      exact je7_0 _ _ hst (ho7 _ rfl)

theorem etree_Children_ok {w0 : World} {ros : List Fact} {rs : List Res} {w : World} {x1 : List Int} {h2 : Hdr} {out : (List (List Int)) × (List Int)} (hM : etree_Children x1 = some out) (q1 : imm (rI .i64) h2.v x1 ∈ ros) (hst : St w0 ros (rs) w) :
    Calls Tryd.prog 23 #[h2.v] w (fun e w => ∃ (h100001 : Hdr) (y100002 : List Hdr) (h100004 : Hdr), e = .returned (.tuple #[h100001.v, h100004.v]) ∧ St w0 (ros) (row 22 rH h100001.v y100002 :: fam 3 (rI .i64) y100002 out.1 :: row 3 (rI .i64) h100004.v out.2 :: rs) w) := by
  refine enterQ Tryd.func23 rfl Tryd.ntmps23 rfl fun Q hQ => ?_
  refine seqQ fun Q1 k1 z1 => ?_
  refine wp_region_lit ?_
  refine Y wn rfl (ya (v := hnil.v) rfl) ?_
  refine Y wn rfl (ya (v := hnil.v) rfl) ?_
  refine wpList_nil ?_
  refine k1 _ _ ?_
  refine seqQ fun Q2 k2 z2 => ?_
  refine wp_region_lit ?_
  refine Y wn rfl (ym (v := h2.v) (et rfl rfl)) ?_
  refine Y wn rfl (yLen SL_22 (et rfl rfl) hst (rdI q1)) ?_
  obtain ⟨x5, gx5, hM⟩ := bs hM
  obtain ⟨m4, em4, gm4⟩ := mkL_rep gx5 hnil
  refine YH wn rfl (rMk hst SLH_32 (et rfl rfl) gm4) ?_
  clear hst
  intro h3 w hst
  replace hst := (hst.fReps 3 (rI .i64) m4).pk 2 [1, 0] rfl
  rw [← em4] at hst
  refine Y wn rfl (ya (v := h3.v) (et rfl rfl)) ?_
  refine wpList_nil ?_
  refine k2 _ _ ?_
  refine seqQ fun Q3 k3 z3 => ?_
  refine seqQ fun Q4 k4 z4 => ?_
  refine wp_region_lit ?_
  refine Y wn rfl (ym (v := h2.v) (et rfl rfl)) ?_
  refine Y wn rfl (yLen SL_22 (et rfl rfl) hst (rdI q1)) ?_
  refine Y wn rfl (ym (v := .int .i64 0) rfl) ?_
  refine wpList_nil ?_
  refine k4 _ _ ?_
  refine blockQ fun Q5 qb5 => ?_
  obtain ⟨o3, go3, hM⟩ := bs hM
  have je3_0 : ∀ (x99 : List (List Int)) (x101 : List Int) (y98 : List Hdr) (h100 : Hdr) (f : Nat → Value) (w : World), f 2 = h3.v → f 3 = h100.v → St w0 (ros) (row 22 rH h3.v y98 :: fam 3 (rI .i64) y98 x99 :: row 3 (rI .i64) h100.v x101 :: rs) w → (x99, x101) = o3 → Q5 (.exit 0) (fr 35 f) w := by
    intro x99 x101 y98 h100 f w eje3_0_2 eje3_0_3 hst ho
    subst ho
    refine qb5 _ _ _ ?_
    refine k3 _ _ ?_
    refine seqQ fun Q42 k42 z42 => ?_
    refine wp_region_lit ?_
    refine Y wn rfl (ym (v := h3.v) (et rfl eje3_0_2)) ?_
    refine Y wn rfl (ym (v := h100.v) (et rfl eje3_0_3)) ?_
    refine Y wn rfl (ya (v := h3.v) (et rfl rfl)) ?_
    refine Y wn rfl (ya (v := h100.v) (et rfl rfl)) ?_
    refine wpList_nil ?_
    refine k42 _ _ ?_
    refine wp_ret ?_
    obtain rfl := someI hM
    exact hQ _ _ _ (fin2r Tryd.results23 ⟨rfl, rfl⟩ ⟨rfl, rfl⟩ ⟨_, _, _, rfl, hst⟩)
  replace hst := hst.rowNh 3 (rI .i64)
  refine loopQ (fun s a w => ∃ (x48 : List (List Int)) (x50 : List Int) (x51 : Int) (f : Nat → Value) (y47 : List Hdr) (h49 : Hdr), (x48, x50, x51) = s ∧ a = fr 35 f ∧ f 2 = h3.v ∧ f 3 = h49.v ∧ f 9 = h2.v ∧ f 10 = .int .i64 (x1.length : Int) ∧ f 11 = .int .i64 x51 ∧ St w0 (ros) (row 22 rH h3.v y47 :: fam 3 (rI .i64) y47 x48 :: row 3 (rI .i64) h49.v x50 :: rs) w) go3 ⟨_, _, _, _, _, _, rfl, rfl, rfl, rfl, rfl, rfl, rfl, (hst.pk 3 [1, 1, 0] rfl)⟩ ?_
  clear hst
  rintro _ _ w r3_ ⟨x48, x50, x51, f, y47, h49, rfl, rfl, e3_2, e3_3, e3_9, e3_10, e3_11, hst⟩ hM3 ho3 Q100003 n3 zz3
  refine seqQ fun Q43 k43 z43 => ?_
  refine wp_region_lit ?_
  refine Y wn rfl (ylss (et rfl e3_11) (et rfl e3_10)) ?_
  refine wpList_nil ?_
  refine k43 _ _ ?_
  refine seqQ fun Q44 k44 z44 => ?_
  rcases iteS hM3 with ⟨c102, hM3⟩ | ⟨c102, hM3⟩
  · refine condT (et rfl rfl) (decide_eq_true c102) ?_
    refine wp_skip ?_
    refine k44 _ _ ?_
    refine seqQ fun Q45 k45 z45 => ?_
    have j4 : ∀ (x128 : List (List Int)) (x130 : List Int) (y127 : List Hdr) (h129 : Hdr) (f : Nat → Value) (w : World), f 2 = h3.v → f 3 = h129.v → f 9 = h2.v → f 10 = .int .i64 (x1.length : Int) → f 11 = .int .i64 x51 → St w0 (ros) (row 22 rH h3.v y127 :: fam 3 (rI .i64) y127 x128 :: row 3 (rI .i64) h129.v x130 :: rs) w → etree_Children_j4 x51 x128 x130 = some r3_ → Q45 .normal (fr 35 f) w := by
      intro x128 x130 y127 h129 f w ej4_2 ej4_3 ej4_9 ej4_10 ej4_11 hst hM
      refine k45 _ _ ?_
      refine wp_region_lit ?_
      refine Y wn rfl (yadd (et rfl ej4_11) rfl) ?_
      refine Y wn rfl (ym (v := .int .i64 (wa .i64 x51 1)) (et rfl rfl)) ?_
      refine wpList_nil ?_
      obtain rfl := someI hM
      exact n3 _ _ _ rfl ⟨_, _, _, _, _, _, rfl, rfl, ej4_2, ej4_3, ej4_9, ej4_10, rfl, hst⟩
    refine blockQ fun Q56 qb56 => ?_
    refine seqQ fun Q57 k57 z57 => ?_
    refine wp_region_lit ?_
    refine Y wn rfl (ym (v := .int .i64 x51) (et rfl e3_11)) ?_
    obtain ⟨x131, gx131, hM3⟩ := bs hM3
    refine Y wn rfl (yIa SL_22 (et rfl e3_9) (et rfl e3_11) hst (rdI q1) gx131) ?_
    refine Y wn rfl (yI O_3 (et rfl rfl) hst (rdI q1) gx131) ?_
    refine Y wn rfl (ya (v := .int .i64 x51) (et rfl rfl)) ?_
    refine Y wn rfl (ya (v := .int .i64 x131) (et rfl rfl)) ?_
    refine wpList_nil ?_
    refine k57 _ _ ?_
    refine seqQ fun Q58 k58 z58 => ?_
    refine seqQ fun Q59 k59 z59 => ?_
    refine wp_region_lit ?_
    refine Y wn rfl (ym (v := .int .i64 x131) (et rfl rfl)) ?_
    refine Y wn rfl (yeql (et rfl rfl) rfl) ?_
    refine wpList_nil ?_
    refine k59 _ _ ?_
    rcases iteS hM3 with ⟨c132, hM3⟩ | ⟨c132, hM3⟩
    · refine condT (et rfl rfl) (decide_eq_true c132) ?_
      refine seqQ fun Q60 k60 z60 => ?_
      refine wp_region_lit ?_
      refine Y wn rfl (ym (v := h49.v) (et rfl e3_3)) ?_
      refine Y wn rfl (ym (v := .int .i64 x51) (et rfl rfl)) ?_
      refine YH wn rfl (rLt (n := 1) (l := [x51]) hst SL_22 [.int .i64 x51] (bp1 (et rfl rfl)) rfl rfl (mks1 (cs := [.int .i64 x51]) rfl mkI mks0)) ?_
      clear hst
      intro h133 w hst
      obtain ⟨x135, gx135, hM3⟩ := bs hM3
      replace hst := hst.pk 4 [3, 0, 0, 0] rfl
      refine YH wn rfl (rAp hst SL_22 (et rfl rfl) (et rfl rfl) (rdO (mtR mhR)) gx135) ?_
      clear hst
      intro h134 w hst
      refine Y wn rfl (ya (v := h134.v) (et rfl rfl)) ?_
      refine wpList_nil ?_
      refine k60 _ _ ?_
      refine wp_exit ?_
      refine z58 _ _ _ rfl ?_
      refine qb56 _ _ _ ?_
      exact j4 _ _ _ _ _ _ e3_2 rfl e3_9 e3_10 e3_11 (hst.pk 4 [2, 2, 0] rfl) hM3
    · refine condF (et rfl rfl) (decide_eq_false c132) ?_
      refine wp_skip ?_
      refine k58 _ _ ?_
      refine wp_region_lit ?_
      refine Y wn rfl (ym (v := h3.v) (et rfl e3_2)) ?_
      refine Y wn rfl (ym (v := .int .i64 x131) (et rfl rfl)) ?_
      refine Y wn rfl (ym (v := h3.v) (et rfl e3_2)) ?_
      refine Y wn rfl (ym (v := .int .i64 x131) (et rfl rfl)) ?_
      obtain ⟨x136, gx136, hM3⟩ := bs hM3
      obtain ⟨h137, gh137⟩ := hst.famI (mtR mhR) gx136
      refine Y wn rfl (yIa SLH_32 (et rfl rfl) (et rfl rfl) hst (rdO mhR) gh137) ?_
      refine Y wn rfl (yF1 O_22 (et rfl rfl) hst (rdO mhR) gh137 rfl) ?_
      refine Y wn rfl (ym (v := .int .i64 x51) (et rfl rfl)) ?_
      refine YH wn rfl (rLt (n := 1) (l := [x51]) hst SL_22 [.int .i64 x51] (bp1 (et rfl rfl)) rfl rfl (mks1 (cs := [.int .i64 x51]) rfl mkI mks0)) ?_
      clear hst
      intro h138 w hst
      obtain ⟨x140, gx140, hM3⟩ := bs hM3
      replace hst := hst.pk 3 [2, 0, 0] rfl
      replace hst := hst.foc gh137 gx136
      refine YH wn rfl (rAp hst SL_22 (et rfl rfl) (et rfl rfl) (rdO (mtR (mtR mhR))) gx140) ?_
      clear hst
      intro h139 w hst
      obtain ⟨x141, gx141, hM3⟩ := bs hM3
      obtain ⟨y142, gy142⟩ := setI_len (u := h139) gx141 (hst.famLx (mtR mhR))
      refine Y wn rfl (yIs SLH_32 (et rfl rfl) (et rfl rfl) hst (rdO (mtR (mtR (mtR mhR)))) gy142) ?_
      replace hst := hst.pk 4 [3, 0, 0, 0] rfl
      refine YT wn rfl (r_sti (cs := [h139.v]) hst O_22 rfl (et rfl rfl) (et rfl rfl) rfl (mkF rfl) gy142) ?_
      clear hst
      intro w hst
      replace hst := hst.pk 3 [1, 1, 0] rfl
      replace hst := hst.unfS gh137 gy142 gx141
      refine wpList_nil ?_
      refine qb56 _ _ _ ?_
      exact j4 _ _ _ _ _ _ e3_2 e3_3 e3_9 e3_10 e3_11 (hst.pk 4 [1, 0, 1] rfl) hM3
  · refine condF (et rfl rfl) (decide_eq_false c102) ?_
    refine wp_exit ?_
    refine z44 _ _ _ rfl ?_
    obtain rfl := someI hM3
    refine zz3 _ _ _ _ rfl rfl ?_
    exact je3_0 _ _ _ _ _ _ e3_2 e3_3 hst (ho3 _ rfl)

theorem etree_Postorder_1_step {rec : Int → (List (List Int)) → (List Int) → Option ((List Int))} (hrec : ∀ {w0 : World} {ros : List Fact} {rs : List Res} {w : World} {x1 : Int} {x3 : List (List Int)} {x7 : List Int} {b2 : Nat} {h4 : Hdr} {b5 : Nat} {b6 : Nat} {h8 : Hdr} {out : (List Int)} (hM : rec x1 x3 x7 = some out) (q1 : imm (rS (rI .i64)) h4.v x3 ∈ ros) (hst : St w0 ros (box b2 32 [h4.v] :: box b5 64 [.func (.func 24) #[] #[.pointer (some ⟨b2, 0, none⟩), .pointer (some ⟨b5, 0, none⟩), .pointer (some ⟨b6, 0, none⟩)]] :: box b6 22 [h8.v] :: row 3 (rI .i64) h8.v x7 :: rs) w), Calls Tryd.prog 24 #[.int .i64 x1, .pointer (some ⟨b2, 0, none⟩), .pointer (some ⟨b5, 0, none⟩), .pointer (some ⟨b6, 0, none⟩)] w (fun e w => ∃ (h100001 : Hdr), e = .returned (.tuple #[]) ∧ St w0 (ros) (box b2 32 [h4.v] :: row 3 (rI .i64) h100001.v out :: box b6 22 [h100001.v] :: box b5 64 [.func (.func 24) #[] #[.pointer (some ⟨b2, 0, none⟩), .pointer (some ⟨b5, 0, none⟩), .pointer (some ⟨b6, 0, none⟩)]] :: rs) w)) {w0 : World} {ros : List Fact} {rs : List Res} {w : World} {x1 : Int} {x3 : List (List Int)} {x7 : List Int} {b2 : Nat} {h4 : Hdr} {b5 : Nat} {b6 : Nat} {h8 : Hdr} {out : (List Int)} (hM : etree_Postorder_1_body rec x1 x3 x7 = some out) (q1 : imm (rS (rI .i64)) h4.v x3 ∈ ros) (hst : St w0 ros (box b2 32 [h4.v] :: box b5 64 [.func (.func 24) #[] #[.pointer (some ⟨b2, 0, none⟩), .pointer (some ⟨b5, 0, none⟩), .pointer (some ⟨b6, 0, none⟩)]] :: box b6 22 [h8.v] :: row 3 (rI .i64) h8.v x7 :: rs) w) :
    Calls Tryd.prog 24 #[.int .i64 x1, .pointer (some ⟨b2, 0, none⟩), .pointer (some ⟨b5, 0, none⟩), .pointer (some ⟨b6, 0, none⟩)] w (fun e w => ∃ (h100001 : Hdr), e = .returned (.tuple #[]) ∧ St w0 (ros) (box b2 32 [h4.v] :: row 3 (rI .i64) h100001.v out :: box b6 22 [h100001.v] :: box b5 64 [.func (.func 24) #[] #[.pointer (some ⟨b2, 0, none⟩), .pointer (some ⟨b5, 0, none⟩), .pointer (some ⟨b6, 0, none⟩)]] :: rs) w) := by
  refine enterQ Tryd.func24 rfl Tryd.ntmps24 rfl fun Q hQ => ?_
  refine seqQ fun Q1 k1 z1 => ?_
  refine seqQ fun Q2 k2 z2 => ?_
  refine wp_region_lit ?_
  refine Y wn rfl (yLb (u := h4.v) O_32 (et rfl rfl) hst mhR rfl) ?_
  refine Y wn rfl (ym (v := .int .i64 x1) (et rfl rfl)) ?_
  obtain ⟨x9, gx9, hM⟩ := bs hM
  refine Y wn rfl (yIa SL_32 (et rfl rfl) (et rfl rfl) hst (rdI q1) gx9) ?_
  obtain ⟨h10, hst⟩ := iLs hst q1 gx9
  refine Y wn rfl (yCt O_22 (et rfl rfl) hst (mtF mhF) rfl) ?_
  refine Y wn rfl (yLen SL_22 (et rfl rfl) hst (rdI mhF)) ?_
  refine Y wn rfl (ym (v := .int .i64 0) rfl) ?_
  refine wpList_nil ?_
  refine k2 _ _ ?_
  refine blockQ fun Q3 qb3 => ?_
  obtain ⟨o1, go1, hM⟩ := bs hM
  have je1_0 : ∀ (x26 : List Int) (h25 : Hdr) (f : Nat → Value) (w : World), f 0 = .int .i64 x1 → f 3 = .pointer (some ⟨b6, 0, none⟩) → St w0 (ros) (box b2 32 [h4.v] :: row 3 (rI .i64) h25.v x26 :: box b6 22 [h25.v] :: box b5 64 [.func (.func 24) #[] #[.pointer (some ⟨b2, 0, none⟩), .pointer (some ⟨b5, 0, none⟩), .pointer (some ⟨b6, 0, none⟩)]] :: rs) w → x26 = o1 → Q3 (.exit 0) (fr 24 f) w := by
    intro x26 h25 f w eje1_0_0 eje1_0_3 hst ho
    subst ho
    refine qb3 _ _ _ ?_
    refine k1 _ _ ?_
    refine wp_region_lit ?_
    refine Y wn rfl (yLb (u := h25.v) O_22 (et rfl eje1_0_3) hst (mtR (mtR mhR)) rfl) ?_
    refine Y wn rfl (ym (v := .int .i64 x1) (et rfl eje1_0_0)) ?_
    refine YH wn rfl (rLt (n := 1) (l := [x1]) hst SL_22 [.int .i64 x1] (bp1 (et rfl rfl)) rfl rfl (mks1 (cs := [.int .i64 x1]) rfl mkI mks0)) ?_
    clear hst
    intro h27 w hst
    obtain ⟨x29, gx29, hM⟩ := bs hM
    replace hst := hst.pk 3 [2, 0, 0] rfl
    refine YH wn rfl (rAp hst SL_22 (et rfl rfl) (et rfl rfl) (rdO (mtR mhR)) gx29) ?_
    clear hst
    intro h28 w hst
    replace hst := hst.pk 4 [3, 0, 0, 0] rfl
    refine YT wn rfl (r_stb1 (vals' := [h28.v]) hst O_22 (et rfl eje1_0_3) (et rfl rfl) rfl rfl rfl rfl) ?_
    clear hst
    intro w hst
    refine wpList_nil ?_
    obtain rfl := someI hM
    exact hQ _ _ _ (fin0n Tryd.results24 ⟨_, rfl, (hst.pk 5 [3, 1, 0, 1] rfl)⟩)
  refine loopQ (fun s a w => ∃ (x16 : List Int) (x17 : Int) (f : Nat → Value) (h15 : Hdr), (x16, x17) = s ∧ a = fr 24 f ∧ f 0 = .int .i64 x1 ∧ f 2 = .pointer (some ⟨b5, 0, none⟩) ∧ f 3 = .pointer (some ⟨b6, 0, none⟩) ∧ f 10 = h10.v ∧ f 11 = .int .i64 (x9.length : Int) ∧ f 12 = .int .i64 x17 ∧ St w0 (imm (rI .i64) h10.v x9 :: ros) (box b2 32 [h4.v] :: row 3 (rI .i64) h15.v x16 :: box b6 22 [h15.v] :: box b5 64 [.func (.func 24) #[] #[.pointer (some ⟨b2, 0, none⟩), .pointer (some ⟨b5, 0, none⟩), .pointer (some ⟨b6, 0, none⟩)]] :: rs) w) go1 ⟨_, _, _, _, rfl, rfl, rfl, rfl, rfl, rfl, rfl, rfl, ((hst.pk 4 [0, 2, 1, 0] rfl).facts (allC mhF (allT (allT allI))))⟩ ?_
  clear hst
  rintro _ _ w r1_ ⟨x16, x17, f, h15, rfl, rfl, e1_0, e1_2, e1_3, e1_10, e1_11, e1_12, hst⟩ hM1 ho1 Q100001 n1 zz1
  refine seqQ fun Q14 k14 z14 => ?_
  refine wp_region_lit ?_
  refine Y wn rfl (ylss (et rfl e1_12) (et rfl e1_11)) ?_
  refine wpList_nil ?_
  refine k14 _ _ ?_
  refine seqQ fun Q15 k15 z15 => ?_
  rcases iteS hM1 with ⟨c30, hM1⟩ | ⟨c30, hM1⟩
  · refine condT (et rfl rfl) (decide_eq_true c30) ?_
    refine wp_skip ?_
    refine k15 _ _ ?_
    refine seqQ fun Q16 k16 z16 => ?_
    refine blockQ fun Q17 qb17 => ?_
    refine seqQ fun Q18 k18 z18 => ?_
    refine wp_region_lit ?_
    obtain ⟨x31, gx31, hM1⟩ := bs hM1
    refine Y wn rfl (yIa SL_22 (et rfl e1_10) (et rfl e1_12) hst (rdI mhF) gx31) ?_
    refine Y wn rfl (yI O_3 (et rfl rfl) hst (rdI mhF) gx31) ?_
    refine Y wn rfl (ya (v := .int .i64 x31) (et rfl rfl)) ?_
    refine wpList_nil ?_
    refine k18 _ _ ?_
    refine wp_region_lit ?_
    refine Y wn rfl (yLb (u := .func (.func 24) #[] #[.pointer (some ⟨b2, 0, none⟩), .pointer (some ⟨b5, 0, none⟩), .pointer (some ⟨b6, 0, none⟩)]) O_64 (et rfl e1_2) hst (mtR (mtR (mtR mhR))) rfl) ?_
    refine Y wn rfl (ym (v := .int .i64 x31) (et rfl rfl)) ?_
    obtain ⟨r32, gr32, hM1⟩ := bs hM1
    replace hst := hst.pk 4 [0, 2, 1, 0] rfl
    refine Yc wn rfl (yCallw FN_24 (et rfl rfl) (a1 (et rfl rfl))) (hrec (hM := gr32) (hst := hst) (q1 := (mtF q1))) ?_
    clear hst
    rintro _ w ⟨h33, rfl, hst⟩
    refine ⟨_, rfl, ?_⟩
    refine wpList_nil ?_
    refine qb17 _ _ _ ?_
    refine k16 _ _ ?_
    refine wp_region_lit ?_
    refine Y wn rfl (yadd (et rfl e1_12) rfl) ?_
    refine Y wn rfl (ym (v := .int .i64 (wa .i64 x17 1)) (et rfl rfl)) ?_
    refine wpList_nil ?_
    obtain rfl := someI hM1
    exact n1 _ _ _ rfl ⟨_, _, _, _, rfl, rfl, e1_0, e1_2, e1_3, e1_10, e1_11, rfl, hst⟩
  · refine condF (et rfl rfl) (decide_eq_false c30) ?_
    refine wp_exit ?_
    refine z15 _ _ _ rfl ?_
    obtain rfl := someI hM1
    refine zz1 _ _ _ _ rfl rfl ?_
    exact je1_0 _ _ _ _ e1_0 e1_3 (hst.facts (allT allI)) (ho1 _ rfl)
theorem etree_Postorder_1_ok_n (n : Nat) : ∀ {w0 : World} {ros : List Fact} {rs : List Res} {w : World} {x1 : Int} {x3 : List (List Int)} {x7 : List Int} {b2 : Nat} {h4 : Hdr} {b5 : Nat} {b6 : Nat} {h8 : Hdr} {out : (List Int)} (hM : etree_Postorder_1 n x1 x3 x7 = some out) (q1 : imm (rS (rI .i64)) h4.v x3 ∈ ros) (hst : St w0 ros (box b2 32 [h4.v] :: box b5 64 [.func (.func 24) #[] #[.pointer (some ⟨b2, 0, none⟩), .pointer (some ⟨b5, 0, none⟩), .pointer (some ⟨b6, 0, none⟩)]] :: box b6 22 [h8.v] :: row 3 (rI .i64) h8.v x7 :: rs) w),
    Calls Tryd.prog 24 #[.int .i64 x1, .pointer (some ⟨b2, 0, none⟩), .pointer (some ⟨b5, 0, none⟩), .pointer (some ⟨b6, 0, none⟩)] w (fun e w => ∃ (h100001 : Hdr), e = .returned (.tuple #[]) ∧ St w0 (ros) (box b2 32 [h4.v] :: row 3 (rI .i64) h100001.v out :: box b6 22 [h100001.v] :: box b5 64 [.func (.func 24) #[] #[.pointer (some ⟨b2, 0, none⟩), .pointer (some ⟨b5, 0, none⟩), .pointer (some ⟨b6, 0, none⟩)]] :: rs) w) := by
  induction n with
  | zero => intro _ _ _ _ _ _ _ _ _ _ _ _ out hM; cases hM
  | succ n ih => exact fun hM q1 hst => etree_Postorder_1_step (rec := etree_Postorder_1 n) ih (hM := hM) (q1 := q1) (hst := hst)
theorem etree_Postorder_1_ok {w0 : World} {ros : List Fact} {rs : List Res} {w : World} {x1 : Int} {x3 : List (List Int)} {x7 : List Int} {b2 : Nat} {h4 : Hdr} {b5 : Nat} {b6 : Nat} {h8 : Hdr} {out : (List Int)} (hM : etree_Postorder_1 FUEL x1 x3 x7 = some out) (q1 : imm (rS (rI .i64)) h4.v x3 ∈ ros) (hst : St w0 ros (box b2 32 [h4.v] :: box b5 64 [.func (.func 24) #[] #[.pointer (some ⟨b2, 0, none⟩), .pointer (some ⟨b5, 0, none⟩), .pointer (some ⟨b6, 0, none⟩)]] :: box b6 22 [h8.v] :: row 3 (rI .i64) h8.v x7 :: rs) w) :
    Calls Tryd.prog 24 #[.int .i64 x1, .pointer (some ⟨b2, 0, none⟩), .pointer (some ⟨b5, 0, none⟩), .pointer (some ⟨b6, 0, none⟩)] w (fun e w => ∃ (h100001 : Hdr), e = .returned (.tuple #[]) ∧ St w0 (ros) (box b2 32 [h4.v] :: row 3 (rI .i64) h100001.v out :: box b6 22 [h100001.v] :: box b5 64 [.func (.func 24) #[] #[.pointer (some ⟨b2, 0, none⟩), .pointer (some ⟨b5, 0, none⟩), .pointer (some ⟨b6, 0, none⟩)]] :: rs) w) := etree_Postorder_1_ok_n FUEL (hM := hM) (q1 := q1) (hst := hst)

theorem etree_Postorder_ok {w0 : World} {ros : List Fact} {rs : List Res} {w : World} {x1 : List Int} {h2 : Hdr} {out : (List Int) × Int} (hM : etree_Postorder x1 = some out) (q1 : imm (rI .i64) h2.v x1 ∈ ros) (hst : St w0 ros (rs) w) :
    Calls Tryd.prog 11 #[h2.v] w (fun e w => ∃ (h100001 : Hdr), e = .returned (.tuple #[h100001.v, .int .i64 out.2]) ∧ St w0 (ros) (row 3 (rI .i64) h100001.v out.1 :: rs) w) := by
  refine enterQ Tryd.func11 rfl Tryd.ntmps11 rfl fun Q hQ => ?_
  refine seqQ fun Q1 k1 z1 => ?_
  refine wp_region_lit ?_
  refine Y wn rfl (ya (v := hnil.v) rfl) ?_
  refine Y wn rfl (ya (v := .int .i64 0) rfl) ?_
  refine wpList_nil ?_
  refine k1 _ _ ?_
  refine seqQ fun Q2 k2 z2 => ?_
  refine wp_region_lit ?_
  refine Y wn rfl (ym (v := h2.v) (et rfl rfl)) ?_
  obtain ⟨r3, gr3, hM⟩ := bs hM
  refine Yc wn rfl (yCall FN_12 (a1 (et rfl rfl))) (etree_Check_ok (hM := gr3) (hst := hst) (q1 := q1)) ?_
  clear hst
  rintro _ w ⟨rfl, hst⟩
  refine ⟨_, rfl, ?_⟩
  refine Y wn rfl (ya (v := .int .i64 r3) (et rfl rfl)) ?_
  refine wpList_nil ?_
  refine k2 _ _ ?_
  refine seqQ fun Q3 k3 z3 => ?_
  refine seqQ fun Q4 k4 z4 => ?_
  refine wp_region_lit ?_
  refine Y wn rfl (ym (v := .int .i64 r3) (et rfl rfl)) ?_
  refine Y wn rfl (yneq (et rfl rfl) rfl) ?_
  refine wpList_nil ?_
  refine k4 _ _ ?_
  rcases iteS hM with ⟨c4, hM⟩ | ⟨c4, hM⟩
  · refine condF (et rfl rfl) (nF (decide_eq_true c4)) ?_
    refine wp_skip ?_
    refine k3 _ _ ?_
    refine seqQ fun Q5 k5 z5 => ?_
    refine wp_region_lit ?_
    refine Y wn rfl (ym (v := h2.v) (et rfl rfl)) ?_
    obtain ⟨r5, gr5, hM⟩ := bs hM
    refine Yc wn rfl (yCall FN_23 (a1 (et rfl rfl))) (etree_Children_ok (hM := gr5) (hst := hst) (q1 := q1)) ?_
    clear hst
    rintro _ w ⟨h6, y7, h8, rfl, hst⟩
    refine ⟨_, rfl, ?_⟩
    refine Y wn rfl (ym (v := .tuple #[h6.v, h8.v]) (et rfl rfl)) ?_
    refine Y wn rfl (yx (v := h6.v) (et rfl rfl) rfl) ?_
    refine Y wn rfl (yx (v := h8.v) (et rfl rfl) rfl) ?_
    refine YB wn rfl (rAl hst ZT_32) ?_
    clear hst
    intro b9 w hst
    refine YT wn rfl (r_stb1 (vals' := [h6.v]) hst O_32 (et rfl rfl) (et rfl rfl) rfl rfl rfl rfl) ?_
    clear hst
    intro w hst
    refine Y wn rfl (ya (v := h8.v) (et rfl rfl)) ?_
    refine wpList_nil ?_
    refine k5 _ _ ?_
    refine seqQ fun Q6 k6 z6 => ?_
    refine wp_region_lit ?_
    refine YB wn rfl (rAl hst ZT_22) ?_
    clear hst
    intro b10 w hst
    refine wpList_nil ?_
    refine k6 _ _ ?_
    refine seqQ fun Q7 k7 z7 => ?_
    refine wp_region_lit ?_
    refine YB wn rfl (rAl hst ZT_64) ?_
    clear hst
    intro b11 w hst
    refine wpList_nil ?_
    refine k7 _ _ ?_
    refine seqQ fun Q8 k8 z8 => ?_
    refine wp_region_lit ?_
    refine Y wn rfl (ymf (vf := #[]) (vc := #[.pointer (some ⟨b9, 0, none⟩), .pointer (some ⟨b11, 0, none⟩), .pointer (some ⟨b10, 0, none⟩)]) a0 (a3 (et rfl rfl) (et rfl rfl) (et rfl rfl))) ?_
    refine YT wn rfl (r_stb1 (vals' := [.func (.func 24) #[] #[.pointer (some ⟨b9, 0, none⟩), .pointer (some ⟨b11, 0, none⟩), .pointer (some ⟨b10, 0, none⟩)]]) hst O_64 (et rfl rfl) (et rfl rfl) rfl rfl rfl rfl) ?_
    clear hst
    intro w hst
    refine wpList_nil ?_
    refine k8 _ _ ?_
    refine seqQ fun Q9 k9 z9 => ?_
    refine seqQ fun Q10 k10 z10 => ?_
    refine wp_region_lit ?_
    refine Y wn rfl (ym (v := h8.v) (et rfl rfl)) ?_
    refine Y wn rfl (yLen SL_22 (et rfl rfl) hst (rdO (mtR (mtR (mtR (mtR (mtR mhR))))))) ?_
    refine Y wn rfl (ym (v := .int .i64 0) rfl) ?_
    refine wpList_nil ?_
    refine k10 _ _ ?_
    refine blockQ fun Q11 qb11 => ?_
    obtain ⟨o1, go1, hM⟩ := bs hM
    have je1_0 : ∀ (x27 : List Int) (h26 : Hdr) (f : Nat → Value) (w : World), f 7 = .pointer (some ⟨b10, 0, none⟩) → St w0 (ros) (row 3 (rI .i64) h26.v x27 :: box b10 22 [h26.v] :: rs) w → x27 = o1 → Q11 (.exit 0) (fr 33 f) w := by
      intro x27 h26 f w eje1_0_7 hst ho
      subst ho
      refine qb11 _ _ _ ?_
      refine k9 _ _ ?_
      refine seqQ fun Q22 k22 z22 => ?_
      refine wp_region_lit ?_
      refine Y wn rfl (yLb (u := h26.v) O_22 (et rfl eje1_0_7) hst (mtR mhR) rfl) ?_
      refine Y wn rfl (ya (v := h26.v) (et rfl rfl)) ?_
      refine Y wn rfl (ya (v := .int .i64 0) rfl) ?_
      refine wpList_nil ?_
      refine k22 _ _ ?_
      refine wp_ret ?_
      obtain rfl := someI hM
      exact hQ _ _ _ (fin2r Tryd.results11 ⟨rfl, rfl⟩ ⟨rfl, rfl⟩ ⟨_, rfl, (hst.pk 2 [0] rfl)⟩)
    replace hst := hst.rowNh 3 (rI .i64)
    replace hst := hst.pk 6 [4, 4, 0, 0, 0, 0] rfl
    replace hst := hst.ffz
    refine loopQ (fun s a w => ∃ (x17 : List Int) (x18 : Int) (f : Nat → Value) (h16 : Hdr), (x17, x18) = s ∧ a = fr 33 f ∧ f 7 = .pointer (some ⟨b10, 0, none⟩) ∧ f 8 = .pointer (some ⟨b11, 0, none⟩) ∧ f 22 = h8.v ∧ f 23 = .int .i64 (r5.2.length : Int) ∧ f 24 = .int .i64 x18 ∧ St w0 (imm (rS (rI .i64)) h6.v r5.1 :: ros) (row 3 (rI .i64) h16.v x17 :: box b10 22 [h16.v] :: box b9 32 [h6.v] :: box b11 64 [.func (.func 24) #[] #[.pointer (some ⟨b9, 0, none⟩), .pointer (some ⟨b11, 0, none⟩), .pointer (some ⟨b10, 0, none⟩)]] :: row 3 (rI .i64) h8.v r5.2 :: rs) w) go1 ⟨_, _, _, _, rfl, rfl, rfl, rfl, rfl, rfl, rfl, (hst.pk 5 [0, 1, 1, 0, 0] rfl)⟩ ?_
    clear hst
    rintro _ _ w r1_ ⟨x17, x18, f, h16, rfl, rfl, e1_7, e1_8, e1_22, e1_23, e1_24, hst⟩ hM1 ho1 Q100001 n1 zz1
    refine seqQ fun Q23 k23 z23 => ?_
    refine wp_region_lit ?_
    refine Y wn rfl (ylss (et rfl e1_24) (et rfl e1_23)) ?_
    refine wpList_nil ?_
    refine k23 _ _ ?_
    refine seqQ fun Q24 k24 z24 => ?_
    rcases iteS hM1 with ⟨c28, hM1⟩ | ⟨c28, hM1⟩
    · refine condT (et rfl rfl) (decide_eq_true c28) ?_
      refine wp_skip ?_
      refine k24 _ _ ?_
      refine seqQ fun Q25 k25 z25 => ?_
      refine blockQ fun Q26 qb26 => ?_
      refine seqQ fun Q27 k27 z27 => ?_
      refine wp_region_lit ?_
      obtain ⟨x29, gx29, hM1⟩ := bs hM1
      refine Y wn rfl (yIa SL_22 (et rfl e1_22) (et rfl e1_24) hst (rdO (mtR (mtR (mtR (mtR mhR))))) gx29) ?_
      refine Y wn rfl (yI O_3 (et rfl rfl) hst (rdO (mtR (mtR (mtR (mtR mhR))))) gx29) ?_
      refine Y wn rfl (ya (v := .int .i64 x29) (et rfl rfl)) ?_
      refine wpList_nil ?_
      refine k27 _ _ ?_
      refine wp_region_lit ?_
      refine Y wn rfl (yLb (u := .func (.func 24) #[] #[.pointer (some ⟨b9, 0, none⟩), .pointer (some ⟨b11, 0, none⟩), .pointer (some ⟨b10, 0, none⟩)]) O_64 (et rfl e1_8) hst (mtR (mtR (mtR mhR))) rfl) ?_
      refine Y wn rfl (ym (v := .int .i64 x29) (et rfl rfl)) ?_
      obtain ⟨r30, gr30, hM1⟩ := bs hM1
      replace hst := hst.pk 4 [2, 2, 1, 0] rfl
      refine Yc wn rfl (yCallw FN_24 (et rfl rfl) (a1 (et rfl rfl))) (etree_Postorder_1_ok (hM := gr30) (hst := hst) (q1 := mhF)) ?_
      clear hst
      rintro _ w ⟨h31, rfl, hst⟩
      refine ⟨_, rfl, ?_⟩
      refine wpList_nil ?_
      refine qb26 _ _ _ ?_
      refine k25 _ _ ?_
      refine wp_region_lit ?_
      refine Y wn rfl (yadd (et rfl e1_24) rfl) ?_
      refine Y wn rfl (ym (v := .int .i64 (wa .i64 x18 1)) (et rfl rfl)) ?_
      refine wpList_nil ?_
      obtain rfl := someI hM1
      exact n1 _ _ _ rfl ⟨_, _, _, _, rfl, rfl, e1_7, e1_8, e1_22, e1_23, rfl, (hst.pk 5 [1, 1, 0, 0, 0] rfl)⟩
    · refine condF (et rfl rfl) (decide_eq_false c28) ?_
      refine wp_exit ?_
      refine z24 _ _ _ rfl ?_
      obtain rfl := someI hM1
      refine zz1 _ _ _ _ rfl rfl ?_
      exact je1_0 _ _ _ _ e1_7 ((hst.pk 5 [0, 0] rfl).facts (allT allI)) (ho1 _ rfl)
  · refine condT (et rfl rfl) (nT (decide_eq_false c4)) ?_
    refine seqQ fun Q28 k28 z28 => ?_
    refine wp_region_lit ?_
    refine Y wn rfl (ym (v := .int .i64 r3) (et rfl rfl)) ?_
    refine Y wn rfl (ya (v := hnil.v) rfl) ?_
    refine Y wn rfl (ya (v := .int .i64 r3) (et rfl rfl)) ?_
    refine wpList_nil ?_
    refine k28 _ _ ?_
    refine wp_ret ?_
    refine z3 _ _ _ rfl ?_
    obtain rfl := someI hM
    replace hst := hst.rowNh 3 (rI .i64)
    exact hQ _ _ _ (fin2r Tryd.results11 ⟨rfl, rfl⟩ ⟨rfl, rfl⟩ ⟨_, rfl, hst⟩)
end Go.Proofs.YtoelidgkfpmgnaaDoor
