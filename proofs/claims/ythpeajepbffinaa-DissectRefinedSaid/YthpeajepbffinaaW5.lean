/- Walks: each function computes its model, printed. -/
import Derived.Test.YthpeajepbffinaaW4
namespace Go.Proofs.Ythpeajepbffinaa
open Go Sx M
set_option maxRecDepth 100000
set_option maxHeartbeats 4000000
set_option linter.unusedVariables false
attribute [local irreducible] wpList Code.wp Calls DR QR QS LA LS St
theorem sparsekit_In_ok {w0 : World} {ros : List Fact} {rs : List Res} {w : World} {x1 : List Int} {x3 : Int} {h2 : Hdr} {out : Bool} (hM : sparsekit_In x1 x3 = some out) (q1 : imm (rI .i64) h2.v x1 ∈ ros) (hst : St w0 ros (rs) w) :
    Calls Try.prog 11 #[h2.v, .int .i64 x3] w (fun e w => e = .returned (.bool out) ∧ St w0 (ros) (rs) w) := by
  refine enterQ Try.func11 rfl Try.ntmps11 rfl fun Q hQ => ?_
  refine seqQ fun Q1 k1 z1 => ?_
  refine wp_region_lit ?_
  refine Y wn rfl (ya (v := .bool false) rfl) ?_
  refine wpList_nil ?_
  refine k1 _ _ ?_
  refine seqQ fun Q2 k2 z2 => ?_
  refine seqQ fun Q3 k3 z3 => ?_
  refine wp_region_lit ?_
  refine Y wn rfl (ya (v := .int .i64 0) rfl) ?_
  refine wpList_nil ?_
  refine k3 _ _ ?_
  refine blockQ fun Q4 qb4 => ?_
  obtain ⟨o1, go1, hM⟩ := bs hM
  have je1_0 : ∀ (f : Nat → Value) (w : World), St w0 (ros) (rs) w → .inl () = o1 → Q4 (.exit 0) (fr 18 f) w := by
    intro f w hst ho
    subst ho
    refine qb4 _ _ _ ?_
    refine k2 _ _ ?_
    refine seqQ fun Q17 k17 z17 => ?_
    refine wp_region_lit ?_
    refine Y wn rfl (ya (v := .bool false) rfl) ?_
    refine wpList_nil ?_
    refine k17 _ _ ?_
    refine wp_ret ?_
    obtain rfl := someI hM
    exact hQ _ _ _ (fin1r Try.results11 ⟨rfl, rfl⟩ ⟨rfl, hst⟩)
  have je1_1 : ∀ (f : Nat → Value) (w : World), f 4 = .bool true → St w0 (ros) (rs) w → .inr () = o1 → Q4 .ret (fr 18 f) w := by
    intro f w eje1_1_4 hst ho
    subst ho
    refine qb4 _ _ _ ?_
    refine z2 _ _ _ rfl ?_
    obtain rfl := someI hM
    exact hQ _ _ _ (fin1r Try.results11 ⟨rfl, eje1_1_4⟩ ⟨rfl, hst⟩)
  refine loopQ (fun s a w => ∃ (x7 : Int) (f : Nat → Value), x7 = s ∧ a = fr 18 f ∧ f 0 = h2.v ∧ f 1 = .int .i64 x3 ∧ f 5 = .int .i64 x7 ∧ St w0 (ros) (rs) w) go1 ⟨_, _, rfl, rfl, rfl, rfl, rfl, hst⟩ ?_
  clear hst
  rintro _ _ w r1_ ⟨x7, f, rfl, rfl, e1_0, e1_1, e1_5, hst⟩ hM1 ho1 Q100001 n1 zz1
  refine seqQ fun Q18 k18 z18 => ?_
  refine seqQ fun Q19 k19 z19 => ?_
  refine wp_region_lit ?_
  refine Y wn rfl (ym (v := .int .i64 x7) (et rfl e1_5)) ?_
  refine Y wn rfl (ym (v := h2.v) (et rfl e1_0)) ?_
  refine Y wn rfl (yLen SL_22 (et rfl rfl) hst (rdI q1)) ?_
  refine Y wn rfl (ylss (et rfl rfl) (et rfl rfl)) ?_
  refine wpList_nil ?_
  refine k19 _ _ ?_
  rcases iteS hM1 with ⟨c12, hM1⟩ | ⟨c12, hM1⟩
  · refine condT (et rfl rfl) (decide_eq_true c12) ?_
    refine wp_skip ?_
    refine k18 _ _ ?_
    refine seqQ fun Q20 k20 z20 => ?_
    refine blockQ fun Q21 qb21 => ?_
    refine seqQ fun Q22 k22 z22 => ?_
    refine wp_region_lit ?_
    refine Y wn rfl (ym (v := h2.v) (et rfl e1_0)) ?_
    refine Y wn rfl (ym (v := .int .i64 x7) (et rfl e1_5)) ?_
    obtain ⟨x13, gx13, hM1⟩ := bs hM1
    refine Y wn rfl (yIa SL_22 (et rfl rfl) (et rfl rfl) hst (rdI q1) gx13) ?_
    refine Y wn rfl (yI O_3 (et rfl rfl) hst (rdI q1) gx13) ?_
    refine Y wn rfl (ym (v := .int .i64 x3) (et rfl e1_1)) ?_
    refine Y wn rfl (yeql (et rfl rfl) (et rfl rfl)) ?_
    refine wpList_nil ?_
    refine k22 _ _ ?_
    rcases iteS hM1 with ⟨c14, hM1⟩ | ⟨c14, hM1⟩
    · refine condT (et rfl rfl) (decide_eq_true c14) ?_
      refine seqQ fun Q23 k23 z23 => ?_
      refine wp_region_lit ?_
      refine Y wn rfl (ya (v := .bool true) rfl) ?_
      refine wpList_nil ?_
      refine k23 _ _ ?_
      refine wp_ret ?_
      refine qb21 _ _ _ ?_
      refine z20 _ _ _ rfl ?_
      obtain rfl := someI hM1
      refine zz1 _ _ _ _ rfl rfl ?_
      exact je1_1 _ _ rfl hst (ho1 _ rfl)
    · refine condF (et rfl rfl) (decide_eq_false c14) ?_
      refine wp_skip ?_
      refine qb21 _ _ _ ?_
      refine k20 _ _ ?_
      refine wp_region_lit ?_
      refine Y wn rfl (ym (v := .int .i64 x7) (et rfl e1_5)) ?_
      refine Y wn rfl (yadd (et rfl rfl) rfl) ?_
      refine Y wn rfl (ya (v := .int .i64 (wa .i64 x7 1)) (et rfl rfl)) ?_
      refine wpList_nil ?_
      obtain rfl := someI hM1
      exact n1 _ _ _ rfl ⟨_, _, rfl, rfl, e1_0, e1_1, rfl, hst⟩
  · refine condF (et rfl rfl) (decide_eq_false c12) ?_
    refine wp_exit ?_
    refine z18 _ _ _ rfl ?_
    obtain rfl := someI hM1
    refine zz1 _ _ _ _ rfl rfl ?_
    exact je1_0 _ _ hst (ho1 _ rfl)

theorem sparseref12_Check_ok {w0 : World} {ros : List Fact} {rs : List Res} {w : World} {x1 : List (List Int)} {h2 : Hdr} {out : Int} (hM : sparseref12_Check x1 = some out) (q1 : imm (rS (rI .i64)) h2.v x1 ∈ ros) (hst : St w0 ros (rs) w) :
    Calls Try.prog 62 #[.agg #[h2.v]] w (fun e w => e = .returned (.int .i64 out) ∧ St w0 (ros) (rs) w) := by
  refine enterQ Try.func62 rfl Try.ntmps62 rfl fun Q hQ => ?_
  refine seqQ fun Q1 k1 z1 => ?_
  refine wp_region_lit ?_
  refine YB wn rfl (r_box (vals := [h2.v]) hst (et rfl rfl) rfl) ?_
  clear hst
  intro b3 w hst
  refine Y wn rfl (ya (v := .int .i64 0) rfl) ?_
  refine wpList_nil ?_
  refine k1 _ _ ?_
  refine seqQ fun Q2 k2 z2 => ?_
  refine wp_region_lit ?_
  refine Y wn rfl (yFb FL_27_0 (et rfl rfl)) ?_
  refine Y wn rfl (yLb (u := h2.v) O_25 (et rfl rfl) hst mhR rfl) ?_
  refine Y wn rfl (yLen SL_25 (et rfl rfl) hst (rdI q1)) ?_
  refine Y wn rfl (ya (v := .int .i64 (x1.length : Int)) (et rfl rfl)) ?_
  refine wpList_nil ?_
  refine k2 _ _ ?_
  refine seqQ fun Q3 k3 z3 => ?_
  refine seqQ fun Q4 k4 z4 => ?_
  refine wp_region_lit ?_
  refine Y wn rfl (ym (v := .int .i64 (x1.length : Int)) (et rfl rfl)) ?_
  refine Y wn rfl (ygtr (et rfl rfl) rfl) ?_
  refine wpList_nil ?_
  refine k4 _ _ ?_
  rcases iteS hM with ⟨c4, hM⟩ | ⟨c4, hM⟩
  · refine condT (et rfl rfl) (decide_eq_true c4) ?_
    refine seqQ fun Q5 k5 z5 => ?_
    refine wp_region_lit ?_
    refine Y wn rfl (ya (v := .int .i64 6) rfl) ?_
    refine wpList_nil ?_
    refine k5 _ _ ?_
    refine wp_ret ?_
    refine z3 _ _ _ rfl ?_
    obtain rfl := someI hM
    exact hQ _ _ _ (fin1r Try.results62 ⟨rfl, rfl⟩ ⟨rfl, (hst.pk 1 [] rfl)⟩)
  · refine condF (et rfl rfl) (decide_eq_false c4) ?_
    refine wp_skip ?_
    refine k3 _ _ ?_
    refine seqQ fun Q6 k6 z6 => ?_
    refine seqQ fun Q7 k7 z7 => ?_
    refine wp_region_lit ?_
    refine Y wn rfl (ya (v := .int .i64 0) rfl) ?_
    refine wpList_nil ?_
    refine k7 _ _ ?_
    refine blockQ fun Q8 qb8 => ?_
    obtain ⟨o21, go21, hM⟩ := bs hM
    have je21_0 : ∀ (f : Nat → Value) (w : World), St w0 (ros) (rs) w → .inl () = o21 → Q8 (.exit 0) (fr 64 f) w := by
      intro f w hst ho
      subst ho
      refine qb8 _ _ _ ?_
      refine k6 _ _ ?_
      refine seqQ fun Q69 k69 z69 => ?_
      refine wp_region_lit ?_
      refine Y wn rfl (ya (v := .int .i64 0) rfl) ?_
      refine wpList_nil ?_
      refine k69 _ _ ?_
      refine wp_ret ?_
      obtain rfl := someI hM
      exact hQ _ _ _ (fin1r Try.results62 ⟨rfl, rfl⟩ ⟨rfl, hst⟩)
    have je21_1 : ∀ (f : Nat → Value) (w : World), f 2 = .int .i64 1 → St w0 (ros) (rs) w → .inr () = o21 → Q8 .ret (fr 64 f) w := by
      intro f w eje21_1_2 hst ho
      subst ho
      refine qb8 _ _ _ ?_
      refine z6 _ _ _ rfl ?_
      obtain rfl := someI hM
      exact hQ _ _ _ (fin1r Try.results62 ⟨rfl, eje21_1_2⟩ ⟨rfl, hst⟩)
    refine loopQ (fun s a w => ∃ (x72 : Int) (f : Nat → Value), x72 = s ∧ a = fr 64 f ∧ f 1 = .pointer (some ⟨b3, 0, none⟩) ∧ f 3 = .int .i64 (x1.length : Int) ∧ f 4 = .int .i64 x72 ∧ St w0 (ros) (box b3 27 [h2.v] :: rs) w) go21 ⟨_, _, rfl, rfl, rfl, rfl, rfl, hst⟩ ?_
    clear hst
    rintro _ _ w r21_ ⟨x72, f, rfl, rfl, e21_1, e21_3, e21_4, hst⟩ hM21 ho21 Q100021 n21 zz21
    refine seqQ fun Q70 k70 z70 => ?_
    refine seqQ fun Q71 k71 z71 => ?_
    refine wp_region_lit ?_
    refine Y wn rfl (ym (v := .int .i64 x72) (et rfl e21_4)) ?_
    refine Y wn rfl (ym (v := .int .i64 (x1.length : Int)) (et rfl e21_3)) ?_
    refine Y wn rfl (ylss (et rfl rfl) (et rfl rfl)) ?_
    refine wpList_nil ?_
    refine k71 _ _ ?_
    rcases iteS hM21 with ⟨c141, hM21⟩ | ⟨c141, hM21⟩
    · refine condT (et rfl rfl) (decide_eq_true c141) ?_
      refine wp_skip ?_
      refine k70 _ _ ?_
      refine seqQ fun Q72 k72 z72 => ?_
      refine blockQ fun Q73 qb73 => ?_
      refine seqQ fun Q74 k74 z74 => ?_
      refine seqQ fun Q75 k75 z75 => ?_
      refine wp_region_lit ?_
      refine Y wn rfl (yFb FL_27_0 (et rfl e21_1)) ?_
      refine Y wn rfl (yLb (u := h2.v) O_25 (et rfl rfl) hst mhR rfl) ?_
      refine Y wn rfl (ym (v := .int .i64 x72) (et rfl e21_4)) ?_
      obtain ⟨x142, gx142, hM21⟩ := bs hM21
      refine Y wn rfl (yIa SL_25 (et rfl rfl) (et rfl rfl) hst (rdI q1) gx142) ?_
      obtain ⟨h143, hst⟩ := iLs hst q1 gx142
      refine Y wn rfl (yCt O_22 (et rfl rfl) hst (mtF mhF) rfl) ?_
      obtain ⟨r144, gr144, hM21⟩ := bs hM21
      refine Yc wn rfl (yCall FN_76 (a1 (et rfl rfl))) (sparsekit_Ascending_ok (hM := gr144) (hst := hst) (q1 := mhF)) ?_
      clear hst
      rintro _ w ⟨rfl, hst⟩
      refine ⟨_, rfl, ?_⟩
      refine Y wn rfl (ynot (et rfl rfl)) ?_
      refine wpList_nil ?_
      refine k75 _ _ ?_
      rcases iteS hM21 with ⟨c145, hM21⟩ | ⟨c145, hM21⟩
      · refine condF (et rfl rfl) (nF c145) ?_
        refine wp_skip ?_
        refine k74 _ _ ?_
        refine seqQ fun Q76 k76 z76 => ?_
        refine wp_region_lit ?_
        refine Y wn rfl (ya (v := .int .i64 0) rfl) ?_
        refine wpList_nil ?_
        refine k76 _ _ ?_
        refine blockQ fun Q77 qb77 => ?_
        obtain ⟨o28, go28, hM21⟩ := bs hM21
        have je28_0 : ∀ (f : Nat → Value) (w : World), f 1 = .pointer (some ⟨b3, 0, none⟩) → f 3 = .int .i64 (x1.length : Int) → f 4 = .int .i64 x72 → St w0 (ros) (box b3 27 [h2.v] :: rs) w → .inl () = o28 → Q77 (.exit 2) (fr 64 f) w := by
          intro f w eje28_0_1 eje28_0_3 eje28_0_4 hst ho
          subst ho
          refine qb77 _ _ _ ?_
          refine qb73 _ _ _ ?_
          refine k72 _ _ ?_
          refine wp_region_lit ?_
          refine Y wn rfl (ym (v := .int .i64 x72) (et rfl eje28_0_4)) ?_
          refine Y wn rfl (yadd (et rfl rfl) rfl) ?_
          refine Y wn rfl (ya (v := .int .i64 (wa .i64 x72 1)) (et rfl rfl)) ?_
          refine wpList_nil ?_
          obtain rfl := someI hM21
          exact n21 _ _ _ rfl ⟨_, _, rfl, rfl, eje28_0_1, eje28_0_3, rfl, hst⟩
        have je28_1 : ∀ (f : Nat → Value) (w : World), f 2 = .int .i64 1 → St w0 (ros) (rs) w → .inr () = o28 → Q77 .ret (fr 64 f) w := by
          intro f w eje28_1_2 hst ho
          subst ho
          refine qb77 _ _ _ ?_
          refine qb73 _ _ _ ?_
          refine z72 _ _ _ rfl ?_
          obtain rfl := someI hM21
          refine zz21 _ _ _ _ rfl rfl ?_
          exact je21_1 _ _ eje28_1_2 hst (ho21 _ rfl)
        refine loopQ (fun s a w => ∃ (x166 : Int) (f : Nat → Value), x166 = s ∧ a = fr 64 f ∧ f 1 = .pointer (some ⟨b3, 0, none⟩) ∧ f 3 = .int .i64 (x1.length : Int) ∧ f 4 = .int .i64 x72 ∧ f 5 = .int .i64 x166 ∧ St w0 (ros) (box b3 27 [h2.v] :: rs) w) go28 ⟨_, _, rfl, rfl, e21_1, e21_3, e21_4, rfl, (hst.facts (allT (allT allI)))⟩ ?_
        clear hst
        rintro _ _ w r28_ ⟨x166, f, rfl, rfl, e28_1, e28_3, e28_4, e28_5, hst⟩ hM28 ho28 Q100028 n28 zz28
        refine seqQ fun Q92 k92 z92 => ?_
        refine seqQ fun Q93 k93 z93 => ?_
        refine wp_region_lit ?_
        refine Y wn rfl (ym (v := .int .i64 x166) (et rfl e28_5)) ?_
        refine Y wn rfl (yFb FL_27_0 (et rfl e28_1)) ?_
        refine Y wn rfl (yLb (u := h2.v) O_25 (et rfl rfl) hst mhR rfl) ?_
        refine Y wn rfl (ym (v := .int .i64 x72) (et rfl e28_4)) ?_
        obtain ⟨x188, gx188, hM28⟩ := bs hM28
        refine Y wn rfl (yIa SL_25 (et rfl rfl) (et rfl rfl) hst (rdI q1) gx188) ?_
        obtain ⟨h189, hst⟩ := iLs hst q1 gx188
        refine Y wn rfl (yCt O_22 (et rfl rfl) hst (mtF mhF) rfl) ?_
        refine Y wn rfl (yLen SL_22 (et rfl rfl) hst (rdI mhF)) ?_
        refine Y wn rfl (ylss (et rfl rfl) (et rfl rfl)) ?_
        refine wpList_nil ?_
        refine k93 _ _ ?_
        rcases iteS hM28 with ⟨c190, hM28⟩ | ⟨c190, hM28⟩
        · refine condT (et rfl rfl) (decide_eq_true c190) ?_
          refine wp_skip ?_
          refine k92 _ _ ?_
          refine seqQ fun Q94 k94 z94 => ?_
          refine blockQ fun Q95 qb95 => ?_
          refine seqQ fun Q96 k96 z96 => ?_
          refine wp_region_lit ?_
          refine Y wn rfl (yFb FL_27_0 (et rfl e28_1)) ?_
          refine Y wn rfl (yLb (u := h2.v) O_25 (et rfl rfl) hst mhR rfl) ?_
          refine Y wn rfl (ym (v := .int .i64 x72) (et rfl e28_4)) ?_
          obtain ⟨x191, gx191, hM28⟩ := bs hM28
          refine Y wn rfl (yIa SL_25 (et rfl rfl) (et rfl rfl) hst (rdI (mtF (mtF q1))) gx191) ?_
          obtain ⟨h192, hst⟩ := iLs hst (mtF (mtF q1)) gx191
          refine Y wn rfl (yCt O_22 (et rfl rfl) hst (mtF mhF) rfl) ?_
          refine Y wn rfl (ym (v := .int .i64 x166) (et rfl e28_5)) ?_
          obtain ⟨x193, gx193, hM28⟩ := bs hM28
          refine Y wn rfl (yIa SL_22 (et rfl rfl) (et rfl rfl) hst (rdI mhF) gx193) ?_
          refine Y wn rfl (yI O_3 (et rfl rfl) hst (rdI mhF) gx193) ?_
          refine Y wn rfl (ya (v := .int .i64 x193) (et rfl rfl)) ?_
          refine wpList_nil ?_
          refine k96 _ _ ?_
          refine seqQ fun Q97 k97 z97 => ?_
          refine wp_region_lit ?_
          refine Y wn rfl (ym (v := .int .i64 x193) (et rfl rfl)) ?_
          refine Y wn rfl (ylss (et rfl rfl) rfl) ?_
          refine Y wn rfl (ym (v := .bool (decide (x193 < 0))) (et rfl rfl)) ?_
          refine joinW 4 (fun f w => f 1 = .pointer (some ⟨b3, 0, none⟩) ∧ f 3 = .int .i64 (x1.length : Int) ∧ f 4 = .int .i64 x72 ∧ f 5 = .int .i64 x166 ∧ f 6 = .int .i64 x193 ∧ f 48 = .bool ((decide (x193 < 0)) || (decide ((x1.length : Int) ≤ x193))) ∧ St w0 (ros) (box b3 27 [h2.v] :: rs) w) (fun j29 => ?_) ?_
          · rcases Bool.eq_false_or_eq_true (decide (x193 < 0)) with c195 | c195
            · refine Gn (wx rfl rfl rfl c195) rfl ?_
              refine Gn (wx rfl rfl rfl c195) rfl ?_
              refine Gn (wx rfl rfl rfl c195) rfl ?_
              refine Y wn rfl (ypt (v := .bool true) (et rfl rfl) c195 rfl) ?_
              exact j29 _ _ ⟨e28_1, e28_3, e28_4, e28_5, rfl, (congrArg Value.bool (orT c195)), (hst.facts (allT (allT (allT (allT allI)))))⟩
            · refine Y (wg rfl rfl rfl c195) rfl (ym (v := .int .i64 x193) (et rfl rfl)) ?_
              refine Y (wg rfl rfl rfl c195) rfl (ym (v := .int .i64 (x1.length : Int)) (et rfl e28_3)) ?_
              refine Y (wg rfl rfl rfl c195) rfl (ygeq (et rfl rfl) (et rfl rfl)) ?_
              refine Y wn rfl (ypf (v := .bool (decide ((x1.length : Int) ≤ x193))) (et rfl rfl) c195 (et rfl rfl)) ?_
              exact j29 _ _ ⟨e28_1, e28_3, e28_4, e28_5, rfl, (congrArg Value.bool (orF c195)), (hst.facts (allT (allT (allT (allT allI)))))⟩
          clear hst
          rintro f w ⟨e194_1, e194_3, e194_4, e194_5, e194_6, e194_48, hst⟩
          refine Y wn rfl (ym (v := .bool ((decide (x193 < 0)) || (decide ((x1.length : Int) ≤ x193)))) (et rfl e194_48)) ?_
          refine joinW 4 (fun f w => f 1 = .pointer (some ⟨b3, 0, none⟩) ∧ f 3 = .int .i64 (x1.length : Int) ∧ f 4 = .int .i64 x72 ∧ f 5 = .int .i64 x166 ∧ f 6 = .int .i64 x193 ∧ f 53 = .bool (((decide (x193 < 0)) || (decide ((x1.length : Int) ≤ x193))) || (decide (x193 = x72))) ∧ St w0 (ros) (box b3 27 [h2.v] :: rs) w) (fun j30 => ?_) ?_
          · rcases Bool.eq_false_or_eq_true (((decide (x193 < 0)) || (decide ((x1.length : Int) ≤ x193)))) with c197 | c197
            · refine Gn (wx rfl rfl rfl c197) rfl ?_
              refine Gn (wx rfl rfl rfl c197) rfl ?_
              refine Gn (wx rfl rfl rfl c197) rfl ?_
              refine Y wn rfl (ypt (v := .bool true) (et rfl rfl) c197 rfl) ?_
              exact j30 _ _ ⟨e194_1, e194_3, e194_4, e194_5, e194_6, (congrArg Value.bool (orT c197)), hst⟩
            · refine Y (wg rfl rfl rfl c197) rfl (ym (v := .int .i64 x193) (et rfl e194_6)) ?_
              refine Y (wg rfl rfl rfl c197) rfl (ym (v := .int .i64 x72) (et rfl e194_4)) ?_
              refine Y (wg rfl rfl rfl c197) rfl (yeql (et rfl rfl) (et rfl rfl)) ?_
              refine Y wn rfl (ypf (v := .bool (decide (x193 = x72))) (et rfl rfl) c197 (et rfl rfl)) ?_
              exact j30 _ _ ⟨e194_1, e194_3, e194_4, e194_5, e194_6, (congrArg Value.bool (orF c197)), hst⟩
          clear hst
          rintro f w ⟨e196_1, e196_3, e196_4, e196_5, e196_6, e196_53, hst⟩
          refine Y wn rfl (ym (v := .bool (((decide (x193 < 0)) || (decide ((x1.length : Int) ≤ x193))) || (decide (x193 = x72)))) (et rfl e196_53)) ?_
          obtain ⟨r201, gr201, hM28⟩ := bs hM28
          refine joinW 9 (fun f w => f 1 = .pointer (some ⟨b3, 0, none⟩) ∧ f 3 = .int .i64 (x1.length : Int) ∧ f 4 = .int .i64 x72 ∧ f 5 = .int .i64 x166 ∧ f 63 = .bool r201 ∧ St w0 (ros) (box b3 27 [h2.v] :: rs) w) (fun j31 => ?_) ?_
          · rcases iteS gr201 with ⟨c203, gr201⟩ | ⟨c203, gr201⟩
            · refine Gn (wx rfl rfl rfl c203) rfl ?_
              refine Gn (wx rfl rfl rfl c203) rfl ?_
              refine Gn (wx rfl rfl rfl c203) rfl ?_
              refine Gn (wx rfl rfl rfl c203) rfl ?_
              refine Gn (wx rfl rfl rfl c203) rfl ?_
              refine Gn (wx rfl rfl rfl c203) rfl ?_
              refine Gn (wx rfl rfl rfl c203) rfl ?_
              refine Gn (wx rfl rfl rfl c203) rfl ?_
              refine Y wn rfl (ypt (v := .bool true) (et rfl rfl) c203 rfl) ?_
              obtain rfl := someI gr201
              exact j31 _ _ ⟨e196_1, e196_3, e196_4, e196_5, rfl, hst⟩
            · refine Y (wg rfl rfl rfl (bfalse c203)) rfl (yFb FL_27_0 (et rfl e196_1)) ?_
              refine Y (wg rfl rfl rfl (bfalse c203)) rfl (yLb (u := h2.v) O_25 (et rfl rfl) hst mhR rfl) ?_
              refine Y (wg rfl rfl rfl (bfalse c203)) rfl (ym (v := .int .i64 x193) (et rfl e196_6)) ?_
              obtain ⟨x204, gx204, gr201⟩ := bs gr201
              refine Y (wg rfl rfl rfl (bfalse c203)) rfl (yIa SL_25 (et rfl rfl) (et rfl rfl) hst (rdI q1) gx204) ?_
              obtain ⟨h205, hst⟩ := iLs hst q1 gx204
              refine Y (wg rfl rfl rfl (bfalse c203)) rfl (yCt O_22 (et rfl rfl) hst (mtF mhF) rfl) ?_
              refine Y (wg rfl rfl rfl (bfalse c203)) rfl (ym (v := .int .i64 x72) (et rfl e196_4)) ?_
              obtain ⟨r206, gr206, gr201⟩ := bs gr201
              refine Yc (wg rfl rfl rfl (bfalse c203)) rfl (yCall FN_11 (a2 (et rfl rfl) (et rfl rfl))) (sparsekit_In_ok (hM := gr206) (hst := hst) (q1 := mhF)) ?_
              clear hst
              rintro _ w ⟨rfl, hst⟩
              refine ⟨_, rfl, ?_⟩
              refine Y (wg rfl rfl rfl (bfalse c203)) rfl (ynot (et rfl rfl)) ?_
              refine Y wn rfl (ypf (v := .bool (!(r206))) (et rfl rfl) (bfalse c203) (et rfl rfl)) ?_
              obtain rfl := someI gr201
              exact j31 _ _ ⟨e196_1, e196_3, e196_4, e196_5, rfl, (hst.facts (allT (allT allI)))⟩
          clear hst
          rintro f w ⟨e202_1, e202_3, e202_4, e202_5, e202_63, hst⟩
          refine wpList_nil ?_
          refine k97 _ _ ?_
          rcases iteS hM28 with ⟨c207, hM28⟩ | ⟨c207, hM28⟩
          · refine condT (et rfl e202_63) c207 ?_
            refine seqQ fun Q98 k98 z98 => ?_
            refine wp_region_lit ?_
            refine Y wn rfl (ya (v := .int .i64 1) rfl) ?_
            refine wpList_nil ?_
            refine k98 _ _ ?_
            refine wp_ret ?_
            refine qb95 _ _ _ ?_
            refine z94 _ _ _ rfl ?_
            obtain rfl := someI hM28
            refine zz28 _ _ _ _ rfl rfl ?_
            exact je28_1 _ _ rfl (hst.pk 1 [] rfl) (ho28 _ rfl)
          · refine condF (et rfl e202_63) (bfalse c207) ?_
            refine wp_skip ?_
            refine qb95 _ _ _ ?_
            refine k94 _ _ ?_
            refine wp_region_lit ?_
            refine Y wn rfl (ym (v := .int .i64 x166) (et rfl e202_5)) ?_
            refine Y wn rfl (yadd (et rfl rfl) rfl) ?_
            refine Y wn rfl (ya (v := .int .i64 (wa .i64 x166 1)) (et rfl rfl)) ?_
            refine wpList_nil ?_
            obtain rfl := someI hM28
            exact n28 _ _ _ rfl ⟨_, _, rfl, rfl, e202_1, e202_3, e202_4, rfl, hst⟩
        · refine condF (et rfl rfl) (decide_eq_false c190) ?_
          refine wp_exit ?_
          refine z92 _ _ _ rfl ?_
          obtain rfl := someI hM28
          refine zz28 _ _ _ _ rfl rfl ?_
          exact je28_0 _ _ e28_1 e28_3 e28_4 (hst.facts (allT (allT allI))) (ho28 _ rfl)
      · refine condT (et rfl rfl) (nT (bfalse c145)) ?_
        refine seqQ fun Q99 k99 z99 => ?_
        refine wp_region_lit ?_
        refine Y wn rfl (ya (v := .int .i64 1) rfl) ?_
        refine wpList_nil ?_
        refine k99 _ _ ?_
        refine wp_ret ?_
        refine z74 _ _ _ rfl ?_
        refine qb73 _ _ _ ?_
        refine z72 _ _ _ rfl ?_
        obtain rfl := someI hM21
        refine zz21 _ _ _ _ rfl rfl ?_
        exact je21_1 _ _ rfl ((hst.pk 1 [] rfl).facts (allT (allT allI))) (ho21 _ rfl)
    · refine condF (et rfl rfl) (decide_eq_false c141) ?_
      refine wp_exit ?_
      refine z70 _ _ _ rfl ?_
      obtain rfl := someI hM21
      refine zz21 _ _ _ _ rfl rfl ?_
      exact je21_0 _ _ (hst.pk 1 [] rfl) (ho21 _ rfl)

theorem sparseref12_Levels_ok {w0 : World} {ros : List Fact} {rs : List Res} {w : World} {x1 : List (List Int)} {x3 : Int} {h2 : Hdr} {out : (List (List Int))} (hM : sparseref12_Levels x1 x3 = some out) (q1 : imm (rS (rI .i64)) h2.v x1 ∈ ros) (hst : St w0 ros (rs) w) :
    Calls Try.prog 38 #[.agg #[h2.v], .int .i64 x3] w (fun e w => ∃ (h100001 : Hdr), e = .returned (h100001.v) ∧ St w0 (ros) (row 22 (rS (rI .i64)) h100001.v out :: rs) w) := by
  refine enterQ Try.func38 rfl Try.ntmps38 rfl fun Q hQ => ?_
  refine seqQ fun Q1 k1 z1 => ?_
  refine wp_region_lit ?_
  refine YB wn rfl (r_box (vals := [h2.v]) hst (et rfl rfl) rfl) ?_
  clear hst
  intro b4 w hst
  refine Y wn rfl (ya (v := hnil.v) rfl) ?_
  refine wpList_nil ?_
  refine k1 _ _ ?_
  refine seqQ fun Q2 k2 z2 => ?_
  refine wp_region_lit ?_
  refine Y wn rfl (yFb FL_27_0 (et rfl rfl)) ?_
  refine Y wn rfl (yLb (u := h2.v) O_25 (et rfl rfl) hst mhR rfl) ?_
  refine Y wn rfl (yLen SL_25 (et rfl rfl) hst (rdI q1)) ?_
  refine Y wn rfl (ya (v := .int .i64 (x1.length : Int)) (et rfl rfl)) ?_
  refine wpList_nil ?_
  refine k2 _ _ ?_
  refine seqQ fun Q3 k3 z3 => ?_
  refine seqQ fun Q4 k4 z4 => ?_
  refine wp_region_lit ?_
  refine Y wn rfl (yLbs (us := [h2.v]) ST_27 (et rfl rfl) hst mhR rfl rfl) ?_
  obtain ⟨r5, gr5, hM⟩ := bs hM
  refine Yc wn rfl (yCall FN_62 (a1 (et rfl rfl))) (sparseref12_Check_ok (hM := gr5) (hst := hst) (q1 := q1)) ?_
  clear hst
  rintro _ w ⟨rfl, hst⟩
  refine ⟨_, rfl, ?_⟩
  refine Y wn rfl (yneq (et rfl rfl) rfl) ?_
  refine Y wn rfl (ym (v := .bool (!(decide (r5 = 0)))) (et rfl rfl)) ?_
  refine joinW 3 (fun f w => f 1 = .int .i64 x3 ∧ f 2 = .pointer (some ⟨b4, 0, none⟩) ∧ f 5 = .int .i64 (x1.length : Int) ∧ f 24 = .bool ((!(decide (r5 = 0))) || (decide (x3 < 0))) ∧ St w0 (ros) (box b4 27 [h2.v] :: rs) w) (fun j1 => ?_) ?_
  · rcases Bool.eq_false_or_eq_true (!(decide (r5 = 0))) with c7 | c7
    · refine Gn (wx rfl rfl rfl c7) rfl ?_
      refine Gn (wx rfl rfl rfl c7) rfl ?_
      refine Y wn rfl (ypt (v := .bool true) (et rfl rfl) c7 rfl) ?_
      exact j1 _ _ ⟨rfl, rfl, rfl, (congrArg Value.bool (orT c7)), hst⟩
    · refine Y (wg rfl rfl rfl c7) rfl (ym (v := .int .i64 x3) (et rfl rfl)) ?_
      refine Y (wg rfl rfl rfl c7) rfl (ylss (et rfl rfl) rfl) ?_
      refine Y wn rfl (ypf (v := .bool (decide (x3 < 0))) (et rfl rfl) c7 (et rfl rfl)) ?_
      exact j1 _ _ ⟨rfl, rfl, rfl, (congrArg Value.bool (orF c7)), hst⟩
  clear hst
  rintro f w ⟨e6_1, e6_2, e6_5, e6_24, hst⟩
  refine Y wn rfl (ym (v := .bool ((!(decide (r5 = 0))) || (decide (x3 < 0)))) (et rfl e6_24)) ?_
  refine joinW 4 (fun f w => f 1 = .int .i64 x3 ∧ f 2 = .pointer (some ⟨b4, 0, none⟩) ∧ f 5 = .int .i64 (x1.length : Int) ∧ f 29 = .bool (((!(decide (r5 = 0))) || (decide (x3 < 0))) || (decide ((x1.length : Int) ≤ x3))) ∧ St w0 (ros) (box b4 27 [h2.v] :: rs) w) (fun j2 => ?_) ?_
  · rcases Bool.eq_false_or_eq_true (((!(decide (r5 = 0))) || (decide (x3 < 0)))) with c9 | c9
    · refine Gn (wx rfl rfl rfl c9) rfl ?_
      refine Gn (wx rfl rfl rfl c9) rfl ?_
      refine Gn (wx rfl rfl rfl c9) rfl ?_
      refine Y wn rfl (ypt (v := .bool true) (et rfl rfl) c9 rfl) ?_
      exact j2 _ _ ⟨e6_1, e6_2, e6_5, (congrArg Value.bool (orT c9)), hst⟩
    · refine Y (wg rfl rfl rfl c9) rfl (ym (v := .int .i64 x3) (et rfl e6_1)) ?_
      refine Y (wg rfl rfl rfl c9) rfl (ym (v := .int .i64 (x1.length : Int)) (et rfl e6_5)) ?_
      refine Y (wg rfl rfl rfl c9) rfl (ygeq (et rfl rfl) (et rfl rfl)) ?_
      refine Y wn rfl (ypf (v := .bool (decide ((x1.length : Int) ≤ x3))) (et rfl rfl) c9 (et rfl rfl)) ?_
      exact j2 _ _ ⟨e6_1, e6_2, e6_5, (congrArg Value.bool (orF c9)), hst⟩
  clear hst
  rintro f w ⟨e8_1, e8_2, e8_5, e8_29, hst⟩
  refine wpList_nil ?_
  refine k4 _ _ ?_
  rcases iteS hM with ⟨c10, hM⟩ | ⟨c10, hM⟩
  · refine condT (et rfl e8_29) c10 ?_
    refine seqQ fun Q5 k5 z5 => ?_
    refine wp_region_lit ?_
    refine Y wn rfl (ya (v := hnil.v) rfl) ?_
    refine wpList_nil ?_
    refine k5 _ _ ?_
    refine wp_ret ?_
    refine z3 _ _ _ rfl ?_
    obtain rfl := someI hM
    replace hst := hst.rowNh 22 (rS (rI .i64))
    exact hQ _ _ _ (fin1r Try.results38 ⟨rfl, rfl⟩ ⟨_, rfl, (hst.pk 2 [0] rfl)⟩)
  · refine condF (et rfl e8_29) (bfalse c10) ?_
    refine wp_skip ?_
    refine k3 _ _ ?_
    refine seqQ fun Q6 k6 z6 => ?_
    refine wp_region_lit ?_
    refine Y wn rfl (ym (v := .int .i64 (x1.length : Int)) (et rfl e8_5)) ?_
    obtain ⟨x13, gx13, hM⟩ := bs hM
    refine YH wn rfl (rMk hst SL_67 (et rfl rfl) gx13) ?_
    clear hst
    intro h11 w hst
    refine Y wn rfl (ya (v := h11.v) (et rfl rfl)) ?_
    refine wpList_nil ?_
    refine k6 _ _ ?_
    refine seqQ fun Q7 k7 z7 => ?_
    refine wp_region_lit ?_
    refine Y wn rfl (ym (v := h11.v) (et rfl rfl)) ?_
    refine Y wn rfl (ym (v := .int .i64 x3) (et rfl e8_1)) ?_
    obtain ⟨x14, gx14, hM⟩ := bs hM
    refine Y wn rfl (yIs SL_67 (et rfl rfl) (et rfl rfl) hst (rdO mhR) gx14) ?_
    refine YT wn rfl (r_sti (cs := [.bool true]) hst O_4 rfl (et rfl rfl) rfl rfl mkB gx14) ?_
    clear hst
    intro w hst
    refine wpList_nil ?_
    refine k7 _ _ ?_
    refine seqQ fun Q8 k8 z8 => ?_
    refine wp_region_lit ?_
    refine Y wn rfl (ym (v := .int .i64 x3) (et rfl e8_1)) ?_
    refine YH wn rfl (rLt (n := 1) (l := [x3]) hst SL_22 [.int .i64 x3] (bp1 (et rfl rfl)) rfl rfl (mks1 (cs := [.int .i64 x3]) rfl mkI mks0)) ?_
    clear hst
    intro h15 w hst
    refine Y wn rfl (ya (v := h15.v) (et rfl rfl)) ?_
    refine wpList_nil ?_
    refine k8 _ _ ?_
    refine seqQ fun Q9 k9 z9 => ?_
    refine wp_region_lit ?_
    refine Y wn rfl (ya (v := hnil.v) rfl) ?_
    refine wpList_nil ?_
    refine k9 _ _ ?_
    refine seqQ fun Q10 k10 z10 => ?_
    refine blockQ fun Q11 qb11 => ?_
    obtain ⟨o73, go73, hM⟩ := bs hM
    have je73_0 : ∀ (x391 : List (List Int)) (h390 : Hdr) (f : Nat → Value) (w : World), f 8 = h390.v → St w0 (ros) (row 22 (rS (rI .i64)) h390.v x391 :: rs) w → x391 = o73 → Q11 (.exit 0) (fr 107 f) w := by
      intro x391 h390 f w eje73_0_8 hst ho
      subst ho
      refine qb11 _ _ _ ?_
      refine k10 _ _ ?_
      refine seqQ fun Q192 k192 z192 => ?_
      refine wp_region_lit ?_
      refine Y wn rfl (ym (v := h390.v) (et rfl eje73_0_8)) ?_
      refine Y wn rfl (ya (v := h390.v) (et rfl rfl)) ?_
      refine wpList_nil ?_
      refine k192 _ _ ?_
      refine wp_ret ?_
      obtain rfl := someI hM
      exact hQ _ _ _ (fin1r Try.results38 ⟨rfl, rfl⟩ ⟨_, rfl, hst⟩)
    replace hst := hst.rowNh 22 (rS (rI .i64))
    refine loopQ (fun s a w => ∃ (x198 : List Bool) (x200 : List Int) (x202 : List (List Int)) (f : Nat → Value) (h199 : Hdr) (h201 : Hdr), (x198, x200, x202) = s ∧ a = fr 107 f ∧ f 2 = .pointer (some ⟨b4, 0, none⟩) ∧ f 5 = .int .i64 (x1.length : Int) ∧ f 6 = h11.v ∧ f 7 = h199.v ∧ f 8 = h201.v ∧ St w0 (ros) (box b4 27 [h2.v] :: row 4 rB h11.v x198 :: row 3 (rI .i64) h199.v x200 :: row 22 (rS (rI .i64)) h201.v x202 :: rs) w) go73 ⟨_, _, _, _, _, _, rfl, rfl, e8_2, e8_5, rfl, rfl, rfl, (hst.pk 4 [3, 2, 1, 0] rfl)⟩ ?_
    clear hst
    rintro _ _ w r73_ ⟨x198, x200, x202, f, h199, h201, rfl, rfl, e73_2, e73_5, e73_6, e73_7, e73_8, hst⟩ hM73 ho73 Q100073 n73 zz73
    refine seqQ fun Q193 k193 z193 => ?_
    refine seqQ fun Q194 k194 z194 => ?_
    refine wp_region_lit ?_
    refine Y wn rfl (ym (v := h199.v) (et rfl e73_7)) ?_
    refine Y wn rfl (yLen SL_22 (et rfl rfl) hst (rdO (mtR (mtR mhR)))) ?_
    refine Y wn rfl (ygtr (et rfl rfl) rfl) ?_
    refine wpList_nil ?_
    refine k194 _ _ ?_
    rcases iteS hM73 with ⟨c392, hM73⟩ | ⟨c392, hM73⟩
    · refine condT (et rfl rfl) (decide_eq_true c392) ?_
      refine wp_skip ?_
      refine k193 _ _ ?_
      refine blockQ fun Q195 qb195 => ?_
      refine seqQ fun Q196 k196 z196 => ?_
      refine wp_region_lit ?_
      refine Y wn rfl (ym (v := h201.v) (et rfl e73_8)) ?_
      refine Y wn rfl (ym (v := h199.v) (et rfl e73_7)) ?_
      replace hst := hst.pk 3 [2, 0, 0] rfl
      replace hst := hst.fz
      refine YH wn rfl (rLt (n := 1) (l := [x200]) hst SL_25 [h199.v] (bp1 (et rfl rfl)) rfl rfl (mks1 (cs := [h199.v]) rfl (mkS mhF) mks0)) ?_
      clear hst
      intro h393 w hst
      obtain ⟨x395, gx395, hM73⟩ := bs hM73
      replace hst := hst.pk 4 [3, 0, 0, 0] rfl
      refine YH wn rfl (rAp hst SL_25 (et rfl rfl) (et rfl rfl) (rdO (mtR mhR)) gx395) ?_
      clear hst
      intro h394 w hst
      refine Y wn rfl (ya (v := h394.v) (et rfl rfl)) ?_
      refine wpList_nil ?_
      refine k196 _ _ ?_
      refine seqQ fun Q197 k197 z197 => ?_
      refine wp_region_lit ?_
      refine Y wn rfl (ym (v := .int .i64 (x1.length : Int)) (et rfl e73_5)) ?_
      obtain ⟨x398, gx398, hM73⟩ := bs hM73
      refine YH wn rfl (rMk hst SL_67 (et rfl rfl) gx398) ?_
      clear hst
      intro h396 w hst
      refine Y wn rfl (ya (v := h396.v) (et rfl rfl)) ?_
      refine wpList_nil ?_
      refine k197 _ _ ?_
      refine seqQ fun Q198 k198 z198 => ?_
      refine seqQ fun Q199 k199 z199 => ?_
      refine wp_region_lit ?_
      refine Y wn rfl (ya (v := .int .i64 0) rfl) ?_
      refine wpList_nil ?_
      refine k199 _ _ ?_
      refine blockQ fun Q200 qb200 => ?_
      obtain ⟨o94, go94, hM73⟩ := bs hM73
      have je94_0 : ∀ (x481 : List Bool) (f : Nat → Value) (w : World), f 2 = .pointer (some ⟨b4, 0, none⟩) → f 5 = .int .i64 (x1.length : Int) → f 6 = h11.v → f 8 = h394.v → f 9 = h396.v → St w0 (ros) (box b4 27 [h2.v] :: row 4 rB h11.v x198 :: row 22 (rS (rI .i64)) h394.v x395 :: row 4 rB h396.v x481 :: rs) w → x481 = o94 → Q200 (.exit 2) (fr 107 f) w := by
        intro x481 f w eje94_0_2 eje94_0_5 eje94_0_6 eje94_0_8 eje94_0_9 hst ho
        subst ho
        refine qb200 _ _ _ ?_
        refine k198 _ _ ?_
        refine seqQ fun Q239 k239 z239 => ?_
        refine wp_region_lit ?_
        refine Y wn rfl (ya (v := hnil.v) rfl) ?_
        refine wpList_nil ?_
        refine k239 _ _ ?_
        refine seqQ fun Q240 k240 z240 => ?_
        refine seqQ fun Q241 k241 z241 => ?_
        refine wp_region_lit ?_
        refine Y wn rfl (ya (v := .int .i64 0) rfl) ?_
        refine wpList_nil ?_
        refine k241 _ _ ?_
        refine blockQ fun Q242 qb242 => ?_
        obtain ⟨o97, go97, hM73⟩ := bs hM73
        have je97_0 : ∀ (x518 : List Bool) (x520 : List Int) (h519 : Hdr) (f : Nat → Value) (w : World), f 2 = .pointer (some ⟨b4, 0, none⟩) → f 5 = .int .i64 (x1.length : Int) → f 6 = h11.v → f 8 = h394.v → f 13 = h519.v → St w0 (ros) (box b4 27 [h2.v] :: row 4 rB h11.v x518 :: row 22 (rS (rI .i64)) h394.v x395 :: row 3 (rI .i64) h519.v x520 :: rs) w → (x518, x520) = o97 → Q242 (.exit 6) (fr 107 f) w := by
          intro x518 x520 h519 f w eje97_0_2 eje97_0_5 eje97_0_6 eje97_0_8 eje97_0_13 hst ho
          subst ho
          refine qb242 _ _ _ ?_
          refine k240 _ _ ?_
          refine wp_region_lit ?_
          refine Y wn rfl (ym (v := h519.v) (et rfl eje97_0_13)) ?_
          refine Y wn rfl (ya (v := h519.v) (et rfl rfl)) ?_
          refine wpList_nil ?_
          refine qb195 _ _ _ ?_
          obtain rfl := someI hM73
          exact n73 _ _ _ rfl ⟨_, _, _, _, _, _, rfl, rfl, eje97_0_2, eje97_0_5, eje97_0_6, rfl, eje97_0_8, (hst.pk 4 [0, 0, 1, 0] rfl)⟩
        replace hst := hst.rowNh 3 (rI .i64)
        refine loopQ (fun s a w => ∃ (x496 : List Bool) (x498 : List Int) (x499 : Int) (f : Nat → Value) (h497 : Hdr), (x496, x498, x499) = s ∧ a = fr 107 f ∧ f 2 = .pointer (some ⟨b4, 0, none⟩) ∧ f 5 = .int .i64 (x1.length : Int) ∧ f 6 = h11.v ∧ f 8 = h394.v ∧ f 9 = h396.v ∧ f 13 = h497.v ∧ f 14 = .int .i64 x499 ∧ St w0 (ros) (box b4 27 [h2.v] :: row 4 rB h11.v x496 :: row 22 (rS (rI .i64)) h394.v x395 :: row 4 rB h396.v x481 :: row 3 (rI .i64) h497.v x498 :: rs) w) go97 ⟨_, _, _, _, _, rfl, rfl, eje94_0_2, eje94_0_5, eje94_0_6, eje94_0_8, eje94_0_9, rfl, rfl, (hst.pk 5 [1, 1, 1, 1, 0] rfl)⟩ ?_
        clear hst
        rintro _ _ w r97_ ⟨x496, x498, x499, f, h497, rfl, rfl, e97_2, e97_5, e97_6, e97_8, e97_9, e97_13, e97_14, hst⟩ hM97 ho97 Q100097 n97 zz97
        refine seqQ fun Q257 k257 z257 => ?_
        refine seqQ fun Q258 k258 z258 => ?_
        refine wp_region_lit ?_
        refine Y wn rfl (ym (v := .int .i64 x499) (et rfl e97_14)) ?_
        refine Y wn rfl (ym (v := .int .i64 (x1.length : Int)) (et rfl e97_5)) ?_
        refine Y wn rfl (ylss (et rfl rfl) (et rfl rfl)) ?_
        refine wpList_nil ?_
        refine k258 _ _ ?_
        rcases iteS hM97 with ⟨c521, hM97⟩ | ⟨c521, hM97⟩
        · refine condT (et rfl rfl) (decide_eq_true c521) ?_
          refine wp_skip ?_
          refine k257 _ _ ?_
          refine seqQ fun Q259 k259 z259 => ?_
          refine blockQ fun Q260 qb260 => ?_
          refine seqQ fun Q261 k261 z261 => ?_
          refine wp_region_lit ?_
          refine Y wn rfl (ym (v := h396.v) (et rfl e97_9)) ?_
          refine Y wn rfl (ym (v := .int .i64 x499) (et rfl e97_14)) ?_
          obtain ⟨x522, gx522, hM97⟩ := bs hM97
          refine Y wn rfl (yIa SL_67 (et rfl rfl) (et rfl rfl) hst (rdO (mtR (mtR (mtR mhR)))) gx522) ?_
          refine Y wn rfl (yB O_4 (et rfl rfl) hst (rdO (mtR (mtR (mtR mhR)))) gx522) ?_
          refine wpList_nil ?_
          refine k261 _ _ ?_
          have j98 : ∀ (x527 : List Bool) (x529 : List Int) (h528 : Hdr) (f : Nat → Value) (w : World), f 2 = .pointer (some ⟨b4, 0, none⟩) → f 5 = .int .i64 (x1.length : Int) → f 6 = h11.v → f 8 = h394.v → f 9 = h396.v → f 13 = h528.v → f 14 = .int .i64 x499 → St w0 (ros) (box b4 27 [h2.v] :: row 4 rB h11.v x527 :: row 22 (rS (rI .i64)) h394.v x395 :: row 4 rB h396.v x481 :: row 3 (rI .i64) h528.v x529 :: rs) w → sparseref12_Levels_j98 x499 x527 x529 = some r97_ → Q260 .normal (fr 107 f) w := by
            intro x527 x529 h528 f w ej98_2 ej98_5 ej98_6 ej98_8 ej98_9 ej98_13 ej98_14 hst hM
            refine qb260 _ _ _ ?_
            refine k259 _ _ ?_
            refine wp_region_lit ?_
            refine Y wn rfl (ym (v := .int .i64 x499) (et rfl ej98_14)) ?_
            refine Y wn rfl (yadd (et rfl rfl) rfl) ?_
            refine Y wn rfl (ya (v := .int .i64 (wa .i64 x499 1)) (et rfl rfl)) ?_
            refine wpList_nil ?_
            obtain rfl := someI hM
            exact n97 _ _ _ rfl ⟨_, _, _, _, _, rfl, rfl, ej98_2, ej98_5, ej98_6, ej98_8, ej98_9, ej98_13, rfl, hst⟩
          rcases iteS hM97 with ⟨c530, hM97⟩ | ⟨c530, hM97⟩
          · refine condT (et rfl rfl) c530 ?_
            refine seqQ fun Q263 k263 z263 => ?_
            refine wp_region_lit ?_
            refine Y wn rfl (ym (v := h497.v) (et rfl e97_13)) ?_
            refine Y wn rfl (ym (v := .int .i64 x499) (et rfl e97_14)) ?_
            refine YH wn rfl (rLt (n := 1) (l := [x499]) hst SL_22 [.int .i64 x499] (bp1 (et rfl rfl)) rfl rfl (mks1 (cs := [.int .i64 x499]) rfl mkI mks0)) ?_
            clear hst
            intro h531 w hst
            obtain ⟨x533, gx533, hM97⟩ := bs hM97
            replace hst := hst.pk 6 [5, 0, 0, 0, 0, 0] rfl
            refine YH wn rfl (rAp hst SL_22 (et rfl rfl) (et rfl rfl) (rdO (mtR mhR)) gx533) ?_
            clear hst
            intro h532 w hst
            refine Y wn rfl (ya (v := h532.v) (et rfl rfl)) ?_
            refine wpList_nil ?_
            refine k263 _ _ ?_
            refine wp_region_lit ?_
            refine Y wn rfl (ym (v := h11.v) (et rfl e97_6)) ?_
            refine Y wn rfl (ym (v := .int .i64 x499) (et rfl e97_14)) ?_
            obtain ⟨x534, gx534, hM97⟩ := bs hM97
            refine Y wn rfl (yIs SL_67 (et rfl rfl) (et rfl rfl) hst (rdO (mtR (mtR (mtR mhR)))) gx534) ?_
            replace hst := hst.pk 4 [3, 0, 0, 0] rfl
            refine YT wn rfl (r_sti (cs := [.bool true]) hst O_4 rfl (et rfl rfl) rfl rfl mkB gx534) ?_
            clear hst
            intro w hst
            refine wpList_nil ?_
            exact j98 _ _ _ _ _ e97_2 e97_5 e97_6 e97_8 e97_9 rfl e97_14 (hst.pk 6 [3, 0, 2, 2, 0] rfl) hM97
          · refine condF (et rfl rfl) (bfalse c530) ?_
            refine wp_skip ?_
            exact j98 _ _ _ _ _ e97_2 e97_5 e97_6 e97_8 e97_9 e97_13 e97_14 hst hM97
        · refine condF (et rfl rfl) (decide_eq_false c521) ?_
          refine wp_exit ?_
          refine z257 _ _ _ rfl ?_
          obtain rfl := someI hM97
          refine zz97 _ _ _ _ rfl rfl ?_
          exact je97_0 _ _ _ _ _ e97_2 e97_5 e97_6 e97_8 e97_13 (hst.pk 5 [0, 0, 0, 1] rfl) (ho97 _ rfl)
      refine loopQ (fun s a w => ∃ (x438 : List Bool) (x439 : Int) (f : Nat → Value), (x438, x439) = s ∧ a = fr 107 f ∧ f 2 = .pointer (some ⟨b4, 0, none⟩) ∧ f 5 = .int .i64 (x1.length : Int) ∧ f 6 = h11.v ∧ f 7 = h199.v ∧ f 8 = h394.v ∧ f 9 = h396.v ∧ f 10 = .int .i64 x439 ∧ St w0 (imm (rI .i64) h199.v x200 :: ros) (box b4 27 [h2.v] :: row 4 rB h11.v x198 :: row 22 (rS (rI .i64)) h394.v x395 :: row 4 rB h396.v x438 :: rs) w) go94 ⟨_, _, _, rfl, rfl, e73_2, e73_5, e73_6, e73_7, rfl, rfl, rfl, (hst.pk 5 [3, 3, 1, 0] rfl)⟩ ?_
      clear hst
      rintro _ _ w r94_ ⟨x438, x439, f, rfl, rfl, e94_2, e94_5, e94_6, e94_7, e94_8, e94_9, e94_10, hst⟩ hM94 ho94 Q100094 n94 zz94
      refine seqQ fun Q264 k264 z264 => ?_
      refine seqQ fun Q265 k265 z265 => ?_
      refine wp_region_lit ?_
      refine Y wn rfl (ym (v := .int .i64 x439) (et rfl e94_10)) ?_
      refine Y wn rfl (ym (v := h199.v) (et rfl e94_7)) ?_
      refine Y wn rfl (yLen SL_22 (et rfl rfl) hst (rdI mhF)) ?_
      refine Y wn rfl (ylss (et rfl rfl) (et rfl rfl)) ?_
      refine wpList_nil ?_
      refine k265 _ _ ?_
      rcases iteS hM94 with ⟨c535, hM94⟩ | ⟨c535, hM94⟩
      · refine condT (et rfl rfl) (decide_eq_true c535) ?_
        refine wp_skip ?_
        refine k264 _ _ ?_
        refine seqQ fun Q266 k266 z266 => ?_
        refine blockQ fun Q267 qb267 => ?_
        refine seqQ fun Q268 k268 z268 => ?_
        obtain ⟨x536, gx536, hM94⟩ := bs hM94
        obtain ⟨x537, gx537, hM94⟩ := bs hM94
        refine wp_drawR [0, 1, 0, 0, 12, 28, 63, 127, 255] [8] 1 folM (by kernel_rfl) (by kernel_rfl) (by kernel_rfl) ?_
        replace hst := hst.drew
        refine DRn (l1 := [0, 1, 2, 3, 4, 5, 6, 7]) (l2 := []) (lc := [8]) (by kernel_rfl) (by kernel_rfl) (by kernel_rfl) ?_
        refine Ry rfl rfl wn (yFb FL_27_0 (et rfl e94_2)) ?_
        refine Ry rfl rfl wn (yLb (u := h2.v) O_25 (et rfl rfl) hst mhR rfl) ?_
        refine Ry rfl rfl wn (ym (v := h199.v) (et rfl e94_7)) ?_
        refine Ry rfl rfl wn (ym (v := .int .i64 x439) (et rfl e94_10)) ?_
        refine Ry rfl rfl wn (yIa SL_22 (et rfl rfl) (et rfl rfl) hst (rdI mhF) gx536) ?_
        refine Ry rfl rfl wn (yI O_3 (et rfl rfl) hst (rdI mhF) gx536) ?_
        refine Ry rfl rfl wn (yIa SL_25 (et rfl rfl) (et rfl rfl) hst (rdI (mtF q1)) gx537) ?_
        obtain ⟨h538, hst⟩ := iLs hst (mtF q1) gx537
        refine Ry rfl rfl wn (yCt O_22 (et rfl rfl) hst (mtF mhF) rfl) ?_
        refine Rn QSn ?_
        refine Lc rfl ?_ LAn
        refine Ly wn (ya (v := h538.v) (et rfl rfl)) ?_
        refine DRz (l1 := []) (l2 := []) (by kernel_rfl) (by kernel_rfl) ?_
        refine Rn QSn ?_
        refine k268 _ _ ?_
        refine seqQ fun Q269 k269 z269 => ?_
        refine wp_region_lit ?_
        refine Y wn rfl (ya (v := .int .i64 0) rfl) ?_
        refine wpList_nil ?_
        refine k269 _ _ ?_
        refine blockQ fun Q270 qb270 => ?_
        obtain ⟨o105, go105, hM94⟩ := bs hM94
        have je105_0 : ∀ (x563 : List Bool) (f : Nat → Value) (w : World), f 2 = .pointer (some ⟨b4, 0, none⟩) → f 5 = .int .i64 (x1.length : Int) → f 6 = h11.v → f 7 = h199.v → f 8 = h394.v → f 9 = h396.v → f 10 = .int .i64 x439 → St w0 (imm (rI .i64) h199.v x200 :: ros) (box b4 27 [h2.v] :: row 4 rB h11.v x198 :: row 22 (rS (rI .i64)) h394.v x395 :: row 4 rB h396.v x563 :: rs) w → x563 = o105 → Q270 (.exit 4) (fr 107 f) w := by
          intro x563 f w eje105_0_2 eje105_0_5 eje105_0_6 eje105_0_7 eje105_0_8 eje105_0_9 eje105_0_10 hst ho
          subst ho
          refine qb270 _ _ _ ?_
          refine qb267 _ _ _ ?_
          refine k266 _ _ ?_
          refine wp_region_lit ?_
          refine Y wn rfl (ym (v := .int .i64 x439) (et rfl eje105_0_10)) ?_
          refine Y wn rfl (yadd (et rfl rfl) rfl) ?_
          refine Y wn rfl (ya (v := .int .i64 (wa .i64 x439 1)) (et rfl rfl)) ?_
          refine wpList_nil ?_
          obtain rfl := someI hM94
          exact n94 _ _ _ rfl ⟨_, _, _, rfl, rfl, eje105_0_2, eje105_0_5, eje105_0_6, eje105_0_7, eje105_0_8, eje105_0_9, rfl, hst⟩
        refine loopQ (fun s a w => ∃ (x549 : List Bool) (x550 : Int) (f : Nat → Value), (x549, x550) = s ∧ a = fr 107 f ∧ f 2 = .pointer (some ⟨b4, 0, none⟩) ∧ f 5 = .int .i64 (x1.length : Int) ∧ f 6 = h11.v ∧ f 7 = h199.v ∧ f 8 = h394.v ∧ f 9 = h396.v ∧ f 10 = .int .i64 x439 ∧ f 11 = h538.v ∧ f 12 = .int .i64 x550 ∧ St w0 (imm (rI .i64) h199.v x200 :: imm (rI .i64) h538.v x537 :: ros) (box b4 27 [h2.v] :: row 4 rB h11.v x198 :: row 22 (rS (rI .i64)) h394.v x395 :: row 4 rB h396.v x549 :: rs) w) go105 ⟨_, _, _, rfl, rfl, e94_2, e94_5, e94_6, e94_7, e94_8, e94_9, e94_10, rfl, rfl, (hst.facts (allC (mtF (mtF mhF)) (allC mhF (allT (allT (allT allI))))))⟩ ?_
        clear hst
        rintro _ _ w r105_ ⟨x549, x550, f, rfl, rfl, e105_2, e105_5, e105_6, e105_7, e105_8, e105_9, e105_10, e105_11, e105_12, hst⟩ hM105 ho105 Q100105 n105 zz105
        refine seqQ fun Q279 k279 z279 => ?_
        refine seqQ fun Q280 k280 z280 => ?_
        refine wp_region_lit ?_
        refine Y wn rfl (ym (v := .int .i64 x550) (et rfl e105_12)) ?_
        refine Y wn rfl (ym (v := h538.v) (et rfl e105_11)) ?_
        refine Y wn rfl (yLen SL_22 (et rfl rfl) hst (rdI (mtF mhF))) ?_
        refine Y wn rfl (ylss (et rfl rfl) (et rfl rfl)) ?_
        refine wpList_nil ?_
        refine k280 _ _ ?_
        rcases iteS hM105 with ⟨c564, hM105⟩ | ⟨c564, hM105⟩
        · refine condT (et rfl rfl) (decide_eq_true c564) ?_
          refine wp_skip ?_
          refine k279 _ _ ?_
          refine seqQ fun Q281 k281 z281 => ?_
          refine blockQ fun Q282 qb282 => ?_
          obtain ⟨x565, gx565, hM105⟩ := bs hM105
          obtain ⟨x566, gx566, hM105⟩ := bs hM105
          obtain ⟨x567, gx567, hM105⟩ := bs hM105
          obtain ⟨r568, gr568, hM105⟩ := bs hM105
          obtain ⟨x569, gx569, hM105⟩ := bs hM105
          refine joinN (n := 107) (fun f w => f 2 = .pointer (some ⟨b4, 0, none⟩) ∧ f 5 = .int .i64 (x1.length : Int) ∧ f 6 = h11.v ∧ f 7 = h199.v ∧ f 8 = h394.v ∧ f 9 = h396.v ∧ f 10 = .int .i64 x439 ∧ f 11 = h538.v ∧ f 12 = .int .i64 x550 ∧ St w0 (imm (rI .i64) h199.v x200 :: imm (rI .i64) h538.v x537 :: ros) (box b4 27 [h2.v] :: row 4 rB h11.v x198 :: row 22 (rS (rI .i64)) h394.v x395 :: row 4 rB h396.v x569 :: rs) w) (fun j106 => ?_) ?_
          · rcases iteS gr568 with ⟨c571, gr568⟩ | ⟨c571, gr568⟩
            · have hr107 := someI gr568
              refine wp_drawR [0, 0, 0, 6, 14, 0, 0, 0, 192, 448, 992, 2016, 4064, 8160, 8160, 8160, 57312, 122848, 262112, 524256, 1048544, 2097120, 4194303, 8388607] [23] 1 folM (by kernel_rfl) (by kernel_rfl) (by kernel_rfl) ?_
              replace hst := hst.drew
              refine DRn (l1 := [0, 1, 2, 3, 4, 5, 6, 7, 8, 9, 10, 11, 12, 13, 14, 15, 16, 17, 18, 19, 20, 21, 22]) (l2 := []) (lc := [23]) (by kernel_rfl) (by kernel_rfl) (by kernel_rfl) ?_
              refine Ry rfl rfl wn (ym (v := h396.v) (et rfl e105_9)) ?_
              refine Ry rfl rfl wn (ym (v := h538.v) (et rfl e105_11)) ?_
              refine Ry rfl rfl wn (ym (v := .int .i64 x550) (et rfl e105_12)) ?_
              refine Ry rfl rfl wn (yIa SL_22 (et rfl rfl) (et rfl rfl) hst (rdI (mtF mhF)) gx565) ?_
              refine Ry rfl rfl wn (yI O_3 (et rfl rfl) hst (rdI (mtF mhF)) gx565) ?_
              refine Ry rfl rfl wn (ym (v := h396.v) (et rfl e105_9)) ?_
              refine Ry rfl rfl wn (ym (v := h538.v) (et rfl e105_11)) ?_
              refine Ry rfl rfl wn (ym (v := .int .i64 x550) (et rfl e105_12)) ?_
              refine Ry rfl rfl wn (yIa SL_22 (et rfl rfl) (et rfl rfl) hst (rdI (mtF mhF)) gx566) ?_
              refine Ry rfl rfl wn (yI O_3 (et rfl rfl) hst (rdI (mtF mhF)) gx566) ?_
              refine Ry rfl rfl wn (yIa SL_67 (et rfl rfl) (et rfl rfl) hst (rdO (mtR (mtR (mtR mhR)))) gx567) ?_
              refine Ry rfl rfl wn (yB O_4 (et rfl rfl) hst (rdO (mtR (mtR (mtR mhR)))) gx567) ?_
              refine Ry rfl rfl wn (ym (v := .bool x567) (et rfl rfl)) ?_
              refine Rx rfl rfl (wx rfl rfl rfl c571) ?_
              refine Rx rfl rfl (wx rfl rfl rfl c571) ?_
              refine Rx rfl rfl (wx rfl rfl rfl c571) ?_
              refine Rx rfl rfl (wx rfl rfl rfl c571) ?_
              refine Rx rfl rfl (wx rfl rfl rfl c571) ?_
              refine Rx rfl rfl (wx rfl rfl rfl c571) ?_
              refine Rx rfl rfl (wx rfl rfl rfl c571) ?_
              refine Rx rfl rfl (wx rfl rfl rfl c571) ?_
              refine Ry rfl rfl wn (ypt (v := .bool r568) (et rfl rfl) c571 (eqv hr107 rfl)) ?_
              refine Ry rfl rfl wn (yIs SL_67 (et rfl rfl) (et rfl rfl) hst (rdO (mtR (mtR (mtR mhR)))) gx569) ?_
              refine Rn QSn ?_
              refine Lc rfl ?_ LAn
              replace hst := hst.pk 4 [3, 0, 0, 0] rfl
              refine LT wn (r_sti (cs := [.bool r568]) hst O_4 rfl (et rfl rfl) (et rfl rfl) rfl mkB gx569) ?_
              clear hst
              intro w hst
              refine DRz (l1 := []) (l2 := []) (by kernel_rfl) (by kernel_rfl) ?_
              refine Rn QSn ?_
              exact j106 _ _ ⟨e105_2, e105_5, e105_6, e105_7, e105_8, e105_9, e105_10, e105_11, e105_12, (hst.pk 4 [1, 1, 1, 0] rfl)⟩
            · obtain ⟨x572, gx572, gr568⟩ := bs gr568
              obtain ⟨x573, gx573, gr568⟩ := bs gr568
              have hr108 := someI gr568
              refine wp_drawR [0, 0, 0, 6, 14, 0, 0, 0, 192, 448, 992, 2016, 4064, 8160, 8160, 8160, 57312, 122848, 262112, 524256, 1048544, 2097120, 4194303, 8388607] [23] 1 folM (by kernel_rfl) (by kernel_rfl) (by kernel_rfl) ?_
              replace hst := hst.drew
              refine DRn (l1 := [0, 1, 2, 3, 4, 5, 6, 7, 8, 9, 10, 11, 12, 13, 14, 15, 16, 17, 18, 19, 20, 21, 22]) (l2 := []) (lc := [23]) (by kernel_rfl) (by kernel_rfl) (by kernel_rfl) ?_
              refine Ry rfl rfl wn (ym (v := h396.v) (et rfl e105_9)) ?_
              refine Ry rfl rfl wn (ym (v := h538.v) (et rfl e105_11)) ?_
              refine Ry rfl rfl wn (ym (v := .int .i64 x550) (et rfl e105_12)) ?_
              refine Ry rfl rfl wn (yIa SL_22 (et rfl rfl) (et rfl rfl) hst (rdI (mtF mhF)) gx565) ?_
              refine Ry rfl rfl wn (yI O_3 (et rfl rfl) hst (rdI (mtF mhF)) gx565) ?_
              refine Ry rfl rfl wn (ym (v := h396.v) (et rfl e105_9)) ?_
              refine Ry rfl rfl wn (ym (v := h538.v) (et rfl e105_11)) ?_
              refine Ry rfl rfl wn (ym (v := .int .i64 x550) (et rfl e105_12)) ?_
              refine Ry rfl rfl wn (yIa SL_22 (et rfl rfl) (et rfl rfl) hst (rdI (mtF mhF)) gx566) ?_
              refine Ry rfl rfl wn (yI O_3 (et rfl rfl) hst (rdI (mtF mhF)) gx566) ?_
              refine Ry rfl rfl wn (yIa SL_67 (et rfl rfl) (et rfl rfl) hst (rdO (mtR (mtR (mtR mhR)))) gx567) ?_
              refine Ry rfl rfl wn (yB O_4 (et rfl rfl) hst (rdO (mtR (mtR (mtR mhR)))) gx567) ?_
              refine Ry rfl rfl wn (ym (v := .bool x567) (et rfl rfl)) ?_
              refine Ry rfl rfl (wg rfl rfl rfl (bfalse c571)) (ym (v := h11.v) (et rfl e105_6)) ?_
              refine Ry rfl rfl (wg rfl rfl rfl (bfalse c571)) (ym (v := h538.v) (et rfl e105_11)) ?_
              refine Ry rfl rfl (wg rfl rfl rfl (bfalse c571)) (ym (v := .int .i64 x550) (et rfl e105_12)) ?_
              refine Ry rfl rfl (wg rfl rfl rfl (bfalse c571)) (yIa SL_22 (et rfl rfl) (et rfl rfl) hst (rdI (mtF mhF)) gx572) ?_
              refine Ry rfl rfl (wg rfl rfl rfl (bfalse c571)) (yI O_3 (et rfl rfl) hst (rdI (mtF mhF)) gx572) ?_
              refine Ry rfl rfl (wg rfl rfl rfl (bfalse c571)) (yIa SL_67 (et rfl rfl) (et rfl rfl) hst (rdO (mtR mhR)) gx573) ?_
              refine Ry rfl rfl (wg rfl rfl rfl (bfalse c571)) (yB O_4 (et rfl rfl) hst (rdO (mtR mhR)) gx573) ?_
              refine Ry rfl rfl (wg rfl rfl rfl (bfalse c571)) (ynot (et rfl rfl)) ?_
              refine Ry rfl rfl wn (ypf (v := .bool r568) (et rfl rfl) (bfalse c571) (eqv hr108 (et rfl rfl))) ?_
              refine Ry rfl rfl wn (yIs SL_67 (et rfl rfl) (et rfl rfl) hst (rdO (mtR (mtR (mtR mhR)))) gx569) ?_
              refine Rn QSn ?_
              refine Lc rfl ?_ LAn
              replace hst := hst.pk 4 [3, 0, 0, 0] rfl
              refine LT wn (r_sti (cs := [.bool r568]) hst O_4 rfl (et rfl rfl) (et rfl rfl) rfl mkB gx569) ?_
              clear hst
              intro w hst
              refine DRz (l1 := []) (l2 := []) (by kernel_rfl) (by kernel_rfl) ?_
              refine Rn QSn ?_
              exact j106 _ _ ⟨e105_2, e105_5, e105_6, e105_7, e105_8, e105_9, e105_10, e105_11, e105_12, (hst.pk 4 [1, 1, 1, 0] rfl)⟩
          clear hst
          rintro f w ⟨e570_2, e570_5, e570_6, e570_7, e570_8, e570_9, e570_10, e570_11, e570_12, hst⟩
          refine qb282 _ _ _ ?_
          refine k281 _ _ ?_
          refine wp_region_lit ?_
          refine Y wn rfl (ym (v := .int .i64 x550) (et rfl e570_12)) ?_
          refine Y wn rfl (yadd (et rfl rfl) rfl) ?_
          refine Y wn rfl (ya (v := .int .i64 (wa .i64 x550 1)) (et rfl rfl)) ?_
          refine wpList_nil ?_
          obtain rfl := someI hM105
          exact n105 _ _ _ rfl ⟨_, _, _, rfl, rfl, e570_2, e570_5, e570_6, e570_7, e570_8, e570_9, e570_10, e570_11, rfl, hst⟩
        · refine condF (et rfl rfl) (decide_eq_false c564) ?_
          refine wp_exit ?_
          refine z279 _ _ _ rfl ?_
          obtain rfl := someI hM105
          refine zz105 _ _ _ _ rfl rfl ?_
          exact je105_0 _ _ _ e105_2 e105_5 e105_6 e105_7 e105_8 e105_9 e105_10 (hst.facts (allC mhF (allT (allT allI)))) (ho105 _ rfl)
      · refine condF (et rfl rfl) (decide_eq_false c535) ?_
        refine wp_exit ?_
        refine z264 _ _ _ rfl ?_
        obtain rfl := someI hM94
        refine zz94 _ _ _ _ rfl rfl ?_
        exact je94_0 _ _ _ e94_2 e94_5 e94_6 e94_8 e94_9 (hst.facts (allT allI)) (ho94 _ rfl)
    · refine condF (et rfl rfl) (decide_eq_false c392) ?_
      refine wp_exit ?_
      refine z193 _ _ _ rfl ?_
      obtain rfl := someI hM73
      refine zz73 _ _ _ _ rfl rfl ?_
      exact je73_0 _ _ _ _ e73_8 (hst.pk 4 [3] rfl) (ho73 _ rfl)

theorem sparseref12_Components_ok {w0 : World} {ros : List Fact} {rs : List Res} {w : World} {x1 : List (List Int)} {h2 : Hdr} {out : (List (List Int))} (hM : sparseref12_Components x1 = some out) (q1 : imm (rS (rI .i64)) h2.v x1 ∈ ros) (hst : St w0 ros (rs) w) :
    Calls Try.prog 37 #[.agg #[h2.v]] w (fun e w => ∃ (h100001 : Hdr), e = .returned (h100001.v) ∧ St w0 (ros) (row 22 (rS (rI .i64)) h100001.v out :: rs) w) := by
  refine enterQ Try.func37 rfl Try.ntmps37 rfl fun Q hQ => ?_
  refine seqQ fun Q1 k1 z1 => ?_
  refine wp_region_lit ?_
  refine YB wn rfl (r_box (vals := [h2.v]) hst (et rfl rfl) rfl) ?_
  clear hst
  intro b3 w hst
  refine Y wn rfl (ya (v := hnil.v) rfl) ?_
  refine wpList_nil ?_
  refine k1 _ _ ?_
  refine seqQ fun Q2 k2 z2 => ?_
  refine seqQ fun Q3 k3 z3 => ?_
  refine wp_region_lit ?_
  refine Y wn rfl (yLbs (us := [h2.v]) ST_27 (et rfl rfl) hst mhR rfl rfl) ?_
  obtain ⟨r4, gr4, hM⟩ := bs hM
  refine Yc wn rfl (yCall FN_62 (a1 (et rfl rfl))) (sparseref12_Check_ok (hM := gr4) (hst := hst) (q1 := q1)) ?_
  clear hst
  rintro _ w ⟨rfl, hst⟩
  refine ⟨_, rfl, ?_⟩
  refine Y wn rfl (yneq (et rfl rfl) rfl) ?_
  refine wpList_nil ?_
  refine k3 _ _ ?_
  rcases iteS hM with ⟨c5, hM⟩ | ⟨c5, hM⟩
  · refine condF (et rfl rfl) (nF (decide_eq_true c5)) ?_
    refine wp_skip ?_
    refine k2 _ _ ?_
    refine seqQ fun Q4 k4 z4 => ?_
    refine wp_region_lit ?_
    refine Y wn rfl (yFb FL_27_0 (et rfl rfl)) ?_
    refine Y wn rfl (yLb (u := h2.v) O_25 (et rfl rfl) hst mhR rfl) ?_
    refine Y wn rfl (yLen SL_25 (et rfl rfl) hst (rdI q1)) ?_
    refine Y wn rfl (ya (v := .int .i64 (x1.length : Int)) (et rfl rfl)) ?_
    refine wpList_nil ?_
    refine k4 _ _ ?_
    refine seqQ fun Q5 k5 z5 => ?_
    refine wp_region_lit ?_
    refine Y wn rfl (ym (v := .int .i64 (x1.length : Int)) (et rfl rfl)) ?_
    obtain ⟨x8, gx8, hM⟩ := bs hM
    refine YH wn rfl (rMk hst SL_67 (et rfl rfl) gx8) ?_
    clear hst
    intro h6 w hst
    refine Y wn rfl (ya (v := h6.v) (et rfl rfl)) ?_
    refine wpList_nil ?_
    refine k5 _ _ ?_
    refine seqQ fun Q6 k6 z6 => ?_
    refine wp_region_lit ?_
    refine Y wn rfl (ya (v := hnil.v) rfl) ?_
    refine wpList_nil ?_
    refine k6 _ _ ?_
    refine seqQ fun Q7 k7 z7 => ?_
    refine seqQ fun Q8 k8 z8 => ?_
    refine wp_region_lit ?_
    refine Y wn rfl (ya (v := .int .i64 0) rfl) ?_
    refine wpList_nil ?_
    refine k8 _ _ ?_
    refine blockQ fun Q9 qb9 => ?_
    obtain ⟨o51, go51, hM⟩ := bs hM
    have je51_0 : ∀ (x920 : List (List Int)) (h919 : Hdr) (f : Nat → Value) (w : World), f 5 = h919.v → St w0 (ros) (row 22 (rS (rI .i64)) h919.v x920 :: rs) w → x920 = o51 → Q9 (.exit 0) (fr 80 f) w := by
      intro x920 h919 f w eje51_0_5 hst ho
      subst ho
      refine qb9 _ _ _ ?_
      refine k7 _ _ ?_
      refine seqQ fun Q538 k538 z538 => ?_
      refine wp_region_lit ?_
      refine Y wn rfl (ym (v := h919.v) (et rfl eje51_0_5)) ?_
      refine Y wn rfl (ya (v := h919.v) (et rfl rfl)) ?_
      refine wpList_nil ?_
      refine k538 _ _ ?_
      refine wp_ret ?_
      obtain rfl := someI hM
      exact hQ _ _ _ (fin1r Try.results37 ⟨rfl, rfl⟩ ⟨_, rfl, hst⟩)
    replace hst := hst.rowNh 22 (rS (rI .i64))
    refine loopQ (fun s a w => ∃ (x460 : List Bool) (x462 : List (List Int)) (x463 : Int) (f : Nat → Value) (h461 : Hdr), (x460, x462, x463) = s ∧ a = fr 80 f ∧ f 1 = .pointer (some ⟨b3, 0, none⟩) ∧ f 3 = .int .i64 (x1.length : Int) ∧ f 4 = h6.v ∧ f 5 = h461.v ∧ f 6 = .int .i64 x463 ∧ St w0 (ros) (box b3 27 [h2.v] :: row 4 rB h6.v x460 :: row 22 (rS (rI .i64)) h461.v x462 :: rs) w) go51 ⟨_, _, _, _, _, rfl, rfl, rfl, rfl, rfl, rfl, rfl, (hst.pk 3 [2, 1, 0] rfl)⟩ ?_
    clear hst
    rintro _ _ w r51_ ⟨x460, x462, x463, f, h461, rfl, rfl, e51_1, e51_3, e51_4, e51_5, e51_6, hst⟩ hM51 ho51 Q100051 n51 zz51
    refine seqQ fun Q539 k539 z539 => ?_
    refine seqQ fun Q540 k540 z540 => ?_
    refine wp_region_lit ?_
    refine Y wn rfl (ym (v := .int .i64 x463) (et rfl e51_6)) ?_
    refine Y wn rfl (ym (v := .int .i64 (x1.length : Int)) (et rfl e51_3)) ?_
    refine Y wn rfl (ylss (et rfl rfl) (et rfl rfl)) ?_
    refine wpList_nil ?_
    refine k540 _ _ ?_
    rcases iteS hM51 with ⟨c921, hM51⟩ | ⟨c921, hM51⟩
    · refine condT (et rfl rfl) (decide_eq_true c921) ?_
      refine wp_skip ?_
      refine k539 _ _ ?_
      refine seqQ fun Q541 k541 z541 => ?_
      have j68 : ∀ (x1220 : List Bool) (x1222 : List (List Int)) (h1221 : Hdr) (f : Nat → Value) (w : World), f 1 = .pointer (some ⟨b3, 0, none⟩) → f 3 = .int .i64 (x1.length : Int) → f 4 = h6.v → f 5 = h1221.v → f 6 = .int .i64 x463 → St w0 (ros) (box b3 27 [h2.v] :: row 4 rB h6.v x1220 :: row 22 (rS (rI .i64)) h1221.v x1222 :: rs) w → sparseref12_Components_j68 x463 x1220 x1222 = some r51_ → Q541 .normal (fr 80 f) w := by
        intro x1220 x1222 h1221 f w ej68_1 ej68_3 ej68_4 ej68_5 ej68_6 hst hM
        refine k541 _ _ ?_
        refine wp_region_lit ?_
        refine Y wn rfl (ym (v := .int .i64 x463) (et rfl ej68_6)) ?_
        refine Y wn rfl (yadd (et rfl rfl) rfl) ?_
        refine Y wn rfl (ya (v := .int .i64 (wa .i64 x463 1)) (et rfl rfl)) ?_
        refine wpList_nil ?_
        obtain rfl := someI hM
        exact n51 _ _ _ rfl ⟨_, _, _, _, _, rfl, rfl, ej68_1, ej68_3, ej68_4, ej68_5, rfl, hst⟩
      refine blockQ fun Q716 qb716 => ?_
      refine seqQ fun Q717 k717 z717 => ?_
      refine seqQ fun Q718 k718 z718 => ?_
      refine wp_region_lit ?_
      refine Y wn rfl (ym (v := h6.v) (et rfl e51_4)) ?_
      refine Y wn rfl (ym (v := .int .i64 x463) (et rfl e51_6)) ?_
      obtain ⟨x1223, gx1223, hM51⟩ := bs hM51
      refine Y wn rfl (yIa SL_67 (et rfl rfl) (et rfl rfl) hst (rdO (mtR mhR)) gx1223) ?_
      refine Y wn rfl (yB O_4 (et rfl rfl) hst (rdO (mtR mhR)) gx1223) ?_
      refine wpList_nil ?_
      refine k718 _ _ ?_
      rcases iteS hM51 with ⟨c1224, hM51⟩ | ⟨c1224, hM51⟩
      · refine condT (et rfl rfl) c1224 ?_
        refine wp_exit ?_
        refine z717 _ _ _ rfl ?_
        refine qb716 _ _ _ ?_
        exact j68 _ _ _ _ _ e51_1 e51_3 e51_4 e51_5 e51_6 hst hM51
      · refine condF (et rfl rfl) (bfalse c1224) ?_
        refine wp_skip ?_
        refine k717 _ _ ?_
        refine seqQ fun Q719 k719 z719 => ?_
        refine wp_region_lit ?_
        refine Y wn rfl (yLbs (us := [h2.v]) ST_27 (et rfl e51_1) hst mhR rfl rfl) ?_
        refine Y wn rfl (ym (v := .int .i64 x463) (et rfl e51_6)) ?_
        obtain ⟨r1225, gr1225, hM51⟩ := bs hM51
        refine Yc wn rfl (yCall FN_38 (a2 (et rfl rfl) (et rfl rfl))) (sparseref12_Levels_ok (hM := gr1225) (hst := hst) (q1 := q1)) ?_
        clear hst
        rintro _ w ⟨h1226, rfl, hst⟩
        refine ⟨_, rfl, ?_⟩
        refine Y wn rfl (ya (v := h1226.v) (et rfl rfl)) ?_
        refine wpList_nil ?_
        refine k719 _ _ ?_
        refine seqQ fun Q720 k720 z720 => ?_
        refine wp_region_lit ?_
        refine Y wn rfl (ym (v := .int .i64 (x1.length : Int)) (et rfl e51_3)) ?_
        obtain ⟨x1229, gx1229, hM51⟩ := bs hM51
        refine YH wn rfl (rMk hst SL_67 (et rfl rfl) gx1229) ?_
        clear hst
        intro h1227 w hst
        refine Y wn rfl (ya (v := h1227.v) (et rfl rfl)) ?_
        refine wpList_nil ?_
        refine k720 _ _ ?_
        refine seqQ fun Q721 k721 z721 => ?_
        refine seqQ fun Q722 k722 z722 => ?_
        refine wp_region_lit ?_
        refine Y wn rfl (ya (v := .int .i64 0) rfl) ?_
        refine wpList_nil ?_
        refine k722 _ _ ?_
        refine blockQ fun Q723 qb723 => ?_
        obtain ⟨o71, go71, hM51⟩ := bs hM51
        have je71_0 : ∀ (x1288 : List Bool) (f : Nat → Value) (w : World), f 1 = .pointer (some ⟨b3, 0, none⟩) → f 3 = .int .i64 (x1.length : Int) → f 4 = h6.v → f 5 = h461.v → f 6 = .int .i64 x463 → f 8 = h1227.v → St w0 (ros) (box b3 27 [h2.v] :: row 4 rB h6.v x460 :: row 22 (rS (rI .i64)) h461.v x462 :: row 4 rB h1227.v x1288 :: rs) w → x1288 = o71 → Q723 (.exit 2) (fr 80 f) w := by
          intro x1288 f w eje71_0_1 eje71_0_3 eje71_0_4 eje71_0_5 eje71_0_6 eje71_0_8 hst ho
          subst ho
          refine qb723 _ _ _ ?_
          refine k721 _ _ ?_
          refine seqQ fun Q760 k760 z760 => ?_
          refine wp_region_lit ?_
          refine Y wn rfl (ya (v := hnil.v) rfl) ?_
          refine wpList_nil ?_
          refine k760 _ _ ?_
          refine seqQ fun Q761 k761 z761 => ?_
          refine seqQ fun Q762 k762 z762 => ?_
          refine wp_region_lit ?_
          refine Y wn rfl (ya (v := .int .i64 0) rfl) ?_
          refine wpList_nil ?_
          refine k762 _ _ ?_
          refine blockQ fun Q763 qb763 => ?_
          obtain ⟨o74, go74, hM51⟩ := bs hM51
          have je74_0 : ∀ (x1325 : List Bool) (x1327 : List Int) (h1326 : Hdr) (f : Nat → Value) (w : World), f 1 = .pointer (some ⟨b3, 0, none⟩) → f 3 = .int .i64 (x1.length : Int) → f 4 = h6.v → f 5 = h461.v → f 6 = .int .i64 x463 → f 11 = h1326.v → St w0 (ros) (box b3 27 [h2.v] :: row 4 rB h6.v x1325 :: row 22 (rS (rI .i64)) h461.v x462 :: row 3 (rI .i64) h1326.v x1327 :: rs) w → (x1325, x1327) = o74 → Q763 (.exit 6) (fr 80 f) w := by
            intro x1325 x1327 h1326 f w eje74_0_1 eje74_0_3 eje74_0_4 eje74_0_5 eje74_0_6 eje74_0_11 hst ho
            subst ho
            refine qb763 _ _ _ ?_
            refine k761 _ _ ?_
            refine wp_region_lit ?_
            refine Y wn rfl (ym (v := h461.v) (et rfl eje74_0_5)) ?_
            refine Y wn rfl (ym (v := h1326.v) (et rfl eje74_0_11)) ?_
            replace hst := hst.pk 4 [3, 0, 0, 0] rfl
            replace hst := hst.fz
            refine YH wn rfl (rLt (n := 1) (l := [x1327]) hst SL_25 [h1326.v] (bp1 (et rfl rfl)) rfl rfl (mks1 (cs := [h1326.v]) rfl (mkS mhF) mks0)) ?_
            clear hst
            intro h1328 w hst
            obtain ⟨x1330, gx1330, hM51⟩ := bs hM51
            replace hst := hst.pk 4 [3, 0, 0, 0] rfl
            refine YH wn rfl (rAp hst SL_25 (et rfl rfl) (et rfl rfl) (rdO (mtR mhR)) gx1330) ?_
            clear hst
            intro h1329 w hst
            refine Y wn rfl (ya (v := h1329.v) (et rfl rfl)) ?_
            refine wpList_nil ?_
            refine qb716 _ _ _ ?_
            exact j68 _ _ _ _ _ eje74_0_1 eje74_0_3 eje74_0_4 rfl eje74_0_6 ((hst.pk 4 [2, 2, 0] rfl).facts (allT allI)) hM51
          replace hst := hst.rowNh 3 (rI .i64)
          refine loopQ (fun s a w => ∃ (x1303 : List Bool) (x1305 : List Int) (x1306 : Int) (f : Nat → Value) (h1304 : Hdr), (x1303, x1305, x1306) = s ∧ a = fr 80 f ∧ f 1 = .pointer (some ⟨b3, 0, none⟩) ∧ f 3 = .int .i64 (x1.length : Int) ∧ f 4 = h6.v ∧ f 5 = h461.v ∧ f 6 = .int .i64 x463 ∧ f 8 = h1227.v ∧ f 11 = h1304.v ∧ f 12 = .int .i64 x1306 ∧ St w0 (ros) (box b3 27 [h2.v] :: row 4 rB h6.v x1303 :: row 22 (rS (rI .i64)) h461.v x462 :: row 4 rB h1227.v x1288 :: row 3 (rI .i64) h1304.v x1305 :: rs) w) go74 ⟨_, _, _, _, _, rfl, rfl, eje71_0_1, eje71_0_3, eje71_0_4, eje71_0_5, eje71_0_6, eje71_0_8, rfl, rfl, (hst.pk 5 [1, 1, 1, 1, 0] rfl)⟩ ?_
          clear hst
          rintro _ _ w r74_ ⟨x1303, x1305, x1306, f, h1304, rfl, rfl, e74_1, e74_3, e74_4, e74_5, e74_6, e74_8, e74_11, e74_12, hst⟩ hM74 ho74 Q100074 n74 zz74
          refine seqQ fun Q778 k778 z778 => ?_
          refine seqQ fun Q779 k779 z779 => ?_
          refine wp_region_lit ?_
          refine Y wn rfl (ym (v := .int .i64 x1306) (et rfl e74_12)) ?_
          refine Y wn rfl (ym (v := .int .i64 (x1.length : Int)) (et rfl e74_3)) ?_
          refine Y wn rfl (ylss (et rfl rfl) (et rfl rfl)) ?_
          refine wpList_nil ?_
          refine k779 _ _ ?_
          rcases iteS hM74 with ⟨c1331, hM74⟩ | ⟨c1331, hM74⟩
          · refine condT (et rfl rfl) (decide_eq_true c1331) ?_
            refine wp_skip ?_
            refine k778 _ _ ?_
            refine seqQ fun Q780 k780 z780 => ?_
            refine blockQ fun Q781 qb781 => ?_
            refine seqQ fun Q782 k782 z782 => ?_
            refine wp_region_lit ?_
            refine Y wn rfl (ym (v := h1227.v) (et rfl e74_8)) ?_
            refine Y wn rfl (ym (v := .int .i64 x1306) (et rfl e74_12)) ?_
            obtain ⟨x1332, gx1332, hM74⟩ := bs hM74
            refine Y wn rfl (yIa SL_67 (et rfl rfl) (et rfl rfl) hst (rdO (mtR (mtR (mtR mhR)))) gx1332) ?_
            refine Y wn rfl (yB O_4 (et rfl rfl) hst (rdO (mtR (mtR (mtR mhR)))) gx1332) ?_
            refine wpList_nil ?_
            refine k782 _ _ ?_
            have j75 : ∀ (x1337 : List Bool) (x1339 : List Int) (h1338 : Hdr) (f : Nat → Value) (w : World), f 1 = .pointer (some ⟨b3, 0, none⟩) → f 3 = .int .i64 (x1.length : Int) → f 4 = h6.v → f 5 = h461.v → f 6 = .int .i64 x463 → f 8 = h1227.v → f 11 = h1338.v → f 12 = .int .i64 x1306 → St w0 (ros) (box b3 27 [h2.v] :: row 4 rB h6.v x1337 :: row 22 (rS (rI .i64)) h461.v x462 :: row 4 rB h1227.v x1288 :: row 3 (rI .i64) h1338.v x1339 :: rs) w → sparseref12_Components_j75 x1306 x1337 x1339 = some r74_ → Q781 .normal (fr 80 f) w := by
              intro x1337 x1339 h1338 f w ej75_1 ej75_3 ej75_4 ej75_5 ej75_6 ej75_8 ej75_11 ej75_12 hst hM
              refine qb781 _ _ _ ?_
              refine k780 _ _ ?_
              refine wp_region_lit ?_
              refine Y wn rfl (ym (v := .int .i64 x1306) (et rfl ej75_12)) ?_
              refine Y wn rfl (yadd (et rfl rfl) rfl) ?_
              refine Y wn rfl (ya (v := .int .i64 (wa .i64 x1306 1)) (et rfl rfl)) ?_
              refine wpList_nil ?_
              obtain rfl := someI hM
              exact n74 _ _ _ rfl ⟨_, _, _, _, _, rfl, rfl, ej75_1, ej75_3, ej75_4, ej75_5, ej75_6, ej75_8, ej75_11, rfl, hst⟩
            rcases iteS hM74 with ⟨c1340, hM74⟩ | ⟨c1340, hM74⟩
            · refine condT (et rfl rfl) c1340 ?_
              refine seqQ fun Q784 k784 z784 => ?_
              refine wp_region_lit ?_
              refine Y wn rfl (ym (v := h1304.v) (et rfl e74_11)) ?_
              refine Y wn rfl (ym (v := .int .i64 x1306) (et rfl e74_12)) ?_
              refine YH wn rfl (rLt (n := 1) (l := [x1306]) hst SL_22 [.int .i64 x1306] (bp1 (et rfl rfl)) rfl rfl (mks1 (cs := [.int .i64 x1306]) rfl mkI mks0)) ?_
              clear hst
              intro h1341 w hst
              obtain ⟨x1343, gx1343, hM74⟩ := bs hM74
              replace hst := hst.pk 6 [5, 0, 0, 0, 0, 0] rfl
              refine YH wn rfl (rAp hst SL_22 (et rfl rfl) (et rfl rfl) (rdO (mtR mhR)) gx1343) ?_
              clear hst
              intro h1342 w hst
              refine Y wn rfl (ya (v := h1342.v) (et rfl rfl)) ?_
              refine wpList_nil ?_
              refine k784 _ _ ?_
              refine wp_region_lit ?_
              refine Y wn rfl (ym (v := h6.v) (et rfl e74_4)) ?_
              refine Y wn rfl (ym (v := .int .i64 x1306) (et rfl e74_12)) ?_
              obtain ⟨x1344, gx1344, hM74⟩ := bs hM74
              refine Y wn rfl (yIs SL_67 (et rfl rfl) (et rfl rfl) hst (rdO (mtR (mtR (mtR mhR)))) gx1344) ?_
              replace hst := hst.pk 4 [3, 0, 0, 0] rfl
              refine YT wn rfl (r_sti (cs := [.bool true]) hst O_4 rfl (et rfl rfl) rfl rfl mkB gx1344) ?_
              clear hst
              intro w hst
              refine wpList_nil ?_
              exact j75 _ _ _ _ _ e74_1 e74_3 e74_4 e74_5 e74_6 e74_8 rfl e74_12 (hst.pk 6 [3, 0, 2, 2, 0] rfl) hM74
            · refine condF (et rfl rfl) (bfalse c1340) ?_
              refine wp_skip ?_
              exact j75 _ _ _ _ _ e74_1 e74_3 e74_4 e74_5 e74_6 e74_8 e74_11 e74_12 hst hM74
          · refine condF (et rfl rfl) (decide_eq_false c1331) ?_
            refine wp_exit ?_
            refine z778 _ _ _ rfl ?_
            obtain rfl := someI hM74
            refine zz74 _ _ _ _ rfl rfl ?_
            exact je74_0 _ _ _ _ _ e74_1 e74_3 e74_4 e74_5 e74_6 e74_11 (hst.pk 5 [0, 0, 0, 1] rfl) (ho74 _ rfl)
        refine loopQ (fun s a w => ∃ (x1257 : List Bool) (x1258 : Int) (f : Nat → Value), (x1257, x1258) = s ∧ a = fr 80 f ∧ f 1 = .pointer (some ⟨b3, 0, none⟩) ∧ f 3 = .int .i64 (x1.length : Int) ∧ f 4 = h6.v ∧ f 5 = h461.v ∧ f 6 = .int .i64 x463 ∧ f 7 = h1226.v ∧ f 8 = h1227.v ∧ f 9 = .int .i64 x1258 ∧ St w0 (ros) (box b3 27 [h2.v] :: row 4 rB h6.v x460 :: row 22 (rS (rI .i64)) h461.v x462 :: row 22 (rS (rI .i64)) h1226.v r1225 :: row 4 rB h1227.v x1257 :: rs) w) go71 ⟨_, _, _, rfl, rfl, e51_1, e51_3, e51_4, e51_5, e51_6, rfl, rfl, rfl, (hst.pk 5 [2, 2, 2, 1, 0] rfl)⟩ ?_
        clear hst
        rintro _ _ w r71_ ⟨x1257, x1258, f, rfl, rfl, e71_1, e71_3, e71_4, e71_5, e71_6, e71_7, e71_8, e71_9, hst⟩ hM71 ho71 Q100071 n71 zz71
        refine seqQ fun Q785 k785 z785 => ?_
        refine seqQ fun Q786 k786 z786 => ?_
        refine wp_region_lit ?_
        refine Y wn rfl (ym (v := .int .i64 x1258) (et rfl e71_9)) ?_
        refine Y wn rfl (ym (v := h1226.v) (et rfl e71_7)) ?_
        refine Y wn rfl (yLen SL_25 (et rfl rfl) hst (rdO (mtR (mtR (mtR mhR))))) ?_
        refine Y wn rfl (ylss (et rfl rfl) (et rfl rfl)) ?_
        refine wpList_nil ?_
        refine k786 _ _ ?_
        rcases iteS hM71 with ⟨c1345, hM71⟩ | ⟨c1345, hM71⟩
        · refine condT (et rfl rfl) (decide_eq_true c1345) ?_
          refine wp_skip ?_
          refine k785 _ _ ?_
          refine seqQ fun Q787 k787 z787 => ?_
          refine blockQ fun Q788 qb788 => ?_
          refine seqQ fun Q789 k789 z789 => ?_
          refine wp_region_lit ?_
          refine Y wn rfl (ya (v := .int .i64 0) rfl) ?_
          refine wpList_nil ?_
          refine k789 _ _ ?_
          refine blockQ fun Q790 qb790 => ?_
          obtain ⟨o76, go76, hM71⟩ := bs hM71
          have je76_0 : ∀ (x1364 : List Bool) (f : Nat → Value) (w : World), f 1 = .pointer (some ⟨b3, 0, none⟩) → f 3 = .int .i64 (x1.length : Int) → f 4 = h6.v → f 5 = h461.v → f 6 = .int .i64 x463 → f 7 = h1226.v → f 8 = h1227.v → f 9 = .int .i64 x1258 → St w0 (ros) (box b3 27 [h2.v] :: row 4 rB h6.v x460 :: row 22 (rS (rI .i64)) h461.v x462 :: row 22 (rS (rI .i64)) h1226.v r1225 :: row 4 rB h1227.v x1364 :: rs) w → x1364 = o76 → Q790 (.exit 4) (fr 80 f) w := by
            intro x1364 f w eje76_0_1 eje76_0_3 eje76_0_4 eje76_0_5 eje76_0_6 eje76_0_7 eje76_0_8 eje76_0_9 hst ho
            subst ho
            refine qb790 _ _ _ ?_
            refine qb788 _ _ _ ?_
            refine k787 _ _ ?_
            refine wp_region_lit ?_
            refine Y wn rfl (ym (v := .int .i64 x1258) (et rfl eje76_0_9)) ?_
            refine Y wn rfl (yadd (et rfl rfl) rfl) ?_
            refine Y wn rfl (ya (v := .int .i64 (wa .i64 x1258 1)) (et rfl rfl)) ?_
            refine wpList_nil ?_
            obtain rfl := someI hM71
            exact n71 _ _ _ rfl ⟨_, _, _, rfl, rfl, eje76_0_1, eje76_0_3, eje76_0_4, eje76_0_5, eje76_0_6, eje76_0_7, eje76_0_8, rfl, hst⟩
          refine loopQ (fun s a w => ∃ (x1353 : List Bool) (x1354 : Int) (f : Nat → Value), (x1353, x1354) = s ∧ a = fr 80 f ∧ f 1 = .pointer (some ⟨b3, 0, none⟩) ∧ f 3 = .int .i64 (x1.length : Int) ∧ f 4 = h6.v ∧ f 5 = h461.v ∧ f 6 = .int .i64 x463 ∧ f 7 = h1226.v ∧ f 8 = h1227.v ∧ f 9 = .int .i64 x1258 ∧ f 10 = .int .i64 x1354 ∧ St w0 (ros) (box b3 27 [h2.v] :: row 4 rB h6.v x460 :: row 22 (rS (rI .i64)) h461.v x462 :: row 22 (rS (rI .i64)) h1226.v r1225 :: row 4 rB h1227.v x1353 :: rs) w) go76 ⟨_, _, _, rfl, rfl, e71_1, e71_3, e71_4, e71_5, e71_6, e71_7, e71_8, e71_9, rfl, hst⟩ ?_
          clear hst
          rintro _ _ w r76_ ⟨x1353, x1354, f, rfl, rfl, e76_1, e76_3, e76_4, e76_5, e76_6, e76_7, e76_8, e76_9, e76_10, hst⟩ hM76 ho76 Q100076 n76 zz76
          refine seqQ fun Q799 k799 z799 => ?_
          refine seqQ fun Q800 k800 z800 => ?_
          refine wp_region_lit ?_
          refine Y wn rfl (ym (v := .int .i64 x1354) (et rfl e76_10)) ?_
          refine Y wn rfl (ym (v := h1226.v) (et rfl e76_7)) ?_
          refine Y wn rfl (ym (v := .int .i64 x1258) (et rfl e76_9)) ?_
          obtain ⟨x1365, gx1365, hM76⟩ := bs hM76
          refine Y wn rfl (yIa SL_25 (et rfl rfl) (et rfl rfl) hst (rdO (mtR (mtR (mtR mhR)))) gx1365) ?_
          obtain ⟨h1366, ch1366, hst⟩ := rLs hst (rdO (mtR (mtR (mtR mhR)))) gx1365
          refine Y wn rfl (yCe O_22 (et rfl rfl) ch1366 rfl) ?_
          refine Y wn rfl (yLen SL_22 (et rfl rfl) hst (rdI mhF)) ?_
          refine Y wn rfl (ylss (et rfl rfl) (et rfl rfl)) ?_
          refine wpList_nil ?_
          refine k800 _ _ ?_
          rcases iteS hM76 with ⟨c1367, hM76⟩ | ⟨c1367, hM76⟩
          · refine condT (et rfl rfl) (decide_eq_true c1367) ?_
            refine wp_skip ?_
            refine k799 _ _ ?_
            refine seqQ fun Q801 k801 z801 => ?_
            refine blockQ fun Q802 qb802 => ?_
            refine wp_region_lit ?_
            refine Y wn rfl (ym (v := h1227.v) (et rfl e76_8)) ?_
            refine Y wn rfl (ym (v := h1226.v) (et rfl e76_7)) ?_
            refine Y wn rfl (ym (v := .int .i64 x1258) (et rfl e76_9)) ?_
            obtain ⟨x1368, gx1368, hM76⟩ := bs hM76
            refine Y wn rfl (yIa SL_25 (et rfl rfl) (et rfl rfl) hst (rdO (mtR (mtR (mtR mhR)))) gx1368) ?_
            obtain ⟨h1369, ch1369, hst⟩ := rLs hst (rdO (mtR (mtR (mtR mhR)))) gx1368
            refine Y wn rfl (yCe O_22 (et rfl rfl) ch1369 rfl) ?_
            refine Y wn rfl (ym (v := .int .i64 x1354) (et rfl e76_10)) ?_
            obtain ⟨x1370, gx1370, hM76⟩ := bs hM76
            refine Y wn rfl (yIa SL_22 (et rfl rfl) (et rfl rfl) hst (rdI mhF) gx1370) ?_
            refine Y wn rfl (yI O_3 (et rfl rfl) hst (rdI mhF) gx1370) ?_
            obtain ⟨x1371, gx1371, hM76⟩ := bs hM76
            refine Y wn rfl (yIs SL_67 (et rfl rfl) (et rfl rfl) hst (rdO (mtR (mtR (mtR (mtR mhR))))) gx1371) ?_
            replace hst := hst.pk 5 [4, 0, 0, 0, 0] rfl
            refine YT wn rfl (r_sti (cs := [.bool true]) hst O_4 rfl (et rfl rfl) rfl rfl mkB gx1371) ?_
            clear hst
            intro w hst
            refine wpList_nil ?_
            refine qb802 _ _ _ ?_
            refine k801 _ _ ?_
            refine wp_region_lit ?_
            refine Y wn rfl (ym (v := .int .i64 x1354) (et rfl e76_10)) ?_
            refine Y wn rfl (yadd (et rfl rfl) rfl) ?_
            refine Y wn rfl (ya (v := .int .i64 (wa .i64 x1354 1)) (et rfl rfl)) ?_
            refine wpList_nil ?_
            obtain rfl := someI hM76
            exact n76 _ _ _ rfl ⟨_, _, _, rfl, rfl, e76_1, e76_3, e76_4, e76_5, e76_6, e76_7, e76_8, e76_9, rfl, ((hst.pk 5 [1, 1, 1, 1, 0] rfl).facts (allT (allT allI)))⟩
          · refine condF (et rfl rfl) (decide_eq_false c1367) ?_
            refine wp_exit ?_
            refine z799 _ _ _ rfl ?_
            obtain rfl := someI hM76
            refine zz76 _ _ _ _ rfl rfl ?_
            exact je76_0 _ _ _ e76_1 e76_3 e76_4 e76_5 e76_6 e76_7 e76_8 e76_9 (hst.facts (allT allI)) (ho76 _ rfl)
        · refine condF (et rfl rfl) (decide_eq_false c1345) ?_
          refine wp_exit ?_
          refine z785 _ _ _ rfl ?_
          obtain rfl := someI hM71
          refine zz71 _ _ _ _ rfl rfl ?_
          exact je71_0 _ _ _ e71_1 e71_3 e71_4 e71_5 e71_6 e71_8 (hst.pk 5 [0, 0, 0, 1] rfl) (ho71 _ rfl)
    · refine condF (et rfl rfl) (decide_eq_false c921) ?_
      refine wp_exit ?_
      refine z539 _ _ _ rfl ?_
      obtain rfl := someI hM51
      refine zz51 _ _ _ _ rfl rfl ?_
      exact je51_0 _ _ _ _ e51_5 (hst.pk 3 [2] rfl) (ho51 _ rfl)
  · refine condT (et rfl rfl) (nT (decide_eq_false c5)) ?_
    refine seqQ fun Q803 k803 z803 => ?_
    refine wp_region_lit ?_
    refine Y wn rfl (ya (v := hnil.v) rfl) ?_
    refine wpList_nil ?_
    refine k803 _ _ ?_
    refine wp_ret ?_
    refine z2 _ _ _ rfl ?_
    obtain rfl := someI hM
    replace hst := hst.rowNh 22 (rS (rI .i64))
    exact hQ _ _ _ (fin1r Try.results37 ⟨rfl, rfl⟩ ⟨_, rfl, (hst.pk 2 [0] rfl)⟩)

theorem sparseref12_Peripheral_ok {w0 : World} {ros : List Fact} {rs : List Res} {w : World} {x1 : List (List Int)} {x3 : Int} {h2 : Hdr} {out : Int} (hM : sparseref12_Peripheral x1 x3 = some out) (q1 : imm (rS (rI .i64)) h2.v x1 ∈ ros) (hst : St w0 ros (rs) w) :
    Calls Try.prog 39 #[.agg #[h2.v], .int .i64 x3] w (fun e w => e = .returned (.int .i64 out) ∧ St w0 (ros) (rs) w) := by
  refine enterQ Try.func39 rfl Try.ntmps39 rfl fun Q hQ => ?_
  refine seqQ fun Q1 k1 z1 => ?_
  refine wp_region_lit ?_
  refine YB wn rfl (r_box (vals := [h2.v]) hst (et rfl rfl) rfl) ?_
  clear hst
  intro b4 w hst
  refine Y wn rfl (ya (v := .int .i64 0) rfl) ?_
  refine wpList_nil ?_
  refine k1 _ _ ?_
  refine seqQ fun Q2 k2 z2 => ?_
  refine seqQ fun Q3 k3 z3 => ?_
  refine wp_region_lit ?_
  refine Y wn rfl (yLbs (us := [h2.v]) ST_27 (et rfl rfl) hst mhR rfl rfl) ?_
  obtain ⟨r5, gr5, hM⟩ := bs hM
  refine Yc wn rfl (yCall FN_62 (a1 (et rfl rfl))) (sparseref12_Check_ok (hM := gr5) (hst := hst) (q1 := q1)) ?_
  clear hst
  rintro _ w ⟨rfl, hst⟩
  refine ⟨_, rfl, ?_⟩
  refine Y wn rfl (yneq (et rfl rfl) rfl) ?_
  refine Y wn rfl (ym (v := .bool (!(decide (r5 = 0)))) (et rfl rfl)) ?_
  refine joinW 3 (fun f w => f 1 = .int .i64 x3 ∧ f 2 = .pointer (some ⟨b4, 0, none⟩) ∧ f 15 = .bool ((!(decide (r5 = 0))) || (decide (x3 < 0))) ∧ St w0 (ros) (box b4 27 [h2.v] :: rs) w) (fun j1 => ?_) ?_
  · rcases Bool.eq_false_or_eq_true (!(decide (r5 = 0))) with c7 | c7
    · refine Gn (wx rfl rfl rfl c7) rfl ?_
      refine Gn (wx rfl rfl rfl c7) rfl ?_
      refine Y wn rfl (ypt (v := .bool true) (et rfl rfl) c7 rfl) ?_
      exact j1 _ _ ⟨rfl, rfl, (congrArg Value.bool (orT c7)), hst⟩
    · refine Y (wg rfl rfl rfl c7) rfl (ym (v := .int .i64 x3) (et rfl rfl)) ?_
      refine Y (wg rfl rfl rfl c7) rfl (ylss (et rfl rfl) rfl) ?_
      refine Y wn rfl (ypf (v := .bool (decide (x3 < 0))) (et rfl rfl) c7 (et rfl rfl)) ?_
      exact j1 _ _ ⟨rfl, rfl, (congrArg Value.bool (orF c7)), hst⟩
  clear hst
  rintro f w ⟨e6_1, e6_2, e6_15, hst⟩
  refine Y wn rfl (ym (v := .bool ((!(decide (r5 = 0))) || (decide (x3 < 0)))) (et rfl e6_15)) ?_
  refine joinW 6 (fun f w => f 1 = .int .i64 x3 ∧ f 2 = .pointer (some ⟨b4, 0, none⟩) ∧ f 22 = .bool (((!(decide (r5 = 0))) || (decide (x3 < 0))) || (decide ((x1.length : Int) ≤ x3))) ∧ St w0 (ros) (box b4 27 [h2.v] :: rs) w) (fun j2 => ?_) ?_
  · rcases Bool.eq_false_or_eq_true (((!(decide (r5 = 0))) || (decide (x3 < 0)))) with c9 | c9
    · refine Gn (wx rfl rfl rfl c9) rfl ?_
      refine Gn (wx rfl rfl rfl c9) rfl ?_
      refine Gn (wx rfl rfl rfl c9) rfl ?_
      refine Gn (wx rfl rfl rfl c9) rfl ?_
      refine Gn (wx rfl rfl rfl c9) rfl ?_
      refine Y wn rfl (ypt (v := .bool true) (et rfl rfl) c9 rfl) ?_
      exact j2 _ _ ⟨e6_1, e6_2, (congrArg Value.bool (orT c9)), hst⟩
    · refine Y (wg rfl rfl rfl c9) rfl (ym (v := .int .i64 x3) (et rfl e6_1)) ?_
      refine Y (wg rfl rfl rfl c9) rfl (yFb FL_27_0 (et rfl e6_2)) ?_
      refine Y (wg rfl rfl rfl c9) rfl (yLb (u := h2.v) O_25 (et rfl rfl) hst mhR rfl) ?_
      refine Y (wg rfl rfl rfl c9) rfl (yLen SL_25 (et rfl rfl) hst (rdI q1)) ?_
      refine Y (wg rfl rfl rfl c9) rfl (ygeq (et rfl rfl) (et rfl rfl)) ?_
      refine Y wn rfl (ypf (v := .bool (decide ((x1.length : Int) ≤ x3))) (et rfl rfl) c9 (et rfl rfl)) ?_
      exact j2 _ _ ⟨e6_1, e6_2, (congrArg Value.bool (orF c9)), hst⟩
  clear hst
  rintro f w ⟨e8_1, e8_2, e8_22, hst⟩
  refine wpList_nil ?_
  refine k3 _ _ ?_
  rcases iteS hM with ⟨c10, hM⟩ | ⟨c10, hM⟩
  · refine condT (et rfl e8_22) c10 ?_
    refine seqQ fun Q4 k4 z4 => ?_
    refine wp_region_lit ?_
    refine Y wn rfl (ya (v := .int .i64 (-1)) rfl) ?_
    refine wpList_nil ?_
    refine k4 _ _ ?_
    refine wp_ret ?_
    refine z2 _ _ _ rfl ?_
    obtain rfl := someI hM
    exact hQ _ _ _ (fin1r Try.results39 ⟨rfl, rfl⟩ ⟨rfl, (hst.pk 1 [] rfl)⟩)
  · refine condF (et rfl e8_22) (bfalse c10) ?_
    refine wp_skip ?_
    refine k2 _ _ ?_
    refine blockQ fun Q5 qb5 => ?_
    obtain ⟨o11, go11, hM⟩ := bs hM
    have je11_0 : ∀ (x99 : Int) (f : Nat → Value) (w : World), f 4 = .int .i64 x99 → St w0 (ros) (rs) w → x99 = o11 → Q5 .ret (fr 70 f) w := by
      intro x99 f w eje11_0_4 hst ho
      subst ho
      refine qb5 _ _ _ ?_
      obtain rfl := someI hM
      exact hQ _ _ _ (fin1r Try.results39 ⟨rfl, eje11_0_4⟩ ⟨rfl, hst⟩)
    refine loopQ (fun s a w => ∃ (x54 : Int) (f : Nat → Value), x54 = s ∧ a = fr 70 f ∧ f 1 = .int .i64 x54 ∧ f 2 = .pointer (some ⟨b4, 0, none⟩) ∧ St w0 (ros) (box b4 27 [h2.v] :: rs) w) go11 ⟨_, _, rfl, rfl, e8_1, e8_2, hst⟩ ?_
    clear hst
    rintro _ _ w r11_ ⟨x54, f, rfl, rfl, e11_1, e11_2, hst⟩ hM11 ho11 Q100011 n11 zz11
    refine blockQ fun Q56 qb56 => ?_
    refine seqQ fun Q57 k57 z57 => ?_
    refine wp_region_lit ?_
    refine Y wn rfl (yLbs (us := [h2.v]) ST_27 (et rfl e11_2) hst mhR rfl rfl) ?_
    refine Y wn rfl (ym (v := .int .i64 x54) (et rfl e11_1)) ?_
    obtain ⟨r100, gr100, hM11⟩ := bs hM11
    refine Yc wn rfl (yCall FN_38 (a2 (et rfl rfl) (et rfl rfl))) (sparseref12_Levels_ok (hM := gr100) (hst := hst) (q1 := q1)) ?_
    clear hst
    rintro _ w ⟨h101, rfl, hst⟩
    refine ⟨_, rfl, ?_⟩
    refine Y wn rfl (ya (v := h101.v) (et rfl rfl)) ?_
    refine wpList_nil ?_
    refine k57 _ _ ?_
    refine seqQ fun Q58 k58 z58 => ?_
    refine wp_region_lit ?_
    refine Y wn rfl (ym (v := h101.v) (et rfl rfl)) ?_
    refine Y wn rfl (ym (v := h101.v) (et rfl rfl)) ?_
    refine Y wn rfl (yLen SL_25 (et rfl rfl) hst (rdO mhR)) ?_
    refine Y wn rfl (ysub (et rfl rfl) rfl) ?_
    obtain ⟨x102, gx102, hM11⟩ := bs hM11
    refine Y wn rfl (yIa SL_25 (et rfl rfl) (et rfl rfl) hst (rdO mhR) gx102) ?_
    obtain ⟨h103, ch103, hst⟩ := rLs hst (rdO mhR) gx102
    refine Y wn rfl (yCe O_22 (et rfl rfl) ch103 rfl) ?_
    refine Y wn rfl (ya (v := h103.v) (et rfl rfl)) ?_
    refine wpList_nil ?_
    refine k58 _ _ ?_
    refine seqQ fun Q59 k59 z59 => ?_
    refine wp_region_lit ?_
    refine Y wn rfl (ym (v := h103.v) (et rfl rfl)) ?_
    obtain ⟨x104, gx104, hM11⟩ := bs hM11
    refine Y wn rfl (yIa SL_22 (et rfl rfl) rfl hst (rdI mhF) gx104) ?_
    refine Y wn rfl (yI O_3 (et rfl rfl) hst (rdI mhF) gx104) ?_
    refine Y wn rfl (ya (v := .int .i64 x104) (et rfl rfl)) ?_
    refine wpList_nil ?_
    refine k59 _ _ ?_
    refine seqQ fun Q60 k60 z60 => ?_
    refine seqQ fun Q61 k61 z61 => ?_
    refine wp_region_lit ?_
    refine Y wn rfl (ya (v := .int .i64 1) rfl) ?_
    refine wpList_nil ?_
    refine k61 _ _ ?_
    refine blockQ fun Q62 qb62 => ?_
    obtain ⟨o14, go14, hM11⟩ := bs hM11
    have je14_0 : ∀ (x129 : Int) (f : Nat → Value) (w : World), f 1 = .int .i64 x54 → f 2 = .pointer (some ⟨b4, 0, none⟩) → f 5 = h101.v → f 7 = .int .i64 x129 → St w0 (ros) (box b4 27 [h2.v] :: row 22 (rS (rI .i64)) h101.v r100 :: rs) w → x129 = o14 → Q62 (.exit 2) (fr 70 f) w := by
      intro x129 f w eje14_0_1 eje14_0_2 eje14_0_5 eje14_0_7 hst ho
      subst ho
      refine qb62 _ _ _ ?_
      refine k60 _ _ ?_
      refine seqQ fun Q73 k73 z73 => ?_
      refine seqQ fun Q74 k74 z74 => ?_
      refine wp_region_lit ?_
      refine Y wn rfl (yLbs (us := [h2.v]) ST_27 (et rfl eje14_0_2) hst mhR rfl rfl) ?_
      refine Y wn rfl (ym (v := .int .i64 x129) (et rfl eje14_0_7)) ?_
      obtain ⟨r130, gr130, hM11⟩ := bs hM11
      refine Yc wn rfl (yCall FN_38 (a2 (et rfl rfl) (et rfl rfl))) (sparseref12_Levels_ok (hM := gr130) (hst := hst) (q1 := q1)) ?_
      clear hst
      rintro _ w ⟨h131, rfl, hst⟩
      refine ⟨_, rfl, ?_⟩
      refine Y wn rfl (yLen SL_25 (et rfl rfl) hst (rdO mhR)) ?_
      refine Y wn rfl (ym (v := h101.v) (et rfl eje14_0_5)) ?_
      refine Y wn rfl (yLen SL_25 (et rfl rfl) hst (rdO (mtR (mtR mhR)))) ?_
      refine Y wn rfl (yleq (et rfl rfl) (et rfl rfl)) ?_
      refine wpList_nil ?_
      refine k74 _ _ ?_
      rcases iteS hM11 with ⟨c132, hM11⟩ | ⟨c132, hM11⟩
      · refine condT (et rfl rfl) (decide_eq_true c132) ?_
        refine seqQ fun Q75 k75 z75 => ?_
        refine wp_region_lit ?_
        refine Y wn rfl (ym (v := .int .i64 x54) (et rfl eje14_0_1)) ?_
        refine Y wn rfl (ya (v := .int .i64 x54) (et rfl rfl)) ?_
        refine wpList_nil ?_
        refine k75 _ _ ?_
        refine wp_ret ?_
        refine z73 _ _ _ rfl ?_
        refine qb56 _ _ _ ?_
        obtain rfl := someI hM11
        refine zz11 _ _ _ _ rfl rfl ?_
        exact je11_0 _ _ _ rfl (hst.pk 3 [] rfl) (ho11 _ rfl)
      · refine condF (et rfl rfl) (decide_eq_false c132) ?_
        refine wp_skip ?_
        refine k73 _ _ ?_
        refine wp_region_lit ?_
        refine Y wn rfl (ym (v := .int .i64 x129) (et rfl eje14_0_7)) ?_
        refine Y wn rfl (ya (v := .int .i64 x129) (et rfl rfl)) ?_
        refine wpList_nil ?_
        refine qb56 _ _ _ ?_
        obtain rfl := someI hM11
        exact n11 _ _ _ rfl ⟨_, _, rfl, rfl, rfl, eje14_0_2, (hst.pk 3 [1] rfl)⟩
    refine loopQ (fun s a w => ∃ (x115 : Int) (x116 : Int) (f : Nat → Value), (x115, x116) = s ∧ a = fr 70 f ∧ f 1 = .int .i64 x54 ∧ f 2 = .pointer (some ⟨b4, 0, none⟩) ∧ f 5 = h101.v ∧ f 6 = h103.v ∧ f 7 = .int .i64 x115 ∧ f 8 = .int .i64 x116 ∧ St w0 (imm (rI .i64) h103.v x102 :: ros) (box b4 27 [h2.v] :: row 22 (rS (rI .i64)) h101.v r100 :: rs) w) go14 ⟨_, _, _, rfl, rfl, e11_1, e11_2, rfl, rfl, rfl, rfl, (hst.pk 2 [1, 0] rfl)⟩ ?_
    clear hst
    rintro _ _ w r14_ ⟨x115, x116, f, rfl, rfl, e14_1, e14_2, e14_5, e14_6, e14_7, e14_8, hst⟩ hM14 ho14 Q100014 n14 zz14
    refine seqQ fun Q76 k76 z76 => ?_
    refine seqQ fun Q77 k77 z77 => ?_
    refine wp_region_lit ?_
    refine Y wn rfl (ym (v := .int .i64 x116) (et rfl e14_8)) ?_
    refine Y wn rfl (ym (v := h103.v) (et rfl e14_6)) ?_
    refine Y wn rfl (yLen SL_22 (et rfl rfl) hst (rdI mhF)) ?_
    refine Y wn rfl (ylss (et rfl rfl) (et rfl rfl)) ?_
    refine wpList_nil ?_
    refine k77 _ _ ?_
    rcases iteS hM14 with ⟨c133, hM14⟩ | ⟨c133, hM14⟩
    · refine condT (et rfl rfl) (decide_eq_true c133) ?_
      refine wp_skip ?_
      refine k76 _ _ ?_
      refine seqQ fun Q78 k78 z78 => ?_
      refine blockQ fun Q79 qb79 => ?_
      refine seqQ fun Q80 k80 z80 => ?_
      obtain ⟨x134, gx134, hM14⟩ := bs hM14
      obtain ⟨x135, gx135, hM14⟩ := bs hM14
      obtain ⟨x137, gx137, hM14⟩ := bs hM14
      refine wp_drawR [0, 1, 0, 0, 12, 28, 63, 127, 255, 0, 512, 0, 3584, 7680, 15872, 32767] [] 0 folM (by kernel_rfl) (by kernel_rfl) (by kernel_rfl) ?_
      replace hst := hst.drew
      refine DRz (l1 := [0, 1, 2, 3, 4, 5, 6, 7, 8, 9, 10, 11, 12, 13, 14, 15]) (l2 := []) (by kernel_rfl) (by kernel_rfl) ?_
      refine Ry rfl rfl wn (yFb FL_27_0 (et rfl e14_2)) ?_
      refine Ry rfl rfl wn (yLb (u := h2.v) O_25 (et rfl rfl) hst mhR rfl) ?_
      refine Ry rfl rfl wn (ym (v := h103.v) (et rfl e14_6)) ?_
      refine Ry rfl rfl wn (ym (v := .int .i64 x116) (et rfl e14_8)) ?_
      refine Ry rfl rfl wn (yIa SL_22 (et rfl rfl) (et rfl rfl) hst (rdI mhF) gx134) ?_
      refine Ry rfl rfl wn (yI O_3 (et rfl rfl) hst (rdI mhF) gx134) ?_
      refine Ry rfl rfl wn (yIa SL_25 (et rfl rfl) (et rfl rfl) hst (rdI (mtF q1)) gx135) ?_
      obtain ⟨h136, hst⟩ := iLs hst (mtF q1) gx135
      refine Ry rfl rfl wn (yCt O_22 (et rfl rfl) hst (mtF mhF) rfl) ?_
      refine Ry rfl rfl wn (yLen SL_22 (et rfl rfl) hst (rdI mhF)) ?_
      refine Ry rfl rfl wn (yFb FL_27_0 (et rfl e14_2)) ?_
      refine Ry rfl rfl wn (yLb (u := h2.v) O_25 (et rfl rfl) hst mhR rfl) ?_
      refine Ry rfl rfl wn (ym (v := .int .i64 x115) (et rfl e14_7)) ?_
      refine Ry rfl rfl wn (yIa SL_25 (et rfl rfl) (et rfl rfl) hst (rdI (mtF (mtF (mtF q1)))) gx137) ?_
      obtain ⟨h138, hst⟩ := iLs hst (mtF (mtF (mtF q1))) gx137
      refine Ry rfl rfl wn (yCt O_22 (et rfl rfl) hst (mtF mhF) rfl) ?_
      refine Ry rfl rfl wn (yLen SL_22 (et rfl rfl) hst (rdI mhF)) ?_
      refine Ry rfl rfl wn (ylss (et rfl rfl) (et rfl rfl)) ?_
      refine Rn QSn ?_
      refine k80 _ _ ?_
      have j15 : ∀ (x140 : Int) (f : Nat → Value) (w : World), f 1 = .int .i64 x54 → f 2 = .pointer (some ⟨b4, 0, none⟩) → f 5 = h101.v → f 6 = h103.v → f 7 = .int .i64 x140 → f 8 = .int .i64 x116 → St w0 (imm (rI .i64) h103.v x102 :: ros) (box b4 27 [h2.v] :: row 22 (rS (rI .i64)) h101.v r100 :: rs) w → sparseref12_Peripheral_j15 x116 x140 = some r14_ → Q79 .normal (fr 70 f) w := by
        intro x140 f w ej15_1 ej15_2 ej15_5 ej15_6 ej15_7 ej15_8 hst hM
        refine qb79 _ _ _ ?_
        refine k78 _ _ ?_
        refine wp_region_lit ?_
        refine Y wn rfl (ym (v := .int .i64 x116) (et rfl ej15_8)) ?_
        refine Y wn rfl (yadd (et rfl rfl) rfl) ?_
        refine Y wn rfl (ya (v := .int .i64 (wa .i64 x116 1)) (et rfl rfl)) ?_
        refine wpList_nil ?_
        obtain rfl := someI hM
        exact n14 _ _ _ rfl ⟨_, _, _, rfl, rfl, ej15_1, ej15_2, ej15_5, ej15_6, ej15_7, rfl, hst⟩
      rcases iteS hM14 with ⟨c141, hM14⟩ | ⟨c141, hM14⟩
      · refine condT (et rfl rfl) (decide_eq_true c141) ?_
        refine wp_region_lit ?_
        refine Y wn rfl (ym (v := h103.v) (et rfl e14_6)) ?_
        refine Y wn rfl (ym (v := .int .i64 x116) (et rfl e14_8)) ?_
        obtain ⟨x142, gx142, hM14⟩ := bs hM14
        refine Y wn rfl (yIa SL_22 (et rfl rfl) (et rfl rfl) hst (rdI (mtF (mtF (mtF (mtF mhF))))) gx142) ?_
        refine Y wn rfl (yI O_3 (et rfl rfl) hst (rdI (mtF (mtF (mtF (mtF mhF))))) gx142) ?_
        refine Y wn rfl (ya (v := .int .i64 x142) (et rfl rfl)) ?_
        refine wpList_nil ?_
        exact j15 _ _ _ e14_1 e14_2 e14_5 e14_6 rfl e14_8 (hst.facts (allC (mtF (mtF (mtF (mtF mhF)))) (allT (allT (allT (allT (allT allI))))))) hM14
      · refine condF (et rfl rfl) (decide_eq_false c141) ?_
        refine wp_skip ?_
        exact j15 _ _ _ e14_1 e14_2 e14_5 e14_6 e14_7 e14_8 (hst.facts (allC (mtF (mtF (mtF (mtF mhF)))) (allT (allT (allT (allT (allT allI))))))) hM14
    · refine condF (et rfl rfl) (decide_eq_false c133) ?_
      refine wp_exit ?_
      refine z76 _ _ _ rfl ?_
      obtain rfl := someI hM14
      refine zz14 _ _ _ _ rfl rfl ?_
      exact je14_0 _ _ _ e14_1 e14_2 e14_5 e14_7 (hst.facts (allT allI)) (ho14 _ rfl)

theorem sparseref18_Grow_ok {w0 : World} {ros : List Fact} {rs : List Res} {w : World} {x1 : List (List Int)} {x3 : List Int} {x5 : List (List Int)} {h2 : Hdr} {h4 : Hdr} {h6 : Hdr} {out : (List Int)} (hM : sparseref18_Grow x1 x3 x5 = some out) (q1 : imm (rS (rI .i64)) h2.v x1 ∈ ros) (q2 : imm (rI .i64) h4.v x3 ∈ ros) (q3 : imm (rS (rI .i64)) h6.v x5 ∈ ros) (hst : St w0 ros (rs) w) :
    Calls Try.prog 21 #[.agg #[h2.v, h4.v, h6.v]] w (fun e w => ∃ (h100001 : Hdr), e = .returned (h100001.v) ∧ St w0 (ros) (row 3 (rI .i64) h100001.v out :: rs) w) := by
  refine enterQ Try.func21 rfl Try.ntmps21 rfl fun Q hQ => ?_
  refine seqQ fun Q1 k1 z1 => ?_
  refine wp_region_lit ?_
  refine YB wn rfl (r_box (vals := [h2.v, h4.v, h6.v]) hst (et rfl rfl) rfl) ?_
  clear hst
  intro b7 w hst
  refine Y wn rfl (ya (v := hnil.v) rfl) ?_
  refine wpList_nil ?_
  refine k1 _ _ ?_
  refine seqQ fun Q2 k2 z2 => ?_
  refine wp_region_lit ?_
  refine Y wn rfl (yFb FL_29_1 (et rfl rfl)) ?_
  refine Y wn rfl (yLb (u := h4.v) O_22 (et rfl rfl) hst mhR rfl) ?_
  refine Y wn rfl (yLen SL_22 (et rfl rfl) hst (rdI q2)) ?_
  obtain ⟨x10, gx10, hM⟩ := bs hM
  refine YH wn rfl (rMk hst SL_22 (et rfl rfl) gx10) ?_
  clear hst
  intro h8 w hst
  refine Y wn rfl (ya (v := h8.v) (et rfl rfl)) ?_
  refine wpList_nil ?_
  refine k2 _ _ ?_
  refine seqQ fun Q3 k3 z3 => ?_
  refine seqQ fun Q4 k4 z4 => ?_
  refine wp_region_lit ?_
  refine Y wn rfl (ya (v := .int .i64 0) rfl) ?_
  refine wpList_nil ?_
  refine k4 _ _ ?_
  refine blockQ fun Q5 qb5 => ?_
  obtain ⟨o1, go1, hM⟩ := bs hM
  have je1_0 : ∀ (x19 : List Int) (f : Nat → Value) (w : World), f 1 = .pointer (some ⟨b7, 0, none⟩) → f 3 = h8.v → St w0 (ros) (box b7 29 [h2.v, h4.v, h6.v] :: row 3 (rI .i64) h8.v x19 :: rs) w → x19 = o1 → Q5 (.exit 0) (fr 91 f) w := by
    intro x19 f w eje1_0_1 eje1_0_3 hst ho
    subst ho
    refine qb5 _ _ _ ?_
    refine k3 _ _ ?_
    refine seqQ fun Q14 k14 z14 => ?_
    refine wp_region_lit ?_
    refine Y wn rfl (yLbs (us := [h2.v, h4.v, h6.v]) ST_29 (et rfl eje1_0_1) hst mhR rfl rfl) ?_
    obtain ⟨r20, gr20, hM⟩ := bs hM
    refine Yc wn rfl (yCall FN_24 (a1 (et rfl rfl))) (sparseref18_Total_ok (hM := gr20) (hst := hst) (q1 := q1) (q2 := q2) (q3 := q3)) ?_
    clear hst
    rintro _ w ⟨rfl, hst⟩
    refine ⟨_, rfl, ?_⟩
    refine Y wn rfl (ya (v := .int .i64 r20) (et rfl rfl)) ?_
    refine Y wn rfl (ya (v := .int .i64 0) rfl) ?_
    refine wpList_nil ?_
    refine k14 _ _ ?_
    refine seqQ fun Q15 k15 z15 => ?_
    refine wp_region_lit ?_
    refine Y wn rfl (yFb FL_29_0 (et rfl eje1_0_1)) ?_
    refine Y wn rfl (yLbs (us := [h2.v]) ST_27 (et rfl rfl) hst mhR rfl rfl) ?_
    obtain ⟨r21, gr21, hM⟩ := bs hM
    refine Yc wn rfl (yCall FN_37 (a1 (et rfl rfl))) (sparseref12_Components_ok (hM := gr21) (hst := hst) (q1 := q1)) ?_
    clear hst
    rintro _ w ⟨h22, rfl, hst⟩
    refine ⟨_, rfl, ?_⟩
    refine Y wn rfl (ya (v := h22.v) (et rfl rfl)) ?_
    refine wpList_nil ?_
    refine k15 _ _ ?_
    refine seqQ fun Q16 k16 z16 => ?_
    refine seqQ fun Q17 k17 z17 => ?_
    refine wp_region_lit ?_
    refine Y wn rfl (ya (v := .int .i64 0) rfl) ?_
    refine wpList_nil ?_
    refine k17 _ _ ?_
    refine blockQ fun Q18 qb18 => ?_
    obtain ⟨o10, go10, hM⟩ := bs hM
    have je10_0 : ∀ (x337 : List Int) (f : Nat → Value) (w : World), f 3 = h8.v → St w0 (ros) (row 3 (rI .i64) h8.v x337 :: rs) w → .inl x337 = o10 → Q18 (.exit 2) (fr 91 f) w := by
      intro x337 f w eje10_0_3 hst ho
      subst ho
      refine qb18 _ _ _ ?_
      refine k16 _ _ ?_
      refine seqQ fun Q213 k213 z213 => ?_
      refine wp_region_lit ?_
      refine Y wn rfl (ym (v := h8.v) (et rfl eje10_0_3)) ?_
      refine Y wn rfl (ya (v := h8.v) (et rfl rfl)) ?_
      refine wpList_nil ?_
      refine k213 _ _ ?_
      refine wp_ret ?_
      obtain rfl := someI hM
      exact hQ _ _ _ (fin1r Try.results21 ⟨rfl, rfl⟩ ⟨_, rfl, hst⟩)
    have je10_1 : ∀ (x338 : List Int) (f : Nat → Value) (w : World), f 2 = h8.v → St w0 (ros) (row 3 (rI .i64) h8.v x338 :: rs) w → .inr x338 = o10 → Q18 .ret (fr 91 f) w := by
      intro x338 f w eje10_1_2 hst ho
      subst ho
      refine qb18 _ _ _ ?_
      refine z16 _ _ _ rfl ?_
      obtain rfl := someI hM
      exact hQ _ _ _ (fin1r Try.results21 ⟨rfl, eje10_1_2⟩ ⟨_, rfl, hst⟩)
    refine loopQ (fun s a w => ∃ (x177 : List Int) (x178 : Int) (x179 : Int) (f : Nat → Value), (x177, x178, x179) = s ∧ a = fr 91 f ∧ f 1 = .pointer (some ⟨b7, 0, none⟩) ∧ f 3 = h8.v ∧ f 5 = .int .i64 r20 ∧ f 6 = .int .i64 x178 ∧ f 7 = h22.v ∧ f 8 = .int .i64 x179 ∧ St w0 (ros) (box b7 29 [h2.v, h4.v, h6.v] :: row 3 (rI .i64) h8.v x177 :: row 22 (rS (rI .i64)) h22.v r21 :: rs) w) go10 ⟨_, _, _, _, rfl, rfl, eje1_0_1, eje1_0_3, rfl, rfl, rfl, rfl, (hst.pk 3 [1, 1, 0] rfl)⟩ ?_
    clear hst
    rintro _ _ w r10_ ⟨x177, x178, x179, f, rfl, rfl, e10_1, e10_3, e10_5, e10_6, e10_7, e10_8, hst⟩ hM10 ho10 Q100010 n10 zz10
    refine seqQ fun Q214 k214 z214 => ?_
    refine seqQ fun Q215 k215 z215 => ?_
    refine wp_region_lit ?_
    refine Y wn rfl (ym (v := .int .i64 x179) (et rfl e10_8)) ?_
    refine Y wn rfl (ym (v := h22.v) (et rfl e10_7)) ?_
    refine Y wn rfl (yLen SL_25 (et rfl rfl) hst (rdO (mtR (mtR mhR)))) ?_
    refine Y wn rfl (ylss (et rfl rfl) (et rfl rfl)) ?_
    refine wpList_nil ?_
    refine k215 _ _ ?_
    rcases iteS hM10 with ⟨c339, hM10⟩ | ⟨c339, hM10⟩
    · refine condT (et rfl rfl) (decide_eq_true c339) ?_
      refine wp_skip ?_
      refine k214 _ _ ?_
      refine seqQ fun Q216 k216 z216 => ?_
      refine blockQ fun Q217 qb217 => ?_
      refine seqQ fun Q218 k218 z218 => ?_
      obtain ⟨x340, gx340, hM10⟩ := bs hM10
      obtain ⟨x342, gx342, hM10⟩ := bs hM10
      obtain ⟨r343, gr343, hM10⟩ := bs hM10
      obtain ⟨r344, gr344, hM10⟩ := bs hM10
      refine wp_drawR [0, 1, 0, 4, 0, 0, 48, 112, 240, 496, 1020, 2047, 4095] [10, 11, 12] 3 folM (by kernel_rfl) (by kernel_rfl) (by kernel_rfl) ?_
      replace hst := hst.drew
      refine DRn (l1 := [0, 1, 2, 3, 4, 5, 6, 7, 8, 9]) (l2 := []) (lc := [10]) (by kernel_rfl) (by kernel_rfl) (by kernel_rfl) ?_
      refine Ry rfl rfl wn (yFb FL_29_0 (et rfl e10_1)) ?_
      refine Ry rfl rfl wn (yLbs (us := [h2.v]) ST_27 (et rfl rfl) hst mhR rfl rfl) ?_
      refine Ry rfl rfl wn (yFb FL_29_0 (et rfl e10_1)) ?_
      refine Ry rfl rfl wn (yLbs (us := [h2.v]) ST_27 (et rfl rfl) hst mhR rfl rfl) ?_
      refine Ry rfl rfl wn (ym (v := h22.v) (et rfl e10_7)) ?_
      refine Ry rfl rfl wn (ym (v := .int .i64 x179) (et rfl e10_8)) ?_
      refine Ry rfl rfl wn (yIa SL_25 (et rfl rfl) (et rfl rfl) hst (rdO (mtR (mtR mhR))) gx340) ?_
      obtain ⟨h341, ch341, hst⟩ := rLs hst (rdO (mtR (mtR mhR))) gx340
      refine Ry rfl rfl wn (yCe O_22 (et rfl rfl) ch341 rfl) ?_
      refine Ry rfl rfl wn (yIa SL_22 (et rfl rfl) rfl hst (rdI mhF) gx342) ?_
      refine Ry rfl rfl wn (yI O_3 (et rfl rfl) hst (rdI mhF) gx342) ?_
      refine Rn QSn ?_
      refine Lc rfl ?_ LAn
      refine Lk wn (yCall FN_39 (a2 (et rfl rfl) (et rfl rfl))) (sparseref12_Peripheral_ok (hM := gr343) (hst := hst) (q1 := (mtF q1))) ?_
      clear hst
      rintro _ w ⟨rfl, hst⟩
      refine ⟨_, rfl, ?_⟩
      refine DRn (l1 := []) (l2 := [0, 1]) (lc := [11]) (by kernel_rfl) (by kernel_rfl) (by kernel_rfl) ?_
      refine Rn (Sy rfl rfl wn (yFb FL_29_0 (et rfl e10_1)) rfl (Sy rfl rfl wn (yLbs (us := [h2.v]) ST_27 (et rfl rfl) hst mhR rfl rfl) rfl QSn)) ?_
      refine Lc rfl ?_ LAn
      refine Lk wn (yCall FN_38 (a2 (et rfl rfl) (et rfl rfl))) (sparseref12_Levels_ok (hM := gr344) (hst := hst) (q1 := (mtF q1))) ?_
      clear hst
      rintro _ w ⟨h345, rfl, hst⟩
      refine ⟨_, rfl, ?_⟩
      refine DRn (l1 := []) (l2 := []) (lc := [12]) (by kernel_rfl) (by kernel_rfl) (by kernel_rfl) ?_
      refine Rn QSn ?_
      refine Lc rfl ?_ LAn
      refine Ly wn (ya (v := h345.v) (et rfl rfl)) ?_
      refine DRz (l1 := []) (l2 := []) (by kernel_rfl) (by kernel_rfl) ?_
      refine Rn QSn ?_
      refine k218 _ _ ?_
      refine seqQ fun Q219 k219 z219 => ?_
      refine wp_region_lit ?_
      refine Y wn rfl (ya (v := .int .i64 0) rfl) ?_
      refine wpList_nil ?_
      refine k219 _ _ ?_
      refine blockQ fun Q220 qb220 => ?_
      obtain ⟨o13, go13, hM10⟩ := bs hM10
      have je13_0 : ∀ (x444 : List Int) (x445 : Int) (f : Nat → Value) (w : World), f 1 = .pointer (some ⟨b7, 0, none⟩) → f 3 = h8.v → f 5 = .int .i64 r20 → f 6 = .int .i64 x445 → f 7 = h22.v → f 8 = .int .i64 x179 → St w0 (ros) (box b7 29 [h2.v, h4.v, h6.v] :: row 3 (rI .i64) h8.v x444 :: row 22 (rS (rI .i64)) h22.v r21 :: rs) w → .inl (x444, x445) = o13 → Q220 (.exit 4) (fr 91 f) w := by
        intro x444 x445 f w eje13_0_1 eje13_0_3 eje13_0_5 eje13_0_6 eje13_0_7 eje13_0_8 hst ho
        subst ho
        refine qb220 _ _ _ ?_
        refine qb217 _ _ _ ?_
        refine k216 _ _ ?_
        refine wp_region_lit ?_
        refine Y wn rfl (ym (v := .int .i64 x179) (et rfl eje13_0_8)) ?_
        refine Y wn rfl (yadd (et rfl rfl) rfl) ?_
        refine Y wn rfl (ya (v := .int .i64 (wa .i64 x179 1)) (et rfl rfl)) ?_
        refine wpList_nil ?_
        obtain rfl := someI hM10
        exact n10 _ _ _ rfl ⟨_, _, _, _, rfl, rfl, eje13_0_1, eje13_0_3, eje13_0_5, eje13_0_6, eje13_0_7, rfl, hst⟩
      have je13_1 : ∀ (x446 : List Int) (f : Nat → Value) (w : World), f 2 = h8.v → St w0 (ros) (row 3 (rI .i64) h8.v x446 :: rs) w → .inr x446 = o13 → Q220 .ret (fr 91 f) w := by
        intro x446 f w eje13_1_2 hst ho
        subst ho
        refine qb220 _ _ _ ?_
        refine qb217 _ _ _ ?_
        refine z216 _ _ _ rfl ?_
        obtain rfl := someI hM10
        refine zz10 _ _ _ _ rfl rfl ?_
        exact je10_1 _ _ _ eje13_1_2 hst (ho10 _ rfl)
      refine loopQ (fun s a w => ∃ (x392 : List Int) (x393 : Int) (x394 : Int) (f : Nat → Value), (x392, x393, x394) = s ∧ a = fr 91 f ∧ f 1 = .pointer (some ⟨b7, 0, none⟩) ∧ f 3 = h8.v ∧ f 5 = .int .i64 r20 ∧ f 6 = .int .i64 x393 ∧ f 7 = h22.v ∧ f 8 = .int .i64 x179 ∧ f 9 = h345.v ∧ f 10 = .int .i64 x394 ∧ St w0 (ros) (box b7 29 [h2.v, h4.v, h6.v] :: row 3 (rI .i64) h8.v x392 :: row 22 (rS (rI .i64)) h22.v r21 :: row 22 (rS (rI .i64)) h345.v r344 :: rs) w) go13 ⟨_, _, _, _, rfl, rfl, e10_1, e10_3, e10_5, e10_6, e10_7, e10_8, rfl, rfl, ((hst.pk 4 [1, 1, 1, 0] rfl).facts (allT allI))⟩ ?_
      clear hst
      rintro _ _ w r13_ ⟨x392, x393, x394, f, rfl, rfl, e13_1, e13_3, e13_5, e13_6, e13_7, e13_8, e13_9, e13_10, hst⟩ hM13 ho13 Q100013 n13 zz13
      refine seqQ fun Q281 k281 z281 => ?_
      refine seqQ fun Q282 k282 z282 => ?_
      refine wp_region_lit ?_
      refine Y wn rfl (ym (v := .int .i64 x394) (et rfl e13_10)) ?_
      refine Y wn rfl (ym (v := h345.v) (et rfl e13_9)) ?_
      refine Y wn rfl (yLen SL_25 (et rfl rfl) hst (rdO (mtR (mtR (mtR mhR))))) ?_
      refine Y wn rfl (ylss (et rfl rfl) (et rfl rfl)) ?_
      refine wpList_nil ?_
      refine k282 _ _ ?_
      rcases iteS hM13 with ⟨c447, hM13⟩ | ⟨c447, hM13⟩
      · refine condT (et rfl rfl) (decide_eq_true c447) ?_
        refine wp_skip ?_
        refine k281 _ _ ?_
        refine seqQ fun Q283 k283 z283 => ?_
        refine blockQ fun Q284 qb284 => ?_
        refine seqQ fun Q285 k285 z285 => ?_
        refine wp_region_lit ?_
        refine Y wn rfl (ya (v := .int .i64 0) rfl) ?_
        refine wpList_nil ?_
        refine k285 _ _ ?_
        refine blockQ fun Q286 qb286 => ?_
        obtain ⟨o14, go14, hM13⟩ := bs hM13
        have je14_0 : ∀ (x478 : List Int) (x479 : Int) (f : Nat → Value) (w : World), f 1 = .pointer (some ⟨b7, 0, none⟩) → f 3 = h8.v → f 5 = .int .i64 r20 → f 6 = .int .i64 x479 → f 7 = h22.v → f 8 = .int .i64 x179 → f 9 = h345.v → f 10 = .int .i64 x394 → St w0 (ros) (box b7 29 [h2.v, h4.v, h6.v] :: row 3 (rI .i64) h8.v x478 :: row 22 (rS (rI .i64)) h22.v r21 :: row 22 (rS (rI .i64)) h345.v r344 :: rs) w → .inl (x478, x479) = o14 → Q286 (.exit 6) (fr 91 f) w := by
          intro x478 x479 f w eje14_0_1 eje14_0_3 eje14_0_5 eje14_0_6 eje14_0_7 eje14_0_8 eje14_0_9 eje14_0_10 hst ho
          subst ho
          refine qb286 _ _ _ ?_
          refine qb284 _ _ _ ?_
          refine k283 _ _ ?_
          refine wp_region_lit ?_
          refine Y wn rfl (ym (v := .int .i64 x394) (et rfl eje14_0_10)) ?_
          refine Y wn rfl (yadd (et rfl rfl) rfl) ?_
          refine Y wn rfl (ya (v := .int .i64 (wa .i64 x394 1)) (et rfl rfl)) ?_
          refine wpList_nil ?_
          obtain rfl := someI hM13
          exact n13 _ _ _ rfl ⟨_, _, _, _, rfl, rfl, eje14_0_1, eje14_0_3, eje14_0_5, eje14_0_6, eje14_0_7, eje14_0_8, eje14_0_9, rfl, hst⟩
        have je14_1 : ∀ (x480 : List Int) (f : Nat → Value) (w : World), f 2 = h8.v → St w0 (ros) (row 3 (rI .i64) h8.v x480 :: rs) w → .inr x480 = o14 → Q286 .ret (fr 91 f) w := by
          intro x480 f w eje14_1_2 hst ho
          subst ho
          refine qb286 _ _ _ ?_
          refine qb284 _ _ _ ?_
          refine z283 _ _ _ rfl ?_
          obtain rfl := someI hM13
          refine zz13 _ _ _ _ rfl rfl ?_
          exact je13_1 _ _ _ eje14_1_2 hst (ho13 _ rfl)
        refine loopQ (fun s a w => ∃ (x460 : List Int) (x461 : Int) (x462 : Int) (f : Nat → Value), (x460, x461, x462) = s ∧ a = fr 91 f ∧ f 1 = .pointer (some ⟨b7, 0, none⟩) ∧ f 3 = h8.v ∧ f 5 = .int .i64 r20 ∧ f 6 = .int .i64 x461 ∧ f 7 = h22.v ∧ f 8 = .int .i64 x179 ∧ f 9 = h345.v ∧ f 10 = .int .i64 x394 ∧ f 11 = .int .i64 x462 ∧ St w0 (ros) (box b7 29 [h2.v, h4.v, h6.v] :: row 3 (rI .i64) h8.v x460 :: row 22 (rS (rI .i64)) h22.v r21 :: row 22 (rS (rI .i64)) h345.v r344 :: rs) w) go14 ⟨_, _, _, _, rfl, rfl, e13_1, e13_3, e13_5, e13_6, e13_7, e13_8, e13_9, e13_10, rfl, hst⟩ ?_
        clear hst
        rintro _ _ w r14_ ⟨x460, x461, x462, f, rfl, rfl, e14_1, e14_3, e14_5, e14_6, e14_7, e14_8, e14_9, e14_10, e14_11, hst⟩ hM14 ho14 Q100014 n14 zz14
        refine seqQ fun Q303 k303 z303 => ?_
        refine seqQ fun Q304 k304 z304 => ?_
        refine wp_region_lit ?_
        refine Y wn rfl (ym (v := .int .i64 x462) (et rfl e14_11)) ?_
        refine Y wn rfl (ym (v := h345.v) (et rfl e14_9)) ?_
        refine Y wn rfl (ym (v := .int .i64 x394) (et rfl e14_10)) ?_
        obtain ⟨x481, gx481, hM14⟩ := bs hM14
        refine Y wn rfl (yIa SL_25 (et rfl rfl) (et rfl rfl) hst (rdO (mtR (mtR (mtR mhR)))) gx481) ?_
        obtain ⟨h482, ch482, hst⟩ := rLs hst (rdO (mtR (mtR (mtR mhR)))) gx481
        refine Y wn rfl (yCe O_22 (et rfl rfl) ch482 rfl) ?_
        refine Y wn rfl (yLen SL_22 (et rfl rfl) hst (rdI mhF)) ?_
        refine Y wn rfl (ylss (et rfl rfl) (et rfl rfl)) ?_
        refine wpList_nil ?_
        refine k304 _ _ ?_
        rcases iteS hM14 with ⟨c483, hM14⟩ | ⟨c483, hM14⟩
        · refine condT (et rfl rfl) (decide_eq_true c483) ?_
          refine wp_skip ?_
          refine k303 _ _ ?_
          refine seqQ fun Q305 k305 z305 => ?_
          refine blockQ fun Q306 qb306 => ?_
          refine seqQ fun Q307 k307 z307 => ?_
          refine seqQ fun Q308 k308 z308 => ?_
          refine wp_region_lit ?_
          refine Y wn rfl (ym (v := .int .i64 x461) (et rfl e14_6)) ?_
          refine Y wn rfl (ymul rfl (et rfl rfl)) ?_
          refine Y wn rfl (ym (v := .int .i64 r20) (et rfl e14_5)) ?_
          refine Y wn rfl (ygeq (et rfl rfl) (et rfl rfl)) ?_
          refine wpList_nil ?_
          refine k308 _ _ ?_
          rcases iteS hM14 with ⟨c484, hM14⟩ | ⟨c484, hM14⟩
          · refine condT (et rfl rfl) (decide_eq_true c484) ?_
            refine seqQ fun Q309 k309 z309 => ?_
            refine wp_region_lit ?_
            refine Y wn rfl (ym (v := h8.v) (et rfl e14_3)) ?_
            refine Y wn rfl (ya (v := h8.v) (et rfl rfl)) ?_
            refine wpList_nil ?_
            refine k309 _ _ ?_
            refine wp_ret ?_
            refine z307 _ _ _ rfl ?_
            refine qb306 _ _ _ ?_
            refine z305 _ _ _ rfl ?_
            obtain rfl := someI hM14
            refine zz14 _ _ _ _ rfl rfl ?_
            exact je14_1 _ _ _ rfl ((hst.pk 4 [1] rfl).facts (allT allI)) (ho14 _ rfl)
          · refine condF (et rfl rfl) (decide_eq_false c484) ?_
            refine wp_skip ?_
            refine k307 _ _ ?_
            refine seqQ fun Q310 k310 z310 => ?_
            refine wp_region_lit ?_
            refine Y wn rfl (ym (v := h8.v) (et rfl e14_3)) ?_
            refine Y wn rfl (ym (v := h345.v) (et rfl e14_9)) ?_
            refine Y wn rfl (ym (v := .int .i64 x394) (et rfl e14_10)) ?_
            obtain ⟨x485, gx485, hM14⟩ := bs hM14
            refine Y wn rfl (yIa SL_25 (et rfl rfl) (et rfl rfl) hst (rdO (mtR (mtR (mtR mhR)))) gx485) ?_
            obtain ⟨h486, ch486, hst⟩ := rLs hst (rdO (mtR (mtR (mtR mhR)))) gx485
            refine Y wn rfl (yCe O_22 (et rfl rfl) ch486 rfl) ?_
            refine Y wn rfl (ym (v := .int .i64 x462) (et rfl e14_11)) ?_
            obtain ⟨x487, gx487, hM14⟩ := bs hM14
            refine Y wn rfl (yIa SL_22 (et rfl rfl) (et rfl rfl) hst (rdI mhF) gx487) ?_
            refine Y wn rfl (yI O_3 (et rfl rfl) hst (rdI mhF) gx487) ?_
            obtain ⟨x488, gx488, hM14⟩ := bs hM14
            refine Y wn rfl (yIs SL_22 (et rfl rfl) (et rfl rfl) hst (rdO (mtR mhR)) gx488) ?_
            replace hst := hst.pk 2 [1, 0] rfl
            refine YT wn rfl (r_sti (cs := [.int .i64 0]) hst O_3 rfl (et rfl rfl) rfl rfl mkI gx488) ?_
            clear hst
            intro w hst
            refine wpList_nil ?_
            refine k310 _ _ ?_
            obtain ⟨x489, gx489, hM14⟩ := bs hM14
            obtain ⟨x491, gx491, hM14⟩ := bs hM14
            obtain ⟨x492, gx492, hM14⟩ := bs hM14
            refine wp_drawR [0, 0, 2, 0, 0, 24, 56, 0, 248, 504, 1022, 2046, 4095, 8191] [13] 1 folM (by kernel_rfl) (by kernel_rfl) (by kernel_rfl) ?_
            replace hst := hst.drew
            refine DRn (l1 := [0, 1, 2, 3, 4, 5, 6, 7, 8, 9, 10, 11, 12]) (l2 := []) (lc := [13]) (by kernel_rfl) (by kernel_rfl) (by kernel_rfl) ?_
            refine Ry rfl rfl wn (ym (v := .int .i64 x461) (et rfl e14_6)) ?_
            refine Ry rfl rfl wn (yFb FL_29_1 (et rfl e14_1)) ?_
            refine Ry rfl rfl wn (yLb (u := h4.v) O_22 (et rfl rfl) hst (mtR mhR) rfl) ?_
            refine Ry rfl rfl wn (ym (v := h345.v) (et rfl e14_9)) ?_
            refine Ry rfl rfl wn (ym (v := .int .i64 x394) (et rfl e14_10)) ?_
            refine Ry rfl rfl wn (yIa SL_25 (et rfl rfl) (et rfl rfl) hst (rdO (mtR (mtR (mtR mhR)))) gx489) ?_
            obtain ⟨h490, ch490, hst⟩ := rLs hst (rdO (mtR (mtR (mtR mhR)))) gx489
            refine Ry rfl rfl wn (yCe O_22 (et rfl rfl) ch490 rfl) ?_
            refine Ry rfl rfl wn (ym (v := .int .i64 x462) (et rfl e14_11)) ?_
            refine Ry rfl rfl wn (yIa SL_22 (et rfl rfl) (et rfl rfl) hst (rdI mhF) gx491) ?_
            refine Ry rfl rfl wn (yI O_3 (et rfl rfl) hst (rdI mhF) gx491) ?_
            refine Ry rfl rfl wn (yIa SL_22 (et rfl rfl) (et rfl rfl) hst (rdI (mtF (mtF (mtF q2)))) gx492) ?_
            refine Ry rfl rfl wn (yI O_3 (et rfl rfl) hst (rdI (mtF (mtF (mtF q2)))) gx492) ?_
            refine Ry rfl rfl wn (yadd (et rfl rfl) (et rfl rfl)) ?_
            refine Rn QSn ?_
            refine Lc rfl ?_ LAn
            refine Ly wn (ya (v := .int .i64 (wa .i64 x461 x492)) (et rfl rfl)) ?_
            refine DRz (l1 := []) (l2 := []) (by kernel_rfl) (by kernel_rfl) ?_
            refine Rn QSn ?_
            refine qb306 _ _ _ ?_
            refine k305 _ _ ?_
            refine wp_region_lit ?_
            refine Y wn rfl (ym (v := .int .i64 x462) (et rfl e14_11)) ?_
            refine Y wn rfl (yadd (et rfl rfl) rfl) ?_
            refine Y wn rfl (ya (v := .int .i64 (wa .i64 x462 1)) (et rfl rfl)) ?_
            refine wpList_nil ?_
            obtain rfl := someI hM14
            exact n14 _ _ _ rfl ⟨_, _, _, _, rfl, rfl, e14_1, e14_3, e14_5, rfl, e14_7, e14_8, e14_9, e14_10, rfl, ((hst.pk 4 [1, 0, 0, 0] rfl).facts (allT (allT (allT allI))))⟩
        · refine condF (et rfl rfl) (decide_eq_false c483) ?_
          refine wp_exit ?_
          refine z303 _ _ _ rfl ?_
          obtain rfl := someI hM14
          refine zz14 _ _ _ _ rfl rfl ?_
          exact je14_0 _ _ _ _ e14_1 e14_3 e14_5 e14_6 e14_7 e14_8 e14_9 e14_10 (hst.facts (allT allI)) (ho14 _ rfl)
      · refine condF (et rfl rfl) (decide_eq_false c447) ?_
        refine wp_exit ?_
        refine z281 _ _ _ rfl ?_
        obtain rfl := someI hM13
        refine zz13 _ _ _ _ rfl rfl ?_
        exact je13_0 _ _ _ _ e13_1 e13_3 e13_5 e13_6 e13_7 e13_8 (hst.pk 4 [0, 0, 0] rfl) (ho13 _ rfl)
    · refine condF (et rfl rfl) (decide_eq_false c339) ?_
      refine wp_exit ?_
      refine z214 _ _ _ rfl ?_
      obtain rfl := someI hM10
      refine zz10 _ _ _ _ rfl rfl ?_
      exact je10_0 _ _ _ e10_3 (hst.pk 3 [1] rfl) (ho10 _ rfl)
  refine loopQ (fun s a w => ∃ (x13 : List Int) (x14 : Int) (f : Nat → Value), (x13, x14) = s ∧ a = fr 91 f ∧ f 1 = .pointer (some ⟨b7, 0, none⟩) ∧ f 3 = h8.v ∧ f 4 = .int .i64 x14 ∧ St w0 (ros) (box b7 29 [h2.v, h4.v, h6.v] :: row 3 (rI .i64) h8.v x13 :: rs) w) go1 ⟨_, _, _, rfl, rfl, rfl, rfl, rfl, (hst.pk 2 [1, 0] rfl)⟩ ?_
  clear hst
  rintro _ _ w r1_ ⟨x13, x14, f, rfl, rfl, e1_1, e1_3, e1_4, hst⟩ hM1 ho1 Q100001 n1 zz1
  refine seqQ fun Q311 k311 z311 => ?_
  refine seqQ fun Q312 k312 z312 => ?_
  refine wp_region_lit ?_
  refine Y wn rfl (ym (v := .int .i64 x14) (et rfl e1_4)) ?_
  refine Y wn rfl (ym (v := h8.v) (et rfl e1_3)) ?_
  refine Y wn rfl (yLen SL_22 (et rfl rfl) hst (rdO (mtR mhR))) ?_
  refine Y wn rfl (ylss (et rfl rfl) (et rfl rfl)) ?_
  refine wpList_nil ?_
  refine k312 _ _ ?_
  rcases iteS hM1 with ⟨c493, hM1⟩ | ⟨c493, hM1⟩
  · refine condT (et rfl rfl) (decide_eq_true c493) ?_
    refine wp_skip ?_
    refine k311 _ _ ?_
    refine seqQ fun Q313 k313 z313 => ?_
    refine blockQ fun Q314 qb314 => ?_
    refine wp_region_lit ?_
    refine Y wn rfl (ym (v := h8.v) (et rfl e1_3)) ?_
    refine Y wn rfl (ym (v := .int .i64 x14) (et rfl e1_4)) ?_
    obtain ⟨x494, gx494, hM1⟩ := bs hM1
    refine Y wn rfl (yIs SL_22 (et rfl rfl) (et rfl rfl) hst (rdO (mtR mhR)) gx494) ?_
    replace hst := hst.pk 2 [1, 0] rfl
    refine YT wn rfl (r_sti (cs := [.int .i64 1]) hst O_3 rfl (et rfl rfl) rfl rfl mkI gx494) ?_
    clear hst
    intro w hst
    refine wpList_nil ?_
    refine qb314 _ _ _ ?_
    refine k313 _ _ ?_
    refine wp_region_lit ?_
    refine Y wn rfl (ym (v := .int .i64 x14) (et rfl e1_4)) ?_
    refine Y wn rfl (yadd (et rfl rfl) rfl) ?_
    refine Y wn rfl (ya (v := .int .i64 (wa .i64 x14 1)) (et rfl rfl)) ?_
    refine wpList_nil ?_
    obtain rfl := someI hM1
    exact n1 _ _ _ rfl ⟨_, _, _, rfl, rfl, e1_1, e1_3, rfl, (hst.pk 2 [1, 0] rfl)⟩
  · refine condF (et rfl rfl) (decide_eq_false c493) ?_
    refine wp_exit ?_
    refine z311 _ _ _ rfl ?_
    obtain rfl := someI hM1
    refine zz1 _ _ _ _ rfl rfl ?_
    exact je1_0 _ _ _ e1_1 e1_3 hst (ho1 _ rfl)

theorem sparselaw18_DissectRefined_ok {w0 : World} {ros : List Fact} {rs : List Res} {w : World} {x1 : Int} {x2 : List Int} {x4 : List Int} {h3 : Hdr} {h5 : Hdr} {out : Bool} (hM : sparselaw18_DissectRefined x1 x2 x4 = some out) (q1 : imm (rI .i64) h3.v x2 ∈ ros) (q2 : imm (rI .i64) h5.v x4 ∈ ros) (hst : St w0 ros (rs) w) :
    Calls Try.prog 5 #[.int .i64 x1, h3.v, h5.v] w (fun e w => e = .returned (.bool out) ∧ St w0 (ros) (rs) w) := by
  refine enterQ Try.func5 rfl Try.ntmps5 rfl fun Q hQ => ?_
  refine seqQ fun Q1 k1 z1 => ?_
  refine wp_region_lit ?_
  refine Y wn rfl (ya (v := .bool false) rfl) ?_
  refine wpList_nil ?_
  refine k1 _ _ ?_
  refine seqQ fun Q2 k2 z2 => ?_
  refine seqQ fun Q3 k3 z3 => ?_
  refine wp_region_lit ?_
  refine Y wn rfl (ym (v := h3.v) (et rfl rfl)) ?_
  refine Y wn rfl (yLen SL_22 (et rfl rfl) hst (rdI q1)) ?_
  refine Y wn rfl (ygtr (et rfl rfl) rfl) ?_
  refine Y wn rfl (ym (v := .bool (decide ((90 : Int) < (x2.length : Int)))) (et rfl rfl)) ?_
  refine joinW 4 (fun f w => f 0 = .int .i64 x1 ∧ f 1 = h3.v ∧ f 2 = h5.v ∧ f 21 = .bool ((decide ((90 : Int) < (x2.length : Int))) || (decide ((60 : Int) < (x4.length : Int)))) ∧ St w0 (ros) (rs) w) (fun j1 => ?_) ?_
  · rcases Bool.eq_false_or_eq_true (decide ((90 : Int) < (x2.length : Int))) with c7 | c7
    · refine Gn (wx rfl rfl rfl c7) rfl ?_
      refine Gn (wx rfl rfl rfl c7) rfl ?_
      refine Gn (wx rfl rfl rfl c7) rfl ?_
      refine Y wn rfl (ypt (v := .bool true) (et rfl rfl) c7 rfl) ?_
      exact j1 _ _ ⟨rfl, rfl, rfl, (congrArg Value.bool (orT c7)), hst⟩
    · refine Y (wg rfl rfl rfl c7) rfl (ym (v := h5.v) (et rfl rfl)) ?_
      refine Y (wg rfl rfl rfl c7) rfl (yLen SL_22 (et rfl rfl) hst (rdI q2)) ?_
      refine Y (wg rfl rfl rfl c7) rfl (ygtr (et rfl rfl) rfl) ?_
      refine Y wn rfl (ypf (v := .bool (decide ((60 : Int) < (x4.length : Int)))) (et rfl rfl) c7 (et rfl rfl)) ?_
      exact j1 _ _ ⟨rfl, rfl, rfl, (congrArg Value.bool (orF c7)), hst⟩
  clear hst
  rintro f w ⟨e6_0, e6_1, e6_2, e6_21, hst⟩
  refine wpList_nil ?_
  refine k3 _ _ ?_
  rcases iteS hM with ⟨c8, hM⟩ | ⟨c8, hM⟩
  · refine condT (et rfl e6_21) c8 ?_
    refine seqQ fun Q4 k4 z4 => ?_
    refine wp_region_lit ?_
    obtain ⟨r9, gr9, hM⟩ := bs hM
    refine Yc wn rfl (yCall FN_7 a0) (sparselaw18_awake_ok (hM := gr9) (hst := hst) ) ?_
    clear hst
    rintro _ w ⟨rfl, hst⟩
    refine ⟨_, rfl, ?_⟩
    refine Y wn rfl (ya (v := .bool r9) (et rfl rfl)) ?_
    refine wpList_nil ?_
    refine k4 _ _ ?_
    refine wp_ret ?_
    refine z2 _ _ _ rfl ?_
    obtain rfl := someI hM
    exact hQ _ _ _ (fin1r Try.results5 ⟨rfl, rfl⟩ ⟨rfl, hst⟩)
  · refine condF (et rfl e6_21) (bfalse c8) ?_
    refine wp_skip ?_
    refine k2 _ _ ?_
    refine seqQ fun Q5 k5 z5 => ?_
    refine wp_region_lit ?_
    refine Y wn rfl (ym (v := .int .i64 x1) (et rfl e6_0)) ?_
    obtain ⟨r10, gr10, hM⟩ := bs hM
    refine Yc wn rfl (yCall FN_8 (a2 (et rfl rfl) rfl)) (sparsekit_Place_ok (hM := gr10) (hst := hst) ) ?_
    clear hst
    rintro _ w ⟨rfl, hst⟩
    refine ⟨_, rfl, ?_⟩
    refine Y wn rfl (ya (v := .int .i64 r10) (et rfl rfl)) ?_
    refine wpList_nil ?_
    refine k5 _ _ ?_
    refine seqQ fun Q6 k6 z6 => ?_
    refine wp_region_lit ?_
    refine Y wn rfl (ym (v := .int .i64 r10) (et rfl rfl)) ?_
    refine Y wn rfl (ym (v := h3.v) (et rfl e6_1)) ?_
    refine Y wn rfl (ym (v := h5.v) (et rfl e6_2)) ?_
    obtain ⟨r11, gr11, hM⟩ := bs hM
    refine Yc wn rfl (yCall FN_9 (a3 (et rfl rfl) (et rfl rfl) (et rfl rfl))) (sparsemake_Weighted_ok (hM := gr11) (hst := hst) (q1 := q1) (q2 := q2)) ?_
    clear hst
    rintro _ w ⟨h12, h13, h14, rfl, hst⟩
    refine ⟨_, rfl, ?_⟩
    refine YB wn rfl (rAl hst ZT_29) ?_
    clear hst
    intro b15 w hst
    refine YT wn rfl (r_stbn (vals' := [h12.v, h13.v, h14.v]) (us := [h12.v, h13.v, h14.v]) hst ST_29 (et rfl rfl) (et rfl rfl) rfl rfl (one_of rfl) rfl) ?_
    clear hst
    intro w hst
    refine wpList_nil ?_
    refine k6 _ _ ?_
    refine seqQ fun Q7 k7 z7 => ?_
    refine wp_region_lit ?_
    refine Y wn rfl (yLbs (us := [h12.v, h13.v, h14.v]) ST_29 (et rfl rfl) hst mhR rfl rfl) ?_
    obtain ⟨r16, gr16, hM⟩ := bs hM
    replace hst := hst.pk 2 [1, 0] rfl
    replace hst := hst.fz
    replace hst := hst.pk 2 [1, 0] rfl
    replace hst := hst.fz
    replace hst := hst.pk 2 [1, 0] rfl
    replace hst := hst.fz
    refine Yc wn rfl (yCall FN_14 (a1 (et rfl rfl))) (dissect_Bisect_ok (hM := gr16) (hst := hst) (q1 := (mtF (mtF mhF))) (q2 := (mtF mhF)) (q3 := mhF)) ?_
    clear hst
    rintro _ w ⟨h17, rfl, hst⟩
    refine ⟨_, rfl, ?_⟩
    refine Y wn rfl (ym (v := .tuple #[h17.v, .int .i64 r16.2]) (et rfl rfl)) ?_
    refine Y wn rfl (yx (v := h17.v) (et rfl rfl) rfl) ?_
    refine Y wn rfl (yx (v := .int .i64 r16.2) (et rfl rfl) rfl) ?_
    refine Y wn rfl (ya (v := h17.v) (et rfl rfl)) ?_
    refine Y wn rfl (ya (v := .int .i64 r16.2) (et rfl rfl)) ?_
    refine wpList_nil ?_
    refine k7 _ _ ?_
    refine seqQ fun Q8 k8 z8 => ?_
    refine seqQ fun Q9 k9 z9 => ?_
    refine wp_region_lit ?_
    refine Y wn rfl (ym (v := .int .i64 r16.2) (et rfl rfl)) ?_
    refine Y wn rfl (yneq (et rfl rfl) rfl) ?_
    refine Y wn rfl (ym (v := .bool (!(decide (r16.2 = 0)))) (et rfl rfl)) ?_
    refine joinW 5 (fun f w => f 7 = .pointer (some ⟨b15, 0, none⟩) ∧ f 8 = h17.v ∧ f 41 = .bool ((!(decide (r16.2 = 0))) || (!(decide ((r16.1.length : Int) = r10)))) ∧ St w0 (imm (rS (rI .i64)) h12.v r11.1 :: imm (rI .i64) h13.v r11.2.1 :: imm (rS (rI .i64)) h14.v r11.2.2 :: ros) (box b15 29 [h12.v, h13.v, h14.v] :: row 3 (rI .i64) h17.v r16.1 :: rs) w) (fun j2 => ?_) ?_
    · rcases Bool.eq_false_or_eq_true (!(decide (r16.2 = 0))) with c19 | c19
      · refine Gn (wx rfl rfl rfl c19) rfl ?_
        refine Gn (wx rfl rfl rfl c19) rfl ?_
        refine Gn (wx rfl rfl rfl c19) rfl ?_
        refine Gn (wx rfl rfl rfl c19) rfl ?_
        refine Y wn rfl (ypt (v := .bool true) (et rfl rfl) c19 rfl) ?_
        exact j2 _ _ ⟨rfl, rfl, (congrArg Value.bool (orT c19)), ((hst.pk 2 [1, 0] rfl).facts (allC (mtF (mtF mhF)) (allC (mtF mhF) (allC mhF (allT (allT (allT allI)))))))⟩
      · refine Y (wg rfl rfl rfl c19) rfl (ym (v := h17.v) (et rfl rfl)) ?_
        refine Y (wg rfl rfl rfl c19) rfl (yLen SL_22 (et rfl rfl) hst (rdO mhR)) ?_
        refine Y (wg rfl rfl rfl c19) rfl (ym (v := .int .i64 r10) (et rfl rfl)) ?_
        refine Y (wg rfl rfl rfl c19) rfl (yneq (et rfl rfl) (et rfl rfl)) ?_
        refine Y wn rfl (ypf (v := .bool (!(decide ((r16.1.length : Int) = r10)))) (et rfl rfl) c19 (et rfl rfl)) ?_
        exact j2 _ _ ⟨rfl, rfl, (congrArg Value.bool (orF c19)), ((hst.pk 2 [1, 0] rfl).facts (allC (mtF (mtF mhF)) (allC (mtF mhF) (allC mhF (allT (allT (allT allI)))))))⟩
    clear hst
    rintro f w ⟨e18_7, e18_8, e18_41, hst⟩
    refine wpList_nil ?_
    refine k9 _ _ ?_
    rcases iteS hM with ⟨c20, hM⟩ | ⟨c20, hM⟩
    · refine condT (et rfl e18_41) c20 ?_
      refine seqQ fun Q10 k10 z10 => ?_
      refine wp_region_lit ?_
      refine Y wn rfl (ya (v := .bool false) rfl) ?_
      refine wpList_nil ?_
      refine k10 _ _ ?_
      refine wp_ret ?_
      refine z8 _ _ _ rfl ?_
      obtain rfl := someI hM
      exact hQ _ _ _ (fin1r Try.results5 ⟨rfl, rfl⟩ ⟨rfl, ((hst.pk 2 [] rfl).facts (allT (allT (allT allI))))⟩)
    · refine condF (et rfl e18_41) (bfalse c20) ?_
      refine wp_skip ?_
      refine k8 _ _ ?_
      refine seqQ fun Q11 k11 z11 => ?_
      refine wp_region_lit ?_
      refine Y wn rfl (yLbs (us := [h12.v, h13.v, h14.v]) ST_29 (et rfl e18_7) hst mhR rfl rfl) ?_
      refine Y wn rfl (ym (v := h17.v) (et rfl e18_8)) ?_
      obtain ⟨r21, gr21, hM⟩ := bs hM
      replace hst := hst.pk 2 [1, 0] rfl
      replace hst := hst.fz
      refine Yc wn rfl (yCall FN_20 (a2 (et rfl rfl) (et rfl rfl))) (dissect_Cut_ok (hM := gr21) (hst := hst) (q1 := (mtF mhF)) (q2 := (mtF (mtF mhF))) (q3 := (mtF (mtF (mtF mhF)))) (q4 := mhF)) ?_
      clear hst
      rintro _ w ⟨rfl, hst⟩
      refine ⟨_, rfl, ?_⟩
      refine Y wn rfl (ym (v := .tuple #[.int .i64 r21.1, .int .i64 r21.2]) (et rfl rfl)) ?_
      refine Y wn rfl (yx (v := .int .i64 r21.1) (et rfl rfl) rfl) ?_
      refine Y wn rfl (yx (v := .int .i64 r21.2) (et rfl rfl) rfl) ?_
      refine Y wn rfl (ya (v := .int .i64 r21.1) (et rfl rfl)) ?_
      refine Y wn rfl (ya (v := .int .i64 r21.2) (et rfl rfl)) ?_
      refine wpList_nil ?_
      refine k11 _ _ ?_
      refine seqQ fun Q12 k12 z12 => ?_
      obtain ⟨r22, gr22, hM⟩ := bs hM
      obtain ⟨r24, gr24, hM⟩ := bs hM
      refine wp_drawR [0, 0, 2, 7, 15, 31, 31, 63, 255] [2, 3, 7, 8] 4 folM (by kernel_rfl) (by kernel_rfl) (by kernel_rfl) ?_
      replace hst := hst.drew
      refine DRn (l1 := [0, 1]) (l2 := []) (lc := [2]) (by kernel_rfl) (by kernel_rfl) (by kernel_rfl) ?_
      refine Ry rfl rfl wn (yLbs (us := [h12.v, h13.v, h14.v]) ST_29 (et rfl e18_7) hst mhR rfl rfl) ?_
      refine Ry rfl rfl wn (yLbs (us := [h12.v, h13.v, h14.v]) ST_29 (et rfl e18_7) hst mhR rfl rfl) ?_
      refine Rn QSn ?_
      refine Lc rfl ?_ LAn
      refine Lk wn (yCall FN_21 (a1 (et rfl rfl))) (sparseref18_Grow_ok (hM := gr22) (hst := hst) (q1 := (mtF mhF)) (q2 := (mtF (mtF mhF))) (q3 := (mtF (mtF (mtF mhF))))) ?_
      clear hst
      rintro _ w ⟨h23, rfl, hst⟩
      refine ⟨_, rfl, ?_⟩
      refine DRn (l1 := []) (l2 := [0]) (lc := [3]) (by kernel_rfl) (by kernel_rfl) (by kernel_rfl) ?_
      refine Rn (Sy rfl rfl wn (yLbs (us := [h12.v, h13.v, h14.v]) ST_29 (et rfl e18_7) hst (mtR mhR) rfl rfl) rfl QSn) ?_
      refine Lc rfl ?_ LAn
      replace hst := hst.fz
      refine Lk wn (yCall FN_20 (a2 (et rfl rfl) (et rfl rfl))) (dissect_Cut_ok (hM := gr24) (hst := hst) (q1 := (mtF (mtF mhF))) (q2 := (mtF (mtF (mtF mhF)))) (q3 := (mtF (mtF (mtF (mtF mhF))))) (q4 := mhF)) ?_
      clear hst
      rintro _ w ⟨rfl, hst⟩
      refine ⟨_, rfl, ?_⟩
      refine DRn (l1 := [4, 5, 6]) (l2 := []) (lc := [7]) (by kernel_rfl) (by kernel_rfl) (by kernel_rfl) ?_
      refine Ry rfl rfl wn (ym (v := .tuple #[.int .i64 r24.1, .int .i64 r24.2]) (et rfl rfl)) ?_
      refine Ry rfl rfl wn (yx (v := .int .i64 r24.1) (et rfl rfl) rfl) ?_
      refine Ry rfl rfl wn (yx (v := .int .i64 r24.2) (et rfl rfl) rfl) ?_
      refine Rn QSn ?_
      refine Lc rfl ?_ LAn
      refine Ly wn (ya (v := .int .i64 r24.1) (et rfl rfl)) ?_
      refine DRn (l1 := []) (l2 := [6]) (lc := [8]) (by kernel_rfl) (by kernel_rfl) (by kernel_rfl) ?_
      refine Rn (Sy rfl rfl wn (yx (v := .int .i64 r24.2) (et rfl rfl) rfl) rfl QSn) ?_
      refine Lc rfl ?_ LAn
      refine Ly wn (ya (v := .int .i64 r24.2) (et rfl rfl)) ?_
      refine DRz (l1 := []) (l2 := []) (by kernel_rfl) (by kernel_rfl) ?_
      refine Rn QSn ?_
      refine k12 _ _ ?_
      refine seqQ fun Q13 k13 z13 => ?_
      refine wp_region_lit ?_
      refine Y wn rfl (ym (v := .int .i64 r21.2) (et rfl rfl)) ?_
      refine Y wn rfl (yeql (et rfl rfl) rfl) ?_
      refine Y wn rfl (ym (v := .bool (decide (r21.2 = 0))) (et rfl rfl)) ?_
      refine joinW 3 (fun f w => f 10 = .int .i64 r21.1 ∧ f 12 = .int .i64 r24.1 ∧ f 60 = .bool ((decide (r21.2 = 0)) && (decide (r24.2 = 0))) ∧ St w0 (ros) (rs) w) (fun j3 => ?_) ?_
      · rcases Bool.eq_false_or_eq_true (decide (r21.2 = 0)) with c26 | c26
        · refine Y (wg rfl rfl rfl c26) rfl (ym (v := .int .i64 r24.2) (et rfl rfl)) ?_
          refine Y (wg rfl rfl rfl c26) rfl (yeql (et rfl rfl) rfl) ?_
          refine Y wn rfl (ypt (v := .bool (decide (r24.2 = 0))) (et rfl rfl) c26 (et rfl rfl)) ?_
          exact j3 _ _ ⟨rfl, rfl, (congrArg Value.bool (andT c26)), ((hst.pk 1 [] rfl).facts (allT (allT (allT (allT (allT allI))))))⟩
        · refine Gn (wx rfl rfl rfl c26) rfl ?_
          refine Gn (wx rfl rfl rfl c26) rfl ?_
          refine Y wn rfl (ypf (v := .bool false) (et rfl rfl) c26 rfl) ?_
          exact j3 _ _ ⟨rfl, rfl, (congrArg Value.bool (andF c26)), ((hst.pk 1 [] rfl).facts (allT (allT (allT (allT (allT allI))))))⟩
      clear hst
      rintro f w ⟨e25_10, e25_12, e25_60, hst⟩
      refine Y wn rfl (ym (v := .bool ((decide (r21.2 = 0)) && (decide (r24.2 = 0)))) (et rfl e25_60)) ?_
      refine joinW 4 (fun f w => f 65 = .bool (((decide (r21.2 = 0)) && (decide (r24.2 = 0))) && (decide (r21.1 ≤ r24.1))) ∧ St w0 (ros) (rs) w) (fun j4 => ?_) ?_
      · rcases Bool.eq_false_or_eq_true (((decide (r21.2 = 0)) && (decide (r24.2 = 0)))) with c28 | c28
        · refine Y (wg rfl rfl rfl c28) rfl (ym (v := .int .i64 r21.1) (et rfl e25_10)) ?_
          refine Y (wg rfl rfl rfl c28) rfl (ym (v := .int .i64 r24.1) (et rfl e25_12)) ?_
          refine Y (wg rfl rfl rfl c28) rfl (yleq (et rfl rfl) (et rfl rfl)) ?_
          refine Y wn rfl (ypt (v := .bool (decide (r21.1 ≤ r24.1))) (et rfl rfl) c28 (et rfl rfl)) ?_
          exact j4 _ _ ⟨(congrArg Value.bool (andT c28)), hst⟩
        · refine Gn (wx rfl rfl rfl c28) rfl ?_
          refine Gn (wx rfl rfl rfl c28) rfl ?_
          refine Gn (wx rfl rfl rfl c28) rfl ?_
          refine Y wn rfl (ypf (v := .bool false) (et rfl rfl) c28 rfl) ?_
          exact j4 _ _ ⟨(congrArg Value.bool (andF c28)), hst⟩
      clear hst
      rintro f w ⟨e27_65, hst⟩
      refine Y wn rfl (ym (v := .bool (((decide (r21.2 = 0)) && (decide (r24.2 = 0))) && (decide (r21.1 ≤ r24.1)))) (et rfl e27_65)) ?_
      obtain ⟨r30, gr30, hM⟩ := bs hM
      refine joinW 2 (fun f w => f 68 = .bool r30 ∧ St w0 (ros) (rs) w) (fun j5 => ?_) ?_
      · rcases iteS gr30 with ⟨c32, gr30⟩ | ⟨c32, gr30⟩
        · obtain ⟨r33, gr33, gr30⟩ := bs gr30
          refine Yc (wg rfl rfl rfl c32) rfl (yCall FN_7 a0) (sparselaw18_awake_ok (hM := gr33) (hst := hst) ) ?_
          clear hst
          rintro _ w ⟨rfl, hst⟩
          refine ⟨_, rfl, ?_⟩
          refine Y wn rfl (ypt (v := .bool r33) (et rfl rfl) c32 (et rfl rfl)) ?_
          obtain rfl := someI gr30
          exact j5 _ _ ⟨rfl, hst⟩
        · refine Gn (wx rfl rfl rfl (bfalse c32)) rfl ?_
          refine Y wn rfl (ypf (v := .bool false) (et rfl rfl) (bfalse c32) rfl) ?_
          obtain rfl := someI gr30
          exact j5 _ _ ⟨rfl, hst⟩
      clear hst
      rintro f w ⟨e31_68, hst⟩
      refine Y wn rfl (ya (v := .bool r30) (et rfl e31_68)) ?_
      refine wpList_nil ?_
      refine k13 _ _ ?_
      refine wp_ret ?_
      obtain rfl := someI hM
      exact hQ _ _ _ (fin1r Try.results5 ⟨rfl, rfl⟩ ⟨rfl, hst⟩)
end Go.Proofs.Ythpeajepbffinaa
