/- Walks: each function computes its model, printed. -/
import Derived.Test.YtcknmegldjnjjaaW3
namespace Go.Proofs.Ytcknmegldjnjjaa
open Go Sx M
set_option maxRecDepth 100000
set_option maxHeartbeats 400000
set_option linter.unusedVariables false
attribute [local irreducible] wpList Code.wp Calls DR QR QS LA LS St
theorem sparseref12_Peripheral_ok {w0 : World} {ros : List Fact} {rs : List Res} {w : World} {x1 : List (List Int)} {x3 : Int} {h2 : Hdr} {out : Int} (hM : sparseref12_Peripheral x1 x3 = some out) (q1 : imm (rS (rI .i64)) h2.v x1 ∈ ros) (hst : St w0 ros (rs) w) :
    Calls Try.prog 25 #[.agg #[h2.v], .int .i64 x3] w (fun e w => e = .returned (.int .i64 out) ∧ St w0 (ros) (rs) w) := by
  refine enterQ Try.func25 rfl Try.ntmps25 rfl fun Q hQ => ?_
  refine seqQ fun Q1 k1 z1 => ?_
  refine wp_region_lit ?_
  refine YB wn rfl (r_box (vals := [h2.v]) hst (et rfl rfl) rfl) ?_
  clear hst
  intro b4 w hst
  refine Y wn rfl (ya (v := .int .i64 0) rfl) ?_
  refine wpList_nil ?_
  refine k1 _ _ ?_
  refine seqQ fun Q2 k2 z2 => ?_
  refine seqQ fun Q3 k3 z3 => ?_
  refine wp_region_lit ?_
  refine Y wn rfl (yLbs (us := [h2.v]) ST_27 (et rfl rfl) hst mhR rfl rfl) ?_
  obtain ⟨r5, gr5, hM⟩ := bs hM
  refine Yc wn rfl (yCall FN_31 (a1 (et rfl rfl))) (sparseref12_Check_ok (hM := gr5) (hst := hst) (q1 := q1)) ?_
  clear hst
  rintro _ w ⟨rfl, hst⟩
  refine ⟨_, rfl, ?_⟩
  refine Y wn rfl (yneq (et rfl rfl) rfl) ?_
  refine Y wn rfl (ym (v := .bool (!(decide (r5 = 0)))) (et rfl rfl)) ?_
  refine joinW 3 (fun f w => f 1 = .int .i64 x3 ∧ f 2 = .pointer (some ⟨b4, 0, none⟩) ∧ f 15 = .bool ((!(decide (r5 = 0))) || (decide (x3 < 0))) ∧ St w0 (ros) (box b4 27 [h2.v] :: rs) w) (fun j1 => ?_) ?_
  · rcases Bool.eq_false_or_eq_true (!(decide (r5 = 0))) with c7 | c7
    · refine Gn (wx rfl rfl rfl c7) rfl ?_
      refine Gn (wx rfl rfl rfl c7) rfl ?_
      refine Y wn rfl (ypt (v := .bool true) (et rfl rfl) c7 rfl) ?_
      exact j1 _ _ ⟨rfl, rfl, (congrArg Value.bool (orT c7)), hst⟩
    · refine Y (wg rfl rfl rfl c7) rfl (ym (v := .int .i64 x3) (et rfl rfl)) ?_
      refine Y (wg rfl rfl rfl c7) rfl (ylss (et rfl rfl) rfl) ?_
      refine Y wn rfl (ypf (v := .bool (decide (x3 < 0))) (et rfl rfl) c7 (et rfl rfl)) ?_
      exact j1 _ _ ⟨rfl, rfl, (congrArg Value.bool (orF c7)), hst⟩
  clear hst
  rintro f w ⟨e6_1, e6_2, e6_15, hst⟩
  refine Y wn rfl (ym (v := .bool ((!(decide (r5 = 0))) || (decide (x3 < 0)))) (et rfl e6_15)) ?_
  refine joinW 6 (fun f w => f 1 = .int .i64 x3 ∧ f 2 = .pointer (some ⟨b4, 0, none⟩) ∧ f 22 = .bool (((!(decide (r5 = 0))) || (decide (x3 < 0))) || (decide ((x1.length : Int) ≤ x3))) ∧ St w0 (ros) (box b4 27 [h2.v] :: rs) w) (fun j2 => ?_) ?_
  · rcases Bool.eq_false_or_eq_true (((!(decide (r5 = 0))) || (decide (x3 < 0)))) with c9 | c9
    · refine Gn (wx rfl rfl rfl c9) rfl ?_
      refine Gn (wx rfl rfl rfl c9) rfl ?_
      refine Gn (wx rfl rfl rfl c9) rfl ?_
      refine Gn (wx rfl rfl rfl c9) rfl ?_
      refine Gn (wx rfl rfl rfl c9) rfl ?_
      refine Y wn rfl (ypt (v := .bool true) (et rfl rfl) c9 rfl) ?_
      exact j2 _ _ ⟨e6_1, e6_2, (congrArg Value.bool (orT c9)), hst⟩
    · refine Y (wg rfl rfl rfl c9) rfl (ym (v := .int .i64 x3) (et rfl e6_1)) ?_
      refine Y (wg rfl rfl rfl c9) rfl (yFb FL_27_0 (et rfl e6_2)) ?_
      refine Y (wg rfl rfl rfl c9) rfl (yLb (u := h2.v) O_25 (et rfl rfl) hst mhR rfl) ?_
      refine Y (wg rfl rfl rfl c9) rfl (yLen SL_25 (et rfl rfl) hst (rdI q1)) ?_
      refine Y (wg rfl rfl rfl c9) rfl (ygeq (et rfl rfl) (et rfl rfl)) ?_
      refine Y wn rfl (ypf (v := .bool (decide ((x1.length : Int) ≤ x3))) (et rfl rfl) c9 (et rfl rfl)) ?_
      exact j2 _ _ ⟨e6_1, e6_2, (congrArg Value.bool (orF c9)), hst⟩
  clear hst
  rintro f w ⟨e8_1, e8_2, e8_22, hst⟩
  refine wpList_nil ?_
  refine k3 _ _ ?_
  rcases iteS hM with ⟨c10, hM⟩ | ⟨c10, hM⟩
  · refine condT (et rfl e8_22) c10 ?_
    refine seqQ fun Q4 k4 z4 => ?_
    refine wp_region_lit ?_
    refine Y wn rfl (ya (v := .int .i64 (-1)) rfl) ?_
    refine wpList_nil ?_
    refine k4 _ _ ?_
    refine wp_ret ?_
    refine z2 _ _ _ rfl ?_
    obtain rfl := someI hM
    exact hQ _ _ _ (fin1r Try.results25 ⟨rfl, rfl⟩ ⟨rfl, (hst.pk 1 [] rfl)⟩)
  · refine condF (et rfl e8_22) (bfalse c10) ?_
    refine wp_skip ?_
    refine k2 _ _ ?_
    refine blockQ fun Q5 qb5 => ?_
    obtain ⟨o11, go11, hM⟩ := bs hM
    have je11_0 : ∀ (x99 : Int) (f : Nat → Value) (w : World), f 4 = .int .i64 x99 → St w0 (ros) (rs) w → x99 = o11 → Q5 .ret (fr 70 f) w := by
      intro x99 f w eje11_0_4 hst ho
      subst ho
      refine qb5 _ _ _ ?_
      obtain rfl := someI hM
      exact hQ _ _ _ (fin1r Try.results25 ⟨rfl, eje11_0_4⟩ ⟨rfl, hst⟩)
    refine loopQ (fun s a w => ∃ (x54 : Int) (f : Nat → Value), x54 = s ∧ a = fr 70 f ∧ f 1 = .int .i64 x54 ∧ f 2 = .pointer (some ⟨b4, 0, none⟩) ∧ St w0 (ros) (box b4 27 [h2.v] :: rs) w) go11 ⟨_, _, rfl, rfl, e8_1, e8_2, hst⟩ ?_
    clear hst
    rintro _ _ w r11_ ⟨x54, f, rfl, rfl, e11_1, e11_2, hst⟩ hM11 ho11 Q100011 n11 zz11
    refine blockQ fun Q56 qb56 => ?_
    refine seqQ fun Q57 k57 z57 => ?_
    refine wp_region_lit ?_
    refine Y wn rfl (yLbs (us := [h2.v]) ST_27 (et rfl e11_2) hst mhR rfl rfl) ?_
    refine Y wn rfl (ym (v := .int .i64 x54) (et rfl e11_1)) ?_
    obtain ⟨r100, gr100, hM11⟩ := bs hM11
    refine Yc wn rfl (yCall FN_15 (a2 (et rfl rfl) (et rfl rfl))) (sparseref12_Levels_ok (hM := gr100) (hst := hst) (q1 := q1)) ?_
    clear hst
    rintro _ w ⟨h101, rfl, hst⟩
    refine ⟨_, rfl, ?_⟩
    refine Y wn rfl (ya (v := h101.v) (et rfl rfl)) ?_
    refine wpList_nil ?_
    refine k57 _ _ ?_
    refine seqQ fun Q58 k58 z58 => ?_
    refine wp_region_lit ?_
    refine Y wn rfl (ym (v := h101.v) (et rfl rfl)) ?_
    refine Y wn rfl (ym (v := h101.v) (et rfl rfl)) ?_
    refine Y wn rfl (yLen SL_25 (et rfl rfl) hst (rdO mhR)) ?_
    refine Y wn rfl (ysub (et rfl rfl) rfl) ?_
    obtain ⟨x102, gx102, hM11⟩ := bs hM11
    refine Y wn rfl (yIa SL_25 (et rfl rfl) (et rfl rfl) hst (rdO mhR) gx102) ?_
    obtain ⟨h103, ch103, hst⟩ := rLs hst (rdO mhR) gx102
    refine Y wn rfl (yCe O_22 (et rfl rfl) ch103 rfl) ?_
    refine Y wn rfl (ya (v := h103.v) (et rfl rfl)) ?_
    refine wpList_nil ?_
    refine k58 _ _ ?_
    refine seqQ fun Q59 k59 z59 => ?_
    refine wp_region_lit ?_
    refine Y wn rfl (ym (v := h103.v) (et rfl rfl)) ?_
    obtain ⟨x104, gx104, hM11⟩ := bs hM11
    refine Y wn rfl (yIa SL_22 (et rfl rfl) rfl hst (rdI mhF) gx104) ?_
    refine Y wn rfl (yI O_3 (et rfl rfl) hst (rdI mhF) gx104) ?_
    refine Y wn rfl (ya (v := .int .i64 x104) (et rfl rfl)) ?_
    refine wpList_nil ?_
    refine k59 _ _ ?_
    refine seqQ fun Q60 k60 z60 => ?_
    refine seqQ fun Q61 k61 z61 => ?_
    refine wp_region_lit ?_
    refine Y wn rfl (ya (v := .int .i64 1) rfl) ?_
    refine wpList_nil ?_
    refine k61 _ _ ?_
    refine blockQ fun Q62 qb62 => ?_
    obtain ⟨o14, go14, hM11⟩ := bs hM11
    have je14_0 : ∀ (x129 : Int) (f : Nat → Value) (w : World), f 1 = .int .i64 x54 → f 2 = .pointer (some ⟨b4, 0, none⟩) → f 5 = h101.v → f 7 = .int .i64 x129 → St w0 (ros) (box b4 27 [h2.v] :: row 22 (rS (rI .i64)) h101.v r100 :: rs) w → x129 = o14 → Q62 (.exit 2) (fr 70 f) w := by
      intro x129 f w eje14_0_1 eje14_0_2 eje14_0_5 eje14_0_7 hst ho
      subst ho
      refine qb62 _ _ _ ?_
      refine k60 _ _ ?_
      refine seqQ fun Q73 k73 z73 => ?_
      refine seqQ fun Q74 k74 z74 => ?_
      refine wp_region_lit ?_
      refine Y wn rfl (yLbs (us := [h2.v]) ST_27 (et rfl eje14_0_2) hst mhR rfl rfl) ?_
      refine Y wn rfl (ym (v := .int .i64 x129) (et rfl eje14_0_7)) ?_
      obtain ⟨r130, gr130, hM11⟩ := bs hM11
      refine Yc wn rfl (yCall FN_15 (a2 (et rfl rfl) (et rfl rfl))) (sparseref12_Levels_ok (hM := gr130) (hst := hst) (q1 := q1)) ?_
      clear hst
      rintro _ w ⟨h131, rfl, hst⟩
      refine ⟨_, rfl, ?_⟩
      refine Y wn rfl (yLen SL_25 (et rfl rfl) hst (rdO mhR)) ?_
      refine Y wn rfl (ym (v := h101.v) (et rfl eje14_0_5)) ?_
      refine Y wn rfl (yLen SL_25 (et rfl rfl) hst (rdO (mtR (mtR mhR)))) ?_
      refine Y wn rfl (yleq (et rfl rfl) (et rfl rfl)) ?_
      refine wpList_nil ?_
      refine k74 _ _ ?_
      rcases iteS hM11 with ⟨c132, hM11⟩ | ⟨c132, hM11⟩
      · refine condT (et rfl rfl) (decide_eq_true c132) ?_
        refine seqQ fun Q75 k75 z75 => ?_
        refine wp_region_lit ?_
        refine Y wn rfl (ym (v := .int .i64 x54) (et rfl eje14_0_1)) ?_
        refine Y wn rfl (ya (v := .int .i64 x54) (et rfl rfl)) ?_
        refine wpList_nil ?_
        refine k75 _ _ ?_
        refine wp_ret ?_
        refine z73 _ _ _ rfl ?_
        refine qb56 _ _ _ ?_
        obtain rfl := someI hM11
        refine zz11 _ _ _ _ rfl rfl ?_
        exact je11_0 _ _ _ rfl (hst.pk 3 [] rfl) (ho11 _ rfl)
      · refine condF (et rfl rfl) (decide_eq_false c132) ?_
        refine wp_skip ?_
        refine k73 _ _ ?_
        refine wp_region_lit ?_
        refine Y wn rfl (ym (v := .int .i64 x129) (et rfl eje14_0_7)) ?_
        refine Y wn rfl (ya (v := .int .i64 x129) (et rfl rfl)) ?_
        refine wpList_nil ?_
        refine qb56 _ _ _ ?_
        obtain rfl := someI hM11
        exact n11 _ _ _ rfl ⟨_, _, rfl, rfl, rfl, eje14_0_2, (hst.pk 3 [1] rfl)⟩
    refine loopQ (fun s a w => ∃ (x115 : Int) (x116 : Int) (f : Nat → Value), (x115, x116) = s ∧ a = fr 70 f ∧ f 1 = .int .i64 x54 ∧ f 2 = .pointer (some ⟨b4, 0, none⟩) ∧ f 5 = h101.v ∧ f 6 = h103.v ∧ f 7 = .int .i64 x115 ∧ f 8 = .int .i64 x116 ∧ St w0 (imm (rI .i64) h103.v x102 :: ros) (box b4 27 [h2.v] :: row 22 (rS (rI .i64)) h101.v r100 :: rs) w) go14 ⟨_, _, _, rfl, rfl, e11_1, e11_2, rfl, rfl, rfl, rfl, (hst.pk 2 [1, 0] rfl)⟩ ?_
    clear hst
    rintro _ _ w r14_ ⟨x115, x116, f, rfl, rfl, e14_1, e14_2, e14_5, e14_6, e14_7, e14_8, hst⟩ hM14 ho14 Q100014 n14 zz14
    refine seqQ fun Q76 k76 z76 => ?_
    refine seqQ fun Q77 k77 z77 => ?_
    refine wp_region_lit ?_
    refine Y wn rfl (ym (v := .int .i64 x116) (et rfl e14_8)) ?_
    refine Y wn rfl (ym (v := h103.v) (et rfl e14_6)) ?_
    refine Y wn rfl (yLen SL_22 (et rfl rfl) hst (rdI mhF)) ?_
    refine Y wn rfl (ylss (et rfl rfl) (et rfl rfl)) ?_
    refine wpList_nil ?_
    refine k77 _ _ ?_
    rcases iteS hM14 with ⟨c133, hM14⟩ | ⟨c133, hM14⟩
    · refine condT (et rfl rfl) (decide_eq_true c133) ?_
      refine wp_skip ?_
      refine k76 _ _ ?_
      refine seqQ fun Q78 k78 z78 => ?_
      refine blockQ fun Q79 qb79 => ?_
      refine seqQ fun Q80 k80 z80 => ?_
      obtain ⟨x134, gx134, hM14⟩ := bs hM14
      obtain ⟨x135, gx135, hM14⟩ := bs hM14
      obtain ⟨x137, gx137, hM14⟩ := bs hM14
      refine wp_drawR [0, 1, 0, 0, 12, 28, 63, 127, 255, 0, 512, 0, 3584, 7680, 15872, 32767] [] 0 folM (by kernel_rfl) (by kernel_rfl) (by kernel_rfl) ?_
      replace hst := hst.drew
      refine DRz (l1 := [0, 1, 2, 3, 4, 5, 6, 7, 8, 9, 10, 11, 12, 13, 14, 15]) (l2 := []) (by kernel_rfl) (by kernel_rfl) ?_
      refine Ry rfl rfl wn (yFb FL_27_0 (et rfl e14_2)) ?_
      refine Ry rfl rfl wn (yLb (u := h2.v) O_25 (et rfl rfl) hst mhR rfl) ?_
      refine Ry rfl rfl wn (ym (v := h103.v) (et rfl e14_6)) ?_
      refine Ry rfl rfl wn (ym (v := .int .i64 x116) (et rfl e14_8)) ?_
      refine Ry rfl rfl wn (yIa SL_22 (et rfl rfl) (et rfl rfl) hst (rdI mhF) gx134) ?_
      refine Ry rfl rfl wn (yI O_3 (et rfl rfl) hst (rdI mhF) gx134) ?_
      refine Ry rfl rfl wn (yIa SL_25 (et rfl rfl) (et rfl rfl) hst (rdI (mtF q1)) gx135) ?_
      obtain ⟨h136, hst⟩ := iLs hst (mtF q1) gx135
      refine Ry rfl rfl wn (yCt O_22 (et rfl rfl) hst (mtF mhF) rfl) ?_
      refine Ry rfl rfl wn (yLen SL_22 (et rfl rfl) hst (rdI mhF)) ?_
      refine Ry rfl rfl wn (yFb FL_27_0 (et rfl e14_2)) ?_
      refine Ry rfl rfl wn (yLb (u := h2.v) O_25 (et rfl rfl) hst mhR rfl) ?_
      refine Ry rfl rfl wn (ym (v := .int .i64 x115) (et rfl e14_7)) ?_
      refine Ry rfl rfl wn (yIa SL_25 (et rfl rfl) (et rfl rfl) hst (rdI (mtF (mtF (mtF q1)))) gx137) ?_
      obtain ⟨h138, hst⟩ := iLs hst (mtF (mtF (mtF q1))) gx137
      refine Ry rfl rfl wn (yCt O_22 (et rfl rfl) hst (mtF mhF) rfl) ?_
      refine Ry rfl rfl wn (yLen SL_22 (et rfl rfl) hst (rdI mhF)) ?_
      refine Ry rfl rfl wn (ylss (et rfl rfl) (et rfl rfl)) ?_
      refine Rn QSn ?_
      refine k80 _ _ ?_
      have j15 : ∀ (x140 : Int) (f : Nat → Value) (w : World), f 1 = .int .i64 x54 → f 2 = .pointer (some ⟨b4, 0, none⟩) → f 5 = h101.v → f 6 = h103.v → f 7 = .int .i64 x140 → f 8 = .int .i64 x116 → St w0 (imm (rI .i64) h103.v x102 :: ros) (box b4 27 [h2.v] :: row 22 (rS (rI .i64)) h101.v r100 :: rs) w → sparseref12_Peripheral_j15 x116 x140 = some r14_ → Q79 .normal (fr 70 f) w := by
        intro x140 f w ej15_1 ej15_2 ej15_5 ej15_6 ej15_7 ej15_8 hst hM
        refine qb79 _ _ _ ?_
        refine k78 _ _ ?_
        refine wp_region_lit ?_
        refine Y wn rfl (ym (v := .int .i64 x116) (et rfl ej15_8)) ?_
        refine Y wn rfl (yadd (et rfl rfl) rfl) ?_
        refine Y wn rfl (ya (v := .int .i64 (wa .i64 x116 1)) (et rfl rfl)) ?_
        refine wpList_nil ?_
        obtain rfl := someI hM
        exact n14 _ _ _ rfl ⟨_, _, _, rfl, rfl, ej15_1, ej15_2, ej15_5, ej15_6, ej15_7, rfl, hst⟩
      rcases iteS hM14 with ⟨c141, hM14⟩ | ⟨c141, hM14⟩
      · refine condT (et rfl rfl) (decide_eq_true c141) ?_
        refine wp_region_lit ?_
        refine Y wn rfl (ym (v := h103.v) (et rfl e14_6)) ?_
        refine Y wn rfl (ym (v := .int .i64 x116) (et rfl e14_8)) ?_
        obtain ⟨x142, gx142, hM14⟩ := bs hM14
        refine Y wn rfl (yIa SL_22 (et rfl rfl) (et rfl rfl) hst (rdI (mtF (mtF (mtF (mtF mhF))))) gx142) ?_
        refine Y wn rfl (yI O_3 (et rfl rfl) hst (rdI (mtF (mtF (mtF (mtF mhF))))) gx142) ?_
        refine Y wn rfl (ya (v := .int .i64 x142) (et rfl rfl)) ?_
        refine wpList_nil ?_
        exact j15 _ _ _ e14_1 e14_2 e14_5 e14_6 rfl e14_8 (hst.facts (allC (mtF (mtF (mtF (mtF mhF)))) (allT (allT (allT (allT (allT allI))))))) hM14
      · refine condF (et rfl rfl) (decide_eq_false c141) ?_
        refine wp_skip ?_
        exact j15 _ _ _ e14_1 e14_2 e14_5 e14_6 e14_7 e14_8 (hst.facts (allC (mtF (mtF (mtF (mtF mhF)))) (allT (allT (allT (allT (allT allI))))))) hM14
    · refine condF (et rfl rfl) (decide_eq_false c133) ?_
      refine wp_exit ?_
      refine z76 _ _ _ rfl ?_
      obtain rfl := someI hM14
      refine zz14 _ _ _ _ rfl rfl ?_
      exact je14_0 _ _ _ e14_1 e14_2 e14_5 e14_7 (hst.facts (allT allI)) (ho14 _ rfl)

theorem sparseref12_Components_ok {w0 : World} {ros : List Fact} {rs : List Res} {w : World} {x1 : List (List Int)} {h2 : Hdr} {out : (List (List Int))} (hM : sparseref12_Components x1 = some out) (q1 : imm (rS (rI .i64)) h2.v x1 ∈ ros) (hst : St w0 ros (rs) w) :
    Calls Try.prog 26 #[.agg #[h2.v]] w (fun e w => ∃ (h100001 : Hdr), e = .returned (h100001.v) ∧ St w0 (ros) (row 22 (rS (rI .i64)) h100001.v out :: rs) w) := by
  refine enterQ Try.func26 rfl Try.ntmps26 rfl fun Q hQ => ?_
  refine seqQ fun Q1 k1 z1 => ?_
  refine wp_region_lit ?_
  refine YB wn rfl (r_box (vals := [h2.v]) hst (et rfl rfl) rfl) ?_
  clear hst
  intro b3 w hst
  refine Y wn rfl (ya (v := hnil.v) rfl) ?_
  refine wpList_nil ?_
  refine k1 _ _ ?_
  refine seqQ fun Q2 k2 z2 => ?_
  refine seqQ fun Q3 k3 z3 => ?_
  refine wp_region_lit ?_
  refine Y wn rfl (yLbs (us := [h2.v]) ST_27 (et rfl rfl) hst mhR rfl rfl) ?_
  obtain ⟨r4, gr4, hM⟩ := bs hM
  refine Yc wn rfl (yCall FN_31 (a1 (et rfl rfl))) (sparseref12_Check_ok (hM := gr4) (hst := hst) (q1 := q1)) ?_
  clear hst
  rintro _ w ⟨rfl, hst⟩
  refine ⟨_, rfl, ?_⟩
  refine Y wn rfl (yneq (et rfl rfl) rfl) ?_
  refine wpList_nil ?_
  refine k3 _ _ ?_
  rcases iteS hM with ⟨c5, hM⟩ | ⟨c5, hM⟩
  · refine condF (et rfl rfl) (nF (decide_eq_true c5)) ?_
    refine wp_skip ?_
    refine k2 _ _ ?_
    refine seqQ fun Q4 k4 z4 => ?_
    refine wp_region_lit ?_
    refine Y wn rfl (yFb FL_27_0 (et rfl rfl)) ?_
    refine Y wn rfl (yLb (u := h2.v) O_25 (et rfl rfl) hst mhR rfl) ?_
    refine Y wn rfl (yLen SL_25 (et rfl rfl) hst (rdI q1)) ?_
    refine Y wn rfl (ya (v := .int .i64 (x1.length : Int)) (et rfl rfl)) ?_
    refine wpList_nil ?_
    refine k4 _ _ ?_
    refine seqQ fun Q5 k5 z5 => ?_
    refine wp_region_lit ?_
    refine Y wn rfl (ym (v := .int .i64 (x1.length : Int)) (et rfl rfl)) ?_
    obtain ⟨x8, gx8, hM⟩ := bs hM
    refine YH wn rfl (rMk hst SL_54 (et rfl rfl) gx8) ?_
    clear hst
    intro h6 w hst
    refine Y wn rfl (ya (v := h6.v) (et rfl rfl)) ?_
    refine wpList_nil ?_
    refine k5 _ _ ?_
    refine seqQ fun Q6 k6 z6 => ?_
    refine wp_region_lit ?_
    refine Y wn rfl (ya (v := hnil.v) rfl) ?_
    refine wpList_nil ?_
    refine k6 _ _ ?_
    refine seqQ fun Q7 k7 z7 => ?_
    refine seqQ fun Q8 k8 z8 => ?_
    refine wp_region_lit ?_
    refine Y wn rfl (ya (v := .int .i64 0) rfl) ?_
    refine wpList_nil ?_
    refine k8 _ _ ?_
    refine blockQ fun Q9 qb9 => ?_
    obtain ⟨o51, go51, hM⟩ := bs hM
    have je51_0 : ∀ (x920 : List (List Int)) (h919 : Hdr) (f : Nat → Value) (w : World), f 5 = h919.v → St w0 (ros) (row 22 (rS (rI .i64)) h919.v x920 :: rs) w → x920 = o51 → Q9 (.exit 0) (fr 80 f) w := by
      intro x920 h919 f w eje51_0_5 hst ho
      subst ho
      refine qb9 _ _ _ ?_
      refine k7 _ _ ?_
      refine seqQ fun Q538 k538 z538 => ?_
      refine wp_region_lit ?_
      refine Y wn rfl (ym (v := h919.v) (et rfl eje51_0_5)) ?_
      refine Y wn rfl (ya (v := h919.v) (et rfl rfl)) ?_
      refine wpList_nil ?_
      refine k538 _ _ ?_
      refine wp_ret ?_
      obtain rfl := someI hM
      exact hQ _ _ _ (fin1r Try.results26 ⟨rfl, rfl⟩ ⟨_, rfl, hst⟩)
    replace hst := hst.rowNh 22 (rS (rI .i64))
    refine loopQ (fun s a w => ∃ (x460 : List Bool) (x462 : List (List Int)) (x463 : Int) (f : Nat → Value) (h461 : Hdr), (x460, x462, x463) = s ∧ a = fr 80 f ∧ f 1 = .pointer (some ⟨b3, 0, none⟩) ∧ f 3 = .int .i64 (x1.length : Int) ∧ f 4 = h6.v ∧ f 5 = h461.v ∧ f 6 = .int .i64 x463 ∧ St w0 (ros) (box b3 27 [h2.v] :: row 4 rB h6.v x460 :: row 22 (rS (rI .i64)) h461.v x462 :: rs) w) go51 ⟨_, _, _, _, _, rfl, rfl, rfl, rfl, rfl, rfl, rfl, (hst.pk 3 [2, 1, 0] rfl)⟩ ?_
    clear hst
    rintro _ _ w r51_ ⟨x460, x462, x463, f, h461, rfl, rfl, e51_1, e51_3, e51_4, e51_5, e51_6, hst⟩ hM51 ho51 Q100051 n51 zz51
    refine seqQ fun Q539 k539 z539 => ?_
    refine seqQ fun Q540 k540 z540 => ?_
    refine wp_region_lit ?_
    refine Y wn rfl (ym (v := .int .i64 x463) (et rfl e51_6)) ?_
    refine Y wn rfl (ym (v := .int .i64 (x1.length : Int)) (et rfl e51_3)) ?_
    refine Y wn rfl (ylss (et rfl rfl) (et rfl rfl)) ?_
    refine wpList_nil ?_
    refine k540 _ _ ?_
    rcases iteS hM51 with ⟨c921, hM51⟩ | ⟨c921, hM51⟩
    · refine condT (et rfl rfl) (decide_eq_true c921) ?_
      refine wp_skip ?_
      refine k539 _ _ ?_
      refine seqQ fun Q541 k541 z541 => ?_
      have j68 : ∀ (x1220 : List Bool) (x1222 : List (List Int)) (h1221 : Hdr) (f : Nat → Value) (w : World), f 1 = .pointer (some ⟨b3, 0, none⟩) → f 3 = .int .i64 (x1.length : Int) → f 4 = h6.v → f 5 = h1221.v → f 6 = .int .i64 x463 → St w0 (ros) (box b3 27 [h2.v] :: row 4 rB h6.v x1220 :: row 22 (rS (rI .i64)) h1221.v x1222 :: rs) w → sparseref12_Components_j68 x463 x1220 x1222 = some r51_ → Q541 .normal (fr 80 f) w := by
        intro x1220 x1222 h1221 f w ej68_1 ej68_3 ej68_4 ej68_5 ej68_6 hst hM
        refine k541 _ _ ?_
        refine wp_region_lit ?_
        refine Y wn rfl (ym (v := .int .i64 x463) (et rfl ej68_6)) ?_
        refine Y wn rfl (yadd (et rfl rfl) rfl) ?_
        refine Y wn rfl (ya (v := .int .i64 (wa .i64 x463 1)) (et rfl rfl)) ?_
        refine wpList_nil ?_
        obtain rfl := someI hM
        exact n51 _ _ _ rfl ⟨_, _, _, _, _, rfl, rfl, ej68_1, ej68_3, ej68_4, ej68_5, rfl, hst⟩
      refine blockQ fun Q716 qb716 => ?_
      refine seqQ fun Q717 k717 z717 => ?_
      refine seqQ fun Q718 k718 z718 => ?_
      refine wp_region_lit ?_
      refine Y wn rfl (ym (v := h6.v) (et rfl e51_4)) ?_
      refine Y wn rfl (ym (v := .int .i64 x463) (et rfl e51_6)) ?_
      obtain ⟨x1223, gx1223, hM51⟩ := bs hM51
      refine Y wn rfl (yIa SL_54 (et rfl rfl) (et rfl rfl) hst (rdO (mtR mhR)) gx1223) ?_
      refine Y wn rfl (yB O_4 (et rfl rfl) hst (rdO (mtR mhR)) gx1223) ?_
      refine wpList_nil ?_
      refine k718 _ _ ?_
      rcases iteS hM51 with ⟨c1224, hM51⟩ | ⟨c1224, hM51⟩
      · refine condT (et rfl rfl) c1224 ?_
        refine wp_exit ?_
        refine z717 _ _ _ rfl ?_
        refine qb716 _ _ _ ?_
        exact j68 _ _ _ _ _ e51_1 e51_3 e51_4 e51_5 e51_6 hst hM51
      · refine condF (et rfl rfl) (bfalse c1224) ?_
        refine wp_skip ?_
        refine k717 _ _ ?_
        refine seqQ fun Q719 k719 z719 => ?_
        refine wp_region_lit ?_
        refine Y wn rfl (yLbs (us := [h2.v]) ST_27 (et rfl e51_1) hst mhR rfl rfl) ?_
        refine Y wn rfl (ym (v := .int .i64 x463) (et rfl e51_6)) ?_
        obtain ⟨r1225, gr1225, hM51⟩ := bs hM51
        refine Yc wn rfl (yCall FN_15 (a2 (et rfl rfl) (et rfl rfl))) (sparseref12_Levels_ok (hM := gr1225) (hst := hst) (q1 := q1)) ?_
        clear hst
        rintro _ w ⟨h1226, rfl, hst⟩
        refine ⟨_, rfl, ?_⟩
        refine Y wn rfl (ya (v := h1226.v) (et rfl rfl)) ?_
        refine wpList_nil ?_
        refine k719 _ _ ?_
        refine seqQ fun Q720 k720 z720 => ?_
        refine wp_region_lit ?_
        refine Y wn rfl (ym (v := .int .i64 (x1.length : Int)) (et rfl e51_3)) ?_
        obtain ⟨x1229, gx1229, hM51⟩ := bs hM51
        refine YH wn rfl (rMk hst SL_54 (et rfl rfl) gx1229) ?_
        clear hst
        intro h1227 w hst
        refine Y wn rfl (ya (v := h1227.v) (et rfl rfl)) ?_
        refine wpList_nil ?_
        refine k720 _ _ ?_
        refine seqQ fun Q721 k721 z721 => ?_
        refine seqQ fun Q722 k722 z722 => ?_
        refine wp_region_lit ?_
        refine Y wn rfl (ya (v := .int .i64 0) rfl) ?_
        refine wpList_nil ?_
        refine k722 _ _ ?_
        refine blockQ fun Q723 qb723 => ?_
        obtain ⟨o71, go71, hM51⟩ := bs hM51
        have je71_0 : ∀ (x1288 : List Bool) (f : Nat → Value) (w : World), f 1 = .pointer (some ⟨b3, 0, none⟩) → f 3 = .int .i64 (x1.length : Int) → f 4 = h6.v → f 5 = h461.v → f 6 = .int .i64 x463 → f 8 = h1227.v → St w0 (ros) (box b3 27 [h2.v] :: row 4 rB h6.v x460 :: row 22 (rS (rI .i64)) h461.v x462 :: row 4 rB h1227.v x1288 :: rs) w → x1288 = o71 → Q723 (.exit 2) (fr 80 f) w := by
          intro x1288 f w eje71_0_1 eje71_0_3 eje71_0_4 eje71_0_5 eje71_0_6 eje71_0_8 hst ho
          subst ho
          refine qb723 _ _ _ ?_
          refine k721 _ _ ?_
          refine seqQ fun Q760 k760 z760 => ?_
          refine wp_region_lit ?_
          refine Y wn rfl (ya (v := hnil.v) rfl) ?_
          refine wpList_nil ?_
          refine k760 _ _ ?_
          refine seqQ fun Q761 k761 z761 => ?_
          refine seqQ fun Q762 k762 z762 => ?_
          refine wp_region_lit ?_
          refine Y wn rfl (ya (v := .int .i64 0) rfl) ?_
          refine wpList_nil ?_
          refine k762 _ _ ?_
          refine blockQ fun Q763 qb763 => ?_
          obtain ⟨o74, go74, hM51⟩ := bs hM51
          have je74_0 : ∀ (x1325 : List Bool) (x1327 : List Int) (h1326 : Hdr) (f : Nat → Value) (w : World), f 1 = .pointer (some ⟨b3, 0, none⟩) → f 3 = .int .i64 (x1.length : Int) → f 4 = h6.v → f 5 = h461.v → f 6 = .int .i64 x463 → f 11 = h1326.v → St w0 (ros) (box b3 27 [h2.v] :: row 4 rB h6.v x1325 :: row 22 (rS (rI .i64)) h461.v x462 :: row 3 (rI .i64) h1326.v x1327 :: rs) w → (x1325, x1327) = o74 → Q763 (.exit 6) (fr 80 f) w := by
            intro x1325 x1327 h1326 f w eje74_0_1 eje74_0_3 eje74_0_4 eje74_0_5 eje74_0_6 eje74_0_11 hst ho
            subst ho
            refine qb763 _ _ _ ?_
            refine k761 _ _ ?_
            refine wp_region_lit ?_
            refine Y wn rfl (ym (v := h461.v) (et rfl eje74_0_5)) ?_
            refine Y wn rfl (ym (v := h1326.v) (et rfl eje74_0_11)) ?_
            replace hst := hst.pk 4 [3, 0, 0, 0] rfl
            replace hst := hst.fz
            refine YH wn rfl (rLt (n := 1) (l := [x1327]) hst SL_25 [h1326.v] (bp1 (et rfl rfl)) rfl rfl (mks1 (cs := [h1326.v]) rfl (mkS mhF) mks0)) ?_
            clear hst
            intro h1328 w hst
            obtain ⟨x1330, gx1330, hM51⟩ := bs hM51
            replace hst := hst.pk 4 [3, 0, 0, 0] rfl
            refine YH wn rfl (rAp hst SL_25 (et rfl rfl) (et rfl rfl) (rdO (mtR mhR)) gx1330) ?_
            clear hst
            intro h1329 w hst
            refine Y wn rfl (ya (v := h1329.v) (et rfl rfl)) ?_
            refine wpList_nil ?_
            refine qb716 _ _ _ ?_
            exact j68 _ _ _ _ _ eje74_0_1 eje74_0_3 eje74_0_4 rfl eje74_0_6 ((hst.pk 4 [2, 2, 0] rfl).facts (allT allI)) hM51
          replace hst := hst.rowNh 3 (rI .i64)
          refine loopQ (fun s a w => ∃ (x1303 : List Bool) (x1305 : List Int) (x1306 : Int) (f : Nat → Value) (h1304 : Hdr), (x1303, x1305, x1306) = s ∧ a = fr 80 f ∧ f 1 = .pointer (some ⟨b3, 0, none⟩) ∧ f 3 = .int .i64 (x1.length : Int) ∧ f 4 = h6.v ∧ f 5 = h461.v ∧ f 6 = .int .i64 x463 ∧ f 8 = h1227.v ∧ f 11 = h1304.v ∧ f 12 = .int .i64 x1306 ∧ St w0 (ros) (box b3 27 [h2.v] :: row 4 rB h6.v x1303 :: row 22 (rS (rI .i64)) h461.v x462 :: row 4 rB h1227.v x1288 :: row 3 (rI .i64) h1304.v x1305 :: rs) w) go74 ⟨_, _, _, _, _, rfl, rfl, eje71_0_1, eje71_0_3, eje71_0_4, eje71_0_5, eje71_0_6, eje71_0_8, rfl, rfl, (hst.pk 5 [1, 1, 1, 1, 0] rfl)⟩ ?_
          clear hst
          rintro _ _ w r74_ ⟨x1303, x1305, x1306, f, h1304, rfl, rfl, e74_1, e74_3, e74_4, e74_5, e74_6, e74_8, e74_11, e74_12, hst⟩ hM74 ho74 Q100074 n74 zz74
          refine seqQ fun Q778 k778 z778 => ?_
          refine seqQ fun Q779 k779 z779 => ?_
          refine wp_region_lit ?_
          refine Y wn rfl (ym (v := .int .i64 x1306) (et rfl e74_12)) ?_
          refine Y wn rfl (ym (v := .int .i64 (x1.length : Int)) (et rfl e74_3)) ?_
          refine Y wn rfl (ylss (et rfl rfl) (et rfl rfl)) ?_
          refine wpList_nil ?_
          refine k779 _ _ ?_
          rcases iteS hM74 with ⟨c1331, hM74⟩ | ⟨c1331, hM74⟩
          · refine condT (et rfl rfl) (decide_eq_true c1331) ?_
            refine wp_skip ?_
            refine k778 _ _ ?_
            refine seqQ fun Q780 k780 z780 => ?_
            refine blockQ fun Q781 qb781 => ?_
            refine seqQ fun Q782 k782 z782 => ?_
            refine wp_region_lit ?_
            refine Y wn rfl (ym (v := h1227.v) (et rfl e74_8)) ?_
            refine Y wn rfl (ym (v := .int .i64 x1306) (et rfl e74_12)) ?_
            obtain ⟨x1332, gx1332, hM74⟩ := bs hM74
            refine Y wn rfl (yIa SL_54 (et rfl rfl) (et rfl rfl) hst (rdO (mtR (mtR (mtR mhR)))) gx1332) ?_
            refine Y wn rfl (yB O_4 (et rfl rfl) hst (rdO (mtR (mtR (mtR mhR)))) gx1332) ?_
            refine wpList_nil ?_
            refine k782 _ _ ?_
            have j75 : ∀ (x1337 : List Bool) (x1339 : List Int) (h1338 : Hdr) (f : Nat → Value) (w : World), f 1 = .pointer (some ⟨b3, 0, none⟩) → f 3 = .int .i64 (x1.length : Int) → f 4 = h6.v → f 5 = h461.v → f 6 = .int .i64 x463 → f 8 = h1227.v → f 11 = h1338.v → f 12 = .int .i64 x1306 → St w0 (ros) (box b3 27 [h2.v] :: row 4 rB h6.v x1337 :: row 22 (rS (rI .i64)) h461.v x462 :: row 4 rB h1227.v x1288 :: row 3 (rI .i64) h1338.v x1339 :: rs) w → sparseref12_Components_j75 x1306 x1337 x1339 = some r74_ → Q781 .normal (fr 80 f) w := by
              intro x1337 x1339 h1338 f w ej75_1 ej75_3 ej75_4 ej75_5 ej75_6 ej75_8 ej75_11 ej75_12 hst hM
              refine qb781 _ _ _ ?_
              refine k780 _ _ ?_
              refine wp_region_lit ?_
              refine Y wn rfl (ym (v := .int .i64 x1306) (et rfl ej75_12)) ?_
              refine Y wn rfl (yadd (et rfl rfl) rfl) ?_
              refine Y wn rfl (ya (v := .int .i64 (wa .i64 x1306 1)) (et rfl rfl)) ?_
              refine wpList_nil ?_
              obtain rfl := someI hM
              exact n74 _ _ _ rfl ⟨_, _, _, _, _, rfl, rfl, ej75_1, ej75_3, ej75_4, ej75_5, ej75_6, ej75_8, ej75_11, rfl, hst⟩
            rcases iteS hM74 with ⟨c1340, hM74⟩ | ⟨c1340, hM74⟩
            · refine condT (et rfl rfl) c1340 ?_
              refine seqQ fun Q784 k784 z784 => ?_
              refine wp_region_lit ?_
              refine Y wn rfl (ym (v := h1304.v) (et rfl e74_11)) ?_
              refine Y wn rfl (ym (v := .int .i64 x1306) (et rfl e74_12)) ?_
              refine YH wn rfl (rLt (n := 1) (l := [x1306]) hst SL_22 [.int .i64 x1306] (bp1 (et rfl rfl)) rfl rfl (mks1 (cs := [.int .i64 x1306]) rfl mkI mks0)) ?_
              clear hst
              intro h1341 w hst
              obtain ⟨x1343, gx1343, hM74⟩ := bs hM74
              replace hst := hst.pk 6 [5, 0, 0, 0, 0, 0] rfl
              refine YH wn rfl (rAp hst SL_22 (et rfl rfl) (et rfl rfl) (rdO (mtR mhR)) gx1343) ?_
              clear hst
              intro h1342 w hst
              refine Y wn rfl (ya (v := h1342.v) (et rfl rfl)) ?_
              refine wpList_nil ?_
              refine k784 _ _ ?_
              refine wp_region_lit ?_
              refine Y wn rfl (ym (v := h6.v) (et rfl e74_4)) ?_
              refine Y wn rfl (ym (v := .int .i64 x1306) (et rfl e74_12)) ?_
              obtain ⟨x1344, gx1344, hM74⟩ := bs hM74
              refine Y wn rfl (yIs SL_54 (et rfl rfl) (et rfl rfl) hst (rdO (mtR (mtR (mtR mhR)))) gx1344) ?_
              replace hst := hst.pk 4 [3, 0, 0, 0] rfl
              refine YT wn rfl (r_sti (cs := [.bool true]) hst O_4 rfl (et rfl rfl) rfl rfl mkB gx1344) ?_
              clear hst
              intro w hst
              refine wpList_nil ?_
              exact j75 _ _ _ _ _ e74_1 e74_3 e74_4 e74_5 e74_6 e74_8 rfl e74_12 (hst.pk 6 [3, 0, 2, 2, 0] rfl) hM74
            · refine condF (et rfl rfl) (bfalse c1340) ?_
              refine wp_skip ?_
              exact j75 _ _ _ _ _ e74_1 e74_3 e74_4 e74_5 e74_6 e74_8 e74_11 e74_12 hst hM74
          · refine condF (et rfl rfl) (decide_eq_false c1331) ?_
            refine wp_exit ?_
            refine z778 _ _ _ rfl ?_
            obtain rfl := someI hM74
            refine zz74 _ _ _ _ rfl rfl ?_
            exact je74_0 _ _ _ _ _ e74_1 e74_3 e74_4 e74_5 e74_6 e74_11 (hst.pk 5 [0, 0, 0, 1] rfl) (ho74 _ rfl)
        refine loopQ (fun s a w => ∃ (x1257 : List Bool) (x1258 : Int) (f : Nat → Value), (x1257, x1258) = s ∧ a = fr 80 f ∧ f 1 = .pointer (some ⟨b3, 0, none⟩) ∧ f 3 = .int .i64 (x1.length : Int) ∧ f 4 = h6.v ∧ f 5 = h461.v ∧ f 6 = .int .i64 x463 ∧ f 7 = h1226.v ∧ f 8 = h1227.v ∧ f 9 = .int .i64 x1258 ∧ St w0 (ros) (box b3 27 [h2.v] :: row 4 rB h6.v x460 :: row 22 (rS (rI .i64)) h461.v x462 :: row 22 (rS (rI .i64)) h1226.v r1225 :: row 4 rB h1227.v x1257 :: rs) w) go71 ⟨_, _, _, rfl, rfl, e51_1, e51_3, e51_4, e51_5, e51_6, rfl, rfl, rfl, (hst.pk 5 [2, 2, 2, 1, 0] rfl)⟩ ?_
        clear hst
        rintro _ _ w r71_ ⟨x1257, x1258, f, rfl, rfl, e71_1, e71_3, e71_4, e71_5, e71_6, e71_7, e71_8, e71_9, hst⟩ hM71 ho71 Q100071 n71 zz71
        refine seqQ fun Q785 k785 z785 => ?_
        refine seqQ fun Q786 k786 z786 => ?_
        refine wp_region_lit ?_
        refine Y wn rfl (ym (v := .int .i64 x1258) (et rfl e71_9)) ?_
        refine Y wn rfl (ym (v := h1226.v) (et rfl e71_7)) ?_
        refine Y wn rfl (yLen SL_25 (et rfl rfl) hst (rdO (mtR (mtR (mtR mhR))))) ?_
        refine Y wn rfl (ylss (et rfl rfl) (et rfl rfl)) ?_
        refine wpList_nil ?_
        refine k786 _ _ ?_
        rcases iteS hM71 with ⟨c1345, hM71⟩ | ⟨c1345, hM71⟩
        · refine condT (et rfl rfl) (decide_eq_true c1345) ?_
          refine wp_skip ?_
          refine k785 _ _ ?_
          refine seqQ fun Q787 k787 z787 => ?_
          refine blockQ fun Q788 qb788 => ?_
          refine seqQ fun Q789 k789 z789 => ?_
          refine wp_region_lit ?_
          refine Y wn rfl (ya (v := .int .i64 0) rfl) ?_
          refine wpList_nil ?_
          refine k789 _ _ ?_
          refine blockQ fun Q790 qb790 => ?_
          obtain ⟨o76, go76, hM71⟩ := bs hM71
          have je76_0 : ∀ (x1364 : List Bool) (f : Nat → Value) (w : World), f 1 = .pointer (some ⟨b3, 0, none⟩) → f 3 = .int .i64 (x1.length : Int) → f 4 = h6.v → f 5 = h461.v → f 6 = .int .i64 x463 → f 7 = h1226.v → f 8 = h1227.v → f 9 = .int .i64 x1258 → St w0 (ros) (box b3 27 [h2.v] :: row 4 rB h6.v x460 :: row 22 (rS (rI .i64)) h461.v x462 :: row 22 (rS (rI .i64)) h1226.v r1225 :: row 4 rB h1227.v x1364 :: rs) w → x1364 = o76 → Q790 (.exit 4) (fr 80 f) w := by
            intro x1364 f w eje76_0_1 eje76_0_3 eje76_0_4 eje76_0_5 eje76_0_6 eje76_0_7 eje76_0_8 eje76_0_9 hst ho
            subst ho
            refine qb790 _ _ _ ?_
            refine qb788 _ _ _ ?_
            refine k787 _ _ ?_
            refine wp_region_lit ?_
            refine Y wn rfl (ym (v := .int .i64 x1258) (et rfl eje76_0_9)) ?_
            refine Y wn rfl (yadd (et rfl rfl) rfl) ?_
            refine Y wn rfl (ya (v := .int .i64 (wa .i64 x1258 1)) (et rfl rfl)) ?_
            refine wpList_nil ?_
            obtain rfl := someI hM71
            exact n71 _ _ _ rfl ⟨_, _, _, rfl, rfl, eje76_0_1, eje76_0_3, eje76_0_4, eje76_0_5, eje76_0_6, eje76_0_7, eje76_0_8, rfl, hst⟩
          refine loopQ (fun s a w => ∃ (x1353 : List Bool) (x1354 : Int) (f : Nat → Value), (x1353, x1354) = s ∧ a = fr 80 f ∧ f 1 = .pointer (some ⟨b3, 0, none⟩) ∧ f 3 = .int .i64 (x1.length : Int) ∧ f 4 = h6.v ∧ f 5 = h461.v ∧ f 6 = .int .i64 x463 ∧ f 7 = h1226.v ∧ f 8 = h1227.v ∧ f 9 = .int .i64 x1258 ∧ f 10 = .int .i64 x1354 ∧ St w0 (ros) (box b3 27 [h2.v] :: row 4 rB h6.v x460 :: row 22 (rS (rI .i64)) h461.v x462 :: row 22 (rS (rI .i64)) h1226.v r1225 :: row 4 rB h1227.v x1353 :: rs) w) go76 ⟨_, _, _, rfl, rfl, e71_1, e71_3, e71_4, e71_5, e71_6, e71_7, e71_8, e71_9, rfl, hst⟩ ?_
          clear hst
          rintro _ _ w r76_ ⟨x1353, x1354, f, rfl, rfl, e76_1, e76_3, e76_4, e76_5, e76_6, e76_7, e76_8, e76_9, e76_10, hst⟩ hM76 ho76 Q100076 n76 zz76
          refine seqQ fun Q799 k799 z799 => ?_
          refine seqQ fun Q800 k800 z800 => ?_
          refine wp_region_lit ?_
          refine Y wn rfl (ym (v := .int .i64 x1354) (et rfl e76_10)) ?_
          refine Y wn rfl (ym (v := h1226.v) (et rfl e76_7)) ?_
          refine Y wn rfl (ym (v := .int .i64 x1258) (et rfl e76_9)) ?_
          obtain ⟨x1365, gx1365, hM76⟩ := bs hM76
          refine Y wn rfl (yIa SL_25 (et rfl rfl) (et rfl rfl) hst (rdO (mtR (mtR (mtR mhR)))) gx1365) ?_
          obtain ⟨h1366, ch1366, hst⟩ := rLs hst (rdO (mtR (mtR (mtR mhR)))) gx1365
          refine Y wn rfl (yCe O_22 (et rfl rfl) ch1366 rfl) ?_
          refine Y wn rfl (yLen SL_22 (et rfl rfl) hst (rdI mhF)) ?_
          refine Y wn rfl (ylss (et rfl rfl) (et rfl rfl)) ?_
          refine wpList_nil ?_
          refine k800 _ _ ?_
          rcases iteS hM76 with ⟨c1367, hM76⟩ | ⟨c1367, hM76⟩
          · refine condT (et rfl rfl) (decide_eq_true c1367) ?_
            refine wp_skip ?_
            refine k799 _ _ ?_
            refine seqQ fun Q801 k801 z801 => ?_
            refine blockQ fun Q802 qb802 => ?_
            refine wp_region_lit ?_
            refine Y wn rfl (ym (v := h1227.v) (et rfl e76_8)) ?_
            refine Y wn rfl (ym (v := h1226.v) (et rfl e76_7)) ?_
            refine Y wn rfl (ym (v := .int .i64 x1258) (et rfl e76_9)) ?_
            obtain ⟨x1368, gx1368, hM76⟩ := bs hM76
            refine Y wn rfl (yIa SL_25 (et rfl rfl) (et rfl rfl) hst (rdO (mtR (mtR (mtR mhR)))) gx1368) ?_
            obtain ⟨h1369, ch1369, hst⟩ := rLs hst (rdO (mtR (mtR (mtR mhR)))) gx1368
            refine Y wn rfl (yCe O_22 (et rfl rfl) ch1369 rfl) ?_
            refine Y wn rfl (ym (v := .int .i64 x1354) (et rfl e76_10)) ?_
            obtain ⟨x1370, gx1370, hM76⟩ := bs hM76
            refine Y wn rfl (yIa SL_22 (et rfl rfl) (et rfl rfl) hst (rdI mhF) gx1370) ?_
            refine Y wn rfl (yI O_3 (et rfl rfl) hst (rdI mhF) gx1370) ?_
            obtain ⟨x1371, gx1371, hM76⟩ := bs hM76
            refine Y wn rfl (yIs SL_54 (et rfl rfl) (et rfl rfl) hst (rdO (mtR (mtR (mtR (mtR mhR))))) gx1371) ?_
            replace hst := hst.pk 5 [4, 0, 0, 0, 0] rfl
            refine YT wn rfl (r_sti (cs := [.bool true]) hst O_4 rfl (et rfl rfl) rfl rfl mkB gx1371) ?_
            clear hst
            intro w hst
            refine wpList_nil ?_
            refine qb802 _ _ _ ?_
            refine k801 _ _ ?_
            refine wp_region_lit ?_
            refine Y wn rfl (ym (v := .int .i64 x1354) (et rfl e76_10)) ?_
            refine Y wn rfl (yadd (et rfl rfl) rfl) ?_
            refine Y wn rfl (ya (v := .int .i64 (wa .i64 x1354 1)) (et rfl rfl)) ?_
            refine wpList_nil ?_
            obtain rfl := someI hM76
            exact n76 _ _ _ rfl ⟨_, _, _, rfl, rfl, e76_1, e76_3, e76_4, e76_5, e76_6, e76_7, e76_8, e76_9, rfl, ((hst.pk 5 [1, 1, 1, 1, 0] rfl).facts (allT (allT allI)))⟩
          · refine condF (et rfl rfl) (decide_eq_false c1367) ?_
            refine wp_exit ?_
            refine z799 _ _ _ rfl ?_
            obtain rfl := someI hM76
            refine zz76 _ _ _ _ rfl rfl ?_
            exact je76_0 _ _ _ e76_1 e76_3 e76_4 e76_5 e76_6 e76_7 e76_8 e76_9 (hst.facts (allT allI)) (ho76 _ rfl)
        · refine condF (et rfl rfl) (decide_eq_false c1345) ?_
          refine wp_exit ?_
          refine z785 _ _ _ rfl ?_
          obtain rfl := someI hM71
          refine zz71 _ _ _ _ rfl rfl ?_
          exact je71_0 _ _ _ e71_1 e71_3 e71_4 e71_5 e71_6 e71_8 (hst.pk 5 [0, 0, 0, 1] rfl) (ho71 _ rfl)
    · refine condF (et rfl rfl) (decide_eq_false c921) ?_
      refine wp_exit ?_
      refine z539 _ _ _ rfl ?_
      obtain rfl := someI hM51
      refine zz51 _ _ _ _ rfl rfl ?_
      exact je51_0 _ _ _ _ e51_5 (hst.pk 3 [2] rfl) (ho51 _ rfl)
  · refine condT (et rfl rfl) (nT (decide_eq_false c5)) ?_
    refine seqQ fun Q803 k803 z803 => ?_
    refine wp_region_lit ?_
    refine Y wn rfl (ya (v := hnil.v) rfl) ?_
    refine wpList_nil ?_
    refine k803 _ _ ?_
    refine wp_ret ?_
    refine z2 _ _ _ rfl ?_
    obtain rfl := someI hM
    replace hst := hst.rowNh 22 (rS (rI .i64))
    exact hQ _ _ _ (fin1r Try.results26 ⟨rfl, rfl⟩ ⟨_, rfl, (hst.pk 2 [0] rfl)⟩)

theorem sparselaw12_GraphMade_ok {w0 : World} {ros : List Fact} {rs : List Res} {w : World} {x1 : Int} {x2 : List Int} {x4 : Int} {x5 : List Int} {h3 : Hdr} {h6 : Hdr} {out : Bool} (hM : sparselaw12_GraphMade x1 x2 x4 x5 = some out) (q1 : imm (rI .i64) h3.v x2 ∈ ros) (q2 : imm (rI .i64) h6.v x5 ∈ ros) (hst : St w0 ros (rs) w) :
    Calls Try.prog 6 #[.int .i64 x1, h3.v, .int .i64 x4, h6.v] w (fun e w => e = .returned (.bool out) ∧ St w0 (ros) (rs) w) := by
  refine enterQ Try.func6 rfl Try.ntmps6 rfl fun Q hQ => ?_
  refine seqQ fun Q1 k1 z1 => ?_
  refine wp_region_lit ?_
  refine Y wn rfl (ya (v := .bool false) rfl) ?_
  refine wpList_nil ?_
  refine k1 _ _ ?_
  refine seqQ fun Q2 k2 z2 => ?_
  refine seqQ fun Q3 k3 z3 => ?_
  refine wp_region_lit ?_
  refine Y wn rfl (ym (v := h3.v) (et rfl rfl)) ?_
  refine Y wn rfl (yLen SL_22 (et rfl rfl) hst (rdI q1)) ?_
  refine Y wn rfl (ygtr (et rfl rfl) rfl) ?_
  refine wpList_nil ?_
  refine k3 _ _ ?_
  rcases iteS hM with ⟨c7, hM⟩ | ⟨c7, hM⟩
  · refine condT (et rfl rfl) (decide_eq_true c7) ?_
    refine seqQ fun Q4 k4 z4 => ?_
    refine wp_region_lit ?_
    obtain ⟨r8, gr8, hM⟩ := bs hM
    refine Yc wn rfl (yCall FN_9 a0) (sparselaw12_awake_ok (hM := gr8) (hst := hst) ) ?_
    clear hst
    rintro _ w ⟨rfl, hst⟩
    refine ⟨_, rfl, ?_⟩
    refine Y wn rfl (ya (v := .bool r8) (et rfl rfl)) ?_
    refine wpList_nil ?_
    refine k4 _ _ ?_
    refine wp_ret ?_
    refine z2 _ _ _ rfl ?_
    obtain rfl := someI hM
    exact hQ _ _ _ (fin1r Try.results6 ⟨rfl, rfl⟩ ⟨rfl, hst⟩)
  · refine condF (et rfl rfl) (decide_eq_false c7) ?_
    refine wp_skip ?_
    refine k2 _ _ ?_
    refine seqQ fun Q5 k5 z5 => ?_
    refine wp_region_lit ?_
    refine Y wn rfl (ym (v := .int .i64 x1) (et rfl rfl)) ?_
    obtain ⟨r9, gr9, hM⟩ := bs hM
    refine Yc wn rfl (yCall FN_10 (a2 (et rfl rfl) rfl)) (sparsekit_Place_ok (hM := gr9) (hst := hst) ) ?_
    clear hst
    rintro _ w ⟨rfl, hst⟩
    refine ⟨_, rfl, ?_⟩
    refine Y wn rfl (ya (v := .int .i64 r9) (et rfl rfl)) ?_
    refine wpList_nil ?_
    refine k5 _ _ ?_
    refine seqQ fun Q6 k6 z6 => ?_
    refine wp_region_lit ?_
    refine Y wn rfl (ym (v := .int .i64 r9) (et rfl rfl)) ?_
    refine Y wn rfl (ym (v := h3.v) (et rfl rfl)) ?_
    obtain ⟨r10, gr10, hM⟩ := bs hM
    refine Yc wn rfl (yCall FN_11 (a2 (et rfl rfl) (et rfl rfl))) (sparsemake_Graph_ok (hM := gr10) (hst := hst) (q1 := q1)) ?_
    clear hst
    rintro _ w ⟨h11, rfl, hst⟩
    refine ⟨_, rfl, ?_⟩
    refine YB wn rfl (rAl hst ZT_27) ?_
    clear hst
    intro b12 w hst
    refine YT wn rfl (r_stbn (vals' := [h11.v]) (us := [h11.v]) hst ST_27 (et rfl rfl) (et rfl rfl) rfl rfl (one_of rfl) rfl) ?_
    clear hst
    intro w hst
    refine wpList_nil ?_
    refine k6 _ _ ?_
    refine seqQ fun Q7 k7 z7 => ?_
    refine wp_region_lit ?_
    refine Y wn rfl (ym (v := h6.v) (et rfl rfl)) ?_
    refine Y wn rfl (ym (v := .int .i64 r9) (et rfl rfl)) ?_
    obtain ⟨r13, gr13, hM⟩ := bs hM
    refine Yc wn rfl (yCall FN_19 (a2 (et rfl rfl) (et rfl rfl))) (sparsekit_Shuffle_ok (hM := gr13) (hst := hst) (q1 := q2)) ?_
    clear hst
    rintro _ w ⟨h14, rfl, hst⟩
    refine ⟨_, rfl, ?_⟩
    refine Y wn rfl (ya (v := h14.v) (et rfl rfl)) ?_
    refine wpList_nil ?_
    refine k7 _ _ ?_
    refine seqQ fun Q8 k8 z8 => ?_
    refine wp_region_lit ?_
    refine Y wn rfl (yLbs (us := [h11.v]) ST_27 (et rfl rfl) hst (mtR mhR) rfl rfl) ?_
    refine Y wn rfl (ym (v := h14.v) (et rfl rfl)) ?_
    obtain ⟨r15, gr15, hM⟩ := bs hM
    replace hst := hst.pk 3 [2, 0, 0] rfl
    replace hst := hst.fz
    replace hst := hst.fz
    refine Yc wn rfl (yCall FN_20 (a2 (et rfl rfl) (et rfl rfl))) (graph_Relabel_ok (hM := gr15) (hst := hst) (q1 := (mtF mhF)) (q2 := mhF)) ?_
    clear hst
    rintro _ w ⟨h16, rfl, hst⟩
    refine ⟨_, rfl, ?_⟩
    refine Y wn rfl (ym (v := .tuple #[.agg #[h16.v], .int .i64 r15.2]) (et rfl rfl)) ?_
    refine Y wn rfl (yx (v := .agg #[h16.v]) (et rfl rfl) rfl) ?_
    refine Y wn rfl (yx (v := .int .i64 r15.2) (et rfl rfl) rfl) ?_
    refine YB wn rfl (rAl hst ZT_27) ?_
    clear hst
    intro b17 w hst
    refine YT wn rfl (r_stbn (vals' := [h16.v]) (us := [h16.v]) hst ST_27 (et rfl rfl) (et rfl rfl) rfl rfl (one_of rfl) rfl) ?_
    clear hst
    intro w hst
    refine Y wn rfl (ya (v := .int .i64 r15.2) (et rfl rfl)) ?_
    refine wpList_nil ?_
    refine k8 _ _ ?_
    refine seqQ fun Q9 k9 z9 => ?_
    refine wp_region_lit ?_
    refine Y wn rfl (yLbs (us := [h11.v]) ST_27 (et rfl rfl) hst (mtR (mtR mhR)) rfl rfl) ?_
    refine Y wn rfl (ym (v := h14.v) (et rfl rfl)) ?_
    obtain ⟨r18, gr18, hM⟩ := bs hM
    refine Yc wn rfl (yCall FN_21 (a2 (et rfl rfl) (et rfl rfl))) (sparseref12_Relabel_ok (hM := gr18) (hst := hst) (q1 := (mtF mhF)) (q2 := mhF)) ?_
    clear hst
    rintro _ w ⟨h19, rfl, hst⟩
    refine ⟨_, rfl, ?_⟩
    refine Y wn rfl (ym (v := .tuple #[.agg #[h19.v], .int .i64 r18.2]) (et rfl rfl)) ?_
    refine Y wn rfl (yx (v := .agg #[h19.v]) (et rfl rfl) rfl) ?_
    refine Y wn rfl (yx (v := .int .i64 r18.2) (et rfl rfl) rfl) ?_
    refine YB wn rfl (rAl hst ZT_27) ?_
    clear hst
    intro b20 w hst
    refine YT wn rfl (r_stbn (vals' := [h19.v]) (us := [h19.v]) hst ST_27 (et rfl rfl) (et rfl rfl) rfl rfl (one_of rfl) rfl) ?_
    clear hst
    intro w hst
    refine Y wn rfl (ya (v := .int .i64 r18.2) (et rfl rfl)) ?_
    refine wpList_nil ?_
    refine k9 _ _ ?_
    refine seqQ fun Q10 k10 z10 => ?_
    refine wp_region_lit ?_
    refine Y wn rfl (ym (v := .int .i64 x4) (et rfl rfl)) ?_
    refine Y wn rfl (ym (v := .int .i64 r9) (et rfl rfl)) ?_
    refine Y wn rfl (yadd (et rfl rfl) rfl) ?_
    obtain ⟨r21, gr21, hM⟩ := bs hM
    refine Yc wn rfl (yCall FN_10 (a2 (et rfl rfl) (et rfl rfl))) (sparsekit_Place_ok (hM := gr21) (hst := hst) ) ?_
    clear hst
    rintro _ w ⟨rfl, hst⟩
    refine ⟨_, rfl, ?_⟩
    refine Y wn rfl (ya (v := .int .i64 r21) (et rfl rfl)) ?_
    refine wpList_nil ?_
    refine k10 _ _ ?_
    refine seqQ fun Q11 k11 z11 => ?_
    obtain ⟨r22, gr22, hM⟩ := bs hM
    obtain ⟨r23, gr23, hM⟩ := bs hM
    obtain ⟨r24, gr24, hM⟩ := bs hM
    obtain ⟨r25, gr25, hM⟩ := bs hM
    obtain ⟨r26, gr26, hM⟩ := bs hM
    obtain ⟨r27, gr27, hM⟩ := bs hM
    obtain ⟨r28, gr28, hM⟩ := bs hM
    refine joinN (n := 83) (fun f w => f 8 = .bool r28 ∧ St w0 (ros) (rs) w) (fun j1 => ?_) ?_
    · rcases iteS gr23 with ⟨c30, gr23⟩ | ⟨c30, gr23⟩
      · have hr2 := someI gr23
        rcases iteS gr24 with ⟨c31, gr24⟩ | ⟨c31, gr24⟩
        · obtain ⟨r32, gr32, gr24⟩ := bs gr24
          have hr3 := someI gr24
          rcases iteS gr25 with ⟨c33, gr25⟩ | ⟨c33, gr25⟩
          · obtain ⟨r34, gr34, gr25⟩ := bs gr25
            obtain ⟨r36, gr36, gr25⟩ := bs gr25
            obtain ⟨r38, gr38, gr25⟩ := bs gr25
            have hr4 := someI gr25
            rcases iteS gr26 with ⟨c39, gr26⟩ | ⟨c39, gr26⟩
            · obtain ⟨r40, gr40, gr26⟩ := bs gr26
              obtain ⟨r41, gr41, gr26⟩ := bs gr26
              have hr5 := someI gr26
              rcases iteS gr27 with ⟨c42, gr27⟩ | ⟨c42, gr27⟩
              · obtain ⟨r43, gr43, gr27⟩ := bs gr27
                obtain ⟨r45, gr45, gr27⟩ := bs gr27
                obtain ⟨r47, gr47, gr27⟩ := bs gr27
                have hr6 := someI gr27
                rcases iteS gr28 with ⟨c48, gr28⟩ | ⟨c48, gr28⟩
                · obtain ⟨r49, gr49, gr28⟩ := bs gr28
                  have hr7 := someI gr28
                  refine wp_drawR [0, 1, 3, 7, 15, 31, 63, 127, 255, 255, 1023, 2047, 4095, 8191, 8191, 32767, 8191, 8191, 262143, 524287, 1048575, 2097151, 4194303, 4194303, 16777215, 4194303, 4194303, 134217727, 268435455, 536870911, 1073741823, 2147483647, 4294967295, 2147483647, 17179869183, 34359738367, 68719476735, 137438953471, 274877906943, 549755813887, 1099511627775] [1, 10, 15, 18, 19, 24, 27, 32, 34, 35, 38, 40] 12 folM (by kernel_rfl) (by kernel_rfl) (by kernel_rfl) ?_
                  replace hst := hst.drew
                  refine DRn (l1 := [0]) (l2 := []) (lc := [1]) (by kernel_rfl) (by kernel_rfl) (by kernel_rfl) ?_
                  refine Ry rfl rfl wn (yLbs (us := [h11.v]) ST_27 (et rfl rfl) hst (mtR (mtR (mtR (mtR mhR)))) rfl rfl) ?_
                  refine Rn QSn ?_
                  refine Lc rfl ?_ LAn
                  refine Lk wn (yCall FN_22 (a1 (et rfl rfl))) (graph_Check_ok (hM := gr22) (hst := hst) (q1 := (mtF mhF))) ?_
                  clear hst
                  rintro _ w ⟨rfl, hst⟩
                  refine ⟨_, rfl, ?_⟩
                  refine DRn (l1 := [2, 3, 4, 5, 6, 7, 8, 9]) (l2 := []) (lc := [10]) (by kernel_rfl) (by kernel_rfl) (by kernel_rfl) ?_
                  refine Ry rfl rfl wn (yeql (et rfl rfl) rfl) ?_
                  refine Ry rfl rfl wn (ym (v := .bool (decide (r22 = 0))) (et rfl rfl)) ?_
                  refine Ry rfl rfl (wg rfl rfl rfl (decide_eq_true c30)) (ym (v := .int .i64 r15.2) (et rfl rfl)) ?_
                  refine Ry rfl rfl (wg rfl rfl rfl (decide_eq_true c30)) (yeql (et rfl rfl) rfl) ?_
                  refine Ry rfl rfl wn (ypt (v := .bool r23) (et rfl rfl) (decide_eq_true c30) (eqv hr2 (et rfl rfl))) ?_
                  refine Ry rfl rfl wn (ym (v := .bool r23) (et rfl rfl)) ?_
                  refine Ry rfl rfl (wg rfl rfl rfl c31) (yLbs (us := [h16.v]) ST_27 (et rfl rfl) hst (mtR (mtR mhR)) rfl rfl) ?_
                  refine Ry rfl rfl (wg rfl rfl rfl c31) (yLbs (us := [h19.v]) ST_27 (et rfl rfl) hst mhR rfl rfl) ?_
                  refine Rn QSn ?_
                  refine Lc rfl ?_ LAn
                  replace hst := hst.pk 4 [3, 0, 0, 0] rfl
                  replace hst := hst.fz
                  replace hst := hst.pk 2 [1, 0] rfl
                  replace hst := hst.fz
                  refine Lk (wg rfl rfl rfl c31) (yCall FN_23 (a2 (et rfl rfl) (et rfl rfl))) (sparsekit_Graph_ok (hM := gr32) (hst := hst) (q1 := (mtF mhF)) (q2 := mhF)) ?_
                  clear hst
                  rintro _ w ⟨rfl, hst⟩
                  refine ⟨_, rfl, ?_⟩
                  refine DRn (l1 := [11, 12, 13, 14, 16, 17]) (l2 := []) (lc := [15]) (by kernel_rfl) (by kernel_rfl) (by kernel_rfl) ?_
                  refine Ry rfl rfl wn (ypt (v := .bool r24) (et rfl rfl) c31 (eqv hr3 (et rfl rfl))) ?_
                  refine Ry rfl rfl wn (ym (v := .bool r24) (et rfl rfl)) ?_
                  refine Ry rfl rfl (wg rfl rfl rfl c33) (yLbs (us := [h11.v]) ST_27 (et rfl rfl) hst (mtR (mtR mhR)) rfl rfl) ?_
                  refine Ry rfl rfl (wg rfl rfl rfl c33) (ym (v := .int .i64 r21) (et rfl rfl)) ?_
                  refine Ry rfl rfl (wg rfl rfl rfl c33) (yLbs (us := [h11.v]) ST_27 (et rfl rfl) hst (mtR (mtR mhR)) rfl rfl) ?_
                  refine Ry rfl rfl (wg rfl rfl rfl c33) (ym (v := .int .i64 r21) (et rfl rfl)) ?_
                  refine Rn QSn ?_
                  refine Lc rfl ?_ LAn
                  refine Lk (wg rfl rfl rfl c33) (yCall FN_12 (a2 (et rfl rfl) (et rfl rfl))) (graph_Levels_ok (hM := gr34) (hst := hst) (q1 := (mtF (mtF (mtF mhF))))) ?_
                  clear hst
                  rintro _ w ⟨h35, rfl, hst⟩
                  refine ⟨_, rfl, ?_⟩
                  refine DRn (l1 := []) (l2 := [16, 17]) (lc := [18]) (by kernel_rfl) (by kernel_rfl) (by kernel_rfl) ?_
                  refine Rn (Sy rfl rfl (wg rfl rfl rfl c33) (yLbs (us := [h11.v]) ST_27 (et rfl rfl) hst (mtR (mtR (mtR mhR))) rfl rfl) rfl (Sy rfl rfl (wg rfl rfl rfl c33) (ym (v := .int .i64 r21) (et rfl rfl)) rfl QSn)) ?_
                  refine Lc rfl ?_ LAn
                  refine Lk (wg rfl rfl rfl c33) (yCall FN_15 (a2 (et rfl rfl) (et rfl rfl))) (sparseref12_Levels_ok (hM := gr36) (hst := hst) (q1 := (mtF (mtF (mtF mhF))))) ?_
                  clear hst
                  rintro _ w ⟨h37, rfl, hst⟩
                  refine ⟨_, rfl, ?_⟩
                  refine DRn (l1 := []) (l2 := []) (lc := [19]) (by kernel_rfl) (by kernel_rfl) (by kernel_rfl) ?_
                  refine Rn QSn ?_
                  refine Lc rfl ?_ LAn
                  replace hst := hst.pk 2 [1, 0] rfl
                  replace hst := hst.fz
                  replace hst := hst.fz
                  refine Lk (wg rfl rfl rfl c33) (yCall FN_24 (a2 (et rfl rfl) (et rfl rfl))) (sparsekit_Lists_ok (hM := gr38) (hst := hst) (q1 := (mtF mhF)) (q2 := mhF)) ?_
                  clear hst
                  rintro _ w ⟨rfl, hst⟩
                  refine ⟨_, rfl, ?_⟩
                  refine DRn (l1 := [20, 21, 22, 23, 25, 26]) (l2 := []) (lc := [24]) (by kernel_rfl) (by kernel_rfl) (by kernel_rfl) ?_
                  refine Ry rfl rfl wn (ypt (v := .bool r25) (et rfl rfl) c33 (eqv hr4 (et rfl rfl))) ?_
                  refine Ry rfl rfl wn (ym (v := .bool r25) (et rfl rfl)) ?_
                  refine Ry rfl rfl (wg rfl rfl rfl c39) (yLbs (us := [h11.v]) ST_27 (et rfl rfl) hst (mtR (mtR mhR)) rfl rfl) ?_
                  refine Ry rfl rfl (wg rfl rfl rfl c39) (ym (v := .int .i64 r21) (et rfl rfl)) ?_
                  refine Ry rfl rfl (wg rfl rfl rfl c39) (yLbs (us := [h11.v]) ST_27 (et rfl rfl) hst (mtR (mtR mhR)) rfl rfl) ?_
                  refine Ry rfl rfl (wg rfl rfl rfl c39) (ym (v := .int .i64 r21) (et rfl rfl)) ?_
                  refine Rn QSn ?_
                  refine Lc rfl ?_ LAn
                  refine Lk (wg rfl rfl rfl c39) (yCall FN_17 (a2 (et rfl rfl) (et rfl rfl))) (graph_Peripheral_ok (hM := gr40) (hst := hst) (q1 := (mtF (mtF (mtF (mtF (mtF mhF))))))) ?_
                  clear hst
                  rintro _ w ⟨rfl, hst⟩
                  refine ⟨_, rfl, ?_⟩
                  refine DRn (l1 := []) (l2 := [25, 26]) (lc := [27]) (by kernel_rfl) (by kernel_rfl) (by kernel_rfl) ?_
                  refine Rn (Sy rfl rfl (wg rfl rfl rfl c39) (yLbs (us := [h11.v]) ST_27 (et rfl rfl) hst (mtR (mtR mhR)) rfl rfl) rfl (Sy rfl rfl (wg rfl rfl rfl c39) (ym (v := .int .i64 r21) (et rfl rfl)) rfl QSn)) ?_
                  refine Lc rfl ?_ LAn
                  refine Lk (wg rfl rfl rfl c39) (yCall FN_25 (a2 (et rfl rfl) (et rfl rfl))) (sparseref12_Peripheral_ok (hM := gr41) (hst := hst) (q1 := (mtF (mtF (mtF (mtF (mtF mhF))))))) ?_
                  clear hst
                  rintro _ w ⟨rfl, hst⟩
                  refine ⟨_, rfl, ?_⟩
                  refine DRn (l1 := [28, 29, 30, 31, 33]) (l2 := []) (lc := [32]) (by kernel_rfl) (by kernel_rfl) (by kernel_rfl) ?_
                  refine Ry rfl rfl (wg rfl rfl rfl c39) (yeql (et rfl rfl) (et rfl rfl)) ?_
                  refine Ry rfl rfl wn (ypt (v := .bool r26) (et rfl rfl) c39 (eqv hr5 (et rfl rfl))) ?_
                  refine Ry rfl rfl wn (ym (v := .bool r26) (et rfl rfl)) ?_
                  refine Ry rfl rfl (wg rfl rfl rfl c42) (yLbs (us := [h11.v]) ST_27 (et rfl rfl) hst (mtR (mtR mhR)) rfl rfl) ?_
                  refine Ry rfl rfl (wg rfl rfl rfl c42) (yLbs (us := [h11.v]) ST_27 (et rfl rfl) hst (mtR (mtR mhR)) rfl rfl) ?_
                  refine Rn QSn ?_
                  refine Lc rfl ?_ LAn
                  refine Lk (wg rfl rfl rfl c42) (yCall FN_14 (a1 (et rfl rfl))) (graph_Components_ok (hM := gr43) (hst := hst) (q1 := (mtF (mtF (mtF (mtF (mtF mhF))))))) ?_
                  clear hst
                  rintro _ w ⟨h44, rfl, hst⟩
                  refine ⟨_, rfl, ?_⟩
                  refine DRn (l1 := []) (l2 := [33]) (lc := [34]) (by kernel_rfl) (by kernel_rfl) (by kernel_rfl) ?_
                  refine Rn (Sy rfl rfl (wg rfl rfl rfl c42) (yLbs (us := [h11.v]) ST_27 (et rfl rfl) hst (mtR (mtR (mtR mhR))) rfl rfl) rfl QSn) ?_
                  refine Lc rfl ?_ LAn
                  refine Lk (wg rfl rfl rfl c42) (yCall FN_26 (a1 (et rfl rfl))) (sparseref12_Components_ok (hM := gr45) (hst := hst) (q1 := (mtF (mtF (mtF (mtF (mtF mhF))))))) ?_
                  clear hst
                  rintro _ w ⟨h46, rfl, hst⟩
                  refine ⟨_, rfl, ?_⟩
                  refine DRn (l1 := []) (l2 := []) (lc := [35]) (by kernel_rfl) (by kernel_rfl) (by kernel_rfl) ?_
                  refine Rn QSn ?_
                  refine Lc rfl ?_ LAn
                  replace hst := hst.pk 2 [1, 0] rfl
                  replace hst := hst.fz
                  replace hst := hst.fz
                  refine Lk (wg rfl rfl rfl c42) (yCall FN_24 (a2 (et rfl rfl) (et rfl rfl))) (sparsekit_Lists_ok (hM := gr47) (hst := hst) (q1 := (mtF mhF)) (q2 := mhF)) ?_
                  clear hst
                  rintro _ w ⟨rfl, hst⟩
                  refine ⟨_, rfl, ?_⟩
                  refine DRn (l1 := [36, 37]) (l2 := []) (lc := [38]) (by kernel_rfl) (by kernel_rfl) (by kernel_rfl) ?_
                  refine Ry rfl rfl wn (ypt (v := .bool r27) (et rfl rfl) c42 (eqv hr6 (et rfl rfl))) ?_
                  refine Ry rfl rfl wn (ym (v := .bool r27) (et rfl rfl)) ?_
                  refine Rn QSn ?_
                  refine Lc rfl ?_ LAn
                  refine Lk (wg rfl rfl rfl c48) (yCall FN_9 a0) (sparselaw12_awake_ok (hM := gr49) (hst := hst) ) ?_
                  clear hst
                  rintro _ w ⟨rfl, hst⟩
                  refine ⟨_, rfl, ?_⟩
                  refine DRn (l1 := [39]) (l2 := []) (lc := [40]) (by kernel_rfl) (by kernel_rfl) (by kernel_rfl) ?_
                  refine Ry rfl rfl wn (ypt (v := .bool r28) (et rfl rfl) c48 (eqv hr7 (et rfl rfl))) ?_
                  refine Rn QSn ?_
                  refine Lc rfl ?_ LAn
                  refine Ly wn (ya (v := .bool r28) (et rfl rfl)) ?_
                  refine DRz (l1 := []) (l2 := []) (by kernel_rfl) (by kernel_rfl) ?_
                  refine Rn QSn ?_
                  exact j1 _ _ ⟨rfl, ((hst.pk 3 [] rfl).facts (allT (allT (allT (allT (allT (allT (allT (allT allI)))))))))⟩
                · have hr8 := someI gr28
                  refine wp_drawR [0, 1, 3, 7, 15, 31, 63, 127, 255, 255, 1023, 2047, 4095, 8191, 8191, 32767, 8191, 8191, 262143, 524287, 1048575, 2097151, 4194303, 4194303, 16777215, 4194303, 4194303, 134217727, 268435455, 536870911, 1073741823, 2147483647, 4294967295, 2147483647, 17179869183, 34359738367, 68719476735, 137438953471, 274877906943, 549755813887, 1099511627775] [1, 10, 15, 18, 19, 24, 27, 32, 34, 35, 38, 40] 12 folM (by kernel_rfl) (by kernel_rfl) (by kernel_rfl) ?_
                  replace hst := hst.drew
                  refine DRn (l1 := [0]) (l2 := []) (lc := [1]) (by kernel_rfl) (by kernel_rfl) (by kernel_rfl) ?_
                  refine Ry rfl rfl wn (yLbs (us := [h11.v]) ST_27 (et rfl rfl) hst (mtR (mtR (mtR (mtR mhR)))) rfl rfl) ?_
                  refine Rn QSn ?_
                  refine Lc rfl ?_ LAn
                  refine Lk wn (yCall FN_22 (a1 (et rfl rfl))) (graph_Check_ok (hM := gr22) (hst := hst) (q1 := (mtF mhF))) ?_
                  clear hst
                  rintro _ w ⟨rfl, hst⟩
                  refine ⟨_, rfl, ?_⟩
                  refine DRn (l1 := [2, 3, 4, 5, 6, 7, 8, 9]) (l2 := []) (lc := [10]) (by kernel_rfl) (by kernel_rfl) (by kernel_rfl) ?_
                  refine Ry rfl rfl wn (yeql (et rfl rfl) rfl) ?_
                  refine Ry rfl rfl wn (ym (v := .bool (decide (r22 = 0))) (et rfl rfl)) ?_
                  refine Ry rfl rfl (wg rfl rfl rfl (decide_eq_true c30)) (ym (v := .int .i64 r15.2) (et rfl rfl)) ?_
                  refine Ry rfl rfl (wg rfl rfl rfl (decide_eq_true c30)) (yeql (et rfl rfl) rfl) ?_
                  refine Ry rfl rfl wn (ypt (v := .bool r23) (et rfl rfl) (decide_eq_true c30) (eqv hr2 (et rfl rfl))) ?_
                  refine Ry rfl rfl wn (ym (v := .bool r23) (et rfl rfl)) ?_
                  refine Ry rfl rfl (wg rfl rfl rfl c31) (yLbs (us := [h16.v]) ST_27 (et rfl rfl) hst (mtR (mtR mhR)) rfl rfl) ?_
                  refine Ry rfl rfl (wg rfl rfl rfl c31) (yLbs (us := [h19.v]) ST_27 (et rfl rfl) hst mhR rfl rfl) ?_
                  refine Rn QSn ?_
                  refine Lc rfl ?_ LAn
                  replace hst := hst.pk 4 [3, 0, 0, 0] rfl
                  replace hst := hst.fz
                  replace hst := hst.pk 2 [1, 0] rfl
                  replace hst := hst.fz
                  refine Lk (wg rfl rfl rfl c31) (yCall FN_23 (a2 (et rfl rfl) (et rfl rfl))) (sparsekit_Graph_ok (hM := gr32) (hst := hst) (q1 := (mtF mhF)) (q2 := mhF)) ?_
                  clear hst
                  rintro _ w ⟨rfl, hst⟩
                  refine ⟨_, rfl, ?_⟩
                  refine DRn (l1 := [11, 12, 13, 14, 16, 17]) (l2 := []) (lc := [15]) (by kernel_rfl) (by kernel_rfl) (by kernel_rfl) ?_
                  refine Ry rfl rfl wn (ypt (v := .bool r24) (et rfl rfl) c31 (eqv hr3 (et rfl rfl))) ?_
                  refine Ry rfl rfl wn (ym (v := .bool r24) (et rfl rfl)) ?_
                  refine Ry rfl rfl (wg rfl rfl rfl c33) (yLbs (us := [h11.v]) ST_27 (et rfl rfl) hst (mtR (mtR mhR)) rfl rfl) ?_
                  refine Ry rfl rfl (wg rfl rfl rfl c33) (ym (v := .int .i64 r21) (et rfl rfl)) ?_
                  refine Ry rfl rfl (wg rfl rfl rfl c33) (yLbs (us := [h11.v]) ST_27 (et rfl rfl) hst (mtR (mtR mhR)) rfl rfl) ?_
                  refine Ry rfl rfl (wg rfl rfl rfl c33) (ym (v := .int .i64 r21) (et rfl rfl)) ?_
                  refine Rn QSn ?_
                  refine Lc rfl ?_ LAn
                  refine Lk (wg rfl rfl rfl c33) (yCall FN_12 (a2 (et rfl rfl) (et rfl rfl))) (graph_Levels_ok (hM := gr34) (hst := hst) (q1 := (mtF (mtF (mtF mhF))))) ?_
                  clear hst
                  rintro _ w ⟨h35, rfl, hst⟩
                  refine ⟨_, rfl, ?_⟩
                  refine DRn (l1 := []) (l2 := [16, 17]) (lc := [18]) (by kernel_rfl) (by kernel_rfl) (by kernel_rfl) ?_
                  refine Rn (Sy rfl rfl (wg rfl rfl rfl c33) (yLbs (us := [h11.v]) ST_27 (et rfl rfl) hst (mtR (mtR (mtR mhR))) rfl rfl) rfl (Sy rfl rfl (wg rfl rfl rfl c33) (ym (v := .int .i64 r21) (et rfl rfl)) rfl QSn)) ?_
                  refine Lc rfl ?_ LAn
                  refine Lk (wg rfl rfl rfl c33) (yCall FN_15 (a2 (et rfl rfl) (et rfl rfl))) (sparseref12_Levels_ok (hM := gr36) (hst := hst) (q1 := (mtF (mtF (mtF mhF))))) ?_
                  clear hst
                  rintro _ w ⟨h37, rfl, hst⟩
                  refine ⟨_, rfl, ?_⟩
                  refine DRn (l1 := []) (l2 := []) (lc := [19]) (by kernel_rfl) (by kernel_rfl) (by kernel_rfl) ?_
                  refine Rn QSn ?_
                  refine Lc rfl ?_ LAn
                  replace hst := hst.pk 2 [1, 0] rfl
                  replace hst := hst.fz
                  replace hst := hst.fz
                  refine Lk (wg rfl rfl rfl c33) (yCall FN_24 (a2 (et rfl rfl) (et rfl rfl))) (sparsekit_Lists_ok (hM := gr38) (hst := hst) (q1 := (mtF mhF)) (q2 := mhF)) ?_
                  clear hst
                  rintro _ w ⟨rfl, hst⟩
                  refine ⟨_, rfl, ?_⟩
                  refine DRn (l1 := [20, 21, 22, 23, 25, 26]) (l2 := []) (lc := [24]) (by kernel_rfl) (by kernel_rfl) (by kernel_rfl) ?_
                  refine Ry rfl rfl wn (ypt (v := .bool r25) (et rfl rfl) c33 (eqv hr4 (et rfl rfl))) ?_
                  refine Ry rfl rfl wn (ym (v := .bool r25) (et rfl rfl)) ?_
                  refine Ry rfl rfl (wg rfl rfl rfl c39) (yLbs (us := [h11.v]) ST_27 (et rfl rfl) hst (mtR (mtR mhR)) rfl rfl) ?_
                  refine Ry rfl rfl (wg rfl rfl rfl c39) (ym (v := .int .i64 r21) (et rfl rfl)) ?_
                  refine Ry rfl rfl (wg rfl rfl rfl c39) (yLbs (us := [h11.v]) ST_27 (et rfl rfl) hst (mtR (mtR mhR)) rfl rfl) ?_
                  refine Ry rfl rfl (wg rfl rfl rfl c39) (ym (v := .int .i64 r21) (et rfl rfl)) ?_
                  refine Rn QSn ?_
                  refine Lc rfl ?_ LAn
                  refine Lk (wg rfl rfl rfl c39) (yCall FN_17 (a2 (et rfl rfl) (et rfl rfl))) (graph_Peripheral_ok (hM := gr40) (hst := hst) (q1 := (mtF (mtF (mtF (mtF (mtF mhF))))))) ?_
                  clear hst
                  rintro _ w ⟨rfl, hst⟩
                  refine ⟨_, rfl, ?_⟩
                  refine DRn (l1 := []) (l2 := [25, 26]) (lc := [27]) (by kernel_rfl) (by kernel_rfl) (by kernel_rfl) ?_
                  refine Rn (Sy rfl rfl (wg rfl rfl rfl c39) (yLbs (us := [h11.v]) ST_27 (et rfl rfl) hst (mtR (mtR mhR)) rfl rfl) rfl (Sy rfl rfl (wg rfl rfl rfl c39) (ym (v := .int .i64 r21) (et rfl rfl)) rfl QSn)) ?_
                  refine Lc rfl ?_ LAn
                  refine Lk (wg rfl rfl rfl c39) (yCall FN_25 (a2 (et rfl rfl) (et rfl rfl))) (sparseref12_Peripheral_ok (hM := gr41) (hst := hst) (q1 := (mtF (mtF (mtF (mtF (mtF mhF))))))) ?_
                  clear hst
                  rintro _ w ⟨rfl, hst⟩
                  refine ⟨_, rfl, ?_⟩
                  refine DRn (l1 := [28, 29, 30, 31, 33]) (l2 := []) (lc := [32]) (by kernel_rfl) (by kernel_rfl) (by kernel_rfl) ?_
                  refine Ry rfl rfl (wg rfl rfl rfl c39) (yeql (et rfl rfl) (et rfl rfl)) ?_
                  refine Ry rfl rfl wn (ypt (v := .bool r26) (et rfl rfl) c39 (eqv hr5 (et rfl rfl))) ?_
                  refine Ry rfl rfl wn (ym (v := .bool r26) (et rfl rfl)) ?_
                  refine Ry rfl rfl (wg rfl rfl rfl c42) (yLbs (us := [h11.v]) ST_27 (et rfl rfl) hst (mtR (mtR mhR)) rfl rfl) ?_
                  refine Ry rfl rfl (wg rfl rfl rfl c42) (yLbs (us := [h11.v]) ST_27 (et rfl rfl) hst (mtR (mtR mhR)) rfl rfl) ?_
                  refine Rn QSn ?_
                  refine Lc rfl ?_ LAn
                  refine Lk (wg rfl rfl rfl c42) (yCall FN_14 (a1 (et rfl rfl))) (graph_Components_ok (hM := gr43) (hst := hst) (q1 := (mtF (mtF (mtF (mtF (mtF mhF))))))) ?_
                  clear hst
                  rintro _ w ⟨h44, rfl, hst⟩
                  refine ⟨_, rfl, ?_⟩
                  refine DRn (l1 := []) (l2 := [33]) (lc := [34]) (by kernel_rfl) (by kernel_rfl) (by kernel_rfl) ?_
                  refine Rn (Sy rfl rfl (wg rfl rfl rfl c42) (yLbs (us := [h11.v]) ST_27 (et rfl rfl) hst (mtR (mtR (mtR mhR))) rfl rfl) rfl QSn) ?_
                  refine Lc rfl ?_ LAn
                  refine Lk (wg rfl rfl rfl c42) (yCall FN_26 (a1 (et rfl rfl))) (sparseref12_Components_ok (hM := gr45) (hst := hst) (q1 := (mtF (mtF (mtF (mtF (mtF mhF))))))) ?_
                  clear hst
                  rintro _ w ⟨h46, rfl, hst⟩
                  refine ⟨_, rfl, ?_⟩
                  refine DRn (l1 := []) (l2 := []) (lc := [35]) (by kernel_rfl) (by kernel_rfl) (by kernel_rfl) ?_
                  refine Rn QSn ?_
                  refine Lc rfl ?_ LAn
                  replace hst := hst.pk 2 [1, 0] rfl
                  replace hst := hst.fz
                  replace hst := hst.fz
                  refine Lk (wg rfl rfl rfl c42) (yCall FN_24 (a2 (et rfl rfl) (et rfl rfl))) (sparsekit_Lists_ok (hM := gr47) (hst := hst) (q1 := (mtF mhF)) (q2 := mhF)) ?_
                  clear hst
                  rintro _ w ⟨rfl, hst⟩
                  refine ⟨_, rfl, ?_⟩
                  refine DRn (l1 := [36, 37]) (l2 := []) (lc := [38]) (by kernel_rfl) (by kernel_rfl) (by kernel_rfl) ?_
                  refine Ry rfl rfl wn (ypt (v := .bool r27) (et rfl rfl) c42 (eqv hr6 (et rfl rfl))) ?_
                  refine Ry rfl rfl wn (ym (v := .bool r27) (et rfl rfl)) ?_
                  refine Rn QSn ?_
                  refine Lc rfl ?_ LAn
                  refine Lx (wx rfl rfl rfl (bfalse c48)) ?_
                  refine DRn (l1 := [39]) (l2 := []) (lc := [40]) (by kernel_rfl) (by kernel_rfl) (by kernel_rfl) ?_
                  refine Ry rfl rfl wn (ypf (v := .bool r28) (et rfl rfl) (bfalse c48) (eqv hr8 rfl)) ?_
                  refine Rn QSn ?_
                  refine Lc rfl ?_ LAn
                  refine Ly wn (ya (v := .bool r28) (et rfl rfl)) ?_
                  refine DRz (l1 := []) (l2 := []) (by kernel_rfl) (by kernel_rfl) ?_
                  refine Rn QSn ?_
                  exact j1 _ _ ⟨rfl, ((hst.pk 3 [] rfl).facts (allT (allT (allT (allT (allT (allT (allT (allT allI)))))))))⟩
              · have hr9 := someI gr27
                have c50 : ¬ r27 = true := fun h => Bool.false_ne_true (hr9.trans h)
                rw [if_neg c50] at gr28
                have hr10 := someI gr28
                refine wp_drawR [0, 1, 3, 7, 15, 31, 63, 127, 255, 255, 1023, 2047, 4095, 8191, 8191, 32767, 8191, 8191, 262143, 524287, 1048575, 2097151, 4194303, 4194303, 16777215, 4194303, 4194303, 134217727, 268435455, 536870911, 1073741823, 2147483647, 4294967295, 2147483647, 17179869183, 34359738367, 68719476735, 137438953471, 274877906943, 549755813887, 1099511627775] [1, 10, 15, 18, 19, 24, 27, 32, 34, 35, 38, 40] 12 folM (by kernel_rfl) (by kernel_rfl) (by kernel_rfl) ?_
                replace hst := hst.drew
                refine DRn (l1 := [0]) (l2 := []) (lc := [1]) (by kernel_rfl) (by kernel_rfl) (by kernel_rfl) ?_
                refine Ry rfl rfl wn (yLbs (us := [h11.v]) ST_27 (et rfl rfl) hst (mtR (mtR (mtR (mtR mhR)))) rfl rfl) ?_
                refine Rn QSn ?_
                refine Lc rfl ?_ LAn
                refine Lk wn (yCall FN_22 (a1 (et rfl rfl))) (graph_Check_ok (hM := gr22) (hst := hst) (q1 := (mtF mhF))) ?_
                clear hst
                rintro _ w ⟨rfl, hst⟩
                refine ⟨_, rfl, ?_⟩
                refine DRn (l1 := [2, 3, 4, 5, 6, 7, 8, 9]) (l2 := []) (lc := [10]) (by kernel_rfl) (by kernel_rfl) (by kernel_rfl) ?_
                refine Ry rfl rfl wn (yeql (et rfl rfl) rfl) ?_
                refine Ry rfl rfl wn (ym (v := .bool (decide (r22 = 0))) (et rfl rfl)) ?_
                refine Ry rfl rfl (wg rfl rfl rfl (decide_eq_true c30)) (ym (v := .int .i64 r15.2) (et rfl rfl)) ?_
                refine Ry rfl rfl (wg rfl rfl rfl (decide_eq_true c30)) (yeql (et rfl rfl) rfl) ?_
                refine Ry rfl rfl wn (ypt (v := .bool r23) (et rfl rfl) (decide_eq_true c30) (eqv hr2 (et rfl rfl))) ?_
                refine Ry rfl rfl wn (ym (v := .bool r23) (et rfl rfl)) ?_
                refine Ry rfl rfl (wg rfl rfl rfl c31) (yLbs (us := [h16.v]) ST_27 (et rfl rfl) hst (mtR (mtR mhR)) rfl rfl) ?_
                refine Ry rfl rfl (wg rfl rfl rfl c31) (yLbs (us := [h19.v]) ST_27 (et rfl rfl) hst mhR rfl rfl) ?_
                refine Rn QSn ?_
                refine Lc rfl ?_ LAn
                replace hst := hst.pk 4 [3, 0, 0, 0] rfl
                replace hst := hst.fz
                replace hst := hst.pk 2 [1, 0] rfl
                replace hst := hst.fz
                refine Lk (wg rfl rfl rfl c31) (yCall FN_23 (a2 (et rfl rfl) (et rfl rfl))) (sparsekit_Graph_ok (hM := gr32) (hst := hst) (q1 := (mtF mhF)) (q2 := mhF)) ?_
                clear hst
                rintro _ w ⟨rfl, hst⟩
                refine ⟨_, rfl, ?_⟩
                refine DRn (l1 := [11, 12, 13, 14, 16, 17]) (l2 := []) (lc := [15]) (by kernel_rfl) (by kernel_rfl) (by kernel_rfl) ?_
                refine Ry rfl rfl wn (ypt (v := .bool r24) (et rfl rfl) c31 (eqv hr3 (et rfl rfl))) ?_
                refine Ry rfl rfl wn (ym (v := .bool r24) (et rfl rfl)) ?_
                refine Ry rfl rfl (wg rfl rfl rfl c33) (yLbs (us := [h11.v]) ST_27 (et rfl rfl) hst (mtR (mtR mhR)) rfl rfl) ?_
                refine Ry rfl rfl (wg rfl rfl rfl c33) (ym (v := .int .i64 r21) (et rfl rfl)) ?_
                refine Ry rfl rfl (wg rfl rfl rfl c33) (yLbs (us := [h11.v]) ST_27 (et rfl rfl) hst (mtR (mtR mhR)) rfl rfl) ?_
                refine Ry rfl rfl (wg rfl rfl rfl c33) (ym (v := .int .i64 r21) (et rfl rfl)) ?_
                refine Rn QSn ?_
                refine Lc rfl ?_ LAn
                refine Lk (wg rfl rfl rfl c33) (yCall FN_12 (a2 (et rfl rfl) (et rfl rfl))) (graph_Levels_ok (hM := gr34) (hst := hst) (q1 := (mtF (mtF (mtF mhF))))) ?_
                clear hst
                rintro _ w ⟨h35, rfl, hst⟩
                refine ⟨_, rfl, ?_⟩
                refine DRn (l1 := []) (l2 := [16, 17]) (lc := [18]) (by kernel_rfl) (by kernel_rfl) (by kernel_rfl) ?_
                refine Rn (Sy rfl rfl (wg rfl rfl rfl c33) (yLbs (us := [h11.v]) ST_27 (et rfl rfl) hst (mtR (mtR (mtR mhR))) rfl rfl) rfl (Sy rfl rfl (wg rfl rfl rfl c33) (ym (v := .int .i64 r21) (et rfl rfl)) rfl QSn)) ?_
                refine Lc rfl ?_ LAn
                refine Lk (wg rfl rfl rfl c33) (yCall FN_15 (a2 (et rfl rfl) (et rfl rfl))) (sparseref12_Levels_ok (hM := gr36) (hst := hst) (q1 := (mtF (mtF (mtF mhF))))) ?_
                clear hst
                rintro _ w ⟨h37, rfl, hst⟩
                refine ⟨_, rfl, ?_⟩
                refine DRn (l1 := []) (l2 := []) (lc := [19]) (by kernel_rfl) (by kernel_rfl) (by kernel_rfl) ?_
                refine Rn QSn ?_
                refine Lc rfl ?_ LAn
                replace hst := hst.pk 2 [1, 0] rfl
                replace hst := hst.fz
                replace hst := hst.fz
                refine Lk (wg rfl rfl rfl c33) (yCall FN_24 (a2 (et rfl rfl) (et rfl rfl))) (sparsekit_Lists_ok (hM := gr38) (hst := hst) (q1 := (mtF mhF)) (q2 := mhF)) ?_
                clear hst
                rintro _ w ⟨rfl, hst⟩
                refine ⟨_, rfl, ?_⟩
                refine DRn (l1 := [20, 21, 22, 23, 25, 26]) (l2 := []) (lc := [24]) (by kernel_rfl) (by kernel_rfl) (by kernel_rfl) ?_
                refine Ry rfl rfl wn (ypt (v := .bool r25) (et rfl rfl) c33 (eqv hr4 (et rfl rfl))) ?_
                refine Ry rfl rfl wn (ym (v := .bool r25) (et rfl rfl)) ?_
                refine Ry rfl rfl (wg rfl rfl rfl c39) (yLbs (us := [h11.v]) ST_27 (et rfl rfl) hst (mtR (mtR mhR)) rfl rfl) ?_
                refine Ry rfl rfl (wg rfl rfl rfl c39) (ym (v := .int .i64 r21) (et rfl rfl)) ?_
                refine Ry rfl rfl (wg rfl rfl rfl c39) (yLbs (us := [h11.v]) ST_27 (et rfl rfl) hst (mtR (mtR mhR)) rfl rfl) ?_
                refine Ry rfl rfl (wg rfl rfl rfl c39) (ym (v := .int .i64 r21) (et rfl rfl)) ?_
                refine Rn QSn ?_
                refine Lc rfl ?_ LAn
                refine Lk (wg rfl rfl rfl c39) (yCall FN_17 (a2 (et rfl rfl) (et rfl rfl))) (graph_Peripheral_ok (hM := gr40) (hst := hst) (q1 := (mtF (mtF (mtF (mtF (mtF mhF))))))) ?_
                clear hst
                rintro _ w ⟨rfl, hst⟩
                refine ⟨_, rfl, ?_⟩
                refine DRn (l1 := []) (l2 := [25, 26]) (lc := [27]) (by kernel_rfl) (by kernel_rfl) (by kernel_rfl) ?_
                refine Rn (Sy rfl rfl (wg rfl rfl rfl c39) (yLbs (us := [h11.v]) ST_27 (et rfl rfl) hst (mtR (mtR mhR)) rfl rfl) rfl (Sy rfl rfl (wg rfl rfl rfl c39) (ym (v := .int .i64 r21) (et rfl rfl)) rfl QSn)) ?_
                refine Lc rfl ?_ LAn
                refine Lk (wg rfl rfl rfl c39) (yCall FN_25 (a2 (et rfl rfl) (et rfl rfl))) (sparseref12_Peripheral_ok (hM := gr41) (hst := hst) (q1 := (mtF (mtF (mtF (mtF (mtF mhF))))))) ?_
                clear hst
                rintro _ w ⟨rfl, hst⟩
                refine ⟨_, rfl, ?_⟩
                refine DRn (l1 := [28, 29, 30, 31, 33]) (l2 := []) (lc := [32]) (by kernel_rfl) (by kernel_rfl) (by kernel_rfl) ?_
                refine Ry rfl rfl (wg rfl rfl rfl c39) (yeql (et rfl rfl) (et rfl rfl)) ?_
                refine Ry rfl rfl wn (ypt (v := .bool r26) (et rfl rfl) c39 (eqv hr5 (et rfl rfl))) ?_
                refine Ry rfl rfl wn (ym (v := .bool r26) (et rfl rfl)) ?_
                refine Rx rfl rfl (wx rfl rfl rfl (bfalse c42)) ?_
                refine Rx rfl rfl (wx rfl rfl rfl (bfalse c42)) ?_
                refine Rn QSn ?_
                refine Lc rfl ?_ LAn
                refine Lx (wx rfl rfl rfl (bfalse c42)) ?_
                refine DRn (l1 := []) (l2 := [33]) (lc := [34]) (by kernel_rfl) (by kernel_rfl) (by kernel_rfl) ?_
                refine Rn (Sx_ rfl rfl (wx rfl rfl rfl (bfalse c42)) rfl QSn) ?_
                refine Lc rfl ?_ LAn
                refine Lx (wx rfl rfl rfl (bfalse c42)) ?_
                refine DRn (l1 := []) (l2 := []) (lc := [35]) (by kernel_rfl) (by kernel_rfl) (by kernel_rfl) ?_
                refine Rn QSn ?_
                refine Lc rfl ?_ LAn
                refine Lx (wx rfl rfl rfl (bfalse c42)) ?_
                refine DRn (l1 := [36, 37]) (l2 := []) (lc := [38]) (by kernel_rfl) (by kernel_rfl) (by kernel_rfl) ?_
                refine Ry rfl rfl wn (ypf (v := .bool r27) (et rfl rfl) (bfalse c42) (eqv hr9 rfl)) ?_
                refine Ry rfl rfl wn (ym (v := .bool r27) (et rfl rfl)) ?_
                refine Rn QSn ?_
                refine Lc rfl ?_ LAn
                refine Lx (wx rfl rfl rfl (bfalse c50)) ?_
                refine DRn (l1 := [39]) (l2 := []) (lc := [40]) (by kernel_rfl) (by kernel_rfl) (by kernel_rfl) ?_
                refine Ry rfl rfl wn (ypf (v := .bool r28) (et rfl rfl) (bfalse c50) (eqv hr10 rfl)) ?_
                refine Rn QSn ?_
                refine Lc rfl ?_ LAn
                refine Ly wn (ya (v := .bool r28) (et rfl rfl)) ?_
                refine DRz (l1 := []) (l2 := []) (by kernel_rfl) (by kernel_rfl) ?_
                refine Rn QSn ?_
                exact j1 _ _ ⟨rfl, ((hst.pk 3 [] rfl).facts (allT (allT (allT (allT (allT (allT allI)))))))⟩
            · have hr11 := someI gr26
              have c51 : ¬ r26 = true := fun h => Bool.false_ne_true (hr11.trans h)
              rw [if_neg c51] at gr27
              have hr12 := someI gr27
              have c52 : ¬ r27 = true := fun h => Bool.false_ne_true (hr12.trans h)
              rw [if_neg c52] at gr28
              have hr13 := someI gr28
              refine wp_drawR [0, 1, 3, 7, 15, 31, 63, 127, 255, 255, 1023, 2047, 4095, 8191, 8191, 32767, 8191, 8191, 262143, 524287, 1048575, 2097151, 4194303, 4194303, 16777215, 4194303, 4194303, 134217727, 268435455, 536870911, 1073741823, 2147483647, 4294967295, 2147483647, 17179869183, 34359738367, 68719476735, 137438953471, 274877906943, 549755813887, 1099511627775] [1, 10, 15, 18, 19, 24, 27, 32, 34, 35, 38, 40] 12 folM (by kernel_rfl) (by kernel_rfl) (by kernel_rfl) ?_
              replace hst := hst.drew
              refine DRn (l1 := [0]) (l2 := []) (lc := [1]) (by kernel_rfl) (by kernel_rfl) (by kernel_rfl) ?_
              refine Ry rfl rfl wn (yLbs (us := [h11.v]) ST_27 (et rfl rfl) hst (mtR (mtR (mtR (mtR mhR)))) rfl rfl) ?_
              refine Rn QSn ?_
              refine Lc rfl ?_ LAn
              refine Lk wn (yCall FN_22 (a1 (et rfl rfl))) (graph_Check_ok (hM := gr22) (hst := hst) (q1 := (mtF mhF))) ?_
              clear hst
              rintro _ w ⟨rfl, hst⟩
              refine ⟨_, rfl, ?_⟩
              refine DRn (l1 := [2, 3, 4, 5, 6, 7, 8, 9]) (l2 := []) (lc := [10]) (by kernel_rfl) (by kernel_rfl) (by kernel_rfl) ?_
              refine Ry rfl rfl wn (yeql (et rfl rfl) rfl) ?_
              refine Ry rfl rfl wn (ym (v := .bool (decide (r22 = 0))) (et rfl rfl)) ?_
              refine Ry rfl rfl (wg rfl rfl rfl (decide_eq_true c30)) (ym (v := .int .i64 r15.2) (et rfl rfl)) ?_
              refine Ry rfl rfl (wg rfl rfl rfl (decide_eq_true c30)) (yeql (et rfl rfl) rfl) ?_
              refine Ry rfl rfl wn (ypt (v := .bool r23) (et rfl rfl) (decide_eq_true c30) (eqv hr2 (et rfl rfl))) ?_
              refine Ry rfl rfl wn (ym (v := .bool r23) (et rfl rfl)) ?_
              refine Ry rfl rfl (wg rfl rfl rfl c31) (yLbs (us := [h16.v]) ST_27 (et rfl rfl) hst (mtR (mtR mhR)) rfl rfl) ?_
              refine Ry rfl rfl (wg rfl rfl rfl c31) (yLbs (us := [h19.v]) ST_27 (et rfl rfl) hst mhR rfl rfl) ?_
              refine Rn QSn ?_
              refine Lc rfl ?_ LAn
              replace hst := hst.pk 4 [3, 0, 0, 0] rfl
              replace hst := hst.fz
              replace hst := hst.pk 2 [1, 0] rfl
              replace hst := hst.fz
              refine Lk (wg rfl rfl rfl c31) (yCall FN_23 (a2 (et rfl rfl) (et rfl rfl))) (sparsekit_Graph_ok (hM := gr32) (hst := hst) (q1 := (mtF mhF)) (q2 := mhF)) ?_
              clear hst
              rintro _ w ⟨rfl, hst⟩
              refine ⟨_, rfl, ?_⟩
              refine DRn (l1 := [11, 12, 13, 14, 16, 17]) (l2 := []) (lc := [15]) (by kernel_rfl) (by kernel_rfl) (by kernel_rfl) ?_
              refine Ry rfl rfl wn (ypt (v := .bool r24) (et rfl rfl) c31 (eqv hr3 (et rfl rfl))) ?_
              refine Ry rfl rfl wn (ym (v := .bool r24) (et rfl rfl)) ?_
              refine Ry rfl rfl (wg rfl rfl rfl c33) (yLbs (us := [h11.v]) ST_27 (et rfl rfl) hst (mtR (mtR mhR)) rfl rfl) ?_
              refine Ry rfl rfl (wg rfl rfl rfl c33) (ym (v := .int .i64 r21) (et rfl rfl)) ?_
              refine Ry rfl rfl (wg rfl rfl rfl c33) (yLbs (us := [h11.v]) ST_27 (et rfl rfl) hst (mtR (mtR mhR)) rfl rfl) ?_
              refine Ry rfl rfl (wg rfl rfl rfl c33) (ym (v := .int .i64 r21) (et rfl rfl)) ?_
              refine Rn QSn ?_
              refine Lc rfl ?_ LAn
              refine Lk (wg rfl rfl rfl c33) (yCall FN_12 (a2 (et rfl rfl) (et rfl rfl))) (graph_Levels_ok (hM := gr34) (hst := hst) (q1 := (mtF (mtF (mtF mhF))))) ?_
              clear hst
              rintro _ w ⟨h35, rfl, hst⟩
              refine ⟨_, rfl, ?_⟩
              refine DRn (l1 := []) (l2 := [16, 17]) (lc := [18]) (by kernel_rfl) (by kernel_rfl) (by kernel_rfl) ?_
              refine Rn (Sy rfl rfl (wg rfl rfl rfl c33) (yLbs (us := [h11.v]) ST_27 (et rfl rfl) hst (mtR (mtR (mtR mhR))) rfl rfl) rfl (Sy rfl rfl (wg rfl rfl rfl c33) (ym (v := .int .i64 r21) (et rfl rfl)) rfl QSn)) ?_
              refine Lc rfl ?_ LAn
              refine Lk (wg rfl rfl rfl c33) (yCall FN_15 (a2 (et rfl rfl) (et rfl rfl))) (sparseref12_Levels_ok (hM := gr36) (hst := hst) (q1 := (mtF (mtF (mtF mhF))))) ?_
              clear hst
              rintro _ w ⟨h37, rfl, hst⟩
              refine ⟨_, rfl, ?_⟩
              refine DRn (l1 := []) (l2 := []) (lc := [19]) (by kernel_rfl) (by kernel_rfl) (by kernel_rfl) ?_
              refine Rn QSn ?_
              refine Lc rfl ?_ LAn
              replace hst := hst.pk 2 [1, 0] rfl
              replace hst := hst.fz
              replace hst := hst.fz
              refine Lk (wg rfl rfl rfl c33) (yCall FN_24 (a2 (et rfl rfl) (et rfl rfl))) (sparsekit_Lists_ok (hM := gr38) (hst := hst) (q1 := (mtF mhF)) (q2 := mhF)) ?_
              clear hst
              rintro _ w ⟨rfl, hst⟩
              refine ⟨_, rfl, ?_⟩
              refine DRn (l1 := [20, 21, 22, 23, 25, 26]) (l2 := []) (lc := [24]) (by kernel_rfl) (by kernel_rfl) (by kernel_rfl) ?_
              refine Ry rfl rfl wn (ypt (v := .bool r25) (et rfl rfl) c33 (eqv hr4 (et rfl rfl))) ?_
              refine Ry rfl rfl wn (ym (v := .bool r25) (et rfl rfl)) ?_
              refine Rx rfl rfl (wx rfl rfl rfl (bfalse c39)) ?_
              refine Rx rfl rfl (wx rfl rfl rfl (bfalse c39)) ?_
              refine Rx rfl rfl (wx rfl rfl rfl (bfalse c39)) ?_
              refine Rx rfl rfl (wx rfl rfl rfl (bfalse c39)) ?_
              refine Rn QSn ?_
              refine Lc rfl ?_ LAn
              refine Lx (wx rfl rfl rfl (bfalse c39)) ?_
              refine DRn (l1 := []) (l2 := [25, 26]) (lc := [27]) (by kernel_rfl) (by kernel_rfl) (by kernel_rfl) ?_
              refine Rn (Sx_ rfl rfl (wx rfl rfl rfl (bfalse c39)) rfl (Sx_ rfl rfl (wx rfl rfl rfl (bfalse c39)) rfl QSn)) ?_
              refine Lc rfl ?_ LAn
              refine Lx (wx rfl rfl rfl (bfalse c39)) ?_
              refine DRn (l1 := [28, 29, 30, 31, 33]) (l2 := []) (lc := [32]) (by kernel_rfl) (by kernel_rfl) (by kernel_rfl) ?_
              refine Rx rfl rfl (wx rfl rfl rfl (bfalse c39)) ?_
              refine Ry rfl rfl wn (ypf (v := .bool r26) (et rfl rfl) (bfalse c39) (eqv hr11 rfl)) ?_
              refine Ry rfl rfl wn (ym (v := .bool r26) (et rfl rfl)) ?_
              refine Rx rfl rfl (wx rfl rfl rfl (bfalse c51)) ?_
              refine Rx rfl rfl (wx rfl rfl rfl (bfalse c51)) ?_
              refine Rn QSn ?_
              refine Lc rfl ?_ LAn
              refine Lx (wx rfl rfl rfl (bfalse c51)) ?_
              refine DRn (l1 := []) (l2 := [33]) (lc := [34]) (by kernel_rfl) (by kernel_rfl) (by kernel_rfl) ?_
              refine Rn (Sx_ rfl rfl (wx rfl rfl rfl (bfalse c51)) rfl QSn) ?_
              refine Lc rfl ?_ LAn
              refine Lx (wx rfl rfl rfl (bfalse c51)) ?_
              refine DRn (l1 := []) (l2 := []) (lc := [35]) (by kernel_rfl) (by kernel_rfl) (by kernel_rfl) ?_
              refine Rn QSn ?_
              refine Lc rfl ?_ LAn
              refine Lx (wx rfl rfl rfl (bfalse c51)) ?_
              refine DRn (l1 := [36, 37]) (l2 := []) (lc := [38]) (by kernel_rfl) (by kernel_rfl) (by kernel_rfl) ?_
              refine Ry rfl rfl wn (ypf (v := .bool r27) (et rfl rfl) (bfalse c51) (eqv hr12 rfl)) ?_
              refine Ry rfl rfl wn (ym (v := .bool r27) (et rfl rfl)) ?_
              refine Rn QSn ?_
              refine Lc rfl ?_ LAn
              refine Lx (wx rfl rfl rfl (bfalse c52)) ?_
              refine DRn (l1 := [39]) (l2 := []) (lc := [40]) (by kernel_rfl) (by kernel_rfl) (by kernel_rfl) ?_
              refine Ry rfl rfl wn (ypf (v := .bool r28) (et rfl rfl) (bfalse c52) (eqv hr13 rfl)) ?_
              refine Rn QSn ?_
              refine Lc rfl ?_ LAn
              refine Ly wn (ya (v := .bool r28) (et rfl rfl)) ?_
              refine DRz (l1 := []) (l2 := []) (by kernel_rfl) (by kernel_rfl) ?_
              refine Rn QSn ?_
              exact j1 _ _ ⟨rfl, ((hst.pk 3 [] rfl).facts (allT (allT (allT (allT (allT (allT allI)))))))⟩
          · have hr14 := someI gr25
            have c53 : ¬ r25 = true := fun h => Bool.false_ne_true (hr14.trans h)
            rw [if_neg c53] at gr26
            have hr15 := someI gr26
            have c54 : ¬ r26 = true := fun h => Bool.false_ne_true (hr15.trans h)
            rw [if_neg c54] at gr27
            have hr16 := someI gr27
            have c55 : ¬ r27 = true := fun h => Bool.false_ne_true (hr16.trans h)
            rw [if_neg c55] at gr28
            have hr17 := someI gr28
            refine wp_drawR [0, 1, 3, 7, 15, 31, 63, 127, 255, 255, 1023, 2047, 4095, 8191, 8191, 32767, 8191, 8191, 262143, 524287, 1048575, 2097151, 4194303, 4194303, 16777215, 4194303, 4194303, 134217727, 268435455, 536870911, 1073741823, 2147483647, 4294967295, 2147483647, 17179869183, 34359738367, 68719476735, 137438953471, 274877906943, 549755813887, 1099511627775] [1, 10, 15, 18, 19, 24, 27, 32, 34, 35, 38, 40] 12 folM (by kernel_rfl) (by kernel_rfl) (by kernel_rfl) ?_
            replace hst := hst.drew
            refine DRn (l1 := [0]) (l2 := []) (lc := [1]) (by kernel_rfl) (by kernel_rfl) (by kernel_rfl) ?_
            refine Ry rfl rfl wn (yLbs (us := [h11.v]) ST_27 (et rfl rfl) hst (mtR (mtR (mtR (mtR mhR)))) rfl rfl) ?_
            refine Rn QSn ?_
            refine Lc rfl ?_ LAn
            refine Lk wn (yCall FN_22 (a1 (et rfl rfl))) (graph_Check_ok (hM := gr22) (hst := hst) (q1 := (mtF mhF))) ?_
            clear hst
            rintro _ w ⟨rfl, hst⟩
            refine ⟨_, rfl, ?_⟩
            refine DRn (l1 := [2, 3, 4, 5, 6, 7, 8, 9]) (l2 := []) (lc := [10]) (by kernel_rfl) (by kernel_rfl) (by kernel_rfl) ?_
            refine Ry rfl rfl wn (yeql (et rfl rfl) rfl) ?_
            refine Ry rfl rfl wn (ym (v := .bool (decide (r22 = 0))) (et rfl rfl)) ?_
            refine Ry rfl rfl (wg rfl rfl rfl (decide_eq_true c30)) (ym (v := .int .i64 r15.2) (et rfl rfl)) ?_
            refine Ry rfl rfl (wg rfl rfl rfl (decide_eq_true c30)) (yeql (et rfl rfl) rfl) ?_
            refine Ry rfl rfl wn (ypt (v := .bool r23) (et rfl rfl) (decide_eq_true c30) (eqv hr2 (et rfl rfl))) ?_
            refine Ry rfl rfl wn (ym (v := .bool r23) (et rfl rfl)) ?_
            refine Ry rfl rfl (wg rfl rfl rfl c31) (yLbs (us := [h16.v]) ST_27 (et rfl rfl) hst (mtR (mtR mhR)) rfl rfl) ?_
            refine Ry rfl rfl (wg rfl rfl rfl c31) (yLbs (us := [h19.v]) ST_27 (et rfl rfl) hst mhR rfl rfl) ?_
            refine Rn QSn ?_
            refine Lc rfl ?_ LAn
            replace hst := hst.pk 4 [3, 0, 0, 0] rfl
            replace hst := hst.fz
            replace hst := hst.pk 2 [1, 0] rfl
            replace hst := hst.fz
            refine Lk (wg rfl rfl rfl c31) (yCall FN_23 (a2 (et rfl rfl) (et rfl rfl))) (sparsekit_Graph_ok (hM := gr32) (hst := hst) (q1 := (mtF mhF)) (q2 := mhF)) ?_
            clear hst
            rintro _ w ⟨rfl, hst⟩
            refine ⟨_, rfl, ?_⟩
            refine DRn (l1 := [11, 12, 13, 14, 16, 17]) (l2 := []) (lc := [15]) (by kernel_rfl) (by kernel_rfl) (by kernel_rfl) ?_
            refine Ry rfl rfl wn (ypt (v := .bool r24) (et rfl rfl) c31 (eqv hr3 (et rfl rfl))) ?_
            refine Ry rfl rfl wn (ym (v := .bool r24) (et rfl rfl)) ?_
            refine Rx rfl rfl (wx rfl rfl rfl (bfalse c33)) ?_
            refine Rx rfl rfl (wx rfl rfl rfl (bfalse c33)) ?_
            refine Rx rfl rfl (wx rfl rfl rfl (bfalse c33)) ?_
            refine Rx rfl rfl (wx rfl rfl rfl (bfalse c33)) ?_
            refine Rn QSn ?_
            refine Lc rfl ?_ LAn
            refine Lx (wx rfl rfl rfl (bfalse c33)) ?_
            refine DRn (l1 := []) (l2 := [16, 17]) (lc := [18]) (by kernel_rfl) (by kernel_rfl) (by kernel_rfl) ?_
            refine Rn (Sx_ rfl rfl (wx rfl rfl rfl (bfalse c33)) rfl (Sx_ rfl rfl (wx rfl rfl rfl (bfalse c33)) rfl QSn)) ?_
            refine Lc rfl ?_ LAn
            refine Lx (wx rfl rfl rfl (bfalse c33)) ?_
            refine DRn (l1 := []) (l2 := []) (lc := [19]) (by kernel_rfl) (by kernel_rfl) (by kernel_rfl) ?_
            refine Rn QSn ?_
            refine Lc rfl ?_ LAn
            refine Lx (wx rfl rfl rfl (bfalse c33)) ?_
            refine DRn (l1 := [20, 21, 22, 23, 25, 26]) (l2 := []) (lc := [24]) (by kernel_rfl) (by kernel_rfl) (by kernel_rfl) ?_
            refine Ry rfl rfl wn (ypf (v := .bool r25) (et rfl rfl) (bfalse c33) (eqv hr14 rfl)) ?_
            refine Ry rfl rfl wn (ym (v := .bool r25) (et rfl rfl)) ?_
            refine Rx rfl rfl (wx rfl rfl rfl (bfalse c53)) ?_
            refine Rx rfl rfl (wx rfl rfl rfl (bfalse c53)) ?_
            refine Rx rfl rfl (wx rfl rfl rfl (bfalse c53)) ?_
            refine Rx rfl rfl (wx rfl rfl rfl (bfalse c53)) ?_
            refine Rn QSn ?_
            refine Lc rfl ?_ LAn
            refine Lx (wx rfl rfl rfl (bfalse c53)) ?_
            refine DRn (l1 := []) (l2 := [25, 26]) (lc := [27]) (by kernel_rfl) (by kernel_rfl) (by kernel_rfl) ?_
            refine Rn (Sx_ rfl rfl (wx rfl rfl rfl (bfalse c53)) rfl (Sx_ rfl rfl (wx rfl rfl rfl (bfalse c53)) rfl QSn)) ?_
            refine Lc rfl ?_ LAn
            refine Lx (wx rfl rfl rfl (bfalse c53)) ?_
            refine DRn (l1 := [28, 29, 30, 31, 33]) (l2 := []) (lc := [32]) (by kernel_rfl) (by kernel_rfl) (by kernel_rfl) ?_
            refine Rx rfl rfl (wx rfl rfl rfl (bfalse c53)) ?_
            refine Ry rfl rfl wn (ypf (v := .bool r26) (et rfl rfl) (bfalse c53) (eqv hr15 rfl)) ?_
            refine Ry rfl rfl wn (ym (v := .bool r26) (et rfl rfl)) ?_
            refine Rx rfl rfl (wx rfl rfl rfl (bfalse c54)) ?_
            refine Rx rfl rfl (wx rfl rfl rfl (bfalse c54)) ?_
            refine Rn QSn ?_
            refine Lc rfl ?_ LAn
            refine Lx (wx rfl rfl rfl (bfalse c54)) ?_
            refine DRn (l1 := []) (l2 := [33]) (lc := [34]) (by kernel_rfl) (by kernel_rfl) (by kernel_rfl) ?_
            refine Rn (Sx_ rfl rfl (wx rfl rfl rfl (bfalse c54)) rfl QSn) ?_
            refine Lc rfl ?_ LAn
            refine Lx (wx rfl rfl rfl (bfalse c54)) ?_
            refine DRn (l1 := []) (l2 := []) (lc := [35]) (by kernel_rfl) (by kernel_rfl) (by kernel_rfl) ?_
            refine Rn QSn ?_
            refine Lc rfl ?_ LAn
            refine Lx (wx rfl rfl rfl (bfalse c54)) ?_
            refine DRn (l1 := [36, 37]) (l2 := []) (lc := [38]) (by kernel_rfl) (by kernel_rfl) (by kernel_rfl) ?_
            refine Ry rfl rfl wn (ypf (v := .bool r27) (et rfl rfl) (bfalse c54) (eqv hr16 rfl)) ?_
            refine Ry rfl rfl wn (ym (v := .bool r27) (et rfl rfl)) ?_
            refine Rn QSn ?_
            refine Lc rfl ?_ LAn
            refine Lx (wx rfl rfl rfl (bfalse c55)) ?_
            refine DRn (l1 := [39]) (l2 := []) (lc := [40]) (by kernel_rfl) (by kernel_rfl) (by kernel_rfl) ?_
            refine Ry rfl rfl wn (ypf (v := .bool r28) (et rfl rfl) (bfalse c55) (eqv hr17 rfl)) ?_
            refine Rn QSn ?_
            refine Lc rfl ?_ LAn
            refine Ly wn (ya (v := .bool r28) (et rfl rfl)) ?_
            refine DRz (l1 := []) (l2 := []) (by kernel_rfl) (by kernel_rfl) ?_
            refine Rn QSn ?_
            exact j1 _ _ ⟨rfl, ((hst.pk 3 [] rfl).facts (allT (allT (allT (allT allI)))))⟩
        · have hr18 := someI gr24
          have c56 : ¬ r24 = true := fun h => Bool.false_ne_true (hr18.trans h)
          rw [if_neg c56] at gr25
          have hr19 := someI gr25
          have c57 : ¬ r25 = true := fun h => Bool.false_ne_true (hr19.trans h)
          rw [if_neg c57] at gr26
          have hr20 := someI gr26
          have c58 : ¬ r26 = true := fun h => Bool.false_ne_true (hr20.trans h)
          rw [if_neg c58] at gr27
          have hr21 := someI gr27
          have c59 : ¬ r27 = true := fun h => Bool.false_ne_true (hr21.trans h)
          rw [if_neg c59] at gr28
          have hr22 := someI gr28
          refine wp_drawR [0, 1, 3, 7, 15, 31, 63, 127, 255, 255, 1023, 2047, 4095, 8191, 8191, 32767, 8191, 8191, 262143, 524287, 1048575, 2097151, 4194303, 4194303, 16777215, 4194303, 4194303, 134217727, 268435455, 536870911, 1073741823, 2147483647, 4294967295, 2147483647, 17179869183, 34359738367, 68719476735, 137438953471, 274877906943, 549755813887, 1099511627775] [1, 10, 15, 18, 19, 24, 27, 32, 34, 35, 38, 40] 12 folM (by kernel_rfl) (by kernel_rfl) (by kernel_rfl) ?_
          replace hst := hst.drew
          refine DRn (l1 := [0]) (l2 := []) (lc := [1]) (by kernel_rfl) (by kernel_rfl) (by kernel_rfl) ?_
          refine Ry rfl rfl wn (yLbs (us := [h11.v]) ST_27 (et rfl rfl) hst (mtR (mtR (mtR (mtR mhR)))) rfl rfl) ?_
          refine Rn QSn ?_
          refine Lc rfl ?_ LAn
          refine Lk wn (yCall FN_22 (a1 (et rfl rfl))) (graph_Check_ok (hM := gr22) (hst := hst) (q1 := (mtF mhF))) ?_
          clear hst
          rintro _ w ⟨rfl, hst⟩
          refine ⟨_, rfl, ?_⟩
          refine DRn (l1 := [2, 3, 4, 5, 6, 7, 8, 9]) (l2 := []) (lc := [10]) (by kernel_rfl) (by kernel_rfl) (by kernel_rfl) ?_
          refine Ry rfl rfl wn (yeql (et rfl rfl) rfl) ?_
          refine Ry rfl rfl wn (ym (v := .bool (decide (r22 = 0))) (et rfl rfl)) ?_
          refine Ry rfl rfl (wg rfl rfl rfl (decide_eq_true c30)) (ym (v := .int .i64 r15.2) (et rfl rfl)) ?_
          refine Ry rfl rfl (wg rfl rfl rfl (decide_eq_true c30)) (yeql (et rfl rfl) rfl) ?_
          refine Ry rfl rfl wn (ypt (v := .bool r23) (et rfl rfl) (decide_eq_true c30) (eqv hr2 (et rfl rfl))) ?_
          refine Ry rfl rfl wn (ym (v := .bool r23) (et rfl rfl)) ?_
          refine Rx rfl rfl (wx rfl rfl rfl (bfalse c31)) ?_
          refine Rx rfl rfl (wx rfl rfl rfl (bfalse c31)) ?_
          refine Rn QSn ?_
          refine Lc rfl ?_ LAn
          refine Lx (wx rfl rfl rfl (bfalse c31)) ?_
          refine DRn (l1 := [11, 12, 13, 14, 16, 17]) (l2 := []) (lc := [15]) (by kernel_rfl) (by kernel_rfl) (by kernel_rfl) ?_
          refine Ry rfl rfl wn (ypf (v := .bool r24) (et rfl rfl) (bfalse c31) (eqv hr18 rfl)) ?_
          refine Ry rfl rfl wn (ym (v := .bool r24) (et rfl rfl)) ?_
          refine Rx rfl rfl (wx rfl rfl rfl (bfalse c56)) ?_
          refine Rx rfl rfl (wx rfl rfl rfl (bfalse c56)) ?_
          refine Rx rfl rfl (wx rfl rfl rfl (bfalse c56)) ?_
          refine Rx rfl rfl (wx rfl rfl rfl (bfalse c56)) ?_
          refine Rn QSn ?_
          refine Lc rfl ?_ LAn
          refine Lx (wx rfl rfl rfl (bfalse c56)) ?_
          refine DRn (l1 := []) (l2 := [16, 17]) (lc := [18]) (by kernel_rfl) (by kernel_rfl) (by kernel_rfl) ?_
          refine Rn (Sx_ rfl rfl (wx rfl rfl rfl (bfalse c56)) rfl (Sx_ rfl rfl (wx rfl rfl rfl (bfalse c56)) rfl QSn)) ?_
          refine Lc rfl ?_ LAn
          refine Lx (wx rfl rfl rfl (bfalse c56)) ?_
          refine DRn (l1 := []) (l2 := []) (lc := [19]) (by kernel_rfl) (by kernel_rfl) (by kernel_rfl) ?_
          refine Rn QSn ?_
          refine Lc rfl ?_ LAn
          refine Lx (wx rfl rfl rfl (bfalse c56)) ?_
          refine DRn (l1 := [20, 21, 22, 23, 25, 26]) (l2 := []) (lc := [24]) (by kernel_rfl) (by kernel_rfl) (by kernel_rfl) ?_
          refine Ry rfl rfl wn (ypf (v := .bool r25) (et rfl rfl) (bfalse c56) (eqv hr19 rfl)) ?_
          refine Ry rfl rfl wn (ym (v := .bool r25) (et rfl rfl)) ?_
          refine Rx rfl rfl (wx rfl rfl rfl (bfalse c57)) ?_
          refine Rx rfl rfl (wx rfl rfl rfl (bfalse c57)) ?_
          refine Rx rfl rfl (wx rfl rfl rfl (bfalse c57)) ?_
          refine Rx rfl rfl (wx rfl rfl rfl (bfalse c57)) ?_
          refine Rn QSn ?_
          refine Lc rfl ?_ LAn
          refine Lx (wx rfl rfl rfl (bfalse c57)) ?_
          refine DRn (l1 := []) (l2 := [25, 26]) (lc := [27]) (by kernel_rfl) (by kernel_rfl) (by kernel_rfl) ?_
          refine Rn (Sx_ rfl rfl (wx rfl rfl rfl (bfalse c57)) rfl (Sx_ rfl rfl (wx rfl rfl rfl (bfalse c57)) rfl QSn)) ?_
          refine Lc rfl ?_ LAn
          refine Lx (wx rfl rfl rfl (bfalse c57)) ?_
          refine DRn (l1 := [28, 29, 30, 31, 33]) (l2 := []) (lc := [32]) (by kernel_rfl) (by kernel_rfl) (by kernel_rfl) ?_
          refine Rx rfl rfl (wx rfl rfl rfl (bfalse c57)) ?_
          refine Ry rfl rfl wn (ypf (v := .bool r26) (et rfl rfl) (bfalse c57) (eqv hr20 rfl)) ?_
          refine Ry rfl rfl wn (ym (v := .bool r26) (et rfl rfl)) ?_
          refine Rx rfl rfl (wx rfl rfl rfl (bfalse c58)) ?_
          refine Rx rfl rfl (wx rfl rfl rfl (bfalse c58)) ?_
          refine Rn QSn ?_
          refine Lc rfl ?_ LAn
          refine Lx (wx rfl rfl rfl (bfalse c58)) ?_
          refine DRn (l1 := []) (l2 := [33]) (lc := [34]) (by kernel_rfl) (by kernel_rfl) (by kernel_rfl) ?_
          refine Rn (Sx_ rfl rfl (wx rfl rfl rfl (bfalse c58)) rfl QSn) ?_
          refine Lc rfl ?_ LAn
          refine Lx (wx rfl rfl rfl (bfalse c58)) ?_
          refine DRn (l1 := []) (l2 := []) (lc := [35]) (by kernel_rfl) (by kernel_rfl) (by kernel_rfl) ?_
          refine Rn QSn ?_
          refine Lc rfl ?_ LAn
          refine Lx (wx rfl rfl rfl (bfalse c58)) ?_
          refine DRn (l1 := [36, 37]) (l2 := []) (lc := [38]) (by kernel_rfl) (by kernel_rfl) (by kernel_rfl) ?_
          refine Ry rfl rfl wn (ypf (v := .bool r27) (et rfl rfl) (bfalse c58) (eqv hr21 rfl)) ?_
          refine Ry rfl rfl wn (ym (v := .bool r27) (et rfl rfl)) ?_
          refine Rn QSn ?_
          refine Lc rfl ?_ LAn
          refine Lx (wx rfl rfl rfl (bfalse c59)) ?_
          refine DRn (l1 := [39]) (l2 := []) (lc := [40]) (by kernel_rfl) (by kernel_rfl) (by kernel_rfl) ?_
          refine Ry rfl rfl wn (ypf (v := .bool r28) (et rfl rfl) (bfalse c59) (eqv hr22 rfl)) ?_
          refine Rn QSn ?_
          refine Lc rfl ?_ LAn
          refine Ly wn (ya (v := .bool r28) (et rfl rfl)) ?_
          refine DRz (l1 := []) (l2 := []) (by kernel_rfl) (by kernel_rfl) ?_
          refine Rn QSn ?_
          exact j1 _ _ ⟨rfl, ((hst.pk 5 [] rfl).facts (allT (allT allI)))⟩
      · have hr23 := someI gr23
        have c60 : ¬ r23 = true := fun h => Bool.false_ne_true (hr23.trans h)
        rw [if_neg c60] at gr24
        have hr24 := someI gr24
        have c61 : ¬ r24 = true := fun h => Bool.false_ne_true (hr24.trans h)
        rw [if_neg c61] at gr25
        have hr25 := someI gr25
        have c62 : ¬ r25 = true := fun h => Bool.false_ne_true (hr25.trans h)
        rw [if_neg c62] at gr26
        have hr26 := someI gr26
        have c63 : ¬ r26 = true := fun h => Bool.false_ne_true (hr26.trans h)
        rw [if_neg c63] at gr27
        have hr27 := someI gr27
        have c64 : ¬ r27 = true := fun h => Bool.false_ne_true (hr27.trans h)
        rw [if_neg c64] at gr28
        have hr28 := someI gr28
        refine wp_drawR [0, 1, 3, 7, 15, 31, 63, 127, 255, 255, 1023, 2047, 4095, 8191, 8191, 32767, 8191, 8191, 262143, 524287, 1048575, 2097151, 4194303, 4194303, 16777215, 4194303, 4194303, 134217727, 268435455, 536870911, 1073741823, 2147483647, 4294967295, 2147483647, 17179869183, 34359738367, 68719476735, 137438953471, 274877906943, 549755813887, 1099511627775] [1, 10, 15, 18, 19, 24, 27, 32, 34, 35, 38, 40] 12 folM (by kernel_rfl) (by kernel_rfl) (by kernel_rfl) ?_
        replace hst := hst.drew
        refine DRn (l1 := [0]) (l2 := []) (lc := [1]) (by kernel_rfl) (by kernel_rfl) (by kernel_rfl) ?_
        refine Ry rfl rfl wn (yLbs (us := [h11.v]) ST_27 (et rfl rfl) hst (mtR (mtR (mtR (mtR mhR)))) rfl rfl) ?_
        refine Rn QSn ?_
        refine Lc rfl ?_ LAn
        refine Lk wn (yCall FN_22 (a1 (et rfl rfl))) (graph_Check_ok (hM := gr22) (hst := hst) (q1 := (mtF mhF))) ?_
        clear hst
        rintro _ w ⟨rfl, hst⟩
        refine ⟨_, rfl, ?_⟩
        refine DRn (l1 := [2, 3, 4, 5, 6, 7, 8, 9]) (l2 := []) (lc := [10]) (by kernel_rfl) (by kernel_rfl) (by kernel_rfl) ?_
        refine Ry rfl rfl wn (yeql (et rfl rfl) rfl) ?_
        refine Ry rfl rfl wn (ym (v := .bool (decide (r22 = 0))) (et rfl rfl)) ?_
        refine Rx rfl rfl (wx rfl rfl rfl (decide_eq_false c30)) ?_
        refine Rx rfl rfl (wx rfl rfl rfl (decide_eq_false c30)) ?_
        refine Ry rfl rfl wn (ypf (v := .bool r23) (et rfl rfl) (decide_eq_false c30) (eqv hr23 rfl)) ?_
        refine Ry rfl rfl wn (ym (v := .bool r23) (et rfl rfl)) ?_
        refine Rx rfl rfl (wx rfl rfl rfl (bfalse c60)) ?_
        refine Rx rfl rfl (wx rfl rfl rfl (bfalse c60)) ?_
        refine Rn QSn ?_
        refine Lc rfl ?_ LAn
        refine Lx (wx rfl rfl rfl (bfalse c60)) ?_
        refine DRn (l1 := [11, 12, 13, 14, 16, 17]) (l2 := []) (lc := [15]) (by kernel_rfl) (by kernel_rfl) (by kernel_rfl) ?_
        refine Ry rfl rfl wn (ypf (v := .bool r24) (et rfl rfl) (bfalse c60) (eqv hr24 rfl)) ?_
        refine Ry rfl rfl wn (ym (v := .bool r24) (et rfl rfl)) ?_
        refine Rx rfl rfl (wx rfl rfl rfl (bfalse c61)) ?_
        refine Rx rfl rfl (wx rfl rfl rfl (bfalse c61)) ?_
        refine Rx rfl rfl (wx rfl rfl rfl (bfalse c61)) ?_
        refine Rx rfl rfl (wx rfl rfl rfl (bfalse c61)) ?_
        refine Rn QSn ?_
        refine Lc rfl ?_ LAn
        refine Lx (wx rfl rfl rfl (bfalse c61)) ?_
        refine DRn (l1 := []) (l2 := [16, 17]) (lc := [18]) (by kernel_rfl) (by kernel_rfl) (by kernel_rfl) ?_
        refine Rn (Sx_ rfl rfl (wx rfl rfl rfl (bfalse c61)) rfl (Sx_ rfl rfl (wx rfl rfl rfl (bfalse c61)) rfl QSn)) ?_
        refine Lc rfl ?_ LAn
        refine Lx (wx rfl rfl rfl (bfalse c61)) ?_
        refine DRn (l1 := []) (l2 := []) (lc := [19]) (by kernel_rfl) (by kernel_rfl) (by kernel_rfl) ?_
        refine Rn QSn ?_
        refine Lc rfl ?_ LAn
        refine Lx (wx rfl rfl rfl (bfalse c61)) ?_
        refine DRn (l1 := [20, 21, 22, 23, 25, 26]) (l2 := []) (lc := [24]) (by kernel_rfl) (by kernel_rfl) (by kernel_rfl) ?_
        refine Ry rfl rfl wn (ypf (v := .bool r25) (et rfl rfl) (bfalse c61) (eqv hr25 rfl)) ?_
        refine Ry rfl rfl wn (ym (v := .bool r25) (et rfl rfl)) ?_
        refine Rx rfl rfl (wx rfl rfl rfl (bfalse c62)) ?_
        refine Rx rfl rfl (wx rfl rfl rfl (bfalse c62)) ?_
        refine Rx rfl rfl (wx rfl rfl rfl (bfalse c62)) ?_
        refine Rx rfl rfl (wx rfl rfl rfl (bfalse c62)) ?_
        refine Rn QSn ?_
        refine Lc rfl ?_ LAn
        refine Lx (wx rfl rfl rfl (bfalse c62)) ?_
        refine DRn (l1 := []) (l2 := [25, 26]) (lc := [27]) (by kernel_rfl) (by kernel_rfl) (by kernel_rfl) ?_
        refine Rn (Sx_ rfl rfl (wx rfl rfl rfl (bfalse c62)) rfl (Sx_ rfl rfl (wx rfl rfl rfl (bfalse c62)) rfl QSn)) ?_
        refine Lc rfl ?_ LAn
        refine Lx (wx rfl rfl rfl (bfalse c62)) ?_
        refine DRn (l1 := [28, 29, 30, 31, 33]) (l2 := []) (lc := [32]) (by kernel_rfl) (by kernel_rfl) (by kernel_rfl) ?_
        refine Rx rfl rfl (wx rfl rfl rfl (bfalse c62)) ?_
        refine Ry rfl rfl wn (ypf (v := .bool r26) (et rfl rfl) (bfalse c62) (eqv hr26 rfl)) ?_
        refine Ry rfl rfl wn (ym (v := .bool r26) (et rfl rfl)) ?_
        refine Rx rfl rfl (wx rfl rfl rfl (bfalse c63)) ?_
        refine Rx rfl rfl (wx rfl rfl rfl (bfalse c63)) ?_
        refine Rn QSn ?_
        refine Lc rfl ?_ LAn
        refine Lx (wx rfl rfl rfl (bfalse c63)) ?_
        refine DRn (l1 := []) (l2 := [33]) (lc := [34]) (by kernel_rfl) (by kernel_rfl) (by kernel_rfl) ?_
        refine Rn (Sx_ rfl rfl (wx rfl rfl rfl (bfalse c63)) rfl QSn) ?_
        refine Lc rfl ?_ LAn
        refine Lx (wx rfl rfl rfl (bfalse c63)) ?_
        refine DRn (l1 := []) (l2 := []) (lc := [35]) (by kernel_rfl) (by kernel_rfl) (by kernel_rfl) ?_
        refine Rn QSn ?_
        refine Lc rfl ?_ LAn
        refine Lx (wx rfl rfl rfl (bfalse c63)) ?_
        refine DRn (l1 := [36, 37]) (l2 := []) (lc := [38]) (by kernel_rfl) (by kernel_rfl) (by kernel_rfl) ?_
        refine Ry rfl rfl wn (ypf (v := .bool r27) (et rfl rfl) (bfalse c63) (eqv hr27 rfl)) ?_
        refine Ry rfl rfl wn (ym (v := .bool r27) (et rfl rfl)) ?_
        refine Rn QSn ?_
        refine Lc rfl ?_ LAn
        refine Lx (wx rfl rfl rfl (bfalse c64)) ?_
        refine DRn (l1 := [39]) (l2 := []) (lc := [40]) (by kernel_rfl) (by kernel_rfl) (by kernel_rfl) ?_
        refine Ry rfl rfl wn (ypf (v := .bool r28) (et rfl rfl) (bfalse c64) (eqv hr28 rfl)) ?_
        refine Rn QSn ?_
        refine Lc rfl ?_ LAn
        refine Ly wn (ya (v := .bool r28) (et rfl rfl)) ?_
        refine DRz (l1 := []) (l2 := []) (by kernel_rfl) (by kernel_rfl) ?_
        refine Rn QSn ?_
        exact j1 _ _ ⟨rfl, ((hst.pk 5 [] rfl).facts (allT (allT allI)))⟩
    clear hst
    rintro f w ⟨e29_8, hst⟩
    refine k11 _ _ ?_
    refine wp_ret ?_
    obtain rfl := someI hM
    exact hQ _ _ _ (fin1r Try.results6 ⟨rfl, e29_8⟩ ⟨rfl, hst⟩)

theorem sparselaw12_small_ok {w0 : World} {ros : List Fact} {rs : List Res} {w : World} {x1 : List (List Int)} {h2 : Hdr} {out : Bool} (hM : sparselaw12_small x1 = some out) (q1 : imm (rS (rI .i64)) h2.v x1 ∈ ros) (hst : St w0 ros (rs) w) :
    Calls Try.prog 27 #[.agg #[h2.v]] w (fun e w => e = .returned (.bool out) ∧ St w0 (ros) (rs) w) := by
  refine enterQ Try.func27 rfl Try.ntmps27 rfl fun Q hQ => ?_
  refine seqQ fun Q1 k1 z1 => ?_
  refine wp_region_lit ?_
  refine YB wn rfl (r_box (vals := [h2.v]) hst (et rfl rfl) rfl) ?_
  clear hst
  intro b3 w hst
  refine Y wn rfl (ya (v := .bool false) rfl) ?_
  refine wpList_nil ?_
  refine k1 _ _ ?_
  refine seqQ fun Q2 k2 z2 => ?_
  refine seqQ fun Q3 k3 z3 => ?_
  refine wp_region_lit ?_
  refine Y wn rfl (yFb FL_27_0 (et rfl rfl)) ?_
  refine Y wn rfl (yLb (u := h2.v) O_25 (et rfl rfl) hst mhR rfl) ?_
  refine Y wn rfl (yLen SL_25 (et rfl rfl) hst (rdI q1)) ?_
  refine Y wn rfl (ygtr (et rfl rfl) rfl) ?_
  refine Y wn rfl (ym (v := .bool (decide ((12 : Int) < (x1.length : Int)))) (et rfl rfl)) ?_
  refine joinW 5 (fun f w => f 1 = .pointer (some ⟨b3, 0, none⟩) ∧ f 13 = .bool ((decide ((12 : Int) < (x1.length : Int))) && (decide ((x1.length : Int) ≤ 200))) ∧ St w0 (ros) (box b3 27 [h2.v] :: rs) w) (fun j1 => ?_) ?_
  · rcases Bool.eq_false_or_eq_true (decide ((12 : Int) < (x1.length : Int))) with c5 | c5
    · refine Y (wg rfl rfl rfl c5) rfl (yFb FL_27_0 (et rfl rfl)) ?_
      refine Y (wg rfl rfl rfl c5) rfl (yLb (u := h2.v) O_25 (et rfl rfl) hst mhR rfl) ?_
      refine Y (wg rfl rfl rfl c5) rfl (yLen SL_25 (et rfl rfl) hst (rdI q1)) ?_
      refine Y (wg rfl rfl rfl c5) rfl (yleq (et rfl rfl) rfl) ?_
      refine Y wn rfl (ypt (v := .bool (decide ((x1.length : Int) ≤ 200))) (et rfl rfl) c5 (et rfl rfl)) ?_
      exact j1 _ _ ⟨rfl, (congrArg Value.bool (andT c5)), hst⟩
    · refine Gn (wx rfl rfl rfl c5) rfl ?_
      refine Gn (wx rfl rfl rfl c5) rfl ?_
      refine Gn (wx rfl rfl rfl c5) rfl ?_
      refine Gn (wx rfl rfl rfl c5) rfl ?_
      refine Y wn rfl (ypf (v := .bool false) (et rfl rfl) c5 rfl) ?_
      exact j1 _ _ ⟨rfl, (congrArg Value.bool (andF c5)), hst⟩
  clear hst
  rintro f w ⟨e4_1, e4_13, hst⟩
  refine Y wn rfl (ym (v := .bool ((decide ((12 : Int) < (x1.length : Int))) && (decide ((x1.length : Int) ≤ 200)))) (et rfl e4_13)) ?_
  refine joinW 5 (fun f w => f 1 = .pointer (some ⟨b3, 0, none⟩) ∧ f 19 = .bool (((decide ((12 : Int) < (x1.length : Int))) && (decide ((x1.length : Int) ≤ 200))) || (decide ((400 : Int) < (x1.length : Int)))) ∧ St w0 (ros) (box b3 27 [h2.v] :: rs) w) (fun j2 => ?_) ?_
  · rcases Bool.eq_false_or_eq_true (((decide ((12 : Int) < (x1.length : Int))) && (decide ((x1.length : Int) ≤ 200)))) with c7 | c7
    · refine Gn (wx rfl rfl rfl c7) rfl ?_
      refine Gn (wx rfl rfl rfl c7) rfl ?_
      refine Gn (wx rfl rfl rfl c7) rfl ?_
      refine Gn (wx rfl rfl rfl c7) rfl ?_
      refine Y wn rfl (ypt (v := .bool true) (et rfl rfl) c7 rfl) ?_
      exact j2 _ _ ⟨e4_1, (congrArg Value.bool (orT c7)), hst⟩
    · refine Y (wg rfl rfl rfl c7) rfl (yFb FL_27_0 (et rfl e4_1)) ?_
      refine Y (wg rfl rfl rfl c7) rfl (yLb (u := h2.v) O_25 (et rfl rfl) hst mhR rfl) ?_
      refine Y (wg rfl rfl rfl c7) rfl (yLen SL_25 (et rfl rfl) hst (rdI q1)) ?_
      refine Y (wg rfl rfl rfl c7) rfl (ygtr (et rfl rfl) rfl) ?_
      refine Y wn rfl (ypf (v := .bool (decide ((400 : Int) < (x1.length : Int)))) (et rfl rfl) c7 (et rfl rfl)) ?_
      exact j2 _ _ ⟨e4_1, (congrArg Value.bool (orF c7)), hst⟩
  clear hst
  rintro f w ⟨e6_1, e6_19, hst⟩
  refine wpList_nil ?_
  refine k3 _ _ ?_
  rcases iteS hM with ⟨c8, hM⟩ | ⟨c8, hM⟩
  · refine condT (et rfl e6_19) c8 ?_
    refine seqQ fun Q4 k4 z4 => ?_
    refine wp_region_lit ?_
    refine Y wn rfl (ya (v := .bool false) rfl) ?_
    refine wpList_nil ?_
    refine k4 _ _ ?_
    refine wp_ret ?_
    refine z2 _ _ _ rfl ?_
    obtain rfl := someI hM
    exact hQ _ _ _ (fin1r Try.results27 ⟨rfl, rfl⟩ ⟨rfl, (hst.pk 1 [] rfl)⟩)
  · refine condF (et rfl e6_19) (bfalse c8) ?_
    refine wp_skip ?_
    refine k2 _ _ ?_
    refine seqQ fun Q5 k5 z5 => ?_
    refine seqQ fun Q6 k6 z6 => ?_
    refine wp_region_lit ?_
    refine Y wn rfl (ya (v := .int .i64 0) rfl) ?_
    refine wpList_nil ?_
    refine k6 _ _ ?_
    refine blockQ fun Q7 qb7 => ?_
    obtain ⟨o3, go3, hM⟩ := bs hM
    have je3_0 : ∀ (f : Nat → Value) (w : World), St w0 (ros) (rs) w → .inl () = o3 → Q7 (.exit 0) (fr 34 f) w := by
      intro f w hst ho
      subst ho
      refine qb7 _ _ _ ?_
      refine k5 _ _ ?_
      refine seqQ fun Q20 k20 z20 => ?_
      refine wp_region_lit ?_
      refine Y wn rfl (ya (v := .bool true) rfl) ?_
      refine wpList_nil ?_
      refine k20 _ _ ?_
      refine wp_ret ?_
      obtain rfl := someI hM
      exact hQ _ _ _ (fin1r Try.results27 ⟨rfl, rfl⟩ ⟨rfl, hst⟩)
    have je3_1 : ∀ (f : Nat → Value) (w : World), f 2 = .bool false → St w0 (ros) (rs) w → .inr () = o3 → Q7 .ret (fr 34 f) w := by
      intro f w eje3_1_2 hst ho
      subst ho
      refine qb7 _ _ _ ?_
      refine z5 _ _ _ rfl ?_
      obtain rfl := someI hM
      exact hQ _ _ _ (fin1r Try.results27 ⟨rfl, eje3_1_2⟩ ⟨rfl, hst⟩)
    refine loopQ (fun s a w => ∃ (x13 : Int) (f : Nat → Value), x13 = s ∧ a = fr 34 f ∧ f 1 = .pointer (some ⟨b3, 0, none⟩) ∧ f 3 = .int .i64 x13 ∧ St w0 (ros) (box b3 27 [h2.v] :: rs) w) go3 ⟨_, _, rfl, rfl, e6_1, rfl, hst⟩ ?_
    clear hst
    rintro _ _ w r3_ ⟨x13, f, rfl, rfl, e3_1, e3_3, hst⟩ hM3 ho3 Q100003 n3 zz3
    refine seqQ fun Q21 k21 z21 => ?_
    refine seqQ fun Q22 k22 z22 => ?_
    refine wp_region_lit ?_
    refine Y wn rfl (ym (v := .int .i64 x13) (et rfl e3_3)) ?_
    refine Y wn rfl (yFb FL_27_0 (et rfl e3_1)) ?_
    refine Y wn rfl (yLb (u := h2.v) O_25 (et rfl rfl) hst mhR rfl) ?_
    refine Y wn rfl (yLen SL_25 (et rfl rfl) hst (rdI q1)) ?_
    refine Y wn rfl (ylss (et rfl rfl) (et rfl rfl)) ?_
    refine wpList_nil ?_
    refine k22 _ _ ?_
    rcases iteS hM3 with ⟨c19, hM3⟩ | ⟨c19, hM3⟩
    · refine condT (et rfl rfl) (decide_eq_true c19) ?_
      refine wp_skip ?_
      refine k21 _ _ ?_
      refine seqQ fun Q23 k23 z23 => ?_
      refine blockQ fun Q24 qb24 => ?_
      refine seqQ fun Q25 k25 z25 => ?_
      refine wp_region_lit ?_
      refine Y wn rfl (yFb FL_27_0 (et rfl e3_1)) ?_
      refine Y wn rfl (yLb (u := h2.v) O_25 (et rfl rfl) hst mhR rfl) ?_
      refine Y wn rfl (ym (v := .int .i64 x13) (et rfl e3_3)) ?_
      obtain ⟨x20, gx20, hM3⟩ := bs hM3
      refine Y wn rfl (yIa SL_25 (et rfl rfl) (et rfl rfl) hst (rdI q1) gx20) ?_
      obtain ⟨h21, hst⟩ := iLs hst q1 gx20
      refine Y wn rfl (yCt O_22 (et rfl rfl) hst (mtF mhF) rfl) ?_
      refine Y wn rfl (yLen SL_22 (et rfl rfl) hst (rdI mhF)) ?_
      refine Y wn rfl (ygtr (et rfl rfl) rfl) ?_
      refine wpList_nil ?_
      refine k25 _ _ ?_
      rcases iteS hM3 with ⟨c22, hM3⟩ | ⟨c22, hM3⟩
      · refine condT (et rfl rfl) (decide_eq_true c22) ?_
        refine seqQ fun Q26 k26 z26 => ?_
        refine wp_region_lit ?_
        refine Y wn rfl (ya (v := .bool false) rfl) ?_
        refine wpList_nil ?_
        refine k26 _ _ ?_
        refine wp_ret ?_
        refine qb24 _ _ _ ?_
        refine z23 _ _ _ rfl ?_
        obtain rfl := someI hM3
        refine zz3 _ _ _ _ rfl rfl ?_
        exact je3_1 _ _ rfl ((hst.pk 1 [] rfl).facts (allT (allT allI))) (ho3 _ rfl)
      · refine condF (et rfl rfl) (decide_eq_false c22) ?_
        refine wp_skip ?_
        refine qb24 _ _ _ ?_
        refine k23 _ _ ?_
        refine wp_region_lit ?_
        refine Y wn rfl (ym (v := .int .i64 x13) (et rfl e3_3)) ?_
        refine Y wn rfl (yadd (et rfl rfl) rfl) ?_
        refine Y wn rfl (ya (v := .int .i64 (wa .i64 x13 1)) (et rfl rfl)) ?_
        refine wpList_nil ?_
        obtain rfl := someI hM3
        exact n3 _ _ _ rfl ⟨_, _, rfl, rfl, e3_1, rfl, (hst.facts (allT (allT allI)))⟩
    · refine condF (et rfl rfl) (decide_eq_false c19) ?_
      refine wp_exit ?_
      refine z21 _ _ _ rfl ?_
      obtain rfl := someI hM3
      refine zz3 _ _ _ _ rfl rfl ?_
      exact je3_0 _ _ (hst.pk 1 [] rfl) (ho3 _ rfl)

theorem sparsekit_TwinInts_ok {w0 : World} {ros : List Fact} {rs : List Res} {w : World} {x1 : List Int} {h2 : Hdr} {out : (List Int)} (hM : sparsekit_TwinInts x1 = some out) (q1 : imm (rI .i64) h2.v x1 ∈ ros) (hst : St w0 ros (rs) w) :
    Calls Try.prog 66 #[h2.v] w (fun e w => ∃ (h100001 : Hdr), e = .returned (h100001.v) ∧ St w0 (ros) (row 3 (rI .i64) h100001.v out :: rs) w) := by
  refine enterQ Try.func66 rfl Try.ntmps66 rfl fun Q hQ => ?_
  refine seqQ fun Q1 k1 z1 => ?_
  refine wp_region_lit ?_
  refine Y wn rfl (ya (v := hnil.v) rfl) ?_
  refine wpList_nil ?_
  refine k1 _ _ ?_
  refine seqQ fun Q2 k2 z2 => ?_
  refine wp_region_lit ?_
  refine Y wn rfl (ya (v := hnil.v) rfl) ?_
  refine wpList_nil ?_
  refine k2 _ _ ?_
  refine seqQ fun Q3 k3 z3 => ?_
  refine seqQ fun Q4 k4 z4 => ?_
  refine wp_region_lit ?_
  refine Y wn rfl (ya (v := .int .i64 0) rfl) ?_
  refine wpList_nil ?_
  refine k4 _ _ ?_
  refine blockQ fun Q5 qb5 => ?_
  obtain ⟨o1, go1, hM⟩ := bs hM
  have je1_0 : ∀ (x20 : List Int) (h19 : Hdr) (f : Nat → Value) (w : World), f 3 = h19.v → St w0 (ros) (row 3 (rI .i64) h19.v x20 :: rs) w → x20 = o1 → Q5 (.exit 0) (fr 19 f) w := by
    intro x20 h19 f w eje1_0_3 hst ho
    subst ho
    refine qb5 _ _ _ ?_
    refine k3 _ _ ?_
    refine seqQ fun Q14 k14 z14 => ?_
    refine wp_region_lit ?_
    refine Y wn rfl (ym (v := h19.v) (et rfl eje1_0_3)) ?_
    refine Y wn rfl (ya (v := h19.v) (et rfl rfl)) ?_
    refine wpList_nil ?_
    refine k14 _ _ ?_
    refine wp_ret ?_
    obtain rfl := someI hM
    exact hQ _ _ _ (fin1r Try.results66 ⟨rfl, rfl⟩ ⟨_, rfl, hst⟩)
  replace hst := hst.rowNh 3 (rI .i64)
  refine loopQ (fun s a w => ∃ (x9 : List Int) (x10 : Int) (f : Nat → Value) (h8 : Hdr), (x9, x10) = s ∧ a = fr 19 f ∧ f 0 = h2.v ∧ f 3 = h8.v ∧ f 4 = .int .i64 x10 ∧ St w0 (ros) (row 3 (rI .i64) h8.v x9 :: rs) w) go1 ⟨_, _, _, _, rfl, rfl, rfl, rfl, rfl, hst⟩ ?_
  clear hst
  rintro _ _ w r1_ ⟨x9, x10, f, h8, rfl, rfl, e1_0, e1_3, e1_4, hst⟩ hM1 ho1 Q100001 n1 zz1
  refine seqQ fun Q15 k15 z15 => ?_
  refine seqQ fun Q16 k16 z16 => ?_
  refine wp_region_lit ?_
  refine Y wn rfl (ym (v := .int .i64 x10) (et rfl e1_4)) ?_
  refine Y wn rfl (ym (v := h2.v) (et rfl e1_0)) ?_
  refine Y wn rfl (yLen SL_22 (et rfl rfl) hst (rdI q1)) ?_
  refine Y wn rfl (ylss (et rfl rfl) (et rfl rfl)) ?_
  refine wpList_nil ?_
  refine k16 _ _ ?_
  rcases iteS hM1 with ⟨c21, hM1⟩ | ⟨c21, hM1⟩
  · refine condT (et rfl rfl) (decide_eq_true c21) ?_
    refine wp_skip ?_
    refine k15 _ _ ?_
    refine seqQ fun Q17 k17 z17 => ?_
    refine blockQ fun Q18 qb18 => ?_
    refine wp_region_lit ?_
    refine Y wn rfl (ym (v := h8.v) (et rfl e1_3)) ?_
    refine Y wn rfl (ym (v := h2.v) (et rfl e1_0)) ?_
    refine Y wn rfl (ym (v := .int .i64 x10) (et rfl e1_4)) ?_
    obtain ⟨x22, gx22, hM1⟩ := bs hM1
    refine Y wn rfl (yIa SL_22 (et rfl rfl) (et rfl rfl) hst (rdI q1) gx22) ?_
    refine Y wn rfl (yI O_3 (et rfl rfl) hst (rdI q1) gx22) ?_
    refine YH wn rfl (rLt (n := 1) (l := [x22]) hst SL_22 [.int .i64 x22] (bp1 (et rfl rfl)) rfl rfl (mks1 (cs := [.int .i64 x22]) rfl mkI mks0)) ?_
    clear hst
    intro h23 w hst
    obtain ⟨x25, gx25, hM1⟩ := bs hM1
    replace hst := hst.pk 2 [1, 0] rfl
    refine YH wn rfl (rAp hst SL_22 (et rfl rfl) (et rfl rfl) (rdO (mtR mhR)) gx25) ?_
    clear hst
    intro h24 w hst
    refine Y wn rfl (ya (v := h24.v) (et rfl rfl)) ?_
    refine wpList_nil ?_
    refine qb18 _ _ _ ?_
    refine k17 _ _ ?_
    refine wp_region_lit ?_
    refine Y wn rfl (ym (v := .int .i64 x10) (et rfl e1_4)) ?_
    refine Y wn rfl (yadd (et rfl rfl) rfl) ?_
    refine Y wn rfl (ya (v := .int .i64 (wa .i64 x10 1)) (et rfl rfl)) ?_
    refine wpList_nil ?_
    obtain rfl := someI hM1
    exact n1 _ _ _ rfl ⟨_, _, _, _, rfl, rfl, e1_0, rfl, rfl, (hst.pk 2 [0] rfl)⟩
  · refine condF (et rfl rfl) (decide_eq_false c21) ?_
    refine wp_exit ?_
    refine z15 _ _ _ rfl ?_
    obtain rfl := someI hM1
    refine zz1 _ _ _ _ rfl rfl ?_
    exact je1_0 _ _ _ _ e1_3 hst (ho1 _ rfl)

theorem sparsekit_TwinLists_ok {w0 : World} {ros : List Fact} {rs : List Res} {w : World} {x1 : List (List Int)} {h2 : Hdr} {out : (List (List Int))} (hM : sparsekit_TwinLists x1 = some out) (q1 : imm (rS (rI .i64)) h2.v x1 ∈ ros) (hst : St w0 ros (rs) w) :
    Calls Try.prog 46 #[h2.v] w (fun e w => ∃ (h100001 : Hdr), e = .returned (h100001.v) ∧ St w0 (ros) (row 22 (rS (rI .i64)) h100001.v out :: rs) w) := by
  refine enterQ Try.func46 rfl Try.ntmps46 rfl fun Q hQ => ?_
  refine seqQ fun Q1 k1 z1 => ?_
  refine wp_region_lit ?_
  refine Y wn rfl (ya (v := hnil.v) rfl) ?_
  refine wpList_nil ?_
  refine k1 _ _ ?_
  refine seqQ fun Q2 k2 z2 => ?_
  refine wp_region_lit ?_
  refine Y wn rfl (ya (v := hnil.v) rfl) ?_
  refine wpList_nil ?_
  refine k2 _ _ ?_
  refine seqQ fun Q3 k3 z3 => ?_
  refine seqQ fun Q4 k4 z4 => ?_
  refine wp_region_lit ?_
  refine Y wn rfl (ya (v := .int .i64 0) rfl) ?_
  refine wpList_nil ?_
  refine k4 _ _ ?_
  refine blockQ fun Q5 qb5 => ?_
  obtain ⟨o1, go1, hM⟩ := bs hM
  have je1_0 : ∀ (x26 : List (List Int)) (h25 : Hdr) (f : Nat → Value) (w : World), f 3 = h25.v → St w0 (ros) (row 22 (rS (rI .i64)) h25.v x26 :: rs) w → x26 = o1 → Q5 (.exit 0) (fr 20 f) w := by
    intro x26 h25 f w eje1_0_3 hst ho
    subst ho
    refine qb5 _ _ _ ?_
    refine k3 _ _ ?_
    refine seqQ fun Q14 k14 z14 => ?_
    refine wp_region_lit ?_
    refine Y wn rfl (ym (v := h25.v) (et rfl eje1_0_3)) ?_
    refine Y wn rfl (ya (v := h25.v) (et rfl rfl)) ?_
    refine wpList_nil ?_
    refine k14 _ _ ?_
    refine wp_ret ?_
    obtain rfl := someI hM
    exact hQ _ _ _ (fin1r Try.results46 ⟨rfl, rfl⟩ ⟨_, rfl, hst⟩)
  replace hst := hst.rowNh 22 (rS (rI .i64))
  refine loopQ (fun s a w => ∃ (x12 : List (List Int)) (x13 : Int) (f : Nat → Value) (h11 : Hdr), (x12, x13) = s ∧ a = fr 20 f ∧ f 0 = h2.v ∧ f 3 = h11.v ∧ f 4 = .int .i64 x13 ∧ St w0 (ros) (row 22 (rS (rI .i64)) h11.v x12 :: rs) w) go1 ⟨_, _, _, _, rfl, rfl, rfl, rfl, rfl, hst⟩ ?_
  clear hst
  rintro _ _ w r1_ ⟨x12, x13, f, h11, rfl, rfl, e1_0, e1_3, e1_4, hst⟩ hM1 ho1 Q100001 n1 zz1
  refine seqQ fun Q15 k15 z15 => ?_
  refine seqQ fun Q16 k16 z16 => ?_
  refine wp_region_lit ?_
  refine Y wn rfl (ym (v := .int .i64 x13) (et rfl e1_4)) ?_
  refine Y wn rfl (ym (v := h2.v) (et rfl e1_0)) ?_
  refine Y wn rfl (yLen SL_25 (et rfl rfl) hst (rdI q1)) ?_
  refine Y wn rfl (ylss (et rfl rfl) (et rfl rfl)) ?_
  refine wpList_nil ?_
  refine k16 _ _ ?_
  rcases iteS hM1 with ⟨c27, hM1⟩ | ⟨c27, hM1⟩
  · refine condT (et rfl rfl) (decide_eq_true c27) ?_
    refine wp_skip ?_
    refine k15 _ _ ?_
    refine seqQ fun Q17 k17 z17 => ?_
    refine blockQ fun Q18 qb18 => ?_
    refine wp_region_lit ?_
    refine Y wn rfl (ym (v := h11.v) (et rfl e1_3)) ?_
    refine Y wn rfl (ym (v := h2.v) (et rfl e1_0)) ?_
    refine Y wn rfl (ym (v := .int .i64 x13) (et rfl e1_4)) ?_
    obtain ⟨x28, gx28, hM1⟩ := bs hM1
    refine Y wn rfl (yIa SL_25 (et rfl rfl) (et rfl rfl) hst (rdI q1) gx28) ?_
    obtain ⟨h29, hst⟩ := iLs hst q1 gx28
    refine Y wn rfl (yCt O_22 (et rfl rfl) hst (mtF mhF) rfl) ?_
    obtain ⟨r30, gr30, hM1⟩ := bs hM1
    refine Yc wn rfl (yCall FN_66 (a1 (et rfl rfl))) (sparsekit_TwinInts_ok (hM := gr30) (hst := hst) (q1 := mhF)) ?_
    clear hst
    rintro _ w ⟨h31, rfl, hst⟩
    refine ⟨_, rfl, ?_⟩
    replace hst := hst.fz
    refine YH wn rfl (rLt (n := 1) (l := [r30]) hst SL_25 [h31.v] (bp1 (et rfl rfl)) rfl rfl (mks1 (cs := [h31.v]) rfl (mkS mhF) mks0)) ?_
    clear hst
    intro h32 w hst
    obtain ⟨x34, gx34, hM1⟩ := bs hM1
    replace hst := hst.pk 2 [1, 0] rfl
    refine YH wn rfl (rAp hst SL_25 (et rfl rfl) (et rfl rfl) (rdO (mtR mhR)) gx34) ?_
    clear hst
    intro h33 w hst
    refine Y wn rfl (ya (v := h33.v) (et rfl rfl)) ?_
    refine wpList_nil ?_
    refine qb18 _ _ _ ?_
    refine k17 _ _ ?_
    refine wp_region_lit ?_
    refine Y wn rfl (ym (v := .int .i64 x13) (et rfl e1_4)) ?_
    refine Y wn rfl (yadd (et rfl rfl) rfl) ?_
    refine Y wn rfl (ya (v := .int .i64 (wa .i64 x13 1)) (et rfl rfl)) ?_
    refine wpList_nil ?_
    obtain rfl := someI hM1
    exact n1 _ _ _ rfl ⟨_, _, _, _, rfl, rfl, e1_0, rfl, rfl, ((hst.pk 2 [0] rfl).facts (allT (allT (allT allI))))⟩
  · refine condF (et rfl rfl) (decide_eq_false c27) ?_
    refine wp_exit ?_
    refine z15 _ _ _ rfl ?_
    obtain rfl := someI hM1
    refine zz1 _ _ _ _ rfl rfl ?_
    exact je1_0 _ _ _ _ e1_3 hst (ho1 _ rfl)

theorem sparsekit_TwinGraph_ok {w0 : World} {ros : List Fact} {rs : List Res} {w : World} {x1 : List (List Int)} {h2 : Hdr} {out : (List (List Int))} (hM : sparsekit_TwinGraph x1 = some out) (q1 : imm (rS (rI .i64)) h2.v x1 ∈ ros) (hst : St w0 ros (rs) w) :
    Calls Try.prog 28 #[.agg #[h2.v]] w (fun e w => ∃ (h100001 : Hdr), e = .returned (.agg #[h100001.v]) ∧ St w0 (ros) (row 22 (rS (rI .i64)) h100001.v out :: rs) w) := by
  refine enterQ Try.func28 rfl Try.ntmps28 rfl fun Q hQ => ?_
  refine seqQ fun Q1 k1 z1 => ?_
  refine wp_region_lit ?_
  refine YB wn rfl (r_box (vals := [h2.v]) hst (et rfl rfl) rfl) ?_
  clear hst
  intro b3 w hst
  refine YB wn rfl (rAl hst ZT_27) ?_
  clear hst
  intro b4 w hst
  refine wpList_nil ?_
  refine k1 _ _ ?_
  refine seqQ fun Q2 k2 z2 => ?_
  refine wp_region_lit ?_
  refine Y wn rfl (yFb FL_27_0 (et rfl rfl)) ?_
  refine Y wn rfl (yLb (u := h2.v) O_25 (et rfl rfl) hst (mtR mhR) rfl) ?_
  obtain ⟨r5, gr5, hM⟩ := bs hM
  refine Yc wn rfl (yCall FN_46 (a1 (et rfl rfl))) (sparsekit_TwinLists_ok (hM := gr5) (hst := hst) (q1 := q1)) ?_
  clear hst
  rintro _ w ⟨h6, rfl, hst⟩
  refine ⟨_, rfl, ?_⟩
  refine Y wn rfl (ybuild (us := [h6.v]) [(0, h6.v)] SO_27 (bp1 (et rfl rfl)) rfl) ?_
  replace hst := hst.pk 2 [1, 0] rfl
  refine YT wn rfl (r_stbn (vals' := [h6.v]) (us := [h6.v]) hst ST_27 (et rfl rfl) (et rfl rfl) rfl rfl (one_of rfl) rfl) ?_
  clear hst
  intro w hst
  refine wpList_nil ?_
  refine k2 _ _ ?_
  refine wp_ret ?_
  obtain rfl := someI hM
  exact hQ _ _ _ (fin1r Try.results28 (rcs2 rfl rfl hst mhR ST_27 rfl) ⟨_, rfl, (hst.pk 3 [1] rfl)⟩)

theorem graph_Induced_1_ok {w0 : World} {ros : List Fact} {rs : List Res} {w : World} {x1 : Int} {x3 : List (List Int)} {b2 : Nat} {h4 : Hdr} {out : Bool} (hM : graph_Induced_1 x1 x3 = some out) (q1 : imm (rS (rI .i64)) h4.v x3 ∈ ros) (hst : St w0 ros (box b2 27 [h4.v] :: rs) w) :
    Calls Try.prog 48 #[.int .i64 x1, .pointer (some ⟨b2, 0, none⟩)] w (fun e w => e = .returned (.bool out) ∧ St w0 (ros) (box b2 27 [h4.v] :: rs) w) := by
  refine enterQ Try.func48 rfl Try.ntmps48 rfl fun Q hQ => ?_
  refine seqQ fun Q1 k1 z1 => ?_
  refine wp_region_lit ?_
  refine Y wn rfl (ya (v := .bool false) rfl) ?_
  refine wpList_nil ?_
  refine k1 _ _ ?_
  refine seqQ fun Q2 k2 z2 => ?_
  refine wp_region_lit ?_
  refine Y wn rfl (yLbs (us := [h4.v]) ST_27 (et rfl rfl) hst mhR rfl rfl) ?_
  refine Y wn rfl (ym (v := .int .i64 x1) (et rfl rfl)) ?_
  obtain ⟨r5, gr5, hM⟩ := bs hM
  refine Yc wn rfl (yCall FN_37 (a2 (et rfl rfl) (et rfl rfl))) (graph_vertex_ok (hM := gr5) (hst := hst) (q1 := q1)) ?_
  clear hst
  rintro _ w ⟨rfl, hst⟩
  refine ⟨_, rfl, ?_⟩
  refine Y wn rfl (ynot (et rfl rfl)) ?_
  refine Y wn rfl (ya (v := .bool (!(r5))) (et rfl rfl)) ?_
  refine wpList_nil ?_
  refine k2 _ _ ?_
  refine wp_ret ?_
  obtain rfl := someI hM
  exact hQ _ _ _ (fin1r Try.results48 ⟨rfl, rfl⟩ ⟨rfl, hst⟩)

theorem slices_IndexFunc_int_v2_ok {w0 : World} {ros : List Fact} {rs : List Res} {w : World} {x1 : List Int} {x4 : List (List Int)} {h2 : Hdr} {b3 : Nat} {h5 : Hdr} {out : Int} (hM : slices_IndexFunc_int_v2 x1 x4 = some out) (q1 : imm (rI .i64) h2.v x1 ∈ ros) (q2 : imm (rS (rI .i64)) h5.v x4 ∈ ros) (hst : St w0 ros (box b3 27 [h5.v] :: rs) w) :
    Calls Try.prog 67 #[h2.v, .func (.func 48) #[] #[.pointer (some ⟨b3, 0, none⟩)]] w (fun e w => e = .returned (.int .i64 out) ∧ St w0 (ros) (box b3 27 [h5.v] :: rs) w) := by
  refine enterQ Try.func67 rfl Try.ntmps67 rfl fun Q hQ => ?_
  refine seqQ fun Q1 k1 z1 => ?_
  refine wp_region_lit ?_
  refine Y wn rfl (ya (v := .int .i64 0) rfl) ?_
  refine wpList_nil ?_
  refine k1 _ _ ?_
  refine seqQ fun Q2 k2 z2 => ?_
  refine seqQ fun Q3 k3 z3 => ?_
  refine wp_region_lit ?_
  refine Y wn rfl (ym (v := h2.v) (et rfl rfl)) ?_
  refine Y wn rfl (yLen SL_22 (et rfl rfl) hst (rdI q1)) ?_
  refine Y wn rfl (ym (v := .int .i64 0) rfl) ?_
  refine wpList_nil ?_
  refine k3 _ _ ?_
  refine blockQ fun Q4 qb4 => ?_
  obtain ⟨o1, go1, hM⟩ := bs hM
  have je1_0 : ∀ (f : Nat → Value) (w : World), St w0 (ros) (box b3 27 [h5.v] :: rs) w → .inl () = o1 → Q4 (.exit 0) (fr 19 f) w := by
    intro f w hst ho
    subst ho
    refine qb4 _ _ _ ?_
    refine k2 _ _ ?_
    refine seqQ fun Q19 k19 z19 => ?_
    refine wp_region_lit ?_
    refine Y wn rfl (ya (v := .int .i64 (-1)) rfl) ?_
    refine wpList_nil ?_
    refine k19 _ _ ?_
    refine wp_ret ?_
    obtain rfl := someI hM
    exact hQ _ _ _ (fin1r Try.results67 ⟨rfl, rfl⟩ ⟨rfl, hst⟩)
  have je1_1 : ∀ (x16 : Int) (f : Nat → Value) (w : World), f 4 = .int .i64 x16 → St w0 (ros) (box b3 27 [h5.v] :: rs) w → .inr x16 = o1 → Q4 .ret (fr 19 f) w := by
    intro x16 f w eje1_1_4 hst ho
    subst ho
    refine qb4 _ _ _ ?_
    refine z2 _ _ _ rfl ?_
    obtain rfl := someI hM
    exact hQ _ _ _ (fin1r Try.results67 ⟨rfl, eje1_1_4⟩ ⟨rfl, hst⟩)
  refine loopQ (fun s a w => ∃ (x10 : Int) (f : Nat → Value), x10 = s ∧ a = fr 19 f ∧ f 0 = h2.v ∧ f 1 = .func (.func 48) #[] #[.pointer (some ⟨b3, 0, none⟩)] ∧ f 7 = .int .i64 (x1.length : Int) ∧ f 8 = .int .i64 x10 ∧ St w0 (ros) (box b3 27 [h5.v] :: rs) w) go1 ⟨_, _, rfl, rfl, rfl, rfl, rfl, rfl, hst⟩ ?_
  clear hst
  rintro _ _ w r1_ ⟨x10, f, rfl, rfl, e1_0, e1_1, e1_7, e1_8, hst⟩ hM1 ho1 Q100001 n1 zz1
  refine seqQ fun Q20 k20 z20 => ?_
  refine wp_region_lit ?_
  refine Y wn rfl (ylss (et rfl e1_8) (et rfl e1_7)) ?_
  refine wpList_nil ?_
  refine k20 _ _ ?_
  refine seqQ fun Q21 k21 z21 => ?_
  rcases iteS hM1 with ⟨c17, hM1⟩ | ⟨c17, hM1⟩
  · refine condT (et rfl rfl) (decide_eq_true c17) ?_
    refine wp_skip ?_
    refine k21 _ _ ?_
    refine seqQ fun Q22 k22 z22 => ?_
    refine blockQ fun Q23 qb23 => ?_
    refine seqQ fun Q24 k24 z24 => ?_
    refine wp_region_lit ?_
    refine Y wn rfl (ym (v := .int .i64 x10) (et rfl e1_8)) ?_
    refine Y wn rfl (ya (v := .int .i64 x10) (et rfl rfl)) ?_
    refine wpList_nil ?_
    refine k24 _ _ ?_
    refine seqQ fun Q25 k25 z25 => ?_
    refine wp_region_lit ?_
    refine Y wn rfl (ym (v := .func (.func 48) #[] #[.pointer (some ⟨b3, 0, none⟩)]) (et rfl e1_1)) ?_
    refine Y wn rfl (ym (v := h2.v) (et rfl e1_0)) ?_
    refine Y wn rfl (ym (v := .int .i64 x10) (et rfl rfl)) ?_
    obtain ⟨x18, gx18, hM1⟩ := bs hM1
    refine Y wn rfl (yIa SL_22 (et rfl rfl) (et rfl rfl) hst (rdI q1) gx18) ?_
    refine Y wn rfl (yI O_3 (et rfl rfl) hst (rdI q1) gx18) ?_
    obtain ⟨r19, gr19, hM1⟩ := bs hM1
    refine Yc wn rfl (yCallw FN_48 (et rfl rfl) (a1 (et rfl rfl))) (graph_Induced_1_ok (hM := gr19) (hst := hst) (q1 := q2)) ?_
    clear hst
    rintro _ w ⟨rfl, hst⟩
    refine ⟨_, rfl, ?_⟩
    refine wpList_nil ?_
    refine k25 _ _ ?_
    rcases iteS hM1 with ⟨c20, hM1⟩ | ⟨c20, hM1⟩
    · refine condT (et rfl rfl) c20 ?_
      refine seqQ fun Q26 k26 z26 => ?_
      refine wp_region_lit ?_
      refine Y wn rfl (ym (v := .int .i64 x10) (et rfl rfl)) ?_
      refine Y wn rfl (ya (v := .int .i64 x10) (et rfl rfl)) ?_
      refine wpList_nil ?_
      refine k26 _ _ ?_
      refine wp_ret ?_
      refine qb23 _ _ _ ?_
      refine z22 _ _ _ rfl ?_
      obtain rfl := someI hM1
      refine zz1 _ _ _ _ rfl rfl ?_
      exact je1_1 _ _ _ rfl hst (ho1 _ rfl)
    · refine condF (et rfl rfl) (bfalse c20) ?_
      refine wp_skip ?_
      refine qb23 _ _ _ ?_
      refine k22 _ _ ?_
      refine wp_region_lit ?_
      refine Y wn rfl (yadd (et rfl e1_8) rfl) ?_
      refine Y wn rfl (ym (v := .int .i64 (wa .i64 x10 1)) (et rfl rfl)) ?_
      refine wpList_nil ?_
      obtain rfl := someI hM1
      exact n1 _ _ _ rfl ⟨_, _, rfl, rfl, e1_0, e1_1, e1_7, rfl, hst⟩
  · refine condF (et rfl rfl) (decide_eq_false c17) ?_
    refine wp_exit ?_
    refine z21 _ _ _ rfl ?_
    obtain rfl := someI hM1
    refine zz1 _ _ _ _ rfl rfl ?_
    exact je1_0 _ _ hst (ho1 _ rfl)

theorem slices_ContainsFunc_int_v2_ok {w0 : World} {ros : List Fact} {rs : List Res} {w : World} {x1 : List Int} {x4 : List (List Int)} {h2 : Hdr} {b3 : Nat} {h5 : Hdr} {out : Bool} (hM : slices_ContainsFunc_int_v2 x1 x4 = some out) (q1 : imm (rI .i64) h2.v x1 ∈ ros) (q2 : imm (rS (rI .i64)) h5.v x4 ∈ ros) (hst : St w0 ros (box b3 27 [h5.v] :: rs) w) :
    Calls Try.prog 47 #[h2.v, .func (.func 48) #[] #[.pointer (some ⟨b3, 0, none⟩)]] w (fun e w => e = .returned (.bool out) ∧ St w0 (ros) (box b3 27 [h5.v] :: rs) w) := by
  refine enterQ Try.func47 rfl Try.ntmps47 rfl fun Q hQ => ?_
  refine seqQ fun Q1 k1 z1 => ?_
  refine wp_region_lit ?_
  refine Y wn rfl (ya (v := .bool false) rfl) ?_
  refine wpList_nil ?_
  refine k1 _ _ ?_
  refine seqQ fun Q2 k2 z2 => ?_
  refine wp_region_lit ?_
  refine Y wn rfl (ym (v := h2.v) (et rfl rfl)) ?_
  refine Y wn rfl (ym (v := .func (.func 48) #[] #[.pointer (some ⟨b3, 0, none⟩)]) (et rfl rfl)) ?_
  obtain ⟨r6, gr6, hM⟩ := bs hM
  refine Yc wn rfl (yCall FN_67 (a2 (et rfl rfl) (et rfl rfl))) (slices_IndexFunc_int_v2_ok (hM := gr6) (hst := hst) (q1 := q1) (q2 := q2)) ?_
  clear hst
  rintro _ w ⟨rfl, hst⟩
  refine ⟨_, rfl, ?_⟩
  refine Y wn rfl (ygeq (et rfl rfl) rfl) ?_
  refine Y wn rfl (ya (v := .bool (decide ((0 : Int) ≤ r6))) (et rfl rfl)) ?_
  refine wpList_nil ?_
  refine k2 _ _ ?_
  refine wp_ret ?_
  obtain rfl := someI hM
  exact hQ _ _ _ (fin1r Try.results47 ⟨rfl, rfl⟩ ⟨rfl, hst⟩)

theorem graph_Induced_ok {w0 : World} {ros : List Fact} {rs : List Res} {w : World} {x1 : List (List Int)} {x3 : List Int} {h2 : Hdr} {h4 : Hdr} {out : (List (List Int)) × Int} (hM : graph_Induced x1 x3 = some out) (q1 : imm (rS (rI .i64)) h2.v x1 ∈ ros) (q2 : imm (rI .i64) h4.v x3 ∈ ros) (hst : St w0 ros (rs) w) :
    Calls Try.prog 29 #[.agg #[h2.v], h4.v] w (fun e w => ∃ (h100001 : Hdr), e = .returned (.tuple #[.agg #[h100001.v], .int .i64 out.2]) ∧ St w0 (ros) (row 22 (rS (rI .i64)) h100001.v out.1 :: rs) w) := by
  refine enterQ Try.func29 rfl Try.ntmps29 rfl fun Q hQ => ?_
  refine seqQ fun Q1 k1 z1 => ?_
  refine wp_region_lit ?_
  refine YB wn rfl (r_box (vals := [h2.v]) hst (et rfl rfl) rfl) ?_
  clear hst
  intro b5 w hst
  refine YB wn rfl (rAl hst ZT_27) ?_
  clear hst
  intro b6 w hst
  refine Y wn rfl (ya (v := .int .i64 0) rfl) ?_
  refine wpList_nil ?_
  refine k1 _ _ ?_
  refine seqQ fun Q2 k2 z2 => ?_
  refine wp_region_lit ?_
  refine Y wn rfl (yLbs (us := [h2.v]) ST_27 (et rfl rfl) hst (mtR mhR) rfl rfl) ?_
  obtain ⟨r7, gr7, hM⟩ := bs hM
  refine Yc wn rfl (yCall FN_22 (a1 (et rfl rfl))) (graph_Check_ok (hM := gr7) (hst := hst) (q1 := q1)) ?_
  clear hst
  rintro _ w ⟨rfl, hst⟩
  refine ⟨_, rfl, ?_⟩
  refine Y wn rfl (ya (v := .int .i64 r7) (et rfl rfl)) ?_
  refine wpList_nil ?_
  refine k2 _ _ ?_
  refine seqQ fun Q3 k3 z3 => ?_
  refine blockQ fun Q4 qb4 => ?_
  refine seqQ fun Q5 k5 z5 => ?_
  refine wp_region_lit ?_
  refine Y wn rfl (ym (v := .int .i64 r7) (et rfl rfl)) ?_
  refine Y wn rfl (yneq (et rfl rfl) rfl) ?_
  refine Y wn rfl (ya (v := .bool (!(decide (r7 = 0)))) (et rfl rfl)) ?_
  refine wpList_nil ?_
  refine k5 _ _ ?_
  rcases iteS hM with ⟨c8, hM⟩ | ⟨c8, hM⟩
  · refine condF (et rfl rfl) (nF (decide_eq_true c8)) ?_
    refine seqQ fun Q6 k6 z6 => ?_
    refine wp_region_lit ?_
    refine Y wn rfl (ym (v := h4.v) (et rfl rfl)) ?_
    refine Y wn rfl (ymf (vf := #[]) (vc := #[.pointer (some ⟨b5, 0, none⟩)]) a0 (a1 (et rfl rfl))) ?_
    obtain ⟨r9, gr9, hM⟩ := bs hM
    replace hst := hst.pk 2 [1, 0] rfl
    refine Yc wn rfl (yCall FN_47 (a2 (et rfl rfl) (et rfl rfl))) (slices_ContainsFunc_int_v2_ok (hM := gr9) (hst := hst) (q1 := q2) (q2 := q1)) ?_
    clear hst
    rintro _ w ⟨rfl, hst⟩
    refine ⟨_, rfl, ?_⟩
    refine Y wn rfl (ya (v := .bool r9) (et rfl rfl)) ?_
    refine wpList_nil ?_
    refine k6 _ _ ?_
    rcases iteS hM with ⟨c10, hM⟩ | ⟨c10, hM⟩
    · refine condT (et rfl rfl) c10 ?_
      refine seqQ fun Q7 k7 z7 => ?_
      refine wp_region_lit ?_
      refine Y wn rfl (ybuild (us := [hnil.v]) [] SO_27 bp0 rfl) ?_
      replace hst := hst.pk 2 [1, 0] rfl
      refine YT wn rfl (r_stbn (vals' := [hnil.v]) (us := [hnil.v]) hst ST_27 (et rfl rfl) (et rfl rfl) rfl rfl (one_of rfl) rfl) ?_
      clear hst
      intro w hst
      refine Y wn rfl (ya (v := .int .i64 3) rfl) ?_
      refine wpList_nil ?_
      refine k7 _ _ ?_
      refine wp_ret ?_
      refine qb4 _ _ _ ?_
      refine z3 _ _ _ rfl ?_
      obtain rfl := someI hM
      replace hst := hst.rowNh 22 (rS (rI .i64))
      exact hQ _ _ _ (fin2r Try.results29 (rcs2 rfl rfl hst (mtR mhR) ST_27 rfl) ⟨rfl, rfl⟩ ⟨_, rfl, (hst.pk 3 [0] rfl)⟩)
    · refine condF (et rfl rfl) (bfalse c10) ?_
      refine seqQ fun Q8 k8 z8 => ?_
      refine wp_region_lit ?_
      refine Y wn rfl (ym (v := h4.v) (et rfl rfl)) ?_
      obtain ⟨r11, gr11, hM⟩ := bs hM
      refine Yc wn rfl (yCall FN_49 (a1 (et rfl rfl))) (graph_twice_ok (hM := gr11) (hst := hst) (q1 := q2)) ?_
      clear hst
      rintro _ w ⟨rfl, hst⟩
      refine ⟨_, rfl, ?_⟩
      refine Y wn rfl (ya (v := .bool r11) (et rfl rfl)) ?_
      refine wpList_nil ?_
      refine k8 _ _ ?_
      rcases iteS hM with ⟨c12, hM⟩ | ⟨c12, hM⟩
      · refine condT (et rfl rfl) c12 ?_
        refine seqQ fun Q9 k9 z9 => ?_
        refine wp_region_lit ?_
        refine Y wn rfl (ybuild (us := [hnil.v]) [] SO_27 bp0 rfl) ?_
        replace hst := hst.pk 2 [1, 0] rfl
        refine YT wn rfl (r_stbn (vals' := [hnil.v]) (us := [hnil.v]) hst ST_27 (et rfl rfl) (et rfl rfl) rfl rfl (one_of rfl) rfl) ?_
        clear hst
        intro w hst
        refine Y wn rfl (ya (v := .int .i64 90) rfl) ?_
        refine wpList_nil ?_
        refine k9 _ _ ?_
        refine wp_ret ?_
        refine qb4 _ _ _ ?_
        refine z3 _ _ _ rfl ?_
        obtain rfl := someI hM
        replace hst := hst.rowNh 22 (rS (rI .i64))
        exact hQ _ _ _ (fin2r Try.results29 (rcs2 rfl rfl hst (mtR mhR) ST_27 rfl) ⟨rfl, rfl⟩ ⟨_, rfl, (hst.pk 3 [0] rfl)⟩)
      · refine condF (et rfl rfl) (bfalse c12) ?_
        refine wp_skip ?_
        refine qb4 _ _ _ ?_
        refine k3 _ _ ?_
        refine seqQ fun Q10 k10 z10 => ?_
        refine wp_region_lit ?_
        refine Y wn rfl (yLbs (us := [h2.v]) ST_27 (et rfl rfl) hst mhR rfl rfl) ?_
        refine Y wn rfl (ym (v := h4.v) (et rfl rfl)) ?_
        obtain ⟨r13, gr13, hM⟩ := bs hM
        refine Yc wn rfl (yCall FN_42 (a2 (et rfl rfl) (et rfl rfl))) (graph_induced_ok (hM := gr13) (hst := hst) (q1 := q1) (q2 := q2)) ?_
        clear hst
        rintro _ w ⟨h14, rfl, hst⟩
        refine ⟨_, rfl, ?_⟩
        replace hst := hst.pk 3 [2, 0, 0] rfl
        refine YT wn rfl (r_stbn (vals' := [h14.v]) (us := [h14.v]) hst ST_27 (et rfl rfl) (et rfl rfl) rfl rfl (one_of rfl) rfl) ?_
        clear hst
        intro w hst
        refine Y wn rfl (ya (v := .int .i64 0) rfl) ?_
        refine wpList_nil ?_
        refine k10 _ _ ?_
        refine wp_ret ?_
        obtain rfl := someI hM
        exact hQ _ _ _ (fin2r Try.results29 (rcs2 rfl rfl hst mhR ST_27 rfl) ⟨rfl, rfl⟩ ⟨_, rfl, (hst.pk 3 [1] rfl)⟩)
  · refine condT (et rfl rfl) (nT (decide_eq_false c8)) ?_
    refine seqQ fun Q11 k11 z11 => ?_
    refine wp_region_lit ?_
    refine Y wn rfl (ybuild (us := [hnil.v]) [] SO_27 bp0 rfl) ?_
    refine Y wn rfl (ym (v := .int .i64 r7) (et rfl rfl)) ?_
    refine YT wn rfl (r_stbn (vals' := [hnil.v]) (us := [hnil.v]) hst ST_27 (et rfl rfl) (et rfl rfl) rfl rfl (one_of rfl) rfl) ?_
    clear hst
    intro w hst
    refine Y wn rfl (ya (v := .int .i64 r7) (et rfl rfl)) ?_
    refine wpList_nil ?_
    refine k11 _ _ ?_
    refine wp_ret ?_
    refine qb4 _ _ _ ?_
    refine z3 _ _ _ rfl ?_
    obtain rfl := someI hM
    replace hst := hst.rowNh 22 (rS (rI .i64))
    exact hQ _ _ _ (fin2r Try.results29 (rcs2 rfl rfl hst (mtR mhR) ST_27 rfl) ⟨rfl, rfl⟩ ⟨_, rfl, (hst.pk 3 [0] rfl)⟩)

theorem sparselaw12_GraphAny_ok {w0 : World} {ros : List Fact} {rs : List Res} {w : World} {x1 : List (List Int)} {x3 : Int} {x4 : List Int} {h2 : Hdr} {h5 : Hdr} {out : Bool} (hM : sparselaw12_GraphAny x1 x3 x4 = some out) (q1 : imm (rS (rI .i64)) h2.v x1 ∈ ros) (q2 : imm (rI .i64) h5.v x4 ∈ ros) (hst : St w0 ros (rs) w) :
    Calls Try.prog 7 #[.agg #[h2.v], .int .i64 x3, h5.v] w (fun e w => e = .returned (.bool out) ∧ St w0 (ros) (rs) w) := by
  refine enterQ Try.func7 rfl Try.ntmps7 rfl fun Q hQ => ?_
  refine seqQ fun Q1 k1 z1 => ?_
  refine wp_region_lit ?_
  refine YB wn rfl (r_box (vals := [h2.v]) hst (et rfl rfl) rfl) ?_
  clear hst
  intro b6 w hst
  refine Y wn rfl (ya (v := .bool false) rfl) ?_
  refine wpList_nil ?_
  refine k1 _ _ ?_
  refine seqQ fun Q2 k2 z2 => ?_
  refine seqQ fun Q3 k3 z3 => ?_
  refine wp_region_lit ?_
  refine Y wn rfl (yLbs (us := [h2.v]) ST_27 (et rfl rfl) hst mhR rfl rfl) ?_
  obtain ⟨r7, gr7, hM⟩ := bs hM
  refine Yc wn rfl (yCall FN_27 (a1 (et rfl rfl))) (sparselaw12_small_ok (hM := gr7) (hst := hst) (q1 := q1)) ?_
  clear hst
  rintro _ w ⟨rfl, hst⟩
  refine ⟨_, rfl, ?_⟩
  refine Y wn rfl (ynot (et rfl rfl)) ?_
  refine Y wn rfl (ym (v := .bool (!(r7))) (et rfl rfl)) ?_
  refine joinW 4 (fun f w => f 1 = .int .i64 x3 ∧ f 2 = h5.v ∧ f 3 = .pointer (some ⟨b6, 0, none⟩) ∧ f 23 = .bool ((!(r7)) || (decide ((20 : Int) < (x4.length : Int)))) ∧ St w0 (ros) (box b6 27 [h2.v] :: rs) w) (fun j1 => ?_) ?_
  · rcases Bool.eq_false_or_eq_true (!(r7)) with c9 | c9
    · refine Gn (wx rfl rfl rfl c9) rfl ?_
      refine Gn (wx rfl rfl rfl c9) rfl ?_
      refine Gn (wx rfl rfl rfl c9) rfl ?_
      refine Y wn rfl (ypt (v := .bool true) (et rfl rfl) c9 rfl) ?_
      exact j1 _ _ ⟨rfl, rfl, rfl, (congrArg Value.bool (orT c9)), hst⟩
    · refine Y (wg rfl rfl rfl c9) rfl (ym (v := h5.v) (et rfl rfl)) ?_
      refine Y (wg rfl rfl rfl c9) rfl (yLen SL_22 (et rfl rfl) hst (rdI q2)) ?_
      refine Y (wg rfl rfl rfl c9) rfl (ygtr (et rfl rfl) rfl) ?_
      refine Y wn rfl (ypf (v := .bool (decide ((20 : Int) < (x4.length : Int)))) (et rfl rfl) c9 (et rfl rfl)) ?_
      exact j1 _ _ ⟨rfl, rfl, rfl, (congrArg Value.bool (orF c9)), hst⟩
  clear hst
  rintro f w ⟨e8_1, e8_2, e8_3, e8_23, hst⟩
  refine wpList_nil ?_
  refine k3 _ _ ?_
  rcases iteS hM with ⟨c10, hM⟩ | ⟨c10, hM⟩
  · refine condT (et rfl e8_23) c10 ?_
    refine seqQ fun Q4 k4 z4 => ?_
    refine wp_region_lit ?_
    obtain ⟨r11, gr11, hM⟩ := bs hM
    refine Yc wn rfl (yCall FN_9 a0) (sparselaw12_awake_ok (hM := gr11) (hst := hst) ) ?_
    clear hst
    rintro _ w ⟨rfl, hst⟩
    refine ⟨_, rfl, ?_⟩
    refine Y wn rfl (ya (v := .bool r11) (et rfl rfl)) ?_
    refine wpList_nil ?_
    refine k4 _ _ ?_
    refine wp_ret ?_
    refine z2 _ _ _ rfl ?_
    obtain rfl := someI hM
    exact hQ _ _ _ (fin1r Try.results7 ⟨rfl, rfl⟩ ⟨rfl, (hst.pk 1 [] rfl)⟩)
  · refine condF (et rfl e8_23) (bfalse c10) ?_
    refine wp_skip ?_
    refine k2 _ _ ?_
    refine seqQ fun Q5 k5 z5 => ?_
    refine wp_region_lit ?_
    refine Y wn rfl (yLbs (us := [h2.v]) ST_27 (et rfl e8_3) hst mhR rfl rfl) ?_
    obtain ⟨r12, gr12, hM⟩ := bs hM
    refine Yc wn rfl (yCall FN_28 (a1 (et rfl rfl))) (sparsekit_TwinGraph_ok (hM := gr12) (hst := hst) (q1 := q1)) ?_
    clear hst
    rintro _ w ⟨h13, rfl, hst⟩
    refine ⟨_, rfl, ?_⟩
    refine YB wn rfl (rAl hst ZT_27) ?_
    clear hst
    intro b14 w hst
    refine YT wn rfl (r_stbn (vals' := [h13.v]) (us := [h13.v]) hst ST_27 (et rfl rfl) (et rfl rfl) rfl rfl (one_of rfl) rfl) ?_
    clear hst
    intro w hst
    refine wpList_nil ?_
    refine k5 _ _ ?_
    refine seqQ fun Q6 k6 z6 => ?_
    refine wp_region_lit ?_
    refine Y wn rfl (yLbs (us := [h13.v]) ST_27 (et rfl rfl) hst mhR rfl rfl) ?_
    refine Y wn rfl (ym (v := h5.v) (et rfl e8_2)) ?_
    obtain ⟨r15, gr15, hM⟩ := bs hM
    replace hst := hst.pk 2 [1, 0] rfl
    replace hst := hst.fz
    refine Yc wn rfl (yCall FN_29 (a2 (et rfl rfl) (et rfl rfl))) (graph_Induced_ok (hM := gr15) (hst := hst) (q1 := mhF) (q2 := (mtF q2))) ?_
    clear hst
    rintro _ w ⟨h16, rfl, hst⟩
    refine ⟨_, rfl, ?_⟩
    refine Y wn rfl (ym (v := .tuple #[.agg #[h16.v], .int .i64 r15.2]) (et rfl rfl)) ?_
    refine Y wn rfl (yx (v := .agg #[h16.v]) (et rfl rfl) rfl) ?_
    refine Y wn rfl (yx (v := .int .i64 r15.2) (et rfl rfl) rfl) ?_
    refine YB wn rfl (rAl hst ZT_27) ?_
    clear hst
    intro b17 w hst
    refine YT wn rfl (r_stbn (vals' := [h16.v]) (us := [h16.v]) hst ST_27 (et rfl rfl) (et rfl rfl) rfl rfl (one_of rfl) rfl) ?_
    clear hst
    intro w hst
    refine Y wn rfl (ya (v := .int .i64 r15.2) (et rfl rfl)) ?_
    refine wpList_nil ?_
    refine k6 _ _ ?_
    refine seqQ fun Q7 k7 z7 => ?_
    refine wp_region_lit ?_
    refine Y wn rfl (yLbs (us := [h2.v]) ST_27 (et rfl e8_3) hst (mtR (mtR (mtR mhR))) rfl rfl) ?_
    refine Y wn rfl (ym (v := h5.v) (et rfl e8_2)) ?_
    obtain ⟨r18, gr18, hM⟩ := bs hM
    refine Yc wn rfl (yCall FN_30 (a2 (et rfl rfl) (et rfl rfl))) (sparseref12_Induced_ok (hM := gr18) (hst := hst) (q1 := (mtF q1)) (q2 := (mtF q2))) ?_
    clear hst
    rintro _ w ⟨h19, rfl, hst⟩
    refine ⟨_, rfl, ?_⟩
    refine Y wn rfl (ym (v := .tuple #[.agg #[h19.v], .int .i64 r18.2]) (et rfl rfl)) ?_
    refine Y wn rfl (yx (v := .agg #[h19.v]) (et rfl rfl) rfl) ?_
    refine Y wn rfl (yx (v := .int .i64 r18.2) (et rfl rfl) rfl) ?_
    refine YB wn rfl (rAl hst ZT_27) ?_
    clear hst
    intro b20 w hst
    refine YT wn rfl (r_stbn (vals' := [h19.v]) (us := [h19.v]) hst ST_27 (et rfl rfl) (et rfl rfl) rfl rfl (one_of rfl) rfl) ?_
    clear hst
    intro w hst
    refine Y wn rfl (ya (v := .int .i64 r18.2) (et rfl rfl)) ?_
    refine wpList_nil ?_
    refine k7 _ _ ?_
    refine seqQ fun Q8 k8 z8 => ?_
    refine wp_region_lit ?_
    refine Y wn rfl (yLbs (us := [h13.v]) ST_27 (et rfl rfl) hst (mtR (mtR (mtR (mtR mhR)))) rfl rfl) ?_
    refine Y wn rfl (ym (v := h5.v) (et rfl e8_2)) ?_
    obtain ⟨r21, gr21, hM⟩ := bs hM
    refine Yc wn rfl (yCall FN_20 (a2 (et rfl rfl) (et rfl rfl))) (graph_Relabel_ok (hM := gr21) (hst := hst) (q1 := mhF) (q2 := (mtF q2))) ?_
    clear hst
    rintro _ w ⟨h22, rfl, hst⟩
    refine ⟨_, rfl, ?_⟩
    refine Y wn rfl (ym (v := .tuple #[.agg #[h22.v], .int .i64 r21.2]) (et rfl rfl)) ?_
    refine Y wn rfl (yx (v := .agg #[h22.v]) (et rfl rfl) rfl) ?_
    refine Y wn rfl (yx (v := .int .i64 r21.2) (et rfl rfl) rfl) ?_
    refine YB wn rfl (rAl hst ZT_27) ?_
    clear hst
    intro b23 w hst
    refine YT wn rfl (r_stbn (vals' := [h22.v]) (us := [h22.v]) hst ST_27 (et rfl rfl) (et rfl rfl) rfl rfl (one_of rfl) rfl) ?_
    clear hst
    intro w hst
    refine Y wn rfl (ya (v := .int .i64 r21.2) (et rfl rfl)) ?_
    refine wpList_nil ?_
    refine k8 _ _ ?_
    refine seqQ fun Q9 k9 z9 => ?_
    refine wp_region_lit ?_
    refine Y wn rfl (yLbs (us := [h2.v]) ST_27 (et rfl e8_3) hst (mtR (mtR (mtR (mtR (mtR (mtR (mtR mhR))))))) rfl rfl) ?_
    refine Y wn rfl (ym (v := h5.v) (et rfl e8_2)) ?_
    obtain ⟨r24, gr24, hM⟩ := bs hM
    refine Yc wn rfl (yCall FN_21 (a2 (et rfl rfl) (et rfl rfl))) (sparseref12_Relabel_ok (hM := gr24) (hst := hst) (q1 := (mtF q1)) (q2 := (mtF q2))) ?_
    clear hst
    rintro _ w ⟨h25, rfl, hst⟩
    refine ⟨_, rfl, ?_⟩
    refine Y wn rfl (ym (v := .tuple #[.agg #[h25.v], .int .i64 r24.2]) (et rfl rfl)) ?_
    refine Y wn rfl (yx (v := .agg #[h25.v]) (et rfl rfl) rfl) ?_
    refine Y wn rfl (yx (v := .int .i64 r24.2) (et rfl rfl) rfl) ?_
    refine YB wn rfl (rAl hst ZT_27) ?_
    clear hst
    intro b26 w hst
    refine YT wn rfl (r_stbn (vals' := [h25.v]) (us := [h25.v]) hst ST_27 (et rfl rfl) (et rfl rfl) rfl rfl (one_of rfl) rfl) ?_
    clear hst
    intro w hst
    refine Y wn rfl (ya (v := .int .i64 r24.2) (et rfl rfl)) ?_
    refine wpList_nil ?_
    refine k9 _ _ ?_
    refine seqQ fun Q10 k10 z10 => ?_
    refine seqQ fun Q11 k11 z11 => ?_
    obtain ⟨r27, gr27, hM⟩ := bs hM
    obtain ⟨r28, gr28, hM⟩ := bs hM
    obtain ⟨r29, gr29, hM⟩ := bs hM
    obtain ⟨r30, gr30, hM⟩ := bs hM
    obtain ⟨r31, gr31, hM⟩ := bs hM
    refine joinN (n := 109) (fun f w => f 3 = .pointer (some ⟨b6, 0, none⟩) ∧ f 7 = .pointer (some ⟨b14, 0, none⟩) ∧ f 8 = .pointer (some ⟨b17, 0, none⟩) ∧ f 9 = .int .i64 r15.2 ∧ f 10 = .pointer (some ⟨b20, 0, none⟩) ∧ f 11 = .int .i64 r18.2 ∧ f 12 = .pointer (some ⟨b23, 0, none⟩) ∧ f 13 = .int .i64 r21.2 ∧ f 14 = .pointer (some ⟨b26, 0, none⟩) ∧ f 15 = .int .i64 r24.2 ∧ f 82 = .bool r31 ∧ St w0 (imm (rS (rI .i64)) h13.v r12 :: ros) (box b6 27 [h2.v] :: box b14 27 [h13.v] :: row 22 (rS (rI .i64)) h16.v r15.1 :: box b17 27 [h16.v] :: row 22 (rS (rI .i64)) h19.v r18.1 :: box b20 27 [h19.v] :: row 22 (rS (rI .i64)) h22.v r21.1 :: box b23 27 [h22.v] :: row 22 (rS (rI .i64)) h25.v r24.1 :: box b26 27 [h25.v] :: rs) w) (fun j2 => ?_) ?_
    · rcases iteS gr29 with ⟨c33, gr29⟩ | ⟨c33, gr29⟩
      · obtain ⟨r34, gr34, gr29⟩ := bs gr29
        obtain ⟨r36, gr36, gr29⟩ := bs gr29
        obtain ⟨r38, gr38, gr29⟩ := bs gr29
        have hr3 := someI gr29
        rcases iteS gr30 with ⟨c39, gr30⟩ | ⟨c39, gr30⟩
        · have hr4 := someI gr30
          have c40 : r30 = true := hr4.symm
          rw [if_pos c40] at gr31
          have hr5 := someI gr31
          refine wp_drawR [0, 1, 0, 7, 15, 31, 63, 127, 63, 511, 1023, 2047, 4095, 8191, 16383, 16383, 65535, 16383, 16383, 524287, 1048575, 2097151, 4194303, 8388607, 16777215, 16777215, 67108863, 16777215, 16777215, 536870911, 1073741823, 2147483647] [1, 3, 7, 9, 10, 16, 19, 20, 26, 29] 10 folM (by kernel_rfl) (by kernel_rfl) (by kernel_rfl) ?_
          replace hst := hst.drew
          refine DRn (l1 := [0, 2]) (l2 := []) (lc := [1]) (by kernel_rfl) (by kernel_rfl) (by kernel_rfl) ?_
          refine Ry rfl rfl wn (yLbs (us := [h13.v]) ST_27 (et rfl rfl) hst (mtR (mtR (mtR (mtR (mtR (mtR (mtR (mtR mhR)))))))) rfl rfl) ?_
          refine Ry rfl rfl wn (yLbs (us := [h2.v]) ST_27 (et rfl e8_3) hst (mtR (mtR (mtR (mtR (mtR (mtR (mtR (mtR (mtR mhR))))))))) rfl rfl) ?_
          refine Rn QSn ?_
          refine Lc rfl ?_ LAn
          refine Lk wn (yCall FN_22 (a1 (et rfl rfl))) (graph_Check_ok (hM := gr27) (hst := hst) (q1 := mhF)) ?_
          clear hst
          rintro _ w ⟨rfl, hst⟩
          refine ⟨_, rfl, ?_⟩
          refine DRn (l1 := []) (l2 := [2]) (lc := [3]) (by kernel_rfl) (by kernel_rfl) (by kernel_rfl) ?_
          refine Rn (Sy rfl rfl wn (yLbs (us := [h2.v]) ST_27 (et rfl e8_3) hst (mtR (mtR (mtR (mtR (mtR (mtR (mtR (mtR (mtR mhR))))))))) rfl rfl) rfl QSn) ?_
          refine Lc rfl ?_ LAn
          refine Lk wn (yCall FN_31 (a1 (et rfl rfl))) (sparseref12_Check_ok (hM := gr28) (hst := hst) (q1 := (mtF q1))) ?_
          clear hst
          rintro _ w ⟨rfl, hst⟩
          refine ⟨_, rfl, ?_⟩
          refine DRn (l1 := [4, 5, 6, 8]) (l2 := []) (lc := [7]) (by kernel_rfl) (by kernel_rfl) (by kernel_rfl) ?_
          refine Ry rfl rfl wn (yneq (et rfl rfl) (et rfl rfl)) ?_
          refine Ry rfl rfl wn (ym (v := .bool (!(decide (r27 = r28)))) (et rfl rfl)) ?_
          refine Ry rfl rfl (wg rfl rfl rfl (nF (decide_eq_true c33))) (yLbs (us := [h13.v]) ST_27 (et rfl rfl) hst (mtR (mtR (mtR (mtR (mtR (mtR (mtR (mtR mhR)))))))) rfl rfl) ?_
          refine Ry rfl rfl (wg rfl rfl rfl (nF (decide_eq_true c33))) (yLbs (us := [h2.v]) ST_27 (et rfl e8_3) hst (mtR (mtR (mtR (mtR (mtR (mtR (mtR (mtR (mtR mhR))))))))) rfl rfl) ?_
          refine Rn QSn ?_
          refine Lc rfl ?_ LAn
          refine Lk (wg rfl rfl rfl (nF (decide_eq_true c33))) (yCall FN_14 (a1 (et rfl rfl))) (graph_Components_ok (hM := gr34) (hst := hst) (q1 := mhF)) ?_
          clear hst
          rintro _ w ⟨h35, rfl, hst⟩
          refine ⟨_, rfl, ?_⟩
          refine DRn (l1 := []) (l2 := [8]) (lc := [9]) (by kernel_rfl) (by kernel_rfl) (by kernel_rfl) ?_
          refine Rn (Sy rfl rfl (wg rfl rfl rfl (nF (decide_eq_true c33))) (yLbs (us := [h2.v]) ST_27 (et rfl e8_3) hst (mtR (mtR (mtR (mtR (mtR (mtR (mtR (mtR (mtR (mtR mhR)))))))))) rfl rfl) rfl QSn) ?_
          refine Lc rfl ?_ LAn
          refine Lk (wg rfl rfl rfl (nF (decide_eq_true c33))) (yCall FN_26 (a1 (et rfl rfl))) (sparseref12_Components_ok (hM := gr36) (hst := hst) (q1 := (mtF q1))) ?_
          clear hst
          rintro _ w ⟨h37, rfl, hst⟩
          refine ⟨_, rfl, ?_⟩
          refine DRn (l1 := []) (l2 := []) (lc := [10]) (by kernel_rfl) (by kernel_rfl) (by kernel_rfl) ?_
          refine Rn QSn ?_
          refine Lc rfl ?_ LAn
          replace hst := hst.pk 2 [1, 0] rfl
          replace hst := hst.fz
          replace hst := hst.fz
          refine Lk (wg rfl rfl rfl (nF (decide_eq_true c33))) (yCall FN_24 (a2 (et rfl rfl) (et rfl rfl))) (sparsekit_Lists_ok (hM := gr38) (hst := hst) (q1 := (mtF mhF)) (q2 := mhF)) ?_
          clear hst
          rintro _ w ⟨rfl, hst⟩
          refine ⟨_, rfl, ?_⟩
          refine DRn (l1 := [11, 12, 13, 14, 15, 17, 18]) (l2 := []) (lc := [16]) (by kernel_rfl) (by kernel_rfl) (by kernel_rfl) ?_
          refine Ry rfl rfl (wg rfl rfl rfl (nF (decide_eq_true c33))) (ynot (et rfl rfl)) ?_
          refine Ry rfl rfl wn (ypf (v := .bool r29) (et rfl rfl) (nF (decide_eq_true c33)) (eqv hr3 (et rfl rfl))) ?_
          refine Ry rfl rfl wn (ym (v := .bool r29) (et rfl rfl)) ?_
          refine Rx rfl rfl (wx rfl rfl rfl c39) ?_
          refine Rx rfl rfl (wx rfl rfl rfl c39) ?_
          refine Rx rfl rfl (wx rfl rfl rfl c39) ?_
          refine Rx rfl rfl (wx rfl rfl rfl c39) ?_
          refine Rn QSn ?_
          refine Lc rfl ?_ LAn
          refine Lx (wx rfl rfl rfl c39) ?_
          refine DRn (l1 := []) (l2 := [17, 18]) (lc := [19]) (by kernel_rfl) (by kernel_rfl) (by kernel_rfl) ?_
          refine Rn (Sx_ rfl rfl (wx rfl rfl rfl c39) rfl (Sx_ rfl rfl (wx rfl rfl rfl c39) rfl QSn)) ?_
          refine Lc rfl ?_ LAn
          refine Lx (wx rfl rfl rfl c39) ?_
          refine DRn (l1 := []) (l2 := []) (lc := [20]) (by kernel_rfl) (by kernel_rfl) (by kernel_rfl) ?_
          refine Rn QSn ?_
          refine Lc rfl ?_ LAn
          refine Lx (wx rfl rfl rfl c39) ?_
          refine DRn (l1 := [21, 22, 23, 24, 25, 27, 28]) (l2 := []) (lc := [26]) (by kernel_rfl) (by kernel_rfl) (by kernel_rfl) ?_
          refine Rx rfl rfl (wx rfl rfl rfl c39) ?_
          refine Ry rfl rfl wn (ypt (v := .bool r30) (et rfl rfl) c39 (eqv hr4 rfl)) ?_
          refine Ry rfl rfl wn (ym (v := .bool r30) (et rfl rfl)) ?_
          refine Rx rfl rfl (wx rfl rfl rfl c40) ?_
          refine Rx rfl rfl (wx rfl rfl rfl c40) ?_
          refine Rx rfl rfl (wx rfl rfl rfl c40) ?_
          refine Rx rfl rfl (wx rfl rfl rfl c40) ?_
          refine Rn QSn ?_
          refine Lc rfl ?_ LAn
          refine Lx (wx rfl rfl rfl c40) ?_
          refine DRn (l1 := []) (l2 := [27, 28]) (lc := [29]) (by kernel_rfl) (by kernel_rfl) (by kernel_rfl) ?_
          refine Rn (Sx_ rfl rfl (wx rfl rfl rfl c40) rfl (Sx_ rfl rfl (wx rfl rfl rfl c40) rfl QSn)) ?_
          refine Lc rfl ?_ LAn
          refine Lx (wx rfl rfl rfl c40) ?_
          refine DRz (l1 := [30, 31]) (l2 := []) (by kernel_rfl) (by kernel_rfl) ?_
          refine Rx rfl rfl (wx rfl rfl rfl c40) ?_
          refine Ry rfl rfl wn (ypt (v := .bool r31) (et rfl rfl) c40 (eqv hr5 rfl)) ?_
          refine Rn QSn ?_
          exact j2 _ _ ⟨e8_3, rfl, rfl, rfl, rfl, rfl, rfl, rfl, rfl, rfl, rfl, ((hst.pk 10 [9, 8, 7, 6, 5, 4, 3, 2, 1, 0] rfl).facts (allC (mtF (mtF mhF)) (allT (allT (allT allI)))))⟩
        · obtain ⟨r41, gr41, gr30⟩ := bs gr30
          obtain ⟨r43, gr43, gr30⟩ := bs gr30
          obtain ⟨r45, gr45, gr30⟩ := bs gr30
          have hr6 := someI gr30
          rcases iteS gr31 with ⟨c46, gr31⟩ | ⟨c46, gr31⟩
          · have hr7 := someI gr31
            refine wp_drawR [0, 1, 0, 7, 15, 31, 63, 127, 63, 511, 1023, 2047, 4095, 8191, 16383, 16383, 65535, 16383, 16383, 524287, 1048575, 2097151, 4194303, 8388607, 16777215, 16777215, 67108863, 16777215, 16777215, 536870911, 1073741823, 2147483647] [1, 3, 7, 9, 10, 16, 19, 20, 26, 29] 10 folM (by kernel_rfl) (by kernel_rfl) (by kernel_rfl) ?_
            replace hst := hst.drew
            refine DRn (l1 := [0, 2]) (l2 := []) (lc := [1]) (by kernel_rfl) (by kernel_rfl) (by kernel_rfl) ?_
            refine Ry rfl rfl wn (yLbs (us := [h13.v]) ST_27 (et rfl rfl) hst (mtR (mtR (mtR (mtR (mtR (mtR (mtR (mtR mhR)))))))) rfl rfl) ?_
            refine Ry rfl rfl wn (yLbs (us := [h2.v]) ST_27 (et rfl e8_3) hst (mtR (mtR (mtR (mtR (mtR (mtR (mtR (mtR (mtR mhR))))))))) rfl rfl) ?_
            refine Rn QSn ?_
            refine Lc rfl ?_ LAn
            refine Lk wn (yCall FN_22 (a1 (et rfl rfl))) (graph_Check_ok (hM := gr27) (hst := hst) (q1 := mhF)) ?_
            clear hst
            rintro _ w ⟨rfl, hst⟩
            refine ⟨_, rfl, ?_⟩
            refine DRn (l1 := []) (l2 := [2]) (lc := [3]) (by kernel_rfl) (by kernel_rfl) (by kernel_rfl) ?_
            refine Rn (Sy rfl rfl wn (yLbs (us := [h2.v]) ST_27 (et rfl e8_3) hst (mtR (mtR (mtR (mtR (mtR (mtR (mtR (mtR (mtR mhR))))))))) rfl rfl) rfl QSn) ?_
            refine Lc rfl ?_ LAn
            refine Lk wn (yCall FN_31 (a1 (et rfl rfl))) (sparseref12_Check_ok (hM := gr28) (hst := hst) (q1 := (mtF q1))) ?_
            clear hst
            rintro _ w ⟨rfl, hst⟩
            refine ⟨_, rfl, ?_⟩
            refine DRn (l1 := [4, 5, 6, 8]) (l2 := []) (lc := [7]) (by kernel_rfl) (by kernel_rfl) (by kernel_rfl) ?_
            refine Ry rfl rfl wn (yneq (et rfl rfl) (et rfl rfl)) ?_
            refine Ry rfl rfl wn (ym (v := .bool (!(decide (r27 = r28)))) (et rfl rfl)) ?_
            refine Ry rfl rfl (wg rfl rfl rfl (nF (decide_eq_true c33))) (yLbs (us := [h13.v]) ST_27 (et rfl rfl) hst (mtR (mtR (mtR (mtR (mtR (mtR (mtR (mtR mhR)))))))) rfl rfl) ?_
            refine Ry rfl rfl (wg rfl rfl rfl (nF (decide_eq_true c33))) (yLbs (us := [h2.v]) ST_27 (et rfl e8_3) hst (mtR (mtR (mtR (mtR (mtR (mtR (mtR (mtR (mtR mhR))))))))) rfl rfl) ?_
            refine Rn QSn ?_
            refine Lc rfl ?_ LAn
            refine Lk (wg rfl rfl rfl (nF (decide_eq_true c33))) (yCall FN_14 (a1 (et rfl rfl))) (graph_Components_ok (hM := gr34) (hst := hst) (q1 := mhF)) ?_
            clear hst
            rintro _ w ⟨h35, rfl, hst⟩
            refine ⟨_, rfl, ?_⟩
            refine DRn (l1 := []) (l2 := [8]) (lc := [9]) (by kernel_rfl) (by kernel_rfl) (by kernel_rfl) ?_
            refine Rn (Sy rfl rfl (wg rfl rfl rfl (nF (decide_eq_true c33))) (yLbs (us := [h2.v]) ST_27 (et rfl e8_3) hst (mtR (mtR (mtR (mtR (mtR (mtR (mtR (mtR (mtR (mtR mhR)))))))))) rfl rfl) rfl QSn) ?_
            refine Lc rfl ?_ LAn
            refine Lk (wg rfl rfl rfl (nF (decide_eq_true c33))) (yCall FN_26 (a1 (et rfl rfl))) (sparseref12_Components_ok (hM := gr36) (hst := hst) (q1 := (mtF q1))) ?_
            clear hst
            rintro _ w ⟨h37, rfl, hst⟩
            refine ⟨_, rfl, ?_⟩
            refine DRn (l1 := []) (l2 := []) (lc := [10]) (by kernel_rfl) (by kernel_rfl) (by kernel_rfl) ?_
            refine Rn QSn ?_
            refine Lc rfl ?_ LAn
            replace hst := hst.pk 2 [1, 0] rfl
            replace hst := hst.fz
            replace hst := hst.fz
            refine Lk (wg rfl rfl rfl (nF (decide_eq_true c33))) (yCall FN_24 (a2 (et rfl rfl) (et rfl rfl))) (sparsekit_Lists_ok (hM := gr38) (hst := hst) (q1 := (mtF mhF)) (q2 := mhF)) ?_
            clear hst
            rintro _ w ⟨rfl, hst⟩
            refine ⟨_, rfl, ?_⟩
            refine DRn (l1 := [11, 12, 13, 14, 15, 17, 18]) (l2 := []) (lc := [16]) (by kernel_rfl) (by kernel_rfl) (by kernel_rfl) ?_
            refine Ry rfl rfl (wg rfl rfl rfl (nF (decide_eq_true c33))) (ynot (et rfl rfl)) ?_
            refine Ry rfl rfl wn (ypf (v := .bool r29) (et rfl rfl) (nF (decide_eq_true c33)) (eqv hr3 (et rfl rfl))) ?_
            refine Ry rfl rfl wn (ym (v := .bool r29) (et rfl rfl)) ?_
            refine Ry rfl rfl (wg rfl rfl rfl (bfalse c39)) (yLbs (us := [h13.v]) ST_27 (et rfl rfl) hst (mtR (mtR (mtR (mtR (mtR (mtR (mtR (mtR mhR)))))))) rfl rfl) ?_
            refine Ry rfl rfl (wg rfl rfl rfl (bfalse c39)) (ym (v := .int .i64 x3) (et rfl e8_1)) ?_
            refine Ry rfl rfl (wg rfl rfl rfl (bfalse c39)) (yLbs (us := [h2.v]) ST_27 (et rfl e8_3) hst (mtR (mtR (mtR (mtR (mtR (mtR (mtR (mtR (mtR mhR))))))))) rfl rfl) ?_
            refine Ry rfl rfl (wg rfl rfl rfl (bfalse c39)) (ym (v := .int .i64 x3) (et rfl e8_1)) ?_
            refine Rn QSn ?_
            refine Lc rfl ?_ LAn
            refine Lk (wg rfl rfl rfl (bfalse c39)) (yCall FN_12 (a2 (et rfl rfl) (et rfl rfl))) (graph_Levels_ok (hM := gr41) (hst := hst) (q1 := (mtF (mtF mhF)))) ?_
            clear hst
            rintro _ w ⟨h42, rfl, hst⟩
            refine ⟨_, rfl, ?_⟩
            refine DRn (l1 := []) (l2 := [17, 18]) (lc := [19]) (by kernel_rfl) (by kernel_rfl) (by kernel_rfl) ?_
            refine Rn (Sy rfl rfl (wg rfl rfl rfl (bfalse c39)) (yLbs (us := [h2.v]) ST_27 (et rfl e8_3) hst (mtR (mtR (mtR (mtR (mtR (mtR (mtR (mtR (mtR (mtR mhR)))))))))) rfl rfl) rfl (Sy rfl rfl (wg rfl rfl rfl (bfalse c39)) (ym (v := .int .i64 x3) (et rfl e8_1)) rfl QSn)) ?_
            refine Lc rfl ?_ LAn
            refine Lk (wg rfl rfl rfl (bfalse c39)) (yCall FN_15 (a2 (et rfl rfl) (et rfl rfl))) (sparseref12_Levels_ok (hM := gr43) (hst := hst) (q1 := (mtF (mtF (mtF q1))))) ?_
            clear hst
            rintro _ w ⟨h44, rfl, hst⟩
            refine ⟨_, rfl, ?_⟩
            refine DRn (l1 := []) (l2 := []) (lc := [20]) (by kernel_rfl) (by kernel_rfl) (by kernel_rfl) ?_
            refine Rn QSn ?_
            refine Lc rfl ?_ LAn
            replace hst := hst.pk 2 [1, 0] rfl
            replace hst := hst.fz
            replace hst := hst.fz
            refine Lk (wg rfl rfl rfl (bfalse c39)) (yCall FN_24 (a2 (et rfl rfl) (et rfl rfl))) (sparsekit_Lists_ok (hM := gr45) (hst := hst) (q1 := (mtF mhF)) (q2 := mhF)) ?_
            clear hst
            rintro _ w ⟨rfl, hst⟩
            refine ⟨_, rfl, ?_⟩
            refine DRn (l1 := [21, 22, 23, 24, 25, 27, 28]) (l2 := []) (lc := [26]) (by kernel_rfl) (by kernel_rfl) (by kernel_rfl) ?_
            refine Ry rfl rfl (wg rfl rfl rfl (bfalse c39)) (ynot (et rfl rfl)) ?_
            refine Ry rfl rfl wn (ypf (v := .bool r30) (et rfl rfl) (bfalse c39) (eqv hr6 (et rfl rfl))) ?_
            refine Ry rfl rfl wn (ym (v := .bool r30) (et rfl rfl)) ?_
            refine Rx rfl rfl (wx rfl rfl rfl c46) ?_
            refine Rx rfl rfl (wx rfl rfl rfl c46) ?_
            refine Rx rfl rfl (wx rfl rfl rfl c46) ?_
            refine Rx rfl rfl (wx rfl rfl rfl c46) ?_
            refine Rn QSn ?_
            refine Lc rfl ?_ LAn
            refine Lx (wx rfl rfl rfl c46) ?_
            refine DRn (l1 := []) (l2 := [27, 28]) (lc := [29]) (by kernel_rfl) (by kernel_rfl) (by kernel_rfl) ?_
            refine Rn (Sx_ rfl rfl (wx rfl rfl rfl c46) rfl (Sx_ rfl rfl (wx rfl rfl rfl c46) rfl QSn)) ?_
            refine Lc rfl ?_ LAn
            refine Lx (wx rfl rfl rfl c46) ?_
            refine DRz (l1 := [30, 31]) (l2 := []) (by kernel_rfl) (by kernel_rfl) ?_
            refine Rx rfl rfl (wx rfl rfl rfl c46) ?_
            refine Ry rfl rfl wn (ypt (v := .bool r31) (et rfl rfl) c46 (eqv hr7 rfl)) ?_
            refine Rn QSn ?_
            exact j2 _ _ ⟨e8_3, rfl, rfl, rfl, rfl, rfl, rfl, rfl, rfl, rfl, rfl, ((hst.pk 10 [9, 8, 7, 6, 5, 4, 3, 2, 1, 0] rfl).facts (allC (mtF (mtF (mtF (mtF mhF)))) (allT (allT (allT (allT (allT allI)))))))⟩
          · obtain ⟨r47, gr47, gr31⟩ := bs gr31
            obtain ⟨r48, gr48, gr31⟩ := bs gr31
            have hr8 := someI gr31
            refine wp_drawR [0, 1, 0, 7, 15, 31, 63, 127, 63, 511, 1023, 2047, 4095, 8191, 16383, 16383, 65535, 16383, 16383, 524287, 1048575, 2097151, 4194303, 8388607, 16777215, 16777215, 67108863, 16777215, 16777215, 536870911, 1073741823, 2147483647] [1, 3, 7, 9, 10, 16, 19, 20, 26, 29] 10 folM (by kernel_rfl) (by kernel_rfl) (by kernel_rfl) ?_
            replace hst := hst.drew
            refine DRn (l1 := [0, 2]) (l2 := []) (lc := [1]) (by kernel_rfl) (by kernel_rfl) (by kernel_rfl) ?_
            refine Ry rfl rfl wn (yLbs (us := [h13.v]) ST_27 (et rfl rfl) hst (mtR (mtR (mtR (mtR (mtR (mtR (mtR (mtR mhR)))))))) rfl rfl) ?_
            refine Ry rfl rfl wn (yLbs (us := [h2.v]) ST_27 (et rfl e8_3) hst (mtR (mtR (mtR (mtR (mtR (mtR (mtR (mtR (mtR mhR))))))))) rfl rfl) ?_
            refine Rn QSn ?_
            refine Lc rfl ?_ LAn
            refine Lk wn (yCall FN_22 (a1 (et rfl rfl))) (graph_Check_ok (hM := gr27) (hst := hst) (q1 := mhF)) ?_
            clear hst
            rintro _ w ⟨rfl, hst⟩
            refine ⟨_, rfl, ?_⟩
            refine DRn (l1 := []) (l2 := [2]) (lc := [3]) (by kernel_rfl) (by kernel_rfl) (by kernel_rfl) ?_
            refine Rn (Sy rfl rfl wn (yLbs (us := [h2.v]) ST_27 (et rfl e8_3) hst (mtR (mtR (mtR (mtR (mtR (mtR (mtR (mtR (mtR mhR))))))))) rfl rfl) rfl QSn) ?_
            refine Lc rfl ?_ LAn
            refine Lk wn (yCall FN_31 (a1 (et rfl rfl))) (sparseref12_Check_ok (hM := gr28) (hst := hst) (q1 := (mtF q1))) ?_
            clear hst
            rintro _ w ⟨rfl, hst⟩
            refine ⟨_, rfl, ?_⟩
            refine DRn (l1 := [4, 5, 6, 8]) (l2 := []) (lc := [7]) (by kernel_rfl) (by kernel_rfl) (by kernel_rfl) ?_
            refine Ry rfl rfl wn (yneq (et rfl rfl) (et rfl rfl)) ?_
            refine Ry rfl rfl wn (ym (v := .bool (!(decide (r27 = r28)))) (et rfl rfl)) ?_
            refine Ry rfl rfl (wg rfl rfl rfl (nF (decide_eq_true c33))) (yLbs (us := [h13.v]) ST_27 (et rfl rfl) hst (mtR (mtR (mtR (mtR (mtR (mtR (mtR (mtR mhR)))))))) rfl rfl) ?_
            refine Ry rfl rfl (wg rfl rfl rfl (nF (decide_eq_true c33))) (yLbs (us := [h2.v]) ST_27 (et rfl e8_3) hst (mtR (mtR (mtR (mtR (mtR (mtR (mtR (mtR (mtR mhR))))))))) rfl rfl) ?_
            refine Rn QSn ?_
            refine Lc rfl ?_ LAn
            refine Lk (wg rfl rfl rfl (nF (decide_eq_true c33))) (yCall FN_14 (a1 (et rfl rfl))) (graph_Components_ok (hM := gr34) (hst := hst) (q1 := mhF)) ?_
            clear hst
            rintro _ w ⟨h35, rfl, hst⟩
            refine ⟨_, rfl, ?_⟩
            refine DRn (l1 := []) (l2 := [8]) (lc := [9]) (by kernel_rfl) (by kernel_rfl) (by kernel_rfl) ?_
            refine Rn (Sy rfl rfl (wg rfl rfl rfl (nF (decide_eq_true c33))) (yLbs (us := [h2.v]) ST_27 (et rfl e8_3) hst (mtR (mtR (mtR (mtR (mtR (mtR (mtR (mtR (mtR (mtR mhR)))))))))) rfl rfl) rfl QSn) ?_
            refine Lc rfl ?_ LAn
            refine Lk (wg rfl rfl rfl (nF (decide_eq_true c33))) (yCall FN_26 (a1 (et rfl rfl))) (sparseref12_Components_ok (hM := gr36) (hst := hst) (q1 := (mtF q1))) ?_
            clear hst
            rintro _ w ⟨h37, rfl, hst⟩
            refine ⟨_, rfl, ?_⟩
            refine DRn (l1 := []) (l2 := []) (lc := [10]) (by kernel_rfl) (by kernel_rfl) (by kernel_rfl) ?_
            refine Rn QSn ?_
            refine Lc rfl ?_ LAn
            replace hst := hst.pk 2 [1, 0] rfl
            replace hst := hst.fz
            replace hst := hst.fz
            refine Lk (wg rfl rfl rfl (nF (decide_eq_true c33))) (yCall FN_24 (a2 (et rfl rfl) (et rfl rfl))) (sparsekit_Lists_ok (hM := gr38) (hst := hst) (q1 := (mtF mhF)) (q2 := mhF)) ?_
            clear hst
            rintro _ w ⟨rfl, hst⟩
            refine ⟨_, rfl, ?_⟩
            refine DRn (l1 := [11, 12, 13, 14, 15, 17, 18]) (l2 := []) (lc := [16]) (by kernel_rfl) (by kernel_rfl) (by kernel_rfl) ?_
            refine Ry rfl rfl (wg rfl rfl rfl (nF (decide_eq_true c33))) (ynot (et rfl rfl)) ?_
            refine Ry rfl rfl wn (ypf (v := .bool r29) (et rfl rfl) (nF (decide_eq_true c33)) (eqv hr3 (et rfl rfl))) ?_
            refine Ry rfl rfl wn (ym (v := .bool r29) (et rfl rfl)) ?_
            refine Ry rfl rfl (wg rfl rfl rfl (bfalse c39)) (yLbs (us := [h13.v]) ST_27 (et rfl rfl) hst (mtR (mtR (mtR (mtR (mtR (mtR (mtR (mtR mhR)))))))) rfl rfl) ?_
            refine Ry rfl rfl (wg rfl rfl rfl (bfalse c39)) (ym (v := .int .i64 x3) (et rfl e8_1)) ?_
            refine Ry rfl rfl (wg rfl rfl rfl (bfalse c39)) (yLbs (us := [h2.v]) ST_27 (et rfl e8_3) hst (mtR (mtR (mtR (mtR (mtR (mtR (mtR (mtR (mtR mhR))))))))) rfl rfl) ?_
            refine Ry rfl rfl (wg rfl rfl rfl (bfalse c39)) (ym (v := .int .i64 x3) (et rfl e8_1)) ?_
            refine Rn QSn ?_
            refine Lc rfl ?_ LAn
            refine Lk (wg rfl rfl rfl (bfalse c39)) (yCall FN_12 (a2 (et rfl rfl) (et rfl rfl))) (graph_Levels_ok (hM := gr41) (hst := hst) (q1 := (mtF (mtF mhF)))) ?_
            clear hst
            rintro _ w ⟨h42, rfl, hst⟩
            refine ⟨_, rfl, ?_⟩
            refine DRn (l1 := []) (l2 := [17, 18]) (lc := [19]) (by kernel_rfl) (by kernel_rfl) (by kernel_rfl) ?_
            refine Rn (Sy rfl rfl (wg rfl rfl rfl (bfalse c39)) (yLbs (us := [h2.v]) ST_27 (et rfl e8_3) hst (mtR (mtR (mtR (mtR (mtR (mtR (mtR (mtR (mtR (mtR mhR)))))))))) rfl rfl) rfl (Sy rfl rfl (wg rfl rfl rfl (bfalse c39)) (ym (v := .int .i64 x3) (et rfl e8_1)) rfl QSn)) ?_
            refine Lc rfl ?_ LAn
            refine Lk (wg rfl rfl rfl (bfalse c39)) (yCall FN_15 (a2 (et rfl rfl) (et rfl rfl))) (sparseref12_Levels_ok (hM := gr43) (hst := hst) (q1 := (mtF (mtF (mtF q1))))) ?_
            clear hst
            rintro _ w ⟨h44, rfl, hst⟩
            refine ⟨_, rfl, ?_⟩
            refine DRn (l1 := []) (l2 := []) (lc := [20]) (by kernel_rfl) (by kernel_rfl) (by kernel_rfl) ?_
            refine Rn QSn ?_
            refine Lc rfl ?_ LAn
            replace hst := hst.pk 2 [1, 0] rfl
            replace hst := hst.fz
            replace hst := hst.fz
            refine Lk (wg rfl rfl rfl (bfalse c39)) (yCall FN_24 (a2 (et rfl rfl) (et rfl rfl))) (sparsekit_Lists_ok (hM := gr45) (hst := hst) (q1 := (mtF mhF)) (q2 := mhF)) ?_
            clear hst
            rintro _ w ⟨rfl, hst⟩
            refine ⟨_, rfl, ?_⟩
            refine DRn (l1 := [21, 22, 23, 24, 25, 27, 28]) (l2 := []) (lc := [26]) (by kernel_rfl) (by kernel_rfl) (by kernel_rfl) ?_
            refine Ry rfl rfl (wg rfl rfl rfl (bfalse c39)) (ynot (et rfl rfl)) ?_
            refine Ry rfl rfl wn (ypf (v := .bool r30) (et rfl rfl) (bfalse c39) (eqv hr6 (et rfl rfl))) ?_
            refine Ry rfl rfl wn (ym (v := .bool r30) (et rfl rfl)) ?_
            refine Ry rfl rfl (wg rfl rfl rfl (bfalse c46)) (yLbs (us := [h13.v]) ST_27 (et rfl rfl) hst (mtR (mtR (mtR (mtR (mtR (mtR (mtR (mtR mhR)))))))) rfl rfl) ?_
            refine Ry rfl rfl (wg rfl rfl rfl (bfalse c46)) (ym (v := .int .i64 x3) (et rfl e8_1)) ?_
            refine Ry rfl rfl (wg rfl rfl rfl (bfalse c46)) (yLbs (us := [h2.v]) ST_27 (et rfl e8_3) hst (mtR (mtR (mtR (mtR (mtR (mtR (mtR (mtR (mtR mhR))))))))) rfl rfl) ?_
            refine Ry rfl rfl (wg rfl rfl rfl (bfalse c46)) (ym (v := .int .i64 x3) (et rfl e8_1)) ?_
            refine Rn QSn ?_
            refine Lc rfl ?_ LAn
            refine Lk (wg rfl rfl rfl (bfalse c46)) (yCall FN_17 (a2 (et rfl rfl) (et rfl rfl))) (graph_Peripheral_ok (hM := gr47) (hst := hst) (q1 := (mtF (mtF (mtF (mtF mhF)))))) ?_
            clear hst
            rintro _ w ⟨rfl, hst⟩
            refine ⟨_, rfl, ?_⟩
            refine DRn (l1 := []) (l2 := [27, 28]) (lc := [29]) (by kernel_rfl) (by kernel_rfl) (by kernel_rfl) ?_
            refine Rn (Sy rfl rfl (wg rfl rfl rfl (bfalse c46)) (yLbs (us := [h2.v]) ST_27 (et rfl e8_3) hst (mtR (mtR (mtR (mtR (mtR (mtR (mtR (mtR (mtR mhR))))))))) rfl rfl) rfl (Sy rfl rfl (wg rfl rfl rfl (bfalse c46)) (ym (v := .int .i64 x3) (et rfl e8_1)) rfl QSn)) ?_
            refine Lc rfl ?_ LAn
            refine Lk (wg rfl rfl rfl (bfalse c46)) (yCall FN_25 (a2 (et rfl rfl) (et rfl rfl))) (sparseref12_Peripheral_ok (hM := gr48) (hst := hst) (q1 := (mtF (mtF (mtF (mtF (mtF q1))))))) ?_
            clear hst
            rintro _ w ⟨rfl, hst⟩
            refine ⟨_, rfl, ?_⟩
            refine DRz (l1 := [30, 31]) (l2 := []) (by kernel_rfl) (by kernel_rfl) ?_
            refine Ry rfl rfl (wg rfl rfl rfl (bfalse c46)) (yneq (et rfl rfl) (et rfl rfl)) ?_
            refine Ry rfl rfl wn (ypf (v := .bool r31) (et rfl rfl) (bfalse c46) (eqv hr8 (et rfl rfl))) ?_
            refine Rn QSn ?_
            exact j2 _ _ ⟨e8_3, rfl, rfl, rfl, rfl, rfl, rfl, rfl, rfl, rfl, rfl, ((hst.pk 10 [9, 8, 7, 6, 5, 4, 3, 2, 1, 0] rfl).facts (allC (mtF (mtF (mtF (mtF mhF)))) (allT (allT (allT (allT (allT allI)))))))⟩
      · have hr9 := someI gr29
        have c49 : r29 = true := hr9.symm
        rw [if_pos c49] at gr30
        have hr10 := someI gr30
        have c50 : r30 = true := hr10.symm
        rw [if_pos c50] at gr31
        have hr11 := someI gr31
        refine wp_drawR [0, 1, 0, 7, 15, 31, 63, 127, 63, 511, 1023, 2047, 4095, 8191, 16383, 16383, 65535, 16383, 16383, 524287, 1048575, 2097151, 4194303, 8388607, 16777215, 16777215, 67108863, 16777215, 16777215, 536870911, 1073741823, 2147483647] [1, 3, 7, 9, 10, 16, 19, 20, 26, 29] 10 folM (by kernel_rfl) (by kernel_rfl) (by kernel_rfl) ?_
        replace hst := hst.drew
        refine DRn (l1 := [0, 2]) (l2 := []) (lc := [1]) (by kernel_rfl) (by kernel_rfl) (by kernel_rfl) ?_
        refine Ry rfl rfl wn (yLbs (us := [h13.v]) ST_27 (et rfl rfl) hst (mtR (mtR (mtR (mtR (mtR (mtR (mtR (mtR mhR)))))))) rfl rfl) ?_
        refine Ry rfl rfl wn (yLbs (us := [h2.v]) ST_27 (et rfl e8_3) hst (mtR (mtR (mtR (mtR (mtR (mtR (mtR (mtR (mtR mhR))))))))) rfl rfl) ?_
        refine Rn QSn ?_
        refine Lc rfl ?_ LAn
        refine Lk wn (yCall FN_22 (a1 (et rfl rfl))) (graph_Check_ok (hM := gr27) (hst := hst) (q1 := mhF)) ?_
        clear hst
        rintro _ w ⟨rfl, hst⟩
        refine ⟨_, rfl, ?_⟩
        refine DRn (l1 := []) (l2 := [2]) (lc := [3]) (by kernel_rfl) (by kernel_rfl) (by kernel_rfl) ?_
        refine Rn (Sy rfl rfl wn (yLbs (us := [h2.v]) ST_27 (et rfl e8_3) hst (mtR (mtR (mtR (mtR (mtR (mtR (mtR (mtR (mtR mhR))))))))) rfl rfl) rfl QSn) ?_
        refine Lc rfl ?_ LAn
        refine Lk wn (yCall FN_31 (a1 (et rfl rfl))) (sparseref12_Check_ok (hM := gr28) (hst := hst) (q1 := (mtF q1))) ?_
        clear hst
        rintro _ w ⟨rfl, hst⟩
        refine ⟨_, rfl, ?_⟩
        refine DRn (l1 := [4, 5, 6, 8]) (l2 := []) (lc := [7]) (by kernel_rfl) (by kernel_rfl) (by kernel_rfl) ?_
        refine Ry rfl rfl wn (yneq (et rfl rfl) (et rfl rfl)) ?_
        refine Ry rfl rfl wn (ym (v := .bool (!(decide (r27 = r28)))) (et rfl rfl)) ?_
        refine Rx rfl rfl (wx rfl rfl rfl (nT (decide_eq_false c33))) ?_
        refine Rx rfl rfl (wx rfl rfl rfl (nT (decide_eq_false c33))) ?_
        refine Rn QSn ?_
        refine Lc rfl ?_ LAn
        refine Lx (wx rfl rfl rfl (nT (decide_eq_false c33))) ?_
        refine DRn (l1 := []) (l2 := [8]) (lc := [9]) (by kernel_rfl) (by kernel_rfl) (by kernel_rfl) ?_
        refine Rn (Sx_ rfl rfl (wx rfl rfl rfl (nT (decide_eq_false c33))) rfl QSn) ?_
        refine Lc rfl ?_ LAn
        refine Lx (wx rfl rfl rfl (nT (decide_eq_false c33))) ?_
        refine DRn (l1 := []) (l2 := []) (lc := [10]) (by kernel_rfl) (by kernel_rfl) (by kernel_rfl) ?_
        refine Rn QSn ?_
        refine Lc rfl ?_ LAn
        refine Lx (wx rfl rfl rfl (nT (decide_eq_false c33))) ?_
        refine DRn (l1 := [11, 12, 13, 14, 15, 17, 18]) (l2 := []) (lc := [16]) (by kernel_rfl) (by kernel_rfl) (by kernel_rfl) ?_
        refine Rx rfl rfl (wx rfl rfl rfl (nT (decide_eq_false c33))) ?_
        refine Ry rfl rfl wn (ypt (v := .bool r29) (et rfl rfl) (nT (decide_eq_false c33)) (eqv hr9 rfl)) ?_
        refine Ry rfl rfl wn (ym (v := .bool r29) (et rfl rfl)) ?_
        refine Rx rfl rfl (wx rfl rfl rfl c49) ?_
        refine Rx rfl rfl (wx rfl rfl rfl c49) ?_
        refine Rx rfl rfl (wx rfl rfl rfl c49) ?_
        refine Rx rfl rfl (wx rfl rfl rfl c49) ?_
        refine Rn QSn ?_
        refine Lc rfl ?_ LAn
        refine Lx (wx rfl rfl rfl c49) ?_
        refine DRn (l1 := []) (l2 := [17, 18]) (lc := [19]) (by kernel_rfl) (by kernel_rfl) (by kernel_rfl) ?_
        refine Rn (Sx_ rfl rfl (wx rfl rfl rfl c49) rfl (Sx_ rfl rfl (wx rfl rfl rfl c49) rfl QSn)) ?_
        refine Lc rfl ?_ LAn
        refine Lx (wx rfl rfl rfl c49) ?_
        refine DRn (l1 := []) (l2 := []) (lc := [20]) (by kernel_rfl) (by kernel_rfl) (by kernel_rfl) ?_
        refine Rn QSn ?_
        refine Lc rfl ?_ LAn
        refine Lx (wx rfl rfl rfl c49) ?_
        refine DRn (l1 := [21, 22, 23, 24, 25, 27, 28]) (l2 := []) (lc := [26]) (by kernel_rfl) (by kernel_rfl) (by kernel_rfl) ?_
        refine Rx rfl rfl (wx rfl rfl rfl c49) ?_
        refine Ry rfl rfl wn (ypt (v := .bool r30) (et rfl rfl) c49 (eqv hr10 rfl)) ?_
        refine Ry rfl rfl wn (ym (v := .bool r30) (et rfl rfl)) ?_
        refine Rx rfl rfl (wx rfl rfl rfl c50) ?_
        refine Rx rfl rfl (wx rfl rfl rfl c50) ?_
        refine Rx rfl rfl (wx rfl rfl rfl c50) ?_
        refine Rx rfl rfl (wx rfl rfl rfl c50) ?_
        refine Rn QSn ?_
        refine Lc rfl ?_ LAn
        refine Lx (wx rfl rfl rfl c50) ?_
        refine DRn (l1 := []) (l2 := [27, 28]) (lc := [29]) (by kernel_rfl) (by kernel_rfl) (by kernel_rfl) ?_
        refine Rn (Sx_ rfl rfl (wx rfl rfl rfl c50) rfl (Sx_ rfl rfl (wx rfl rfl rfl c50) rfl QSn)) ?_
        refine Lc rfl ?_ LAn
        refine Lx (wx rfl rfl rfl c50) ?_
        refine DRz (l1 := [30, 31]) (l2 := []) (by kernel_rfl) (by kernel_rfl) ?_
        refine Rx rfl rfl (wx rfl rfl rfl c50) ?_
        refine Ry rfl rfl wn (ypt (v := .bool r31) (et rfl rfl) c50 (eqv hr11 rfl)) ?_
        refine Rn QSn ?_
        exact j2 _ _ ⟨e8_3, rfl, rfl, rfl, rfl, rfl, rfl, rfl, rfl, rfl, rfl, (hst.pk 10 [9, 8, 7, 6, 5, 4, 3, 2, 1, 0] rfl)⟩
    clear hst
    rintro f w ⟨e32_3, e32_7, e32_8, e32_9, e32_10, e32_11, e32_12, e32_13, e32_14, e32_15, e32_82, hst⟩
    refine k11 _ _ ?_
    rcases iteS hM with ⟨c51, hM⟩ | ⟨c51, hM⟩
    · refine condT (et rfl e32_82) c51 ?_
      refine seqQ fun Q12 k12 z12 => ?_
      refine wp_region_lit ?_
      refine Y wn rfl (ya (v := .bool false) rfl) ?_
      refine wpList_nil ?_
      refine k12 _ _ ?_
      refine wp_ret ?_
      refine z10 _ _ _ rfl ?_
      obtain rfl := someI hM
      exact hQ _ _ _ (fin1r Try.results7 ⟨rfl, rfl⟩ ⟨rfl, ((hst.pk 10 [] rfl).facts (allT allI))⟩)
    · refine condF (et rfl e32_82) (bfalse c51) ?_
      refine wp_skip ?_
      refine k10 _ _ ?_
      refine seqQ fun Q13 k13 z13 => ?_
      refine wp_region_lit ?_
      refine Y wn rfl (yLbs (us := [h16.v]) ST_27 (et rfl e32_8) hst (mtR (mtR (mtR mhR))) rfl rfl) ?_
      refine Y wn rfl (yLbs (us := [h19.v]) ST_27 (et rfl e32_10) hst (mtR (mtR (mtR (mtR (mtR mhR))))) rfl rfl) ?_
      obtain ⟨r52, gr52, hM⟩ := bs hM
      replace hst := hst.pk 3 [2, 0, 0] rfl
      replace hst := hst.fz
      replace hst := hst.pk 4 [3, 0, 0, 0] rfl
      replace hst := hst.fz
      refine Yc wn rfl (yCall FN_23 (a2 (et rfl rfl) (et rfl rfl))) (sparsekit_Graph_ok (hM := gr52) (hst := hst) (q1 := (mtF mhF)) (q2 := mhF)) ?_
      clear hst
      rintro _ w ⟨rfl, hst⟩
      refine ⟨_, rfl, ?_⟩
      refine Y wn rfl (ym (v := .bool r52) (et rfl rfl)) ?_
      refine joinW 4 (fun f w => f 3 = .pointer (some ⟨b6, 0, none⟩) ∧ f 7 = .pointer (some ⟨b14, 0, none⟩) ∧ f 12 = .pointer (some ⟨b23, 0, none⟩) ∧ f 13 = .int .i64 r21.2 ∧ f 14 = .pointer (some ⟨b26, 0, none⟩) ∧ f 15 = .int .i64 r24.2 ∧ f 90 = .bool (r52 && (decide (r15.2 = r18.2))) ∧ St w0 (imm (rS (rI .i64)) h13.v r12 :: ros) (box b6 27 [h2.v] :: box b14 27 [h13.v] :: row 22 (rS (rI .i64)) h22.v r21.1 :: box b23 27 [h22.v] :: row 22 (rS (rI .i64)) h25.v r24.1 :: box b26 27 [h25.v] :: rs) w) (fun j12 => ?_) ?_
      · rcases Bool.eq_false_or_eq_true (r52) with c54 | c54
        · refine Y (wg rfl rfl rfl c54) rfl (ym (v := .int .i64 r15.2) (et rfl e32_9)) ?_
          refine Y (wg rfl rfl rfl c54) rfl (ym (v := .int .i64 r18.2) (et rfl e32_11)) ?_
          refine Y (wg rfl rfl rfl c54) rfl (yeql (et rfl rfl) (et rfl rfl)) ?_
          refine Y wn rfl (ypt (v := .bool (decide (r15.2 = r18.2))) (et rfl rfl) c54 (et rfl rfl)) ?_
          exact j12 _ _ ⟨e32_3, e32_7, e32_12, e32_13, e32_14, e32_15, (congrArg Value.bool (andT c54)), ((hst.pk 8 [0, 0, 2, 2, 2, 2] rfl).facts (allC (mtF (mtF mhF)) (allT (allT (allT allI)))))⟩
        · refine Gn (wx rfl rfl rfl c54) rfl ?_
          refine Gn (wx rfl rfl rfl c54) rfl ?_
          refine Gn (wx rfl rfl rfl c54) rfl ?_
          refine Y wn rfl (ypf (v := .bool false) (et rfl rfl) c54 rfl) ?_
          exact j12 _ _ ⟨e32_3, e32_7, e32_12, e32_13, e32_14, e32_15, (congrArg Value.bool (andF c54)), ((hst.pk 8 [0, 0, 2, 2, 2, 2] rfl).facts (allC (mtF (mtF mhF)) (allT (allT (allT allI)))))⟩
      clear hst
      rintro f w ⟨e53_3, e53_7, e53_12, e53_13, e53_14, e53_15, e53_90, hst⟩
      refine Y wn rfl (ym (v := .bool (r52 && (decide (r15.2 = r18.2)))) (et rfl e53_90)) ?_
      obtain ⟨r56, gr56, hM⟩ := bs hM
      refine joinW 4 (fun f w => f 3 = .pointer (some ⟨b6, 0, none⟩) ∧ f 7 = .pointer (some ⟨b14, 0, none⟩) ∧ f 13 = .int .i64 r21.2 ∧ f 15 = .int .i64 r24.2 ∧ f 95 = .bool r56 ∧ St w0 (imm (rS (rI .i64)) h13.v r12 :: ros) (box b6 27 [h2.v] :: box b14 27 [h13.v] :: rs) w) (fun j13 => ?_) ?_
      · rcases iteS gr56 with ⟨c58, gr56⟩ | ⟨c58, gr56⟩
        · refine Y (wg rfl rfl rfl c58) rfl (yLbs (us := [h22.v]) ST_27 (et rfl e53_12) hst (mtR (mtR (mtR mhR))) rfl rfl) ?_
          refine Y (wg rfl rfl rfl c58) rfl (yLbs (us := [h25.v]) ST_27 (et rfl e53_14) hst (mtR (mtR (mtR (mtR (mtR mhR))))) rfl rfl) ?_
          obtain ⟨r59, gr59, gr56⟩ := bs gr56
          replace hst := hst.pk 3 [2, 0, 0] rfl
          replace hst := hst.fz
          replace hst := hst.pk 4 [3, 0, 0, 0] rfl
          replace hst := hst.fz
          refine Yc (wg rfl rfl rfl c58) rfl (yCall FN_23 (a2 (et rfl rfl) (et rfl rfl))) (sparsekit_Graph_ok (hM := gr59) (hst := hst) (q1 := (mtF mhF)) (q2 := mhF)) ?_
          clear hst
          rintro _ w ⟨rfl, hst⟩
          refine ⟨_, rfl, ?_⟩
          refine Y wn rfl (ypt (v := .bool r59) (et rfl rfl) c58 (et rfl rfl)) ?_
          obtain rfl := someI gr56
          exact j13 _ _ ⟨e53_3, e53_7, e53_13, e53_15, rfl, ((hst.pk 4 [0, 0] rfl).facts (allC (mtF (mtF mhF)) (allT (allT (allT allI)))))⟩
        · refine Gn (wx rfl rfl rfl (bfalse c58)) rfl ?_
          refine Gn (wx rfl rfl rfl (bfalse c58)) rfl ?_
          refine Gn (wx rfl rfl rfl (bfalse c58)) rfl ?_
          refine Y wn rfl (ypf (v := .bool false) (et rfl rfl) (bfalse c58) rfl) ?_
          obtain rfl := someI gr56
          exact j13 _ _ ⟨e53_3, e53_7, e53_13, e53_15, rfl, (hst.pk 6 [0, 0] rfl)⟩
      clear hst
      rintro f w ⟨e57_3, e57_7, e57_13, e57_15, e57_95, hst⟩
      refine Y wn rfl (ym (v := .bool r56) (et rfl e57_95)) ?_
      refine joinW 4 (fun f w => f 3 = .pointer (some ⟨b6, 0, none⟩) ∧ f 7 = .pointer (some ⟨b14, 0, none⟩) ∧ f 100 = .bool (r56 && (decide (r21.2 = r24.2))) ∧ St w0 (imm (rS (rI .i64)) h13.v r12 :: ros) (box b6 27 [h2.v] :: box b14 27 [h13.v] :: rs) w) (fun j14 => ?_) ?_
      · rcases Bool.eq_false_or_eq_true (r56) with c61 | c61
        · refine Y (wg rfl rfl rfl c61) rfl (ym (v := .int .i64 r21.2) (et rfl e57_13)) ?_
          refine Y (wg rfl rfl rfl c61) rfl (ym (v := .int .i64 r24.2) (et rfl e57_15)) ?_
          refine Y (wg rfl rfl rfl c61) rfl (yeql (et rfl rfl) (et rfl rfl)) ?_
          refine Y wn rfl (ypt (v := .bool (decide (r21.2 = r24.2))) (et rfl rfl) c61 (et rfl rfl)) ?_
          exact j14 _ _ ⟨e57_3, e57_7, (congrArg Value.bool (andT c61)), hst⟩
        · refine Gn (wx rfl rfl rfl c61) rfl ?_
          refine Gn (wx rfl rfl rfl c61) rfl ?_
          refine Gn (wx rfl rfl rfl c61) rfl ?_
          refine Y wn rfl (ypf (v := .bool false) (et rfl rfl) c61 rfl) ?_
          exact j14 _ _ ⟨e57_3, e57_7, (congrArg Value.bool (andF c61)), hst⟩
      clear hst
      rintro f w ⟨e60_3, e60_7, e60_100, hst⟩
      refine Y wn rfl (ym (v := .bool (r56 && (decide (r21.2 = r24.2)))) (et rfl e60_100)) ?_
      obtain ⟨r63, gr63, hM⟩ := bs hM
      refine joinW 4 (fun f w => f 105 = .bool r63 ∧ St w0 (ros) (rs) w) (fun j15 => ?_) ?_
      · rcases iteS gr63 with ⟨c65, gr63⟩ | ⟨c65, gr63⟩
        · refine Y (wg rfl rfl rfl c65) rfl (yLbs (us := [h13.v]) ST_27 (et rfl e60_7) hst (mtR mhR) rfl rfl) ?_
          refine Y (wg rfl rfl rfl c65) rfl (yLbs (us := [h2.v]) ST_27 (et rfl e60_3) hst mhR rfl rfl) ?_
          obtain ⟨r66, gr66, gr63⟩ := bs gr63
          refine Yc (wg rfl rfl rfl c65) rfl (yCall FN_23 (a2 (et rfl rfl) (et rfl rfl))) (sparsekit_Graph_ok (hM := gr66) (hst := hst) (q1 := mhF) (q2 := (mtF q1))) ?_
          clear hst
          rintro _ w ⟨rfl, hst⟩
          refine ⟨_, rfl, ?_⟩
          refine Y wn rfl (ypt (v := .bool r66) (et rfl rfl) c65 (et rfl rfl)) ?_
          obtain rfl := someI gr63
          exact j15 _ _ ⟨rfl, ((hst.pk 2 [] rfl).facts (allT allI))⟩
        · refine Gn (wx rfl rfl rfl (bfalse c65)) rfl ?_
          refine Gn (wx rfl rfl rfl (bfalse c65)) rfl ?_
          refine Gn (wx rfl rfl rfl (bfalse c65)) rfl ?_
          refine Y wn rfl (ypf (v := .bool false) (et rfl rfl) (bfalse c65) rfl) ?_
          obtain rfl := someI gr63
          exact j15 _ _ ⟨rfl, ((hst.pk 2 [] rfl).facts (allT allI))⟩
      clear hst
      rintro f w ⟨e64_105, hst⟩
      refine Y wn rfl (ym (v := .bool r63) (et rfl e64_105)) ?_
      obtain ⟨r68, gr68, hM⟩ := bs hM
      refine joinW 2 (fun f w => f 108 = .bool r68 ∧ St w0 (ros) (rs) w) (fun j16 => ?_) ?_
      · rcases iteS gr68 with ⟨c70, gr68⟩ | ⟨c70, gr68⟩
        · obtain ⟨r71, gr71, gr68⟩ := bs gr68
          refine Yc (wg rfl rfl rfl c70) rfl (yCall FN_9 a0) (sparselaw12_awake_ok (hM := gr71) (hst := hst) ) ?_
          clear hst
          rintro _ w ⟨rfl, hst⟩
          refine ⟨_, rfl, ?_⟩
          refine Y wn rfl (ypt (v := .bool r71) (et rfl rfl) c70 (et rfl rfl)) ?_
          obtain rfl := someI gr68
          exact j16 _ _ ⟨rfl, hst⟩
        · refine Gn (wx rfl rfl rfl (bfalse c70)) rfl ?_
          refine Y wn rfl (ypf (v := .bool false) (et rfl rfl) (bfalse c70) rfl) ?_
          obtain rfl := someI gr68
          exact j16 _ _ ⟨rfl, hst⟩
      clear hst
      rintro f w ⟨e69_108, hst⟩
      refine Y wn rfl (ya (v := .bool r68) (et rfl e69_108)) ?_
      refine wpList_nil ?_
      refine k13 _ _ ?_
      refine wp_ret ?_
      obtain rfl := someI hM
      exact hQ _ _ _ (fin1r Try.results7 ⟨rfl, rfl⟩ ⟨rfl, hst⟩)
end Go.Proofs.Ytcknmegldjnjjaa
