/- Walks: each function computes its model, printed. -/
import Derived.Test.YthpeajepbffinaaW3
namespace Go.Proofs.Ythpeajepbffinaa
open Go Sx M
set_option maxRecDepth 100000
set_option maxHeartbeats 4000000
set_option linter.unusedVariables false
attribute [local irreducible] wpList Code.wp Calls DR QR QS LA LS St
theorem sparsekit_Place_ok {w0 : World} {ros : List Fact} {rs : List Res} {w : World} {x1 : Int} {x2 : Int} {out : Int} (hM : sparsekit_Place x1 x2 = some out) (hst : St w0 ros (rs) w) :
    Calls Try.prog 8 #[.int .i64 x1, .int .i64 x2] w (fun e w => e = .returned (.int .i64 out) ∧ St w0 (ros) (rs) w) := by
  refine enterQ Try.func8 rfl Try.ntmps8 rfl fun Q hQ => ?_
  refine seqQ fun Q1 k1 z1 => ?_
  refine wp_region_lit ?_
  refine Y wn rfl (ya (v := .int .i64 0) rfl) ?_
  refine wpList_nil ?_
  refine k1 _ _ ?_
  refine seqQ fun Q2 k2 z2 => ?_
  refine wp_region_lit ?_
  refine Y wn rfl (ym (v := .int .i64 x1) (et rfl rfl)) ?_
  refine Y wn rfl (ycv (k' := .u64) (by kernel_rfl) (by kernel_rfl) (et rfl rfl)) ?_
  refine Y wn rfl (ym (v := .int .i64 x2) (et rfl rfl)) ?_
  refine Y wn rfl (ycv (k' := .u64) (by kernel_rfl) (by kernel_rfl) (et rfl rfl)) ?_
  obtain ⟨x3, gx3, hM⟩ := bs hM
  refine Y wn rfl (yrem (et rfl rfl) (et rfl rfl) gx3) ?_
  refine Y wn rfl (ycv (k' := .i64) (by kernel_rfl) (by kernel_rfl) (et rfl rfl)) ?_
  refine Y wn rfl (ya (v := .int .i64 (wc .i64 x3)) (et rfl rfl)) ?_
  refine wpList_nil ?_
  refine k2 _ _ ?_
  refine wp_ret ?_
  obtain rfl := someI hM
  exact hQ _ _ _ (fin1r Try.results8 ⟨rfl, rfl⟩ ⟨rfl, hst⟩)

theorem sparseref12_FromTable_ok {w0 : World} {ros : List Fact} {rs : List Res} {w : World} {x1 : List (List Bool)} {h2 : Hdr} {out : (List (List Int))} (hM : sparseref12_FromTable x1 = some out) (q1 : imm (rS rB) h2.v x1 ∈ ros) (hst : St w0 ros (rs) w) :
    Calls Try.prog 29 #[h2.v] w (fun e w => ∃ (h100001 : Hdr), e = .returned (.agg #[h100001.v]) ∧ St w0 (ros) (row 22 (rS (rI .i64)) h100001.v out :: rs) w) := by
  refine enterQ Try.func29 rfl Try.ntmps29 rfl fun Q hQ => ?_
  refine seqQ fun Q1 k1 z1 => ?_
  refine wp_region_lit ?_
  refine YB wn rfl (rAl hst ZT_27) ?_
  clear hst
  intro b3 w hst
  refine wpList_nil ?_
  refine k1 _ _ ?_
  refine seqQ fun Q2 k2 z2 => ?_
  refine wp_region_lit ?_
  refine YB wn rfl (rAl hst ZT_27) ?_
  clear hst
  intro b4 w hst
  refine wpList_nil ?_
  refine k2 _ _ ?_
  refine seqQ fun Q3 k3 z3 => ?_
  refine seqQ fun Q4 k4 z4 => ?_
  refine wp_region_lit ?_
  refine Y wn rfl (ya (v := .int .i64 0) rfl) ?_
  refine wpList_nil ?_
  refine k4 _ _ ?_
  refine blockQ fun Q5 qb5 => ?_
  obtain ⟨o27, go27, hM⟩ := bs hM
  have je27_0 : ∀ (x258 : List (List Int)) (h257 : Hdr) (f : Nat → Value) (w : World), f 2 = .pointer (some ⟨b3, 0, none⟩) → f 3 = .pointer (some ⟨b4, 0, none⟩) → St w0 (ros) (box b3 27 [hnil.v] :: row 22 (rS (rI .i64)) h257.v x258 :: box b4 27 [h257.v] :: rs) w → x258 = o27 → Q5 (.exit 0) (fr 51 f) w := by
    intro x258 h257 f w eje27_0_2 eje27_0_3 hst ho
    subst ho
    refine qb5 _ _ _ ?_
    refine k3 _ _ ?_
    refine seqQ fun Q52 k52 z52 => ?_
    refine wp_region_lit ?_
    refine Y wn rfl (yLbs (us := [h257.v]) ST_27 (et rfl eje27_0_3) hst (mtR (mtR mhR)) rfl rfl) ?_
    refine YT wn rfl (r_stbn (vals' := [h257.v]) (us := [h257.v]) hst ST_27 (et rfl eje27_0_2) (et rfl rfl) rfl rfl (one_of rfl) rfl) ?_
    clear hst
    intro w hst
    refine wpList_nil ?_
    refine k52 _ _ ?_
    refine wp_ret ?_
    obtain rfl := someI hM
    exact hQ _ _ _ (fin1r Try.results29 (rcs2 rfl eje27_0_2 hst mhR ST_27 rfl) ⟨_, rfl, (hst.pk 3 [1] rfl)⟩)
  replace hst := hst.rowNh 22 (rS (rI .i64))
  refine loopQ (fun s a w => ∃ (x129 : List (List Int)) (x130 : Int) (f : Nat → Value) (h128 : Hdr), (x129, x130) = s ∧ a = fr 51 f ∧ f 0 = h2.v ∧ f 2 = .pointer (some ⟨b3, 0, none⟩) ∧ f 3 = .pointer (some ⟨b4, 0, none⟩) ∧ f 4 = .int .i64 x130 ∧ St w0 (ros) (box b3 27 [hnil.v] :: row 22 (rS (rI .i64)) h128.v x129 :: box b4 27 [h128.v] :: rs) w) go27 ⟨_, _, _, _, rfl, rfl, rfl, rfl, rfl, rfl, (hst.pk 3 [2, 0, 0] rfl)⟩ ?_
  clear hst
  rintro _ _ w r27_ ⟨x129, x130, f, h128, rfl, rfl, e27_0, e27_2, e27_3, e27_4, hst⟩ hM27 ho27 Q100027 n27 zz27
  refine seqQ fun Q53 k53 z53 => ?_
  refine seqQ fun Q54 k54 z54 => ?_
  refine wp_region_lit ?_
  refine Y wn rfl (ym (v := .int .i64 x130) (et rfl e27_4)) ?_
  refine Y wn rfl (ym (v := h2.v) (et rfl e27_0)) ?_
  refine Y wn rfl (yLen SL_66 (et rfl rfl) hst (rdI q1)) ?_
  refine Y wn rfl (ylss (et rfl rfl) (et rfl rfl)) ?_
  refine wpList_nil ?_
  refine k54 _ _ ?_
  rcases iteS hM27 with ⟨c259, hM27⟩ | ⟨c259, hM27⟩
  · refine condT (et rfl rfl) (decide_eq_true c259) ?_
    refine wp_skip ?_
    refine k53 _ _ ?_
    refine seqQ fun Q55 k55 z55 => ?_
    refine blockQ fun Q56 qb56 => ?_
    refine seqQ fun Q57 k57 z57 => ?_
    refine wp_region_lit ?_
    refine Y wn rfl (ya (v := hnil.v) rfl) ?_
    refine wpList_nil ?_
    refine k57 _ _ ?_
    refine seqQ fun Q58 k58 z58 => ?_
    refine seqQ fun Q59 k59 z59 => ?_
    refine wp_region_lit ?_
    refine Y wn rfl (ya (v := .int .i64 0) rfl) ?_
    refine wpList_nil ?_
    refine k59 _ _ ?_
    refine blockQ fun Q60 qb60 => ?_
    obtain ⟨o36, go36, hM27⟩ := bs hM27
    have je36_0 : ∀ (x341 : List Int) (h340 : Hdr) (f : Nat → Value) (w : World), f 0 = h2.v → f 2 = .pointer (some ⟨b3, 0, none⟩) → f 3 = .pointer (some ⟨b4, 0, none⟩) → f 4 = .int .i64 x130 → f 5 = h340.v → St w0 (ros) (box b3 27 [hnil.v] :: row 22 (rS (rI .i64)) h128.v x129 :: box b4 27 [h128.v] :: row 3 (rI .i64) h340.v x341 :: rs) w → x341 = o36 → Q60 (.exit 2) (fr 51 f) w := by
      intro x341 h340 f w eje36_0_0 eje36_0_2 eje36_0_3 eje36_0_4 eje36_0_5 hst ho
      subst ho
      refine qb60 _ _ _ ?_
      refine k58 _ _ ?_
      refine wp_region_lit ?_
      refine Y wn rfl (yFb FL_27_0 (et rfl eje36_0_3)) ?_
      refine Y wn rfl (yLb (u := h128.v) O_25 (et rfl rfl) hst (mtR (mtR mhR)) rfl) ?_
      refine Y wn rfl (ym (v := h340.v) (et rfl eje36_0_5)) ?_
      replace hst := hst.pk 4 [3, 0, 0, 0] rfl
      replace hst := hst.fz
      refine YH wn rfl (rLt (n := 1) (l := [x341]) hst SL_25 [h340.v] (bp1 (et rfl rfl)) rfl rfl (mks1 (cs := [h340.v]) rfl (mkS mhF) mks0)) ?_
      clear hst
      intro h342 w hst
      obtain ⟨x344, gx344, hM27⟩ := bs hM27
      replace hst := hst.pk 3 [2, 0, 0] rfl
      refine YH wn rfl (rAp hst SL_25 (et rfl rfl) (et rfl rfl) (rdO (mtR mhR)) gx344) ?_
      clear hst
      intro h343 w hst
      refine Y wn rfl (yFb FL_27_0 (et rfl eje36_0_3)) ?_
      replace hst := hst.pk 4 [3, 0, 0, 0] rfl
      refine YT wn rfl (r_stb1 (vals' := [h343.v]) hst O_25 (et rfl rfl) (et rfl rfl) rfl rfl rfl rfl) ?_
      clear hst
      intro w hst
      refine wpList_nil ?_
      refine qb56 _ _ _ ?_
      refine k55 _ _ ?_
      refine wp_region_lit ?_
      refine Y wn rfl (ym (v := .int .i64 x130) (et rfl eje36_0_4)) ?_
      refine Y wn rfl (yadd (et rfl rfl) rfl) ?_
      refine Y wn rfl (ya (v := .int .i64 (wa .i64 x130 1)) (et rfl rfl)) ?_
      refine wpList_nil ?_
      obtain rfl := someI hM27
      exact n27 _ _ _ rfl ⟨_, _, _, _, rfl, rfl, eje36_0_0, eje36_0_2, eje36_0_3, rfl, ((hst.pk 4 [3, 1, 0] rfl).facts (allT allI))⟩
    replace hst := hst.rowNh 3 (rI .i64)
    refine loopQ (fun s a w => ∃ (x298 : List Int) (x299 : Int) (f : Nat → Value) (h297 : Hdr), (x298, x299) = s ∧ a = fr 51 f ∧ f 0 = h2.v ∧ f 2 = .pointer (some ⟨b3, 0, none⟩) ∧ f 3 = .pointer (some ⟨b4, 0, none⟩) ∧ f 4 = .int .i64 x130 ∧ f 5 = h297.v ∧ f 6 = .int .i64 x299 ∧ St w0 (ros) (box b3 27 [hnil.v] :: row 22 (rS (rI .i64)) h128.v x129 :: box b4 27 [h128.v] :: row 3 (rI .i64) h297.v x298 :: rs) w) go36 ⟨_, _, _, _, rfl, rfl, e27_0, e27_2, e27_3, e27_4, rfl, rfl, (hst.pk 4 [1, 1, 1, 0] rfl)⟩ ?_
    clear hst
    rintro _ _ w r36_ ⟨x298, x299, f, h297, rfl, rfl, e36_0, e36_2, e36_3, e36_4, e36_5, e36_6, hst⟩ hM36 ho36 Q100036 n36 zz36
    refine seqQ fun Q71 k71 z71 => ?_
    refine seqQ fun Q72 k72 z72 => ?_
    refine wp_region_lit ?_
    refine Y wn rfl (ym (v := .int .i64 x299) (et rfl e36_6)) ?_
    refine Y wn rfl (ym (v := h2.v) (et rfl e36_0)) ?_
    refine Y wn rfl (yLen SL_66 (et rfl rfl) hst (rdI q1)) ?_
    refine Y wn rfl (ylss (et rfl rfl) (et rfl rfl)) ?_
    refine wpList_nil ?_
    refine k72 _ _ ?_
    rcases iteS hM36 with ⟨c345, hM36⟩ | ⟨c345, hM36⟩
    · refine condT (et rfl rfl) (decide_eq_true c345) ?_
      refine wp_skip ?_
      refine k71 _ _ ?_
      refine seqQ fun Q73 k73 z73 => ?_
      refine blockQ fun Q74 qb74 => ?_
      refine seqQ fun Q75 k75 z75 => ?_
      refine wp_region_lit ?_
      refine Y wn rfl (ym (v := .int .i64 x130) (et rfl e36_4)) ?_
      refine Y wn rfl (ym (v := .int .i64 x299) (et rfl e36_6)) ?_
      refine Y wn rfl (yneq (et rfl rfl) (et rfl rfl)) ?_
      refine Y wn rfl (ym (v := .bool (!(decide (x130 = x299)))) (et rfl rfl)) ?_
      obtain ⟨r358, gr358, hM36⟩ := bs hM36
      refine joinW 17 (fun f w => f 0 = h2.v ∧ f 2 = .pointer (some ⟨b3, 0, none⟩) ∧ f 3 = .pointer (some ⟨b4, 0, none⟩) ∧ f 4 = .int .i64 x130 ∧ f 5 = h297.v ∧ f 6 = .int .i64 x299 ∧ f 39 = .bool r358 ∧ St w0 (ros) (box b3 27 [hnil.v] :: row 22 (rS (rI .i64)) h128.v x129 :: box b4 27 [h128.v] :: row 3 (rI .i64) h297.v x298 :: rs) w) (fun j38 => ?_) ?_
      · rcases iteS gr358 with ⟨c360, gr358⟩ | ⟨c360, gr358⟩
        · refine Gn (wx rfl rfl rfl (nF (decide_eq_true c360))) rfl ?_
          refine Gn (wx rfl rfl rfl (nF (decide_eq_true c360))) rfl ?_
          refine Gn (wx rfl rfl rfl (nF (decide_eq_true c360))) rfl ?_
          refine Gn (wx rfl rfl rfl (nF (decide_eq_true c360))) rfl ?_
          refine Gn (wx rfl rfl rfl (nF (decide_eq_true c360))) rfl ?_
          refine Gn (wx rfl rfl rfl (nF (decide_eq_true c360))) rfl ?_
          refine Gn (wx rfl rfl rfl (nF (decide_eq_true c360))) rfl ?_
          refine Gn (wx rfl rfl rfl (nF (decide_eq_true c360))) rfl ?_
          refine Gn (wxu rfl rfl rfl) rfl ?_
          refine Gn (wxu rfl rfl rfl) rfl ?_
          refine Gn (wxu rfl rfl rfl) rfl ?_
          refine Gn (wxu rfl rfl rfl) rfl ?_
          refine Gn (wxu rfl rfl rfl) rfl ?_
          refine Gn (wxu rfl rfl rfl) rfl ?_
          refine Gn (wxu rfl rfl rfl) rfl ?_
          refine Gn (wx rfl rfl rfl (nF (decide_eq_true c360))) rfl ?_
          refine Y wn rfl (ypf (v := .bool false) (et rfl rfl) (nF (decide_eq_true c360)) rfl) ?_
          obtain rfl := someI gr358
          exact j38 _ _ ⟨e36_0, e36_2, e36_3, e36_4, e36_5, e36_6, rfl, hst⟩
        · refine Y (wg rfl rfl rfl (nT (decide_eq_false c360))) rfl (ym (v := h2.v) (et rfl e36_0)) ?_
          refine Y (wg rfl rfl rfl (nT (decide_eq_false c360))) rfl (ym (v := .int .i64 x130) (et rfl e36_4)) ?_
          obtain ⟨x361, gx361, gr358⟩ := bs gr358
          refine Y (wg rfl rfl rfl (nT (decide_eq_false c360))) rfl (yIa SL_66 (et rfl rfl) (et rfl rfl) hst (rdI q1) gx361) ?_
          obtain ⟨h362, hst⟩ := iLs hst q1 gx361
          refine Y (wg rfl rfl rfl (nT (decide_eq_false c360))) rfl (yCt O_67 (et rfl rfl) hst (mtF mhF) rfl) ?_
          refine Y (wg rfl rfl rfl (nT (decide_eq_false c360))) rfl (ym (v := .int .i64 x299) (et rfl e36_6)) ?_
          obtain ⟨x363, gx363, gr358⟩ := bs gr358
          refine Y (wg rfl rfl rfl (nT (decide_eq_false c360))) rfl (yIa SL_67 (et rfl rfl) (et rfl rfl) hst (rdI mhF) gx363) ?_
          refine Y (wg rfl rfl rfl (nT (decide_eq_false c360))) rfl (yB O_4 (et rfl rfl) hst (rdI mhF) gx363) ?_
          refine Y (wg rfl rfl rfl (nT (decide_eq_false c360))) rfl (ym (v := .bool x363) (et rfl rfl)) ?_
          obtain ⟨r367, gr367, gr358⟩ := bs gr358
          refine joinW 8 (fun f w => f 0 = h2.v ∧ f 2 = .pointer (some ⟨b3, 0, none⟩) ∧ f 3 = .pointer (some ⟨b4, 0, none⟩) ∧ f 4 = .int .i64 x130 ∧ f 5 = h297.v ∧ f 6 = .int .i64 x299 ∧ f 22 = .bool (!(decide (x130 = x299))) ∧ f 23 = h2.v ∧ f 24 = .int .i64 x130 ∧ f 26 = h362.v ∧ f 27 = .int .i64 x299 ∧ f 29 = .bool x363 ∧ f 30 = .bool x363 ∧ f 38 = .bool r367 ∧ St w0 (imm rB h362.v x361 :: ros) (box b3 27 [hnil.v] :: row 22 (rS (rI .i64)) h128.v x129 :: box b4 27 [h128.v] :: row 3 (rI .i64) h297.v x298 :: rs) w) (fun j39 => ?_) ?_
          · rcases iteS gr367 with ⟨c369, gr367⟩ | ⟨c369, gr367⟩
            · refine Gn (wx rfl rfl rfl c369) rfl ?_
              refine Gn (wx rfl rfl rfl c369) rfl ?_
              refine Gn (wx rfl rfl rfl c369) rfl ?_
              refine Gn (wx rfl rfl rfl c369) rfl ?_
              refine Gn (wx rfl rfl rfl c369) rfl ?_
              refine Gn (wx rfl rfl rfl c369) rfl ?_
              refine Gn (wx rfl rfl rfl c369) rfl ?_
              refine Y (wg rfl rfl rfl (nT (decide_eq_false c360))) rfl (ypt (v := .bool true) (et rfl rfl) c369 rfl) ?_
              obtain rfl := someI gr367
              exact j39 _ _ ⟨e36_0, e36_2, e36_3, e36_4, e36_5, e36_6, rfl, rfl, rfl, rfl, rfl, rfl, rfl, rfl, (hst.facts (allC mhF (allT (allT allI))))⟩
            · refine Y (wg rfl rfl rfl (bfalse c369)) rfl (ym (v := h2.v) (et rfl e36_0)) ?_
              refine Y (wg rfl rfl rfl (bfalse c369)) rfl (ym (v := .int .i64 x299) (et rfl e36_6)) ?_
              obtain ⟨x370, gx370, gr367⟩ := bs gr367
              refine Y (wg rfl rfl rfl (bfalse c369)) rfl (yIa SL_66 (et rfl rfl) (et rfl rfl) hst (rdI (mtF (mtF q1))) gx370) ?_
              obtain ⟨h371, hst⟩ := iLs hst (mtF (mtF q1)) gx370
              refine Y (wg rfl rfl rfl (bfalse c369)) rfl (yCt O_67 (et rfl rfl) hst (mtF mhF) rfl) ?_
              refine Y (wg rfl rfl rfl (bfalse c369)) rfl (ym (v := .int .i64 x130) (et rfl e36_4)) ?_
              obtain ⟨x372, gx372, gr367⟩ := bs gr367
              refine Y (wg rfl rfl rfl (bfalse c369)) rfl (yIa SL_67 (et rfl rfl) (et rfl rfl) hst (rdI mhF) gx372) ?_
              refine Y (wg rfl rfl rfl (bfalse c369)) rfl (yB O_4 (et rfl rfl) hst (rdI mhF) gx372) ?_
              refine Y (wg rfl rfl rfl (nT (decide_eq_false c360))) rfl (ypf (v := .bool x372) (et rfl rfl) (bfalse c369) (et rfl rfl)) ?_
              obtain rfl := someI gr367
              exact j39 _ _ ⟨e36_0, e36_2, e36_3, e36_4, e36_5, e36_6, rfl, rfl, rfl, rfl, rfl, rfl, rfl, rfl, (hst.facts (allC (mtF (mtF mhF)) (allT (allT (allT (allT allI))))))⟩
          clear hst
          rintro f w ⟨e368_0, e368_2, e368_3, e368_4, e368_5, e368_6, e368_22, e368_23, e368_24, e368_26, e368_27, e368_29, e368_30, e368_38, hst⟩
          refine Y wn rfl (ypt (v := .bool r367) (et rfl e368_22) (nT (decide_eq_false c360)) (et rfl e368_38)) ?_
          obtain rfl := someI gr358
          exact j38 _ _ ⟨e368_0, e368_2, e368_3, e368_4, e368_5, e368_6, rfl, (hst.facts (allT allI))⟩
      clear hst
      rintro f w ⟨e359_0, e359_2, e359_3, e359_4, e359_5, e359_6, e359_39, hst⟩
      refine wpList_nil ?_
      refine k75 _ _ ?_
      have j40 : ∀ (x377 : List Int) (h376 : Hdr) (f : Nat → Value) (w : World), f 0 = h2.v → f 2 = .pointer (some ⟨b3, 0, none⟩) → f 3 = .pointer (some ⟨b4, 0, none⟩) → f 4 = .int .i64 x130 → f 5 = h376.v → f 6 = .int .i64 x299 → St w0 (ros) (box b3 27 [hnil.v] :: row 22 (rS (rI .i64)) h128.v x129 :: box b4 27 [h128.v] :: row 3 (rI .i64) h376.v x377 :: rs) w → sparseref12_FromTable_j40 x299 x377 = some r36_ → Q74 .normal (fr 51 f) w := by
        intro x377 h376 f w ej40_0 ej40_2 ej40_3 ej40_4 ej40_5 ej40_6 hst hM
        refine qb74 _ _ _ ?_
        refine k73 _ _ ?_
        refine wp_region_lit ?_
        refine Y wn rfl (ym (v := .int .i64 x299) (et rfl ej40_6)) ?_
        refine Y wn rfl (yadd (et rfl rfl) rfl) ?_
        refine Y wn rfl (ya (v := .int .i64 (wa .i64 x299 1)) (et rfl rfl)) ?_
        refine wpList_nil ?_
        obtain rfl := someI hM
        exact n36 _ _ _ rfl ⟨_, _, _, _, rfl, rfl, ej40_0, ej40_2, ej40_3, ej40_4, ej40_5, rfl, hst⟩
      rcases iteS hM36 with ⟨c378, hM36⟩ | ⟨c378, hM36⟩
      · refine condT (et rfl e359_39) c378 ?_
        refine wp_region_lit ?_
        refine Y wn rfl (ym (v := h297.v) (et rfl e359_5)) ?_
        refine Y wn rfl (ym (v := .int .i64 x299) (et rfl e359_6)) ?_
        refine YH wn rfl (rLt (n := 1) (l := [x299]) hst SL_22 [.int .i64 x299] (bp1 (et rfl rfl)) rfl rfl (mks1 (cs := [.int .i64 x299]) rfl mkI mks0)) ?_
        clear hst
        intro h379 w hst
        obtain ⟨x381, gx381, hM36⟩ := bs hM36
        replace hst := hst.pk 5 [4, 0, 0, 0, 0] rfl
        refine YH wn rfl (rAp hst SL_22 (et rfl rfl) (et rfl rfl) (rdO (mtR mhR)) gx381) ?_
        clear hst
        intro h380 w hst
        refine Y wn rfl (ya (v := h380.v) (et rfl rfl)) ?_
        refine wpList_nil ?_
        exact j40 _ _ _ _ e359_0 e359_2 e359_3 e359_4 rfl e359_6 (hst.pk 5 [2, 2, 2, 0] rfl) hM36
      · refine condF (et rfl e359_39) (bfalse c378) ?_
        refine wp_skip ?_
        exact j40 _ _ _ _ e359_0 e359_2 e359_3 e359_4 e359_5 e359_6 hst hM36
    · refine condF (et rfl rfl) (decide_eq_false c345) ?_
      refine wp_exit ?_
      refine z71 _ _ _ rfl ?_
      obtain rfl := someI hM36
      refine zz36 _ _ _ _ rfl rfl ?_
      exact je36_0 _ _ _ _ e36_0 e36_2 e36_3 e36_4 e36_5 hst (ho36 _ rfl)
  · refine condF (et rfl rfl) (decide_eq_false c259) ?_
    refine wp_exit ?_
    refine z53 _ _ _ rfl ?_
    obtain rfl := someI hM27
    refine zz27 _ _ _ _ rfl rfl ?_
    exact je27_0 _ _ _ _ e27_2 e27_3 hst (ho27 _ rfl)

theorem sparsemake_Graph_ok {w0 : World} {ros : List Fact} {rs : List Res} {w : World} {x1 : Int} {x2 : List Int} {h3 : Hdr} {out : (List (List Int))} (hM : sparsemake_Graph x1 x2 = some out) (q1 : imm (rI .i64) h3.v x2 ∈ ros) (hst : St w0 ros (rs) w) :
    Calls Try.prog 12 #[.int .i64 x1, h3.v] w (fun e w => ∃ (h100001 : Hdr), e = .returned (.agg #[h100001.v]) ∧ St w0 (ros) (row 22 (rS (rI .i64)) h100001.v out :: rs) w) := by
  refine enterQ Try.func12 rfl Try.ntmps12 rfl fun Q hQ => ?_
  refine seqQ fun Q1 k1 z1 => ?_
  refine wp_region_lit ?_
  refine YB wn rfl (rAl hst ZT_27) ?_
  clear hst
  intro b4 w hst
  refine wpList_nil ?_
  refine k1 _ _ ?_
  refine seqQ fun Q2 k2 z2 => ?_
  refine wp_region_lit ?_
  refine Y wn rfl (ya (v := hnil.v) rfl) ?_
  refine wpList_nil ?_
  refine k2 _ _ ?_
  refine seqQ fun Q3 k3 z3 => ?_
  refine seqQ fun Q4 k4 z4 => ?_
  refine wp_region_lit ?_
  refine Y wn rfl (ya (v := .int .i64 0) rfl) ?_
  refine wpList_nil ?_
  refine k4 _ _ ?_
  refine blockQ fun Q5 qb5 => ?_
  obtain ⟨o1, go1, hM⟩ := bs hM
  have je1_0 : ∀ (x33 : List (List Bool)) (h31 : Hdr) (y32 : List Hdr) (f : Nat → Value) (w : World), f 0 = .int .i64 x1 → f 1 = h3.v → f 4 = .pointer (some ⟨b4, 0, none⟩) → f 5 = h31.v → St w0 (ros) (box b4 27 [hnil.v] :: row 67 rH h31.v y32 :: fam 4 rB y32 x33 :: rs) w → x33 = o1 → Q5 (.exit 0) (fr 48 f) w := by
    intro x33 h31 y32 f w eje1_0_0 eje1_0_1 eje1_0_4 eje1_0_5 hst ho
    subst ho
    refine qb5 _ _ _ ?_
    refine k3 _ _ ?_
    refine seqQ fun Q14 k14 z14 => ?_
    refine seqQ fun Q15 k15 z15 => ?_
    refine wp_region_lit ?_
    refine Y wn rfl (ya (v := .int .i64 0) rfl) ?_
    refine wpList_nil ?_
    refine k15 _ _ ?_
    refine blockQ fun Q16 qb16 => ?_
    obtain ⟨o4, go4, hM⟩ := bs hM
    have je4_0 : ∀ (x60 : List (List Bool)) (f : Nat → Value) (w : World), f 4 = .pointer (some ⟨b4, 0, none⟩) → f 5 = h31.v → St w0 (ros) (box b4 27 [hnil.v] :: row 67 rH h31.v y32 :: fam 4 rB y32 x60 :: rs) w → x60 = o4 → Q16 (.exit 2) (fr 48 f) w := by
      intro x60 f w eje4_0_4 eje4_0_5 hst ho
      subst ho
      refine qb16 _ _ _ ?_
      refine k14 _ _ ?_
      refine seqQ fun Q25 k25 z25 => ?_
      refine wp_region_lit ?_
      refine Y wn rfl (ym (v := h31.v) (et rfl eje4_0_5)) ?_
      obtain ⟨r61, gr61, hM⟩ := bs hM
      replace hst := hst.pk 3 [1, 1, 0] rfl
      replace hst := hst.ffz
      refine Yc wn rfl (yCall FN_29 (a1 (et rfl rfl))) (sparseref12_FromTable_ok (hM := gr61) (hst := hst) (q1 := mhF)) ?_
      clear hst
      rintro _ w ⟨h62, rfl, hst⟩
      refine ⟨_, rfl, ?_⟩
      replace hst := hst.pk 2 [1, 0] rfl
      refine YT wn rfl (r_stbn (vals' := [h62.v]) (us := [h62.v]) hst ST_27 (et rfl eje4_0_4) (et rfl rfl) rfl rfl (one_of rfl) rfl) ?_
      clear hst
      intro w hst
      refine wpList_nil ?_
      refine k25 _ _ ?_
      refine wp_ret ?_
      obtain rfl := someI hM
      exact hQ _ _ _ (fin1r Try.results12 (rcs2 rfl eje4_0_4 hst mhR ST_27 rfl) ⟨_, rfl, ((hst.pk 2 [1] rfl).facts (allT allI))⟩)
    refine loopQ (fun s a w => ∃ (x45 : List (List Bool)) (x46 : Int) (f : Nat → Value), (x45, x46) = s ∧ a = fr 48 f ∧ f 0 = .int .i64 x1 ∧ f 1 = h3.v ∧ f 4 = .pointer (some ⟨b4, 0, none⟩) ∧ f 5 = h31.v ∧ f 7 = .int .i64 x46 ∧ St w0 (ros) (box b4 27 [hnil.v] :: row 67 rH h31.v y32 :: fam 4 rB y32 x45 :: rs) w) go4 ⟨_, _, _, rfl, rfl, eje1_0_0, eje1_0_1, eje1_0_4, eje1_0_5, rfl, hst⟩ ?_
    clear hst
    rintro _ _ w r4_ ⟨x45, x46, f, rfl, rfl, e4_0, e4_1, e4_4, e4_5, e4_7, hst⟩ hM4 ho4 Q100004 n4 zz4
    refine seqQ fun Q26 k26 z26 => ?_
    refine seqQ fun Q27 k27 z27 => ?_
    refine wp_region_lit ?_
    refine Y wn rfl (ym (v := .int .i64 x46) (et rfl e4_7)) ?_
    refine Y wn rfl (yadd (et rfl rfl) rfl) ?_
    refine Y wn rfl (ym (v := h3.v) (et rfl e4_1)) ?_
    refine Y wn rfl (yLen SL_22 (et rfl rfl) hst (rdI q1)) ?_
    refine Y wn rfl (ylss (et rfl rfl) (et rfl rfl)) ?_
    refine Y wn rfl (ym (v := .bool (decide ((wa .i64 x46 1) < (x2.length : Int)))) (et rfl rfl)) ?_
    refine joinW 3 (fun f w => f 0 = .int .i64 x1 ∧ f 1 = h3.v ∧ f 4 = .pointer (some ⟨b4, 0, none⟩) ∧ f 5 = h31.v ∧ f 7 = .int .i64 x46 ∧ f 26 = .bool ((decide ((wa .i64 x46 1) < (x2.length : Int))) && (decide ((0 : Int) < x1))) ∧ St w0 (ros) (box b4 27 [hnil.v] :: row 67 rH h31.v y32 :: fam 4 rB y32 x45 :: rs) w) (fun j5 => ?_) ?_
    · rcases Bool.eq_false_or_eq_true (decide ((wa .i64 x46 1) < (x2.length : Int))) with c64 | c64
      · refine Y (wg rfl rfl rfl c64) rfl (ym (v := .int .i64 x1) (et rfl e4_0)) ?_
        refine Y (wg rfl rfl rfl c64) rfl (ygtr (et rfl rfl) rfl) ?_
        refine Y wn rfl (ypt (v := .bool (decide ((0 : Int) < x1))) (et rfl rfl) c64 (et rfl rfl)) ?_
        exact j5 _ _ ⟨e4_0, e4_1, e4_4, e4_5, e4_7, (congrArg Value.bool (andT c64)), hst⟩
      · refine Gn (wx rfl rfl rfl c64) rfl ?_
        refine Gn (wx rfl rfl rfl c64) rfl ?_
        refine Y wn rfl (ypf (v := .bool false) (et rfl rfl) c64 rfl) ?_
        exact j5 _ _ ⟨e4_0, e4_1, e4_4, e4_5, e4_7, (congrArg Value.bool (andF c64)), hst⟩
    clear hst
    rintro f w ⟨e63_0, e63_1, e63_4, e63_5, e63_7, e63_26, hst⟩
    refine wpList_nil ?_
    refine k27 _ _ ?_
    rcases iteS hM4 with ⟨c65, hM4⟩ | ⟨c65, hM4⟩
    · refine condT (et rfl e63_26) c65 ?_
      refine wp_skip ?_
      refine k26 _ _ ?_
      refine seqQ fun Q28 k28 z28 => ?_
      refine blockQ fun Q29 qb29 => ?_
      obtain ⟨x66, gx66, hM4⟩ := bs hM4
      obtain ⟨r67, gr67, hM4⟩ := bs hM4
      obtain ⟨x68, gx68, hM4⟩ := bs hM4
      obtain ⟨x70, gx70, hM4⟩ := bs hM4
      obtain ⟨r71, gr71, hM4⟩ := bs hM4
      obtain ⟨x72, gx72, hM4⟩ := bs hM4
      obtain ⟨x73, gx73, hM4⟩ := bs hM4
      refine wp_drawR [0, 0, 0, 6, 14, 0, 62, 127, 255, 0, 0, 1024, 3584, 7680, 0, 32382, 65535, 131071] [6, 15, 17] 3 folM (by kernel_rfl) (by kernel_rfl) (by kernel_rfl) ?_
      replace hst := hst.drew
      refine DRn (l1 := [0, 1, 2, 3, 4, 5, 9, 10, 11, 12, 13, 14]) (l2 := []) (lc := [6]) (by kernel_rfl) (by kernel_rfl) (by kernel_rfl) ?_
      refine Ry rfl rfl wn (ym (v := h31.v) (et rfl e63_5)) ?_
      refine Ry rfl rfl wn (ym (v := h3.v) (et rfl e63_1)) ?_
      refine Ry rfl rfl wn (ym (v := .int .i64 x46) (et rfl e63_7)) ?_
      refine Ry rfl rfl wn (yIa SL_22 (et rfl rfl) (et rfl rfl) hst (rdI q1) gx66) ?_
      refine Ry rfl rfl wn (yI O_3 (et rfl rfl) hst (rdI q1) gx66) ?_
      refine Ry rfl rfl wn (ym (v := .int .i64 x1) (et rfl e63_0)) ?_
      refine Ry rfl rfl wn (ym (v := h3.v) (et rfl e63_1)) ?_
      refine Ry rfl rfl wn (ym (v := .int .i64 x46) (et rfl e63_7)) ?_
      refine Ry rfl rfl wn (yadd (et rfl rfl) rfl) ?_
      refine Ry rfl rfl wn (yIa SL_22 (et rfl rfl) (et rfl rfl) hst (rdI q1) gx70) ?_
      refine Ry rfl rfl wn (yI O_3 (et rfl rfl) hst (rdI q1) gx70) ?_
      refine Ry rfl rfl wn (ym (v := .int .i64 x1) (et rfl e63_0)) ?_
      refine Rn QSn ?_
      refine Lc rfl ?_ LAn
      refine Lk wn (yCall FN_8 (a2 (et rfl rfl) (et rfl rfl))) (sparsekit_Place_ok (hM := gr67) (hst := hst) ) ?_
      clear hst
      rintro _ w ⟨rfl, hst⟩
      refine ⟨_, rfl, ?_⟩
      refine DRn (l1 := [7, 8]) (l2 := [0, 9, 10, 11, 12, 13, 14]) (lc := [15]) (by kernel_rfl) (by kernel_rfl) (by kernel_rfl) ?_
      obtain ⟨h69, gh69⟩ := hst.famI (mtR (mtR mhR)) gx68
      refine Ry rfl rfl wn (yIa SLH_66 (et rfl rfl) (et rfl rfl) hst (rdO (mtR mhR)) gh69) ?_
      refine Ry rfl rfl wn (yF1 O_67 (et rfl rfl) hst (rdO (mtR mhR)) gh69 rfl) ?_
      refine Rn (Sy rfl rfl wn (ym (v := h31.v) (et rfl e63_5)) rfl (Sy rfl rfl wn (ym (v := h3.v) (et rfl e63_1)) rfl (Sy rfl rfl wn (ym (v := .int .i64 x46) (et rfl e63_7)) rfl (Sy rfl rfl wn (yadd (et rfl rfl) rfl) rfl (Sy rfl rfl wn (yIa SL_22 (et rfl rfl) (et rfl rfl) hst (rdI q1) gx70) rfl (Sy rfl rfl wn (yI O_3 (et rfl rfl) hst (rdI q1) gx70) rfl (Sy rfl rfl wn (ym (v := .int .i64 x1) (et rfl e63_0)) rfl QSn))))))) ?_
      refine Lc rfl ?_ LAn
      refine Lk wn (yCall FN_8 (a2 (et rfl rfl) (et rfl rfl))) (sparsekit_Place_ok (hM := gr71) (hst := hst) ) ?_
      clear hst
      rintro _ w ⟨rfl, hst⟩
      refine ⟨_, rfl, ?_⟩
      refine DRn (l1 := [16]) (l2 := [0, 7, 8]) (lc := [17]) (by kernel_rfl) (by kernel_rfl) (by kernel_rfl) ?_
      refine Ry rfl rfl wn (yIs SL_67 (et rfl rfl) (et rfl rfl) hst (rdF (mtR (mtR mhR)) gh69 gx68) gx72) ?_
      refine Rn (Sy rfl rfl wn (ym (v := h31.v) (et rfl e63_5)) rfl (Sy rfl rfl wn (yIa SLH_66 (et rfl rfl) (et rfl rfl) hst (rdO (mtR mhR)) gh69) rfl (Sy rfl rfl wn (yF1 O_67 (et rfl rfl) hst (rdO (mtR mhR)) gh69 rfl) rfl QSn))) ?_
      refine Lc rfl ?_ LAn
      replace hst := hst.pk 3 [2, 0, 0] rfl
      refine LT wn (r_sti (cs := [.bool true]) (hst.foc gh69 gx68) O_4 rfl (et rfl rfl) rfl rfl mkB gx72) ?_
      clear hst
      intro w hst
      replace hst := hst.unfoc' gh69 gx73
      refine DRz (l1 := []) (l2 := []) (by kernel_rfl) (by kernel_rfl) ?_
      refine Rn QSn ?_
      refine qb29 _ _ _ ?_
      refine k28 _ _ ?_
      refine wp_region_lit ?_
      refine Y wn rfl (ym (v := .int .i64 x46) (et rfl e63_7)) ?_
      refine Y wn rfl (yadd (et rfl rfl) rfl) ?_
      refine Y wn rfl (ya (v := .int .i64 (wa .i64 x46 2)) (et rfl rfl)) ?_
      refine wpList_nil ?_
      obtain rfl := someI hM4
      exact n4 _ _ _ rfl ⟨_, _, _, rfl, rfl, e63_0, e63_1, e63_4, e63_5, rfl, (hst.pk 3 [1, 1, 0] rfl)⟩
    · refine condF (et rfl e63_26) (bfalse c65) ?_
      refine wp_exit ?_
      refine z26 _ _ _ rfl ?_
      obtain rfl := someI hM4
      refine zz4 _ _ _ _ rfl rfl ?_
      exact je4_0 _ _ _ e63_4 e63_5 hst (ho4 _ rfl)
  replace hst := ((hst.rowNh 67 rH).fNew 4 rB).pk 2 [1, 0] rfl
  refine loopQ (fun s a w => ∃ (x16 : List (List Bool)) (x17 : Int) (f : Nat → Value) (h14 : Hdr) (y15 : List Hdr), (x16, x17) = s ∧ a = fr 48 f ∧ f 0 = .int .i64 x1 ∧ f 1 = h3.v ∧ f 4 = .pointer (some ⟨b4, 0, none⟩) ∧ f 5 = h14.v ∧ f 6 = .int .i64 x17 ∧ St w0 (ros) (box b4 27 [hnil.v] :: row 67 rH h14.v y15 :: fam 4 rB y15 x16 :: rs) w) go1 ⟨_, _, _, _, _, rfl, rfl, rfl, rfl, rfl, rfl, rfl, (hst.pk 3 [2, 0, 0] rfl)⟩ ?_
  clear hst
  rintro _ _ w r1_ ⟨x16, x17, f, h14, y15, rfl, rfl, e1_0, e1_1, e1_4, e1_5, e1_6, hst⟩ hM1 ho1 Q100001 n1 zz1
  refine seqQ fun Q30 k30 z30 => ?_
  refine seqQ fun Q31 k31 z31 => ?_
  refine wp_region_lit ?_
  refine Y wn rfl (ym (v := .int .i64 x17) (et rfl e1_6)) ?_
  refine Y wn rfl (ym (v := .int .i64 x1) (et rfl e1_0)) ?_
  refine Y wn rfl (ylss (et rfl rfl) (et rfl rfl)) ?_
  refine wpList_nil ?_
  refine k31 _ _ ?_
  rcases iteS hM1 with ⟨c74, hM1⟩ | ⟨c74, hM1⟩
  · refine condT (et rfl rfl) (decide_eq_true c74) ?_
    refine wp_skip ?_
    refine k30 _ _ ?_
    refine seqQ fun Q32 k32 z32 => ?_
    refine blockQ fun Q33 qb33 => ?_
    refine wp_region_lit ?_
    refine Y wn rfl (ym (v := h14.v) (et rfl e1_5)) ?_
    refine Y wn rfl (ym (v := .int .i64 x1) (et rfl e1_0)) ?_
    obtain ⟨x77, gx77, hM1⟩ := bs hM1
    refine YH wn rfl (rMk hst SL_67 (et rfl rfl) gx77) ?_
    clear hst
    intro h75 w hst
    refine YH wn rfl (rLt (n := 1) (l := [h75]) hst SLH_66 [h75.v] (bp1 (et rfl rfl)) rfl rfl (mks1 rfl (mkF rfl) mks0)) ?_
    clear hst
    intro h78 w hst
    obtain ⟨x81, gx81, hM1⟩ := bs hM1
    replace hst := hst.pk 4 [3, 0, 0, 0] rfl
    obtain ⟨y82, ey82, gy82⟩ := app_rep gx81 (hst.famL (mtR (mtR (mtR (mtR mhR))))) (show [h75].length = [x77].length from rfl)
    refine YH wn rfl (rAp hst SLH_66 (et rfl rfl) (et rfl rfl) (rdO (mtR mhR)) gy82) ?_
    clear hst
    intro h80 w hst
    replace hst := hst.pk 5 [2, 3, 0, 0, 0] rfl
    replace hst := hst.fPush
    rw [← ey82, ← (app_some gx81).1] at hst
    refine Y wn rfl (ya (v := h80.v) (et rfl rfl)) ?_
    refine wpList_nil ?_
    refine qb33 _ _ _ ?_
    refine k32 _ _ ?_
    refine wp_region_lit ?_
    refine Y wn rfl (ym (v := .int .i64 x17) (et rfl e1_6)) ?_
    refine Y wn rfl (yadd (et rfl rfl) rfl) ?_
    refine Y wn rfl (ya (v := .int .i64 (wa .i64 x17 1)) (et rfl rfl)) ?_
    refine wpList_nil ?_
    obtain rfl := someI hM1
    exact n1 _ _ _ rfl ⟨_, _, _, _, _, rfl, rfl, e1_0, e1_1, e1_4, rfl, rfl, (hst.pk 4 [3, 1, 0] rfl)⟩
  · refine condF (et rfl rfl) (decide_eq_false c74) ?_
    refine wp_exit ?_
    refine z30 _ _ _ rfl ?_
    obtain rfl := someI hM1
    refine zz1 _ _ _ _ rfl rfl ?_
    exact je1_0 _ _ _ _ _ e1_0 e1_1 e1_4 e1_5 hst (ho1 _ rfl)

theorem sparsemake_At_ok {w0 : World} {ros : List Fact} {rs : List Res} {w : World} {x1 : List Int} {x3 : Int} {h2 : Hdr} {out : Int} (hM : sparsemake_At x1 x3 = some out) (q1 : imm (rI .i64) h2.v x1 ∈ ros) (hst : St w0 ros (rs) w) :
    Calls Try.prog 25 #[h2.v, .int .i64 x3] w (fun e w => e = .returned (.int .i64 out) ∧ St w0 (ros) (rs) w) := by
  refine enterQ Try.func25 rfl Try.ntmps25 rfl fun Q hQ => ?_
  refine seqQ fun Q1 k1 z1 => ?_
  refine wp_region_lit ?_
  refine Y wn rfl (ya (v := .int .i64 0) rfl) ?_
  refine wpList_nil ?_
  refine k1 _ _ ?_
  refine seqQ fun Q2 k2 z2 => ?_
  refine seqQ fun Q3 k3 z3 => ?_
  refine wp_region_lit ?_
  refine Y wn rfl (ym (v := .int .i64 x3) (et rfl rfl)) ?_
  refine Y wn rfl (ym (v := h2.v) (et rfl rfl)) ?_
  refine Y wn rfl (yLen SL_22 (et rfl rfl) hst (rdI q1)) ?_
  refine Y wn rfl (ylss (et rfl rfl) (et rfl rfl)) ?_
  refine wpList_nil ?_
  refine k3 _ _ ?_
  rcases iteS hM with ⟨c4, hM⟩ | ⟨c4, hM⟩
  · refine condT (et rfl rfl) (decide_eq_true c4) ?_
    refine seqQ fun Q4 k4 z4 => ?_
    refine wp_region_lit ?_
    refine Y wn rfl (ym (v := h2.v) (et rfl rfl)) ?_
    refine Y wn rfl (ym (v := .int .i64 x3) (et rfl rfl)) ?_
    obtain ⟨x5, gx5, hM⟩ := bs hM
    refine Y wn rfl (yIa SL_22 (et rfl rfl) (et rfl rfl) hst (rdI q1) gx5) ?_
    refine Y wn rfl (yI O_3 (et rfl rfl) hst (rdI q1) gx5) ?_
    refine Y wn rfl (ya (v := .int .i64 x5) (et rfl rfl)) ?_
    refine wpList_nil ?_
    refine k4 _ _ ?_
    refine wp_ret ?_
    refine z2 _ _ _ rfl ?_
    obtain rfl := someI hM
    exact hQ _ _ _ (fin1r Try.results25 ⟨rfl, rfl⟩ ⟨rfl, hst⟩)
  · refine condF (et rfl rfl) (decide_eq_false c4) ?_
    refine wp_skip ?_
    refine k2 _ _ ?_
    refine seqQ fun Q5 k5 z5 => ?_
    refine wp_region_lit ?_
    refine Y wn rfl (ya (v := .int .i64 0) rfl) ?_
    refine wpList_nil ?_
    refine k5 _ _ ?_
    refine wp_ret ?_
    obtain rfl := someI hM
    exact hQ _ _ _ (fin1r Try.results25 ⟨rfl, rfl⟩ ⟨rfl, hst⟩)

theorem sparsemake_Weighted_ok {w0 : World} {ros : List Fact} {rs : List Res} {w : World} {x1 : Int} {x2 : List Int} {x4 : List Int} {h3 : Hdr} {h5 : Hdr} {out : (List (List Int)) × (List Int) × (List (List Int))} (hM : sparsemake_Weighted x1 x2 x4 = some out) (q1 : imm (rI .i64) h3.v x2 ∈ ros) (q2 : imm (rI .i64) h5.v x4 ∈ ros) (hst : St w0 ros (rs) w) :
    Calls Try.prog 9 #[.int .i64 x1, h3.v, h5.v] w (fun e w => ∃ (h100001 : Hdr) (h100003 : Hdr) (h100005 : Hdr), e = .returned (.agg #[h100001.v, h100003.v, h100005.v]) ∧ St w0 (ros) (row 22 (rS (rI .i64)) h100001.v out.1 :: row 3 (rI .i64) h100003.v out.2.1 :: row 22 (rS (rI .i64)) h100005.v out.2.2 :: rs) w) := by
  refine enterQ Try.func9 rfl Try.ntmps9 rfl fun Q hQ => ?_
  refine seqQ fun Q1 k1 z1 => ?_
  refine wp_region_lit ?_
  refine YB wn rfl (rAl hst ZT_29) ?_
  clear hst
  intro b6 w hst
  refine wpList_nil ?_
  refine k1 _ _ ?_
  refine seqQ fun Q2 k2 z2 => ?_
  refine wp_region_lit ?_
  refine Y wn rfl (ym (v := .int .i64 x1) (et rfl rfl)) ?_
  refine Y wn rfl (ym (v := h3.v) (et rfl rfl)) ?_
  obtain ⟨r7, gr7, hM⟩ := bs hM
  refine Yc wn rfl (yCall FN_12 (a2 (et rfl rfl) (et rfl rfl))) (sparsemake_Graph_ok (hM := gr7) (hst := hst) (q1 := q1)) ?_
  clear hst
  rintro _ w ⟨h8, rfl, hst⟩
  refine ⟨_, rfl, ?_⟩
  refine YB wn rfl (rAl hst ZT_27) ?_
  clear hst
  intro b9 w hst
  refine YT wn rfl (r_stbn (vals' := [h8.v]) (us := [h8.v]) hst ST_27 (et rfl rfl) (et rfl rfl) rfl rfl (one_of rfl) rfl) ?_
  clear hst
  intro w hst
  refine wpList_nil ?_
  refine k2 _ _ ?_
  refine seqQ fun Q3 k3 z3 => ?_
  refine wp_region_lit ?_
  refine Y wn rfl (yLbs (us := [h8.v]) ST_27 (et rfl rfl) hst mhR rfl rfl) ?_
  refine Y wn rfl (ybuild (us := [h8.v, hnil.v, hnil.v]) [(0, .agg #[h8.v])] SO_29 (bp1 (et rfl rfl)) rfl) ?_
  refine YB wn rfl (rAl hst ZT_29) ?_
  clear hst
  intro b10 w hst
  refine YT wn rfl (r_stbn (vals' := [h8.v, hnil.v, hnil.v]) (us := [h8.v, hnil.v, hnil.v]) hst ST_29 (et rfl rfl) (et rfl rfl) rfl rfl (one_of rfl) rfl) ?_
  clear hst
  intro w hst
  refine wpList_nil ?_
  refine k3 _ _ ?_
  refine seqQ fun Q4 k4 z4 => ?_
  refine seqQ fun Q5 k5 z5 => ?_
  refine wp_region_lit ?_
  refine Y wn rfl (ya (v := .int .i64 0) rfl) ?_
  refine wpList_nil ?_
  refine k5 _ _ ?_
  refine blockQ fun Q6 qb6 => ?_
  obtain ⟨o3, go3, hM⟩ := bs hM
  have je3_0 : ∀ (x128 : List Int) (x130 : List (List Int)) (h127 : Hdr) (h129 : Hdr) (f : Nat → Value) (w : World), f 6 = .pointer (some ⟨b6, 0, none⟩) → f 8 = .pointer (some ⟨b10, 0, none⟩) → St w0 (ros) (box b6 29 [hnil.v, hnil.v, hnil.v] :: row 22 (rS (rI .i64)) h8.v r7 :: row 3 (rI .i64) h127.v x128 :: row 22 (rS (rI .i64)) h129.v x130 :: box b10 29 [h8.v, h127.v, h129.v] :: rs) w → (x128, x130) = o3 → Q6 (.exit 0) (fr 79 f) w := by
    intro x128 x130 h127 h129 f w eje3_0_6 eje3_0_8 hst ho
    subst ho
    refine qb6 _ _ _ ?_
    refine k4 _ _ ?_
    refine seqQ fun Q55 k55 z55 => ?_
    refine wp_region_lit ?_
    refine Y wn rfl (yLbs (us := [h8.v, h127.v, h129.v]) ST_29 (et rfl eje3_0_8) hst (mtR (mtR (mtR (mtR mhR)))) rfl rfl) ?_
    refine YT wn rfl (r_stbn (vals' := [h8.v, h127.v, h129.v]) (us := [h8.v, h127.v, h129.v]) hst ST_29 (et rfl eje3_0_6) (et rfl rfl) rfl rfl (one_of rfl) rfl) ?_
    clear hst
    intro w hst
    refine wpList_nil ?_
    refine k55 _ _ ?_
    refine wp_ret ?_
    obtain rfl := someI hM
    exact hQ _ _ _ (fin1r Try.results9 (rcs2 rfl eje3_0_6 hst mhR ST_29 rfl) ⟨_, _, _, rfl, (hst.pk 5 [1, 1, 1] rfl)⟩)
  replace hst := hst.rowNh 3 (rI .i64)
  replace hst := hst.rowNh 22 (rS (rI .i64))
  refine loopQ (fun s a w => ∃ (x65 : List Int) (x67 : List (List Int)) (x68 : Int) (f : Nat → Value) (h64 : Hdr) (h66 : Hdr), (x65, x67, x68) = s ∧ a = fr 79 f ∧ f 0 = .int .i64 x1 ∧ f 2 = h5.v ∧ f 6 = .pointer (some ⟨b6, 0, none⟩) ∧ f 7 = .pointer (some ⟨b9, 0, none⟩) ∧ f 8 = .pointer (some ⟨b10, 0, none⟩) ∧ f 9 = .int .i64 x68 ∧ St w0 (ros) (box b6 29 [hnil.v, hnil.v, hnil.v] :: row 22 (rS (rI .i64)) h8.v r7 :: box b9 27 [h8.v] :: row 3 (rI .i64) h64.v x65 :: row 22 (rS (rI .i64)) h66.v x67 :: box b10 29 [h8.v, h64.v, h66.v] :: rs) w) go3 ⟨_, _, _, _, _, _, rfl, rfl, rfl, rfl, rfl, rfl, rfl, rfl, (hst.pk 6 [5, 4, 3, 1, 0, 0] rfl)⟩ ?_
  clear hst
  rintro _ _ w r3_ ⟨x65, x67, x68, f, h64, h66, rfl, rfl, e3_0, e3_2, e3_6, e3_7, e3_8, e3_9, hst⟩ hM3 ho3 Q100003 n3 zz3
  refine seqQ fun Q56 k56 z56 => ?_
  refine seqQ fun Q57 k57 z57 => ?_
  refine wp_region_lit ?_
  refine Y wn rfl (ym (v := .int .i64 x68) (et rfl e3_9)) ?_
  refine Y wn rfl (ym (v := .int .i64 x1) (et rfl e3_0)) ?_
  refine Y wn rfl (ylss (et rfl rfl) (et rfl rfl)) ?_
  refine wpList_nil ?_
  refine k57 _ _ ?_
  rcases iteS hM3 with ⟨c131, hM3⟩ | ⟨c131, hM3⟩
  · refine condT (et rfl rfl) (decide_eq_true c131) ?_
    refine wp_skip ?_
    refine k56 _ _ ?_
    refine seqQ fun Q58 k58 z58 => ?_
    refine blockQ fun Q59 qb59 => ?_
    refine seqQ fun Q60 k60 z60 => ?_
    obtain ⟨r132, gr132, hM3⟩ := bs hM3
    obtain ⟨r133, gr133, hM3⟩ := bs hM3
    obtain ⟨x136, gx136, hM3⟩ := bs hM3
    refine wp_drawR [0, 1, 0, 0, 12, 28, 60, 124, 255, 511, 1023] [4, 5, 7, 8, 10] 5 folM (by kernel_rfl) (by kernel_rfl) (by kernel_rfl) ?_
    replace hst := hst.drew
    refine DRn (l1 := [0, 1, 2, 3]) (l2 := []) (lc := [4]) (by kernel_rfl) (by kernel_rfl) (by kernel_rfl) ?_
    refine Ry rfl rfl wn (yFb FL_29_1 (et rfl e3_8)) ?_
    refine Ry rfl rfl wn (yLb (u := h64.v) O_22 (et rfl rfl) hst (mtR (mtR (mtR (mtR (mtR mhR))))) rfl) ?_
    refine Ry rfl rfl wn (ym (v := h5.v) (et rfl e3_2)) ?_
    refine Ry rfl rfl wn (ym (v := .int .i64 x68) (et rfl e3_9)) ?_
    refine Rn QSn ?_
    refine Lc rfl ?_ LAn
    refine Lk wn (yCall FN_25 (a2 (et rfl rfl) (et rfl rfl))) (sparsemake_At_ok (hM := gr132) (hst := hst) (q1 := q2)) ?_
    clear hst
    rintro _ w ⟨rfl, hst⟩
    refine ⟨_, rfl, ?_⟩
    refine DRn (l1 := []) (l2 := [0, 1]) (lc := [5]) (by kernel_rfl) (by kernel_rfl) (by kernel_rfl) ?_
    refine Rn (Sy rfl rfl wn (yFb FL_29_1 (et rfl e3_8)) rfl (Sy rfl rfl wn (yLb (u := h64.v) O_22 (et rfl rfl) hst (mtR (mtR (mtR (mtR (mtR mhR))))) rfl) rfl QSn)) ?_
    refine Lc rfl ?_ LAn
    refine Lk wn (yCall FN_8 (a2 (et rfl rfl) rfl)) (sparsekit_Place_ok (hM := gr133) (hst := hst) ) ?_
    clear hst
    rintro _ w ⟨rfl, hst⟩
    refine ⟨_, rfl, ?_⟩
    refine DRn (l1 := [6]) (l2 := [0, 1]) (lc := [7]) (by kernel_rfl) (by kernel_rfl) (by kernel_rfl) ?_
    refine Ry rfl rfl wn (yadd rfl (et rfl rfl)) ?_
    refine Rn (Sy rfl rfl wn (yFb FL_29_1 (et rfl e3_8)) rfl (Sy rfl rfl wn (yLb (u := h64.v) O_22 (et rfl rfl) hst (mtR (mtR (mtR (mtR (mtR mhR))))) rfl) rfl QSn)) ?_
    refine Lc rfl ?_ LAn
    refine LH wn (rLt (n := 1) (l := [wa .i64 1 r133]) hst SL_22 [.int .i64 (wa .i64 1 r133)] (bp1 (et rfl rfl)) rfl rfl (mks1 (cs := [.int .i64 (wa .i64 1 r133)]) rfl mkI mks0)) ?_
    clear hst
    intro h134 w hst
    refine DRn (l1 := []) (l2 := [0, 1]) (lc := [8]) (by kernel_rfl) (by kernel_rfl) (by kernel_rfl) ?_
    refine Rn (Sy rfl rfl wn (yFb FL_29_1 (et rfl e3_8)) rfl (Sy rfl rfl wn (yLb (u := h64.v) O_22 (et rfl rfl) hst (mtR (mtR (mtR (mtR (mtR (mtR mhR)))))) rfl) rfl QSn)) ?_
    refine Lc rfl ?_ LAn
    replace hst := hst.pk 5 [4, 0, 0, 0, 0] rfl
    refine LH wn (rAp hst SL_22 (et rfl rfl) (et rfl rfl) (rdO (mtR mhR)) gx136) ?_
    clear hst
    intro h135 w hst
    refine DRn (l1 := [9]) (l2 := []) (lc := [10]) (by kernel_rfl) (by kernel_rfl) (by kernel_rfl) ?_
    refine Ry rfl rfl wn (yFb FL_29_1 (et rfl e3_8)) ?_
    refine Rn QSn ?_
    refine Lc rfl ?_ LAn
    replace hst := hst.pk 7 [6, 0, 0, 0, 0, 0, 0] rfl
    refine LT wn (r_stb1 (vals' := [h8.v, h135.v, h66.v]) hst O_22 (et rfl rfl) (et rfl rfl) rfl rfl rfl rfl) ?_
    clear hst
    intro w hst
    refine DRz (l1 := []) (l2 := []) (by kernel_rfl) (by kernel_rfl) ?_
    refine Rn QSn ?_
    refine k60 _ _ ?_
    refine seqQ fun Q61 k61 z61 => ?_
    refine wp_region_lit ?_
    refine Y wn rfl (ya (v := hnil.v) rfl) ?_
    refine wpList_nil ?_
    refine k61 _ _ ?_
    refine seqQ fun Q62 k62 z62 => ?_
    refine seqQ fun Q63 k63 z63 => ?_
    refine wp_region_lit ?_
    refine Y wn rfl (ya (v := .int .i64 0) rfl) ?_
    refine wpList_nil ?_
    refine k63 _ _ ?_
    refine blockQ fun Q64 qb64 => ?_
    obtain ⟨o4, go4, hM3⟩ := bs hM3
    have je4_0 : ∀ (x168 : List Int) (h167 : Hdr) (f : Nat → Value) (w : World), f 0 = .int .i64 x1 → f 2 = h5.v → f 6 = .pointer (some ⟨b6, 0, none⟩) → f 7 = .pointer (some ⟨b9, 0, none⟩) → f 8 = .pointer (some ⟨b10, 0, none⟩) → f 9 = .int .i64 x68 → f 10 = h167.v → St w0 (ros) (box b6 29 [hnil.v, hnil.v, hnil.v] :: row 22 (rS (rI .i64)) h8.v r7 :: box b9 27 [h8.v] :: row 3 (rI .i64) h135.v x136 :: row 22 (rS (rI .i64)) h66.v x67 :: box b10 29 [h8.v, h135.v, h66.v] :: row 3 (rI .i64) h167.v x168 :: rs) w → x168 = o4 → Q64 (.exit 2) (fr 79 f) w := by
      intro x168 h167 f w eje4_0_0 eje4_0_2 eje4_0_6 eje4_0_7 eje4_0_8 eje4_0_9 eje4_0_10 hst ho
      subst ho
      refine qb64 _ _ _ ?_
      refine k62 _ _ ?_
      refine wp_region_lit ?_
      refine Y wn rfl (yFb FL_29_2 (et rfl eje4_0_8)) ?_
      refine Y wn rfl (yLb (u := h66.v) O_25 (et rfl rfl) hst (mtR (mtR (mtR (mtR (mtR mhR))))) rfl) ?_
      refine Y wn rfl (ym (v := h167.v) (et rfl eje4_0_10)) ?_
      replace hst := hst.pk 7 [6, 0, 0, 0, 0, 0, 0] rfl
      replace hst := hst.fz
      refine YH wn rfl (rLt (n := 1) (l := [x168]) hst SL_25 [h167.v] (bp1 (et rfl rfl)) rfl rfl (mks1 (cs := [h167.v]) rfl (mkS mhF) mks0)) ?_
      clear hst
      intro h169 w hst
      obtain ⟨x171, gx171, hM3⟩ := bs hM3
      replace hst := hst.pk 6 [5, 0, 0, 0, 0, 0] rfl
      refine YH wn rfl (rAp hst SL_25 (et rfl rfl) (et rfl rfl) (rdO (mtR mhR)) gx171) ?_
      clear hst
      intro h170 w hst
      refine Y wn rfl (yFb FL_29_2 (et rfl eje4_0_8)) ?_
      replace hst := hst.pk 7 [6, 0, 0, 0, 0, 0, 0] rfl
      refine YT wn rfl (r_stb1 (vals' := [h8.v, h135.v, h170.v]) hst O_25 (et rfl rfl) (et rfl rfl) rfl rfl rfl rfl) ?_
      clear hst
      intro w hst
      refine wpList_nil ?_
      refine qb59 _ _ _ ?_
      refine k58 _ _ ?_
      refine wp_region_lit ?_
      refine Y wn rfl (ym (v := .int .i64 x68) (et rfl eje4_0_9)) ?_
      refine Y wn rfl (yadd (et rfl rfl) rfl) ?_
      refine Y wn rfl (ya (v := .int .i64 (wa .i64 x68 1)) (et rfl rfl)) ?_
      refine wpList_nil ?_
      obtain rfl := someI hM3
      exact n3 _ _ _ rfl ⟨_, _, _, _, _, _, rfl, rfl, eje4_0_0, eje4_0_2, eje4_0_6, eje4_0_7, eje4_0_8, rfl, ((hst.pk 7 [3, 3, 3, 3, 1, 0] rfl).facts (allT allI))⟩
    replace hst := hst.rowNh 3 (rI .i64)
    refine loopQ (fun s a w => ∃ (x150 : List Int) (x151 : Int) (f : Nat → Value) (h149 : Hdr), (x150, x151) = s ∧ a = fr 79 f ∧ f 0 = .int .i64 x1 ∧ f 2 = h5.v ∧ f 6 = .pointer (some ⟨b6, 0, none⟩) ∧ f 7 = .pointer (some ⟨b9, 0, none⟩) ∧ f 8 = .pointer (some ⟨b10, 0, none⟩) ∧ f 9 = .int .i64 x68 ∧ f 10 = h149.v ∧ f 11 = .int .i64 x151 ∧ St w0 (ros) (box b6 29 [hnil.v, hnil.v, hnil.v] :: row 22 (rS (rI .i64)) h8.v r7 :: box b9 27 [h8.v] :: row 3 (rI .i64) h135.v x136 :: row 22 (rS (rI .i64)) h66.v x67 :: box b10 29 [h8.v, h135.v, h66.v] :: row 3 (rI .i64) h149.v x150 :: rs) w) go4 ⟨_, _, _, _, rfl, rfl, e3_0, e3_2, e3_6, e3_7, e3_8, e3_9, rfl, rfl, (hst.pk 8 [4, 4, 4, 2, 3, 1, 0] rfl)⟩ ?_
    clear hst
    rintro _ _ w r4_ ⟨x150, x151, f, h149, rfl, rfl, e4_0, e4_2, e4_6, e4_7, e4_8, e4_9, e4_10, e4_11, hst⟩ hM4 ho4 Q100004 n4 zz4
    refine seqQ fun Q75 k75 z75 => ?_
    refine seqQ fun Q76 k76 z76 => ?_
    refine wp_region_lit ?_
    refine Y wn rfl (ym (v := .int .i64 x151) (et rfl e4_11)) ?_
    refine Y wn rfl (yFb FL_27_0 (et rfl e4_7)) ?_
    refine Y wn rfl (yLb (u := h8.v) O_25 (et rfl rfl) hst (mtR (mtR mhR)) rfl) ?_
    refine Y wn rfl (ym (v := .int .i64 x68) (et rfl e4_9)) ?_
    obtain ⟨x172, gx172, hM4⟩ := bs hM4
    refine Y wn rfl (yIa SL_25 (et rfl rfl) (et rfl rfl) hst (rdO (mtR mhR)) gx172) ?_
    obtain ⟨h173, ch173, hst⟩ := rLs hst (rdO (mtR mhR)) gx172
    refine Y wn rfl (yCe O_22 (et rfl rfl) ch173 rfl) ?_
    refine Y wn rfl (yLen SL_22 (et rfl rfl) hst (rdI mhF)) ?_
    refine Y wn rfl (ylss (et rfl rfl) (et rfl rfl)) ?_
    refine wpList_nil ?_
    refine k76 _ _ ?_
    rcases iteS hM4 with ⟨c174, hM4⟩ | ⟨c174, hM4⟩
    · refine condT (et rfl rfl) (decide_eq_true c174) ?_
      refine wp_skip ?_
      refine k75 _ _ ?_
      refine seqQ fun Q77 k77 z77 => ?_
      refine blockQ fun Q78 qb78 => ?_
      refine seqQ fun Q79 k79 z79 => ?_
      refine wp_region_lit ?_
      refine Y wn rfl (yFb FL_27_0 (et rfl e4_7)) ?_
      refine Y wn rfl (yLb (u := h8.v) O_25 (et rfl rfl) hst (mtR (mtR mhR)) rfl) ?_
      refine Y wn rfl (ym (v := .int .i64 x68) (et rfl e4_9)) ?_
      obtain ⟨x175, gx175, hM4⟩ := bs hM4
      refine Y wn rfl (yIa SL_25 (et rfl rfl) (et rfl rfl) hst (rdO (mtR mhR)) gx175) ?_
      obtain ⟨h176, ch176, hst⟩ := rLs hst (rdO (mtR mhR)) gx175
      refine Y wn rfl (yCe O_22 (et rfl rfl) ch176 rfl) ?_
      refine Y wn rfl (ym (v := .int .i64 x151) (et rfl e4_11)) ?_
      obtain ⟨x177, gx177, hM4⟩ := bs hM4
      refine Y wn rfl (yIa SL_22 (et rfl rfl) (et rfl rfl) hst (rdI mhF) gx177) ?_
      refine Y wn rfl (yI O_3 (et rfl rfl) hst (rdI mhF) gx177) ?_
      refine Y wn rfl (ya (v := .int .i64 x177) (et rfl rfl)) ?_
      refine wpList_nil ?_
      refine k79 _ _ ?_
      refine wp_region_lit ?_
      refine Y wn rfl (ym (v := h149.v) (et rfl e4_10)) ?_
      refine Y wn rfl (ym (v := h5.v) (et rfl e4_2)) ?_
      refine Y wn rfl (ym (v := .int .i64 x1) (et rfl e4_0)) ?_
      refine Y wn rfl (ym (v := .int .i64 x177) (et rfl rfl)) ?_
      refine Y wn rfl (ym (v := .int .i64 x68) (et rfl e4_9)) ?_
      refine Y wn rfl (ymax (et rfl rfl) (et rfl rfl)) ?_
      refine Y wn rfl (yadd (et rfl rfl) (et rfl rfl)) ?_
      obtain ⟨r178, gr178, hM4⟩ := bs hM4
      refine Yc wn rfl (yCall FN_25 (a2 (et rfl rfl) (et rfl rfl))) (sparsemake_At_ok (hM := gr178) (hst := hst) (q1 := (mtF (mtF q2)))) ?_
      clear hst
      rintro _ w ⟨rfl, hst⟩
      refine ⟨_, rfl, ?_⟩
      refine Y wn rfl (ym (v := h5.v) (et rfl e4_2)) ?_
      refine Y wn rfl (ym (v := .int .i64 x1) (et rfl e4_0)) ?_
      refine Y wn rfl (ym (v := .int .i64 x177) (et rfl rfl)) ?_
      refine Y wn rfl (ym (v := .int .i64 x68) (et rfl e4_9)) ?_
      refine Y wn rfl (ymin (et rfl rfl) (et rfl rfl)) ?_
      refine Y wn rfl (yadd (et rfl rfl) (et rfl rfl)) ?_
      obtain ⟨r179, gr179, hM4⟩ := bs hM4
      refine Yc wn rfl (yCall FN_25 (a2 (et rfl rfl) (et rfl rfl))) (sparsemake_At_ok (hM := gr179) (hst := hst) (q1 := (mtF (mtF q2)))) ?_
      clear hst
      rintro _ w ⟨rfl, hst⟩
      refine ⟨_, rfl, ?_⟩
      refine Y wn rfl (ymul rfl (et rfl rfl)) ?_
      refine Y wn rfl (yadd (et rfl rfl) (et rfl rfl)) ?_
      obtain ⟨r180, gr180, hM4⟩ := bs hM4
      refine Yc wn rfl (yCall FN_8 (a2 (et rfl rfl) rfl)) (sparsekit_Place_ok (hM := gr180) (hst := hst) ) ?_
      clear hst
      rintro _ w ⟨rfl, hst⟩
      refine ⟨_, rfl, ?_⟩
      refine Y wn rfl (yadd rfl (et rfl rfl)) ?_
      refine YH wn rfl (rLt (n := 1) (l := [wa .i64 1 r180]) hst SL_22 [.int .i64 (wa .i64 1 r180)] (bp1 (et rfl rfl)) rfl rfl (mks1 (cs := [.int .i64 (wa .i64 1 r180)]) rfl mkI mks0)) ?_
      clear hst
      intro h181 w hst
      obtain ⟨x183, gx183, hM4⟩ := bs hM4
      replace hst := hst.pk 8 [7, 0, 0, 0, 0, 0, 0, 0] rfl
      refine YH wn rfl (rAp hst SL_22 (et rfl rfl) (et rfl rfl) (rdO (mtR mhR)) gx183) ?_
      clear hst
      intro h182 w hst
      refine Y wn rfl (ya (v := h182.v) (et rfl rfl)) ?_
      refine wpList_nil ?_
      refine qb78 _ _ _ ?_
      refine k77 _ _ ?_
      refine wp_region_lit ?_
      refine Y wn rfl (ym (v := .int .i64 x151) (et rfl e4_11)) ?_
      refine Y wn rfl (yadd (et rfl rfl) rfl) ?_
      refine Y wn rfl (ya (v := .int .i64 (wa .i64 x151 1)) (et rfl rfl)) ?_
      refine wpList_nil ?_
      obtain rfl := someI hM4
      exact n4 _ _ _ rfl ⟨_, _, _, _, rfl, rfl, e4_0, e4_2, e4_6, e4_7, e4_8, e4_9, rfl, rfl, ((hst.pk 8 [2, 2, 2, 2, 2, 2, 0] rfl).facts (allT (allT allI)))⟩
    · refine condF (et rfl rfl) (decide_eq_false c174) ?_
      refine wp_exit ?_
      refine z75 _ _ _ rfl ?_
      obtain rfl := someI hM4
      refine zz4 _ _ _ _ rfl rfl ?_
      exact je4_0 _ _ _ _ e4_0 e4_2 e4_6 e4_7 e4_8 e4_9 e4_10 (hst.facts (allT allI)) (ho4 _ rfl)
  · refine condF (et rfl rfl) (decide_eq_false c131) ?_
    refine wp_exit ?_
    refine z56 _ _ _ rfl ?_
    obtain rfl := someI hM3
    refine zz3 _ _ _ _ rfl rfl ?_
    exact je3_0 _ _ _ _ _ _ e3_6 e3_8 (hst.pk 6 [0, 0, 1, 1, 1] rfl) (ho3 _ rfl)

theorem dissect_weight_ok {w0 : World} {ros : List Fact} {rs : List Res} {w : World} {x1 : List (List Int)} {x3 : List Int} {x5 : List (List Int)} {x7 : Int} {x8 : Int} {h2 : Hdr} {h4 : Hdr} {h6 : Hdr} {out : Int} (hM : dissect_weight x1 x3 x5 x7 x8 = some out) (q1 : imm (rS (rI .i64)) h2.v x1 ∈ ros) (q2 : imm (rI .i64) h4.v x3 ∈ ros) (q3 : imm (rS (rI .i64)) h6.v x5 ∈ ros) (hst : St w0 ros (rs) w) :
    Calls Try.prog 43 #[.agg #[h2.v, h4.v, h6.v], .int .i64 x7, .int .i64 x8] w (fun e w => e = .returned (.int .i64 out) ∧ St w0 (ros) (rs) w) := by
  refine enterQ Try.func43 rfl Try.ntmps43 rfl fun Q hQ => ?_
  refine seqQ fun Q1 k1 z1 => ?_
  refine wp_region_lit ?_
  refine YB wn rfl (r_box (vals := [h2.v, h4.v, h6.v]) hst (et rfl rfl) rfl) ?_
  clear hst
  intro b9 w hst
  refine Y wn rfl (ya (v := .int .i64 0) rfl) ?_
  refine wpList_nil ?_
  refine k1 _ _ ?_
  refine seqQ fun Q2 k2 z2 => ?_
  refine wp_region_lit ?_
  refine Y wn rfl (yFb FL_29_0 (et rfl rfl)) ?_
  refine Y wn rfl (yFb FL_27_0 (et rfl rfl)) ?_
  refine Y wn rfl (yLb (u := h2.v) O_25 (et rfl rfl) hst mhR rfl) ?_
  refine Y wn rfl (ym (v := .int .i64 x7) (et rfl rfl)) ?_
  obtain ⟨x10, gx10, hM⟩ := bs hM
  refine Y wn rfl (yIa SL_25 (et rfl rfl) (et rfl rfl) hst (rdI q1) gx10) ?_
  obtain ⟨h11, hst⟩ := iLs hst q1 gx10
  refine Y wn rfl (yCt O_22 (et rfl rfl) hst (mtF mhF) rfl) ?_
  refine Y wn rfl (ym (v := .int .i64 x8) (et rfl rfl)) ?_
  obtain ⟨r12, gr12, hM⟩ := bs hM
  refine Yc wn rfl (yCall FN_64 (a2 (et rfl rfl) (et rfl rfl))) (slices_BinarySearch_int_ok (hM := gr12) (hst := hst) (q1 := mhF)) ?_
  clear hst
  rintro _ w ⟨rfl, hst⟩
  refine ⟨_, rfl, ?_⟩
  refine Y wn rfl (ym (v := .tuple #[.int .i64 r12.1, .bool r12.2]) (et rfl rfl)) ?_
  refine Y wn rfl (yx (v := .int .i64 r12.1) (et rfl rfl) rfl) ?_
  refine Y wn rfl (yx (v := .bool r12.2) (et rfl rfl) rfl) ?_
  refine Y wn rfl (ya (v := .int .i64 r12.1) (et rfl rfl)) ?_
  refine Y wn rfl (ya (v := .bool r12.2) (et rfl rfl)) ?_
  refine wpList_nil ?_
  refine k2 _ _ ?_
  refine seqQ fun Q3 k3 z3 => ?_
  refine wp_region_lit ?_
  refine Y wn rfl (yFb FL_29_2 (et rfl rfl)) ?_
  refine Y wn rfl (yLb (u := h6.v) O_25 (et rfl rfl) hst mhR rfl) ?_
  refine Y wn rfl (ym (v := .int .i64 x7) (et rfl rfl)) ?_
  obtain ⟨x13, gx13, hM⟩ := bs hM
  refine Y wn rfl (yIa SL_25 (et rfl rfl) (et rfl rfl) hst (rdI (mtF (mtF q3))) gx13) ?_
  obtain ⟨h14, hst⟩ := iLs hst (mtF (mtF q3)) gx13
  refine Y wn rfl (yCt O_22 (et rfl rfl) hst (mtF mhF) rfl) ?_
  refine Y wn rfl (ym (v := .int .i64 r12.1) (et rfl rfl)) ?_
  obtain ⟨x15, gx15, hM⟩ := bs hM
  refine Y wn rfl (yIa SL_22 (et rfl rfl) (et rfl rfl) hst (rdI mhF) gx15) ?_
  refine Y wn rfl (yI O_3 (et rfl rfl) hst (rdI mhF) gx15) ?_
  refine Y wn rfl (ya (v := .int .i64 x15) (et rfl rfl)) ?_
  refine wpList_nil ?_
  refine k3 _ _ ?_
  refine wp_ret ?_
  obtain rfl := someI hM
  exact hQ _ _ _ (fin1r Try.results43 ⟨rfl, rfl⟩ ⟨rfl, ((hst.pk 1 [] rfl).facts (allT (allT (allT (allT allI)))))⟩)

theorem dissect_CheckWeighted_ok {w0 : World} {ros : List Fact} {rs : List Res} {w : World} {x1 : List (List Int)} {x3 : List Int} {x5 : List (List Int)} {h2 : Hdr} {h4 : Hdr} {h6 : Hdr} {out : Int} (hM : dissect_CheckWeighted x1 x3 x5 = some out) (q1 : imm (rS (rI .i64)) h2.v x1 ∈ ros) (q2 : imm (rI .i64) h4.v x3 ∈ ros) (q3 : imm (rS (rI .i64)) h6.v x5 ∈ ros) (hst : St w0 ros (rs) w) :
    Calls Try.prog 23 #[.agg #[h2.v, h4.v, h6.v]] w (fun e w => e = .returned (.int .i64 out) ∧ St w0 (ros) (rs) w) := by
  refine enterQ Try.func23 rfl Try.ntmps23 rfl fun Q hQ => ?_
  refine seqQ fun Q1 k1 z1 => ?_
  refine wp_region_lit ?_
  refine YB wn rfl (r_box (vals := [h2.v, h4.v, h6.v]) hst (et rfl rfl) rfl) ?_
  clear hst
  intro b7 w hst
  refine Y wn rfl (ya (v := .int .i64 0) rfl) ?_
  refine wpList_nil ?_
  refine k1 _ _ ?_
  refine seqQ fun Q2 k2 z2 => ?_
  refine wp_region_lit ?_
  refine Y wn rfl (yFb FL_29_0 (et rfl rfl)) ?_
  refine Y wn rfl (yLbs (us := [h2.v]) ST_27 (et rfl rfl) hst mhR rfl rfl) ?_
  obtain ⟨r8, gr8, hM⟩ := bs hM
  refine Yc wn rfl (yCall FN_30 (a1 (et rfl rfl))) (graph_Check_ok (hM := gr8) (hst := hst) (q1 := q1)) ?_
  clear hst
  rintro _ w ⟨rfl, hst⟩
  refine ⟨_, rfl, ?_⟩
  refine Y wn rfl (ya (v := .int .i64 r8) (et rfl rfl)) ?_
  refine wpList_nil ?_
  refine k2 _ _ ?_
  refine seqQ fun Q3 k3 z3 => ?_
  refine seqQ fun Q4 k4 z4 => ?_
  refine wp_region_lit ?_
  refine Y wn rfl (ym (v := .int .i64 r8) (et rfl rfl)) ?_
  refine Y wn rfl (yneq (et rfl rfl) rfl) ?_
  refine wpList_nil ?_
  refine k4 _ _ ?_
  rcases iteS hM with ⟨c9, hM⟩ | ⟨c9, hM⟩
  · refine condF (et rfl rfl) (nF (decide_eq_true c9)) ?_
    refine wp_skip ?_
    refine k3 _ _ ?_
    refine seqQ fun Q5 k5 z5 => ?_
    refine wp_region_lit ?_
    refine Y wn rfl (yFb FL_29_0 (et rfl rfl)) ?_
    refine Y wn rfl (yFb FL_27_0 (et rfl rfl)) ?_
    refine Y wn rfl (yLb (u := h2.v) O_25 (et rfl rfl) hst mhR rfl) ?_
    refine Y wn rfl (yLen SL_25 (et rfl rfl) hst (rdI q1)) ?_
    refine Y wn rfl (ya (v := .int .i64 (x1.length : Int)) (et rfl rfl)) ?_
    refine wpList_nil ?_
    refine k5 _ _ ?_
    refine seqQ fun Q6 k6 z6 => ?_
    refine seqQ fun Q7 k7 z7 => ?_
    refine wp_region_lit ?_
    refine Y wn rfl (yFb FL_29_1 (et rfl rfl)) ?_
    refine Y wn rfl (yLb (u := h4.v) O_22 (et rfl rfl) hst mhR rfl) ?_
    refine Y wn rfl (yLen SL_22 (et rfl rfl) hst (rdI q2)) ?_
    refine Y wn rfl (ym (v := .int .i64 (x1.length : Int)) (et rfl rfl)) ?_
    refine Y wn rfl (yneq (et rfl rfl) (et rfl rfl)) ?_
    refine Y wn rfl (ym (v := .bool (!(decide ((x3.length : Int) = (x1.length : Int))))) (et rfl rfl)) ?_
    refine joinW 6 (fun f w => f 1 = .pointer (some ⟨b7, 0, none⟩) ∧ f 32 = .bool ((!(decide ((x3.length : Int) = (x1.length : Int)))) || (!(decide ((x5.length : Int) = (x1.length : Int))))) ∧ St w0 (ros) (box b7 29 [h2.v, h4.v, h6.v] :: rs) w) (fun j1 => ?_) ?_
    · rcases Bool.eq_false_or_eq_true (!(decide ((x3.length : Int) = (x1.length : Int)))) with c11 | c11
      · refine Gn (wx rfl rfl rfl c11) rfl ?_
        refine Gn (wx rfl rfl rfl c11) rfl ?_
        refine Gn (wx rfl rfl rfl c11) rfl ?_
        refine Gn (wx rfl rfl rfl c11) rfl ?_
        refine Gn (wx rfl rfl rfl c11) rfl ?_
        refine Y wn rfl (ypt (v := .bool true) (et rfl rfl) c11 rfl) ?_
        exact j1 _ _ ⟨rfl, (congrArg Value.bool (orT c11)), hst⟩
      · refine Y (wg rfl rfl rfl c11) rfl (yFb FL_29_2 (et rfl rfl)) ?_
        refine Y (wg rfl rfl rfl c11) rfl (yLb (u := h6.v) O_25 (et rfl rfl) hst mhR rfl) ?_
        refine Y (wg rfl rfl rfl c11) rfl (yLen SL_25 (et rfl rfl) hst (rdI q3)) ?_
        refine Y (wg rfl rfl rfl c11) rfl (ym (v := .int .i64 (x1.length : Int)) (et rfl rfl)) ?_
        refine Y (wg rfl rfl rfl c11) rfl (yneq (et rfl rfl) (et rfl rfl)) ?_
        refine Y wn rfl (ypf (v := .bool (!(decide ((x5.length : Int) = (x1.length : Int))))) (et rfl rfl) c11 (et rfl rfl)) ?_
        exact j1 _ _ ⟨rfl, (congrArg Value.bool (orF c11)), hst⟩
    clear hst
    rintro f w ⟨e10_1, e10_32, hst⟩
    refine Y wn rfl (ym (v := .bool ((!(decide ((x3.length : Int) = (x1.length : Int)))) || (!(decide ((x5.length : Int) = (x1.length : Int)))))) (et rfl e10_32)) ?_
    obtain ⟨r13, gr13, hM⟩ := bs hM
    refine joinW 5 (fun f w => f 1 = .pointer (some ⟨b7, 0, none⟩) ∧ f 38 = .bool r13 ∧ St w0 (ros) (box b7 29 [h2.v, h4.v, h6.v] :: rs) w) (fun j2 => ?_) ?_
    · rcases iteS gr13 with ⟨c15, gr13⟩ | ⟨c15, gr13⟩
      · refine Gn (wx rfl rfl rfl c15) rfl ?_
        refine Gn (wx rfl rfl rfl c15) rfl ?_
        refine Gn (wx rfl rfl rfl c15) rfl ?_
        refine Gn (wx rfl rfl rfl c15) rfl ?_
        refine Y wn rfl (ypt (v := .bool true) (et rfl rfl) c15 rfl) ?_
        obtain rfl := someI gr13
        exact j2 _ _ ⟨e10_1, rfl, hst⟩
      · refine Y (wg rfl rfl rfl (bfalse c15)) rfl (yFb FL_29_1 (et rfl e10_1)) ?_
        refine Y (wg rfl rfl rfl (bfalse c15)) rfl (yLb (u := h4.v) O_22 (et rfl rfl) hst mhR rfl) ?_
        obtain ⟨r16, gr16, gr13⟩ := bs gr13
        refine Yc (wg rfl rfl rfl (bfalse c15)) rfl (yCall FN_42 (a1 (et rfl rfl))) (dissect_weights_ok (hM := gr16) (hst := hst) (q1 := q2)) ?_
        clear hst
        rintro _ w ⟨rfl, hst⟩
        refine ⟨_, rfl, ?_⟩
        refine Y (wg rfl rfl rfl (bfalse c15)) rfl (ynot (et rfl rfl)) ?_
        refine Y wn rfl (ypf (v := .bool (!(r16))) (et rfl rfl) (bfalse c15) (et rfl rfl)) ?_
        obtain rfl := someI gr13
        exact j2 _ _ ⟨e10_1, rfl, hst⟩
    clear hst
    rintro f w ⟨e14_1, e14_38, hst⟩
    refine wpList_nil ?_
    refine k7 _ _ ?_
    rcases iteS hM with ⟨c17, hM⟩ | ⟨c17, hM⟩
    · refine condT (et rfl e14_38) c17 ?_
      refine seqQ fun Q8 k8 z8 => ?_
      refine wp_region_lit ?_
      refine Y wn rfl (ya (v := .int .i64 1) rfl) ?_
      refine wpList_nil ?_
      refine k8 _ _ ?_
      refine wp_ret ?_
      refine z6 _ _ _ rfl ?_
      obtain rfl := someI hM
      exact hQ _ _ _ (fin1r Try.results23 ⟨rfl, rfl⟩ ⟨rfl, (hst.pk 1 [] rfl)⟩)
    · refine condF (et rfl e14_38) (bfalse c17) ?_
      refine wp_skip ?_
      refine k6 _ _ ?_
      refine seqQ fun Q9 k9 z9 => ?_
      refine seqQ fun Q10 k10 z10 => ?_
      refine wp_region_lit ?_
      refine Y wn rfl (yFb FL_29_0 (et rfl e14_1)) ?_
      refine Y wn rfl (yFb FL_27_0 (et rfl rfl)) ?_
      refine Y wn rfl (yLb (u := h2.v) O_25 (et rfl rfl) hst mhR rfl) ?_
      refine Y wn rfl (yLen SL_25 (et rfl rfl) hst (rdI q1)) ?_
      refine Y wn rfl (ym (v := .int .i64 0) rfl) ?_
      refine wpList_nil ?_
      refine k10 _ _ ?_
      refine blockQ fun Q11 qb11 => ?_
      obtain ⟨o5, go5, hM⟩ := bs hM
      have je5_0 : ∀ (f : Nat → Value) (w : World), f 1 = .pointer (some ⟨b7, 0, none⟩) → St w0 (ros) (box b7 29 [h2.v, h4.v, h6.v] :: rs) w → .inl () = o5 → Q11 (.exit 0) (fr 98 f) w := by
        intro f w eje5_0_1 hst ho
        subst ho
        refine qb11 _ _ _ ?_
        refine k9 _ _ ?_
        refine seqQ fun Q26 k26 z26 => ?_
        refine seqQ fun Q27 k27 z27 => ?_
        refine wp_region_lit ?_
        refine Y wn rfl (yFb FL_29_0 (et rfl eje5_0_1)) ?_
        refine Y wn rfl (yFb FL_27_0 (et rfl rfl)) ?_
        refine Y wn rfl (yLb (u := h2.v) O_25 (et rfl rfl) hst mhR rfl) ?_
        refine Y wn rfl (yLen SL_25 (et rfl rfl) hst (rdI q1)) ?_
        refine Y wn rfl (ym (v := .int .i64 0) rfl) ?_
        refine wpList_nil ?_
        refine k27 _ _ ?_
        refine blockQ fun Q28 qb28 => ?_
        obtain ⟨o8, go8, hM⟩ := bs hM
        have je8_0 : ∀ (f : Nat → Value) (w : World), St w0 (ros) (rs) w → .inl () = o8 → Q28 (.exit 2) (fr 98 f) w := by
          intro f w hst ho
          subst ho
          refine qb28 _ _ _ ?_
          refine k26 _ _ ?_
          refine seqQ fun Q85 k85 z85 => ?_
          refine wp_region_lit ?_
          refine Y wn rfl (ya (v := .int .i64 0) rfl) ?_
          refine wpList_nil ?_
          refine k85 _ _ ?_
          refine wp_ret ?_
          obtain rfl := someI hM
          exact hQ _ _ _ (fin1r Try.results23 ⟨rfl, rfl⟩ ⟨rfl, hst⟩)
        have je8_1 : ∀ (f : Nat → Value) (w : World), f 2 = .int .i64 1 → St w0 (ros) (rs) w → .inr () = o8 → Q28 .ret (fr 98 f) w := by
          intro f w eje8_1_2 hst ho
          subst ho
          refine qb28 _ _ _ ?_
          refine z26 _ _ _ rfl ?_
          obtain rfl := someI hM
          exact hQ _ _ _ (fin1r Try.results23 ⟨rfl, eje8_1_2⟩ ⟨rfl, hst⟩)
        refine loopQ (fun s a w => ∃ (x76 : Int) (f : Nat → Value), x76 = s ∧ a = fr 98 f ∧ f 1 = .pointer (some ⟨b7, 0, none⟩) ∧ f 69 = h2.v ∧ f 70 = .int .i64 (x1.length : Int) ∧ f 71 = .int .i64 x76 ∧ St w0 (ros) (box b7 29 [h2.v, h4.v, h6.v] :: rs) w) go8 ⟨_, _, rfl, rfl, eje5_0_1, rfl, rfl, rfl, hst⟩ ?_
        clear hst
        rintro _ _ w r8_ ⟨x76, f, rfl, rfl, e8_1, e8_69, e8_70, e8_71, hst⟩ hM8 ho8 Q100008 n8 zz8
        refine seqQ fun Q86 k86 z86 => ?_
        refine wp_region_lit ?_
        refine Y wn rfl (ylss (et rfl e8_71) (et rfl e8_70)) ?_
        refine wpList_nil ?_
        refine k86 _ _ ?_
        refine seqQ fun Q87 k87 z87 => ?_
        rcases iteS hM8 with ⟨c104, hM8⟩ | ⟨c104, hM8⟩
        · refine condT (et rfl rfl) (decide_eq_true c104) ?_
          refine wp_skip ?_
          refine k87 _ _ ?_
          refine seqQ fun Q88 k88 z88 => ?_
          refine blockQ fun Q89 qb89 => ?_
          refine seqQ fun Q90 k90 z90 => ?_
          refine wp_region_lit ?_
          refine Y wn rfl (ym (v := .int .i64 x76) (et rfl e8_71)) ?_
          obtain ⟨x105, gx105, hM8⟩ := bs hM8
          refine Y wn rfl (yIa SL_25 (et rfl e8_69) (et rfl e8_71) hst (rdI q1) gx105) ?_
          obtain ⟨h106, hst⟩ := iLs hst q1 gx105
          refine Y wn rfl (yCt O_22 (et rfl rfl) hst (mtF mhF) rfl) ?_
          refine Y wn rfl (ya (v := .int .i64 x76) (et rfl rfl)) ?_
          refine Y wn rfl (ya (v := h106.v) (et rfl rfl)) ?_
          refine wpList_nil ?_
          refine k90 _ _ ?_
          refine seqQ fun Q91 k91 z91 => ?_
          refine wp_region_lit ?_
          refine Y wn rfl (ym (v := h106.v) (et rfl rfl)) ?_
          refine Y wn rfl (yLen SL_22 (et rfl rfl) hst (rdI mhF)) ?_
          refine Y wn rfl (ym (v := .int .i64 0) rfl) ?_
          refine wpList_nil ?_
          refine k91 _ _ ?_
          refine blockQ fun Q92 qb92 => ?_
          obtain ⟨o9, go9, hM8⟩ := bs hM8
          have je9_0 : ∀ (f : Nat → Value) (w : World), f 1 = .pointer (some ⟨b7, 0, none⟩) → f 69 = h2.v → f 70 = .int .i64 (x1.length : Int) → f 71 = .int .i64 x76 → St w0 (ros) (box b7 29 [h2.v, h4.v, h6.v] :: rs) w → .inl () = o9 → Q92 (.exit 4) (fr 98 f) w := by
            intro f w eje9_0_1 eje9_0_69 eje9_0_70 eje9_0_71 hst ho
            subst ho
            refine qb92 _ _ _ ?_
            refine qb89 _ _ _ ?_
            refine k88 _ _ ?_
            refine wp_region_lit ?_
            refine Y wn rfl (yadd (et rfl eje9_0_71) rfl) ?_
            refine Y wn rfl (ym (v := .int .i64 (wa .i64 x76 1)) (et rfl rfl)) ?_
            refine wpList_nil ?_
            obtain rfl := someI hM8
            exact n8 _ _ _ rfl ⟨_, _, rfl, rfl, eje9_0_1, eje9_0_69, eje9_0_70, rfl, hst⟩
          have je9_1 : ∀ (f : Nat → Value) (w : World), f 2 = .int .i64 1 → St w0 (ros) (rs) w → .inr () = o9 → Q92 .ret (fr 98 f) w := by
            intro f w eje9_1_2 hst ho
            subst ho
            refine qb92 _ _ _ ?_
            refine qb89 _ _ _ ?_
            refine z88 _ _ _ rfl ?_
            obtain rfl := someI hM8
            refine zz8 _ _ _ _ rfl rfl ?_
            exact je8_1 _ _ eje9_1_2 hst (ho8 _ rfl)
          refine loopQ (fun s a w => ∃ (x114 : Int) (f : Nat → Value), x114 = s ∧ a = fr 98 f ∧ f 1 = .pointer (some ⟨b7, 0, none⟩) ∧ f 7 = .int .i64 x76 ∧ f 69 = h2.v ∧ f 70 = .int .i64 (x1.length : Int) ∧ f 71 = .int .i64 x76 ∧ f 76 = h106.v ∧ f 77 = .int .i64 (x105.length : Int) ∧ f 78 = .int .i64 x114 ∧ St w0 (imm (rI .i64) h106.v x105 :: ros) (box b7 29 [h2.v, h4.v, h6.v] :: rs) w) go9 ⟨_, _, rfl, rfl, e8_1, rfl, e8_69, e8_70, e8_71, rfl, rfl, rfl, (hst.facts (allC mhF (allT (allT allI))))⟩ ?_
          clear hst
          rintro _ _ w r9_ ⟨x114, f, rfl, rfl, e9_1, e9_7, e9_69, e9_70, e9_71, e9_76, e9_77, e9_78, hst⟩ hM9 ho9 Q100009 n9 zz9
          refine seqQ fun Q107 k107 z107 => ?_
          refine wp_region_lit ?_
          refine Y wn rfl (ylss (et rfl e9_78) (et rfl e9_77)) ?_
          refine wpList_nil ?_
          refine k107 _ _ ?_
          refine seqQ fun Q108 k108 z108 => ?_
          rcases iteS hM9 with ⟨c123, hM9⟩ | ⟨c123, hM9⟩
          · refine condT (et rfl rfl) (decide_eq_true c123) ?_
            refine wp_skip ?_
            refine k108 _ _ ?_
            refine seqQ fun Q109 k109 z109 => ?_
            refine blockQ fun Q110 qb110 => ?_
            refine seqQ fun Q111 k111 z111 => ?_
            refine wp_region_lit ?_
            refine Y wn rfl (ym (v := .int .i64 x114) (et rfl e9_78)) ?_
            obtain ⟨x124, gx124, hM9⟩ := bs hM9
            refine Y wn rfl (yIa SL_22 (et rfl e9_76) (et rfl e9_78) hst (rdI mhF) gx124) ?_
            refine Y wn rfl (yI O_3 (et rfl rfl) hst (rdI mhF) gx124) ?_
            refine Y wn rfl (ya (v := .int .i64 x114) (et rfl rfl)) ?_
            refine Y wn rfl (ya (v := .int .i64 x124) (et rfl rfl)) ?_
            refine wpList_nil ?_
            refine k111 _ _ ?_
            refine seqQ fun Q112 k112 z112 => ?_
            obtain ⟨x125, gx125, hM9⟩ := bs hM9
            obtain ⟨x127, gx127, hM9⟩ := bs hM9
            obtain ⟨r128, gr128, hM9⟩ := bs hM9
            refine wp_drawR [0, 1, 0, 7, 15, 0, 63, 127, 0, 0, 0, 1792, 4095] [11] 1 folM (by kernel_rfl) (by kernel_rfl) (by kernel_rfl) ?_
            replace hst := hst.drew
            refine DRn (l1 := [0, 1, 2, 3, 4, 5, 6, 7, 8, 9, 10]) (l2 := []) (lc := [11]) (by kernel_rfl) (by kernel_rfl) (by kernel_rfl) ?_
            refine Ry rfl rfl wn (yFb FL_29_2 (et rfl e9_1)) ?_
            refine Ry rfl rfl wn (yLb (u := h6.v) O_25 (et rfl rfl) hst mhR rfl) ?_
            refine Ry rfl rfl wn (ym (v := .int .i64 x76) (et rfl e9_7)) ?_
            refine Ry rfl rfl wn (yIa SL_25 (et rfl rfl) (et rfl rfl) hst (rdI (mtF q3)) gx125) ?_
            obtain ⟨h126, hst⟩ := iLs hst (mtF q3) gx125
            refine Ry rfl rfl wn (yCt O_22 (et rfl rfl) hst (mtF mhF) rfl) ?_
            refine Ry rfl rfl wn (ym (v := .int .i64 x114) (et rfl rfl)) ?_
            refine Ry rfl rfl wn (yIa SL_22 (et rfl rfl) (et rfl rfl) hst (rdI mhF) gx127) ?_
            refine Ry rfl rfl wn (yI O_3 (et rfl rfl) hst (rdI mhF) gx127) ?_
            refine Ry rfl rfl wn (yLbs (us := [h2.v, h4.v, h6.v]) ST_29 (et rfl e9_1) hst mhR rfl rfl) ?_
            refine Ry rfl rfl wn (ym (v := .int .i64 x124) (et rfl rfl)) ?_
            refine Ry rfl rfl wn (ym (v := .int .i64 x76) (et rfl e9_7)) ?_
            refine Rn QSn ?_
            refine Lc rfl ?_ LAn
            refine Lk wn (yCall FN_43 (a3 (et rfl rfl) (et rfl rfl) (et rfl rfl))) (dissect_weight_ok (hM := gr128) (hst := hst) (q1 := (mtF (mtF (mtF q1)))) (q2 := (mtF (mtF (mtF q2)))) (q3 := (mtF (mtF (mtF q3))))) ?_
            clear hst
            rintro _ w ⟨rfl, hst⟩
            refine ⟨_, rfl, ?_⟩
            refine DRz (l1 := [12]) (l2 := [0, 1, 2, 3, 4, 5, 6, 7]) (by kernel_rfl) (by kernel_rfl) ?_
            refine Ry rfl rfl wn (yneq (et rfl rfl) (et rfl rfl)) ?_
            refine Rn (Sy rfl rfl wn (yFb FL_29_2 (et rfl e9_1)) rfl (Sy rfl rfl wn (yLb (u := h6.v) O_25 (et rfl rfl) hst mhR rfl) rfl (Sy rfl rfl wn (ym (v := .int .i64 x76) (et rfl e9_7)) rfl (Sy rfl rfl wn (yIa SL_25 (et rfl rfl) (et rfl rfl) hst (rdI (mtF (mtF (mtF q3)))) gx125) rfl (Sy rfl rfl wn (yCt O_22 (et rfl rfl) hst (mtF mhF) rfl) rfl (Sy rfl rfl wn (ym (v := .int .i64 x114) (et rfl rfl)) rfl (Sy rfl rfl wn (yIa SL_22 (et rfl rfl) (et rfl rfl) hst (rdI mhF) gx127) rfl (Sy rfl rfl wn (yI O_3 (et rfl rfl) hst (rdI mhF) gx127) rfl QSn)))))))) ?_
            refine k112 _ _ ?_
            rcases iteS hM9 with ⟨c129, hM9⟩ | ⟨c129, hM9⟩
            · refine condF (et rfl rfl) (nF (decide_eq_true c129)) ?_
              refine wp_skip ?_
              refine qb110 _ _ _ ?_
              refine k109 _ _ ?_
              refine wp_region_lit ?_
              refine Y wn rfl (yadd (et rfl e9_78) rfl) ?_
              refine Y wn rfl (ym (v := .int .i64 (wa .i64 x114 1)) (et rfl rfl)) ?_
              refine wpList_nil ?_
              obtain rfl := someI hM9
              exact n9 _ _ _ rfl ⟨_, _, rfl, rfl, e9_1, e9_7, e9_69, e9_70, e9_71, e9_76, e9_77, rfl, (hst.facts (allC (mtF (mtF mhF)) (allT (allT (allT allI)))))⟩
            · refine condT (et rfl rfl) (nT (decide_eq_false c129)) ?_
              refine seqQ fun Q113 k113 z113 => ?_
              refine wp_region_lit ?_
              refine Y wn rfl (ya (v := .int .i64 1) rfl) ?_
              refine wpList_nil ?_
              refine k113 _ _ ?_
              refine wp_ret ?_
              refine qb110 _ _ _ ?_
              refine z109 _ _ _ rfl ?_
              obtain rfl := someI hM9
              refine zz9 _ _ _ _ rfl rfl ?_
              exact je9_1 _ _ rfl ((hst.pk 1 [] rfl).facts (allT (allT (allT allI)))) (ho9 _ rfl)
          · refine condF (et rfl rfl) (decide_eq_false c123) ?_
            refine wp_exit ?_
            refine z108 _ _ _ rfl ?_
            obtain rfl := someI hM9
            refine zz9 _ _ _ _ rfl rfl ?_
            exact je9_0 _ _ e9_1 e9_69 e9_70 e9_71 (hst.facts (allT allI)) (ho9 _ rfl)
        · refine condF (et rfl rfl) (decide_eq_false c104) ?_
          refine wp_exit ?_
          refine z87 _ _ _ rfl ?_
          obtain rfl := someI hM8
          refine zz8 _ _ _ _ rfl rfl ?_
          exact je8_0 _ _ (hst.pk 1 [] rfl) (ho8 _ rfl)
      have je5_1 : ∀ (f : Nat → Value) (w : World), f 2 = .int .i64 1 → St w0 (ros) (rs) w → .inr () = o5 → Q11 .ret (fr 98 f) w := by
        intro f w eje5_1_2 hst ho
        subst ho
        refine qb11 _ _ _ ?_
        refine z9 _ _ _ rfl ?_
        obtain rfl := someI hM
        exact hQ _ _ _ (fin1r Try.results23 ⟨rfl, eje5_1_2⟩ ⟨rfl, hst⟩)
      refine loopQ (fun s a w => ∃ (x33 : Int) (f : Nat → Value), x33 = s ∧ a = fr 98 f ∧ f 1 = .pointer (some ⟨b7, 0, none⟩) ∧ f 41 = h2.v ∧ f 42 = .int .i64 (x1.length : Int) ∧ f 43 = .int .i64 x33 ∧ St w0 (ros) (box b7 29 [h2.v, h4.v, h6.v] :: rs) w) go5 ⟨_, _, rfl, rfl, e14_1, rfl, rfl, rfl, hst⟩ ?_
      clear hst
      rintro _ _ w r5_ ⟨x33, f, rfl, rfl, e5_1, e5_41, e5_42, e5_43, hst⟩ hM5 ho5 Q100005 n5 zz5
      refine seqQ fun Q114 k114 z114 => ?_
      refine wp_region_lit ?_
      refine Y wn rfl (ylss (et rfl e5_43) (et rfl e5_42)) ?_
      refine wpList_nil ?_
      refine k114 _ _ ?_
      refine seqQ fun Q115 k115 z115 => ?_
      rcases iteS hM5 with ⟨c130, hM5⟩ | ⟨c130, hM5⟩
      · refine condT (et rfl rfl) (decide_eq_true c130) ?_
        refine wp_skip ?_
        refine k115 _ _ ?_
        refine seqQ fun Q116 k116 z116 => ?_
        refine blockQ fun Q117 qb117 => ?_
        refine seqQ fun Q118 k118 z118 => ?_
        refine wp_region_lit ?_
        refine Y wn rfl (ym (v := .int .i64 x33) (et rfl e5_43)) ?_
        obtain ⟨x131, gx131, hM5⟩ := bs hM5
        refine Y wn rfl (yIa SL_25 (et rfl e5_41) (et rfl e5_43) hst (rdI q1) gx131) ?_
        obtain ⟨h132, hst⟩ := iLs hst q1 gx131
        refine Y wn rfl (yCt O_22 (et rfl rfl) hst (mtF mhF) rfl) ?_
        refine Y wn rfl (ya (v := .int .i64 x33) (et rfl rfl)) ?_
        refine Y wn rfl (ya (v := h132.v) (et rfl rfl)) ?_
        refine wpList_nil ?_
        refine k118 _ _ ?_
        refine seqQ fun Q119 k119 z119 => ?_
        refine wp_region_lit ?_
        refine Y wn rfl (yFb FL_29_2 (et rfl e5_1)) ?_
        refine Y wn rfl (yLb (u := h6.v) O_25 (et rfl rfl) hst mhR rfl) ?_
        refine Y wn rfl (ym (v := .int .i64 x33) (et rfl rfl)) ?_
        obtain ⟨x133, gx133, hM5⟩ := bs hM5
        refine Y wn rfl (yIa SL_25 (et rfl rfl) (et rfl rfl) hst (rdI (mtF (mtF q3))) gx133) ?_
        obtain ⟨h134, hst⟩ := iLs hst (mtF (mtF q3)) gx133
        refine Y wn rfl (yCt O_22 (et rfl rfl) hst (mtF mhF) rfl) ?_
        refine Y wn rfl (yLen SL_22 (et rfl rfl) hst (rdI mhF)) ?_
        refine Y wn rfl (ym (v := h132.v) (et rfl rfl)) ?_
        refine Y wn rfl (yLen SL_22 (et rfl rfl) hst (rdI (mtF (mtF mhF)))) ?_
        refine Y wn rfl (yneq (et rfl rfl) (et rfl rfl)) ?_
        refine Y wn rfl (ym (v := .bool (!(decide ((x133.length : Int) = (x131.length : Int))))) (et rfl rfl)) ?_
        obtain ⟨r138, gr138, hM5⟩ := bs hM5
        refine joinW 8 (fun f w => f 1 = .pointer (some ⟨b7, 0, none⟩) ∧ f 41 = h2.v ∧ f 42 = .int .i64 (x1.length : Int) ∧ f 43 = .int .i64 x33 ∧ f 65 = .bool r138 ∧ St w0 (ros) (box b7 29 [h2.v, h4.v, h6.v] :: rs) w) (fun j10 => ?_) ?_
        · rcases iteS gr138 with ⟨c140, gr138⟩ | ⟨c140, gr138⟩
          · refine Y (wg rfl rfl rfl (nF (decide_eq_true c140))) rfl (yFb FL_29_2 (et rfl e5_1)) ?_
            refine Y (wg rfl rfl rfl (nF (decide_eq_true c140))) rfl (yLb (u := h6.v) O_25 (et rfl rfl) hst mhR rfl) ?_
            refine Y (wg rfl rfl rfl (nF (decide_eq_true c140))) rfl (ym (v := .int .i64 x33) (et rfl rfl)) ?_
            obtain ⟨x141, gx141, gr138⟩ := bs gr138
            refine Y (wg rfl rfl rfl (nF (decide_eq_true c140))) rfl (yIa SL_25 (et rfl rfl) (et rfl rfl) hst (rdI (mtF (mtF (mtF (mtF q3))))) gx141) ?_
            obtain ⟨h142, hst⟩ := iLs hst (mtF (mtF (mtF (mtF q3)))) gx141
            refine Y (wg rfl rfl rfl (nF (decide_eq_true c140))) rfl (yCt O_22 (et rfl rfl) hst (mtF mhF) rfl) ?_
            obtain ⟨r143, gr143, gr138⟩ := bs gr138
            refine Yc (wg rfl rfl rfl (nF (decide_eq_true c140))) rfl (yCall FN_42 (a1 (et rfl rfl))) (dissect_weights_ok (hM := gr143) (hst := hst) (q1 := mhF)) ?_
            clear hst
            rintro _ w ⟨rfl, hst⟩
            refine ⟨_, rfl, ?_⟩
            refine Y (wg rfl rfl rfl (nF (decide_eq_true c140))) rfl (ynot (et rfl rfl)) ?_
            refine Y wn rfl (ypf (v := .bool (!(r143))) (et rfl rfl) (nF (decide_eq_true c140)) (et rfl rfl)) ?_
            obtain rfl := someI gr138
            exact j10 _ _ ⟨e5_1, e5_41, e5_42, e5_43, rfl, (hst.facts (allT (allT (allT (allT (allT (allT allI)))))))⟩
          · refine Gn (wx rfl rfl rfl (nT (decide_eq_false c140))) rfl ?_
            refine Gn (wx rfl rfl rfl (nT (decide_eq_false c140))) rfl ?_
            refine Gn (wx rfl rfl rfl (nT (decide_eq_false c140))) rfl ?_
            refine Gn (wx rfl rfl rfl (nT (decide_eq_false c140))) rfl ?_
            refine Gn (wx rfl rfl rfl (nT (decide_eq_false c140))) rfl ?_
            refine Gn (wx rfl rfl rfl (nT (decide_eq_false c140))) rfl ?_
            refine Gn (wx rfl rfl rfl (nT (decide_eq_false c140))) rfl ?_
            refine Y wn rfl (ypt (v := .bool true) (et rfl rfl) (nT (decide_eq_false c140)) rfl) ?_
            obtain rfl := someI gr138
            exact j10 _ _ ⟨e5_1, e5_41, e5_42, e5_43, rfl, (hst.facts (allT (allT (allT (allT allI)))))⟩
        clear hst
        rintro f w ⟨e139_1, e139_41, e139_42, e139_43, e139_65, hst⟩
        refine wpList_nil ?_
        refine k119 _ _ ?_
        rcases iteS hM5 with ⟨c144, hM5⟩ | ⟨c144, hM5⟩
        · refine condT (et rfl e139_65) c144 ?_
          refine seqQ fun Q120 k120 z120 => ?_
          refine wp_region_lit ?_
          refine Y wn rfl (ya (v := .int .i64 1) rfl) ?_
          refine wpList_nil ?_
          refine k120 _ _ ?_
          refine wp_ret ?_
          refine qb117 _ _ _ ?_
          refine z116 _ _ _ rfl ?_
          obtain rfl := someI hM5
          refine zz5 _ _ _ _ rfl rfl ?_
          exact je5_1 _ _ rfl (hst.pk 1 [] rfl) (ho5 _ rfl)
        · refine condF (et rfl e139_65) (bfalse c144) ?_
          refine wp_skip ?_
          refine qb117 _ _ _ ?_
          refine k116 _ _ ?_
          refine wp_region_lit ?_
          refine Y wn rfl (yadd (et rfl e139_43) rfl) ?_
          refine Y wn rfl (ym (v := .int .i64 (wa .i64 x33 1)) (et rfl rfl)) ?_
          refine wpList_nil ?_
          obtain rfl := someI hM5
          exact n5 _ _ _ rfl ⟨_, _, rfl, rfl, e139_1, e139_41, e139_42, rfl, hst⟩
      · refine condF (et rfl rfl) (decide_eq_false c130) ?_
        refine wp_exit ?_
        refine z115 _ _ _ rfl ?_
        obtain rfl := someI hM5
        refine zz5 _ _ _ _ rfl rfl ?_
        exact je5_0 _ _ e5_1 hst (ho5 _ rfl)
  · refine condT (et rfl rfl) (nT (decide_eq_false c9)) ?_
    refine seqQ fun Q121 k121 z121 => ?_
    refine wp_region_lit ?_
    refine Y wn rfl (ym (v := .int .i64 r8) (et rfl rfl)) ?_
    refine Y wn rfl (ya (v := .int .i64 r8) (et rfl rfl)) ?_
    refine wpList_nil ?_
    refine k121 _ _ ?_
    refine wp_ret ?_
    refine z3 _ _ _ rfl ?_
    obtain rfl := someI hM
    exact hQ _ _ _ (fin1r Try.results23 ⟨rfl, rfl⟩ ⟨rfl, (hst.pk 1 [] rfl)⟩)

theorem dissect_Bisect_ok {w0 : World} {ros : List Fact} {rs : List Res} {w : World} {x1 : List (List Int)} {x3 : List Int} {x5 : List (List Int)} {h2 : Hdr} {h4 : Hdr} {h6 : Hdr} {out : (List Int) × Int} (hM : dissect_Bisect x1 x3 x5 = some out) (q1 : imm (rS (rI .i64)) h2.v x1 ∈ ros) (q2 : imm (rI .i64) h4.v x3 ∈ ros) (q3 : imm (rS (rI .i64)) h6.v x5 ∈ ros) (hst : St w0 ros (rs) w) :
    Calls Try.prog 14 #[.agg #[h2.v, h4.v, h6.v]] w (fun e w => ∃ (h100001 : Hdr), e = .returned (.tuple #[h100001.v, .int .i64 out.2]) ∧ St w0 (ros) (row 3 (rI .i64) h100001.v out.1 :: rs) w) := by
  refine enterQ Try.func14 rfl Try.ntmps14 rfl fun Q hQ => ?_
  refine seqQ fun Q1 k1 z1 => ?_
  refine wp_region_lit ?_
  refine YB wn rfl (r_box (vals := [h2.v, h4.v, h6.v]) hst (et rfl rfl) rfl) ?_
  clear hst
  intro b7 w hst
  refine Y wn rfl (ya (v := hnil.v) rfl) ?_
  refine Y wn rfl (ya (v := .int .i64 0) rfl) ?_
  refine wpList_nil ?_
  refine k1 _ _ ?_
  refine seqQ fun Q2 k2 z2 => ?_
  refine wp_region_lit ?_
  refine Y wn rfl (yLbs (us := [h2.v, h4.v, h6.v]) ST_29 (et rfl rfl) hst mhR rfl rfl) ?_
  obtain ⟨r8, gr8, hM⟩ := bs hM
  refine Yc wn rfl (yCall FN_23 (a1 (et rfl rfl))) (dissect_CheckWeighted_ok (hM := gr8) (hst := hst) (q1 := q1) (q2 := q2) (q3 := q3)) ?_
  clear hst
  rintro _ w ⟨rfl, hst⟩
  refine ⟨_, rfl, ?_⟩
  refine Y wn rfl (ya (v := .int .i64 r8) (et rfl rfl)) ?_
  refine wpList_nil ?_
  refine k2 _ _ ?_
  refine seqQ fun Q3 k3 z3 => ?_
  refine seqQ fun Q4 k4 z4 => ?_
  refine wp_region_lit ?_
  refine Y wn rfl (ym (v := .int .i64 r8) (et rfl rfl)) ?_
  refine Y wn rfl (yneq (et rfl rfl) rfl) ?_
  refine wpList_nil ?_
  refine k4 _ _ ?_
  rcases iteS hM with ⟨c9, hM⟩ | ⟨c9, hM⟩
  · refine condF (et rfl rfl) (nF (decide_eq_true c9)) ?_
    refine wp_skip ?_
    refine k3 _ _ ?_
    refine seqQ fun Q5 k5 z5 => ?_
    refine wp_region_lit ?_
    refine Y wn rfl (yLbs (us := [h2.v, h4.v, h6.v]) ST_29 (et rfl rfl) hst mhR rfl rfl) ?_
    obtain ⟨r10, gr10, hM⟩ := bs hM
    refine Yc wn rfl (yCall FN_32 (a1 (et rfl rfl))) (dissect_bisect_ok (hM := gr10) (hst := hst) (q1 := q1) (q2 := q2) (q3 := q3)) ?_
    clear hst
    rintro _ w ⟨h11, rfl, hst⟩
    refine ⟨_, rfl, ?_⟩
    refine Y wn rfl (ym (v := .tuple #[h11.v, .bool r10.2]) (et rfl rfl)) ?_
    refine Y wn rfl (yx (v := h11.v) (et rfl rfl) rfl) ?_
    refine Y wn rfl (yx (v := .bool r10.2) (et rfl rfl) rfl) ?_
    refine Y wn rfl (ya (v := h11.v) (et rfl rfl)) ?_
    refine Y wn rfl (ya (v := .bool r10.2) (et rfl rfl)) ?_
    refine wpList_nil ?_
    refine k5 _ _ ?_
    refine seqQ fun Q6 k6 z6 => ?_
    refine seqQ fun Q7 k7 z7 => ?_
    refine wp_region_lit ?_
    refine Y wn rfl (ym (v := .bool r10.2) (et rfl rfl)) ?_
    refine Y wn rfl (ynot (et rfl rfl)) ?_
    refine wpList_nil ?_
    refine k7 _ _ ?_
    rcases iteS hM with ⟨c12, hM⟩ | ⟨c12, hM⟩
    · refine condF (et rfl rfl) (nF c12) ?_
      refine wp_skip ?_
      refine k6 _ _ ?_
      refine seqQ fun Q8 k8 z8 => ?_
      refine wp_region_lit ?_
      refine Y wn rfl (ym (v := h11.v) (et rfl rfl)) ?_
      refine Y wn rfl (ya (v := h11.v) (et rfl rfl)) ?_
      refine Y wn rfl (ya (v := .int .i64 0) rfl) ?_
      refine wpList_nil ?_
      refine k8 _ _ ?_
      refine wp_ret ?_
      obtain rfl := someI hM
      exact hQ _ _ _ (fin2r Try.results14 ⟨rfl, rfl⟩ ⟨rfl, rfl⟩ ⟨_, rfl, (hst.pk 2 [0] rfl)⟩)
    · refine condT (et rfl rfl) (nT (bfalse c12)) ?_
      refine seqQ fun Q9 k9 z9 => ?_
      refine wp_region_lit ?_
      refine Y wn rfl (ya (v := hnil.v) rfl) ?_
      refine Y wn rfl (ya (v := .int .i64 3) rfl) ?_
      refine wpList_nil ?_
      refine k9 _ _ ?_
      refine wp_ret ?_
      refine z6 _ _ _ rfl ?_
      obtain rfl := someI hM
      replace hst := hst.rowNh 3 (rI .i64)
      exact hQ _ _ _ (fin2r Try.results14 ⟨rfl, rfl⟩ ⟨rfl, rfl⟩ ⟨_, rfl, (hst.pk 3 [0] rfl)⟩)
  · refine condT (et rfl rfl) (nT (decide_eq_false c9)) ?_
    refine seqQ fun Q10 k10 z10 => ?_
    refine wp_region_lit ?_
    refine Y wn rfl (ym (v := .int .i64 r8) (et rfl rfl)) ?_
    refine Y wn rfl (ya (v := hnil.v) rfl) ?_
    refine Y wn rfl (ya (v := .int .i64 r8) (et rfl rfl)) ?_
    refine wpList_nil ?_
    refine k10 _ _ ?_
    refine wp_ret ?_
    refine z3 _ _ _ rfl ?_
    obtain rfl := someI hM
    replace hst := hst.rowNh 3 (rI .i64)
    exact hQ _ _ _ (fin2r Try.results14 ⟨rfl, rfl⟩ ⟨rfl, rfl⟩ ⟨_, rfl, (hst.pk 2 [0] rfl)⟩)

theorem dissect_Cut_1_ok {w0 : World} {ros : List Fact} {rs : List Res} {w : World} {x1 : Int} {out : Bool} (hM : dissect_Cut_1 x1 = some out) (hst : St w0 ros (rs) w) :
    Calls Try.prog 36 #[.int .i64 x1] w (fun e w => e = .returned (.bool out) ∧ St w0 (ros) (rs) w) := by
  refine enterQ Try.func36 rfl Try.ntmps36 rfl fun Q hQ => ?_
  refine seqQ fun Q1 k1 z1 => ?_
  refine wp_region_lit ?_
  refine Y wn rfl (ya (v := .bool false) rfl) ?_
  refine wpList_nil ?_
  refine k1 _ _ ?_
  refine seqQ fun Q2 k2 z2 => ?_
  refine wp_region_lit ?_
  refine Y wn rfl (ym (v := .int .i64 x1) (et rfl rfl)) ?_
  refine Y wn rfl (yneq (et rfl rfl) rfl) ?_
  refine Y wn rfl (ym (v := .bool (!(decide (x1 = 0)))) (et rfl rfl)) ?_
  refine joinW 3 (fun f w => f 8 = .bool ((!(decide (x1 = 0))) && (!(decide (x1 = 1)))) ∧ St w0 (ros) (rs) w) (fun j1 => ?_) ?_
  · rcases Bool.eq_false_or_eq_true (!(decide (x1 = 0))) with c3 | c3
    · refine Y (wg rfl rfl rfl c3) rfl (ym (v := .int .i64 x1) (et rfl rfl)) ?_
      refine Y (wg rfl rfl rfl c3) rfl (yneq (et rfl rfl) rfl) ?_
      refine Y wn rfl (ypt (v := .bool (!(decide (x1 = 1)))) (et rfl rfl) c3 (et rfl rfl)) ?_
      exact j1 _ _ ⟨(congrArg Value.bool (andT c3)), hst⟩
    · refine Gn (wx rfl rfl rfl c3) rfl ?_
      refine Gn (wx rfl rfl rfl c3) rfl ?_
      refine Y wn rfl (ypf (v := .bool false) (et rfl rfl) c3 rfl) ?_
      exact j1 _ _ ⟨(congrArg Value.bool (andF c3)), hst⟩
  clear hst
  rintro f w ⟨e2_8, hst⟩
  refine Y wn rfl (ya (v := .bool ((!(decide (x1 = 0))) && (!(decide (x1 = 1))))) (et rfl e2_8)) ?_
  refine wpList_nil ?_
  refine k2 _ _ ?_
  refine wp_ret ?_
  obtain rfl := someI hM
  exact hQ _ _ _ (fin1r Try.results36 ⟨rfl, rfl⟩ ⟨rfl, hst⟩)

theorem slices_IndexFunc_int_v3_ok {w0 : World} {ros : List Fact} {rs : List Res} {w : World} {x1 : List Int} {h2 : Hdr} {out : Int} (hM : slices_IndexFunc_int_v3 x1 = some out) (q1 : imm (rI .i64) h2.v x1 ∈ ros) (hst : St w0 ros (rs) w) :
    Calls Try.prog 61 #[h2.v, .func (.func 36) #[] #[]] w (fun e w => e = .returned (.int .i64 out) ∧ St w0 (ros) (rs) w) := by
  refine enterQ Try.func61 rfl Try.ntmps61 rfl fun Q hQ => ?_
  refine seqQ fun Q1 k1 z1 => ?_
  refine wp_region_lit ?_
  refine Y wn rfl (ya (v := .int .i64 0) rfl) ?_
  refine wpList_nil ?_
  refine k1 _ _ ?_
  refine seqQ fun Q2 k2 z2 => ?_
  refine seqQ fun Q3 k3 z3 => ?_
  refine wp_region_lit ?_
  refine Y wn rfl (ym (v := h2.v) (et rfl rfl)) ?_
  refine Y wn rfl (yLen SL_22 (et rfl rfl) hst (rdI q1)) ?_
  refine Y wn rfl (ym (v := .int .i64 0) rfl) ?_
  refine wpList_nil ?_
  refine k3 _ _ ?_
  refine blockQ fun Q4 qb4 => ?_
  obtain ⟨o1, go1, hM⟩ := bs hM
  have je1_0 : ∀ (f : Nat → Value) (w : World), St w0 (ros) (rs) w → .inl () = o1 → Q4 (.exit 0) (fr 19 f) w := by
    intro f w hst ho
    subst ho
    refine qb4 _ _ _ ?_
    refine k2 _ _ ?_
    refine seqQ fun Q19 k19 z19 => ?_
    refine wp_region_lit ?_
    refine Y wn rfl (ya (v := .int .i64 (-1)) rfl) ?_
    refine wpList_nil ?_
    refine k19 _ _ ?_
    refine wp_ret ?_
    obtain rfl := someI hM
    exact hQ _ _ _ (fin1r Try.results61 ⟨rfl, rfl⟩ ⟨rfl, hst⟩)
  have je1_1 : ∀ (x13 : Int) (f : Nat → Value) (w : World), f 4 = .int .i64 x13 → St w0 (ros) (rs) w → .inr x13 = o1 → Q4 .ret (fr 19 f) w := by
    intro x13 f w eje1_1_4 hst ho
    subst ho
    refine qb4 _ _ _ ?_
    refine z2 _ _ _ rfl ?_
    obtain rfl := someI hM
    exact hQ _ _ _ (fin1r Try.results61 ⟨rfl, eje1_1_4⟩ ⟨rfl, hst⟩)
  refine loopQ (fun s a w => ∃ (x7 : Int) (f : Nat → Value), x7 = s ∧ a = fr 19 f ∧ f 0 = h2.v ∧ f 1 = .func (.func 36) #[] #[] ∧ f 7 = .int .i64 (x1.length : Int) ∧ f 8 = .int .i64 x7 ∧ St w0 (ros) (rs) w) go1 ⟨_, _, rfl, rfl, rfl, rfl, rfl, rfl, hst⟩ ?_
  clear hst
  rintro _ _ w r1_ ⟨x7, f, rfl, rfl, e1_0, e1_1, e1_7, e1_8, hst⟩ hM1 ho1 Q100001 n1 zz1
  refine seqQ fun Q20 k20 z20 => ?_
  refine wp_region_lit ?_
  refine Y wn rfl (ylss (et rfl e1_8) (et rfl e1_7)) ?_
  refine wpList_nil ?_
  refine k20 _ _ ?_
  refine seqQ fun Q21 k21 z21 => ?_
  rcases iteS hM1 with ⟨c14, hM1⟩ | ⟨c14, hM1⟩
  · refine condT (et rfl rfl) (decide_eq_true c14) ?_
    refine wp_skip ?_
    refine k21 _ _ ?_
    refine seqQ fun Q22 k22 z22 => ?_
    refine blockQ fun Q23 qb23 => ?_
    refine seqQ fun Q24 k24 z24 => ?_
    refine wp_region_lit ?_
    refine Y wn rfl (ym (v := .int .i64 x7) (et rfl e1_8)) ?_
    refine Y wn rfl (ya (v := .int .i64 x7) (et rfl rfl)) ?_
    refine wpList_nil ?_
    refine k24 _ _ ?_
    refine seqQ fun Q25 k25 z25 => ?_
    refine wp_region_lit ?_
    refine Y wn rfl (ym (v := .func (.func 36) #[] #[]) (et rfl e1_1)) ?_
    refine Y wn rfl (ym (v := h2.v) (et rfl e1_0)) ?_
    refine Y wn rfl (ym (v := .int .i64 x7) (et rfl rfl)) ?_
    obtain ⟨x15, gx15, hM1⟩ := bs hM1
    refine Y wn rfl (yIa SL_22 (et rfl rfl) (et rfl rfl) hst (rdI q1) gx15) ?_
    refine Y wn rfl (yI O_3 (et rfl rfl) hst (rdI q1) gx15) ?_
    obtain ⟨r16, gr16, hM1⟩ := bs hM1
    refine Yc wn rfl (yCallw FN_36 (et rfl rfl) (a1 (et rfl rfl))) (dissect_Cut_1_ok (hM := gr16) (hst := hst) ) ?_
    clear hst
    rintro _ w ⟨rfl, hst⟩
    refine ⟨_, rfl, ?_⟩
    refine wpList_nil ?_
    refine k25 _ _ ?_
    rcases iteS hM1 with ⟨c17, hM1⟩ | ⟨c17, hM1⟩
    · refine condT (et rfl rfl) c17 ?_
      refine seqQ fun Q26 k26 z26 => ?_
      refine wp_region_lit ?_
      refine Y wn rfl (ym (v := .int .i64 x7) (et rfl rfl)) ?_
      refine Y wn rfl (ya (v := .int .i64 x7) (et rfl rfl)) ?_
      refine wpList_nil ?_
      refine k26 _ _ ?_
      refine wp_ret ?_
      refine qb23 _ _ _ ?_
      refine z22 _ _ _ rfl ?_
      obtain rfl := someI hM1
      refine zz1 _ _ _ _ rfl rfl ?_
      exact je1_1 _ _ _ rfl hst (ho1 _ rfl)
    · refine condF (et rfl rfl) (bfalse c17) ?_
      refine wp_skip ?_
      refine qb23 _ _ _ ?_
      refine k22 _ _ ?_
      refine wp_region_lit ?_
      refine Y wn rfl (yadd (et rfl e1_8) rfl) ?_
      refine Y wn rfl (ym (v := .int .i64 (wa .i64 x7 1)) (et rfl rfl)) ?_
      refine wpList_nil ?_
      obtain rfl := someI hM1
      exact n1 _ _ _ rfl ⟨_, _, rfl, rfl, e1_0, e1_1, e1_7, rfl, hst⟩
  · refine condF (et rfl rfl) (decide_eq_false c14) ?_
    refine wp_exit ?_
    refine z21 _ _ _ rfl ?_
    obtain rfl := someI hM1
    refine zz1 _ _ _ _ rfl rfl ?_
    exact je1_0 _ _ hst (ho1 _ rfl)

theorem slices_ContainsFunc_int_v3_ok {w0 : World} {ros : List Fact} {rs : List Res} {w : World} {x1 : List Int} {h2 : Hdr} {out : Bool} (hM : slices_ContainsFunc_int_v3 x1 = some out) (q1 : imm (rI .i64) h2.v x1 ∈ ros) (hst : St w0 ros (rs) w) :
    Calls Try.prog 35 #[h2.v, .func (.func 36) #[] #[]] w (fun e w => e = .returned (.bool out) ∧ St w0 (ros) (rs) w) := by
  refine enterQ Try.func35 rfl Try.ntmps35 rfl fun Q hQ => ?_
  refine seqQ fun Q1 k1 z1 => ?_
  refine wp_region_lit ?_
  refine Y wn rfl (ya (v := .bool false) rfl) ?_
  refine wpList_nil ?_
  refine k1 _ _ ?_
  refine seqQ fun Q2 k2 z2 => ?_
  refine wp_region_lit ?_
  refine Y wn rfl (ym (v := h2.v) (et rfl rfl)) ?_
  refine Y wn rfl (ym (v := .func (.func 36) #[] #[]) (et rfl rfl)) ?_
  obtain ⟨r3, gr3, hM⟩ := bs hM
  refine Yc wn rfl (yCall FN_61 (a2 (et rfl rfl) (et rfl rfl))) (slices_IndexFunc_int_v3_ok (hM := gr3) (hst := hst) (q1 := q1)) ?_
  clear hst
  rintro _ w ⟨rfl, hst⟩
  refine ⟨_, rfl, ?_⟩
  refine Y wn rfl (ygeq (et rfl rfl) rfl) ?_
  refine Y wn rfl (ya (v := .bool (decide ((0 : Int) ≤ r3))) (et rfl rfl)) ?_
  refine wpList_nil ?_
  refine k2 _ _ ?_
  refine wp_ret ?_
  obtain rfl := someI hM
  exact hQ _ _ _ (fin1r Try.results35 ⟨rfl, rfl⟩ ⟨rfl, hst⟩)

theorem dissect_Cut_ok {w0 : World} {ros : List Fact} {rs : List Res} {w : World} {x1 : List (List Int)} {x3 : List Int} {x5 : List (List Int)} {x7 : List Int} {h2 : Hdr} {h4 : Hdr} {h6 : Hdr} {h8 : Hdr} {out : Int × Int} (hM : dissect_Cut x1 x3 x5 x7 = some out) (q1 : imm (rS (rI .i64)) h2.v x1 ∈ ros) (q2 : imm (rI .i64) h4.v x3 ∈ ros) (q3 : imm (rS (rI .i64)) h6.v x5 ∈ ros) (q4 : imm (rI .i64) h8.v x7 ∈ ros) (hst : St w0 ros (rs) w) :
    Calls Try.prog 20 #[.agg #[h2.v, h4.v, h6.v], h8.v] w (fun e w => e = .returned (.tuple #[.int .i64 out.1, .int .i64 out.2]) ∧ St w0 (ros) (rs) w) := by
  refine enterQ Try.func20 rfl Try.ntmps20 rfl fun Q hQ => ?_
  refine seqQ fun Q1 k1 z1 => ?_
  refine wp_region_lit ?_
  refine YB wn rfl (r_box (vals := [h2.v, h4.v, h6.v]) hst (et rfl rfl) rfl) ?_
  clear hst
  intro b9 w hst
  refine Y wn rfl (ya (v := .int .i64 0) rfl) ?_
  refine Y wn rfl (ya (v := .int .i64 0) rfl) ?_
  refine wpList_nil ?_
  refine k1 _ _ ?_
  refine seqQ fun Q2 k2 z2 => ?_
  refine wp_region_lit ?_
  refine Y wn rfl (yLbs (us := [h2.v, h4.v, h6.v]) ST_29 (et rfl rfl) hst mhR rfl rfl) ?_
  obtain ⟨r10, gr10, hM⟩ := bs hM
  refine Yc wn rfl (yCall FN_23 (a1 (et rfl rfl))) (dissect_CheckWeighted_ok (hM := gr10) (hst := hst) (q1 := q1) (q2 := q2) (q3 := q3)) ?_
  clear hst
  rintro _ w ⟨rfl, hst⟩
  refine ⟨_, rfl, ?_⟩
  refine Y wn rfl (ya (v := .int .i64 r10) (et rfl rfl)) ?_
  refine wpList_nil ?_
  refine k2 _ _ ?_
  refine seqQ fun Q3 k3 z3 => ?_
  refine blockQ fun Q4 qb4 => ?_
  refine seqQ fun Q5 k5 z5 => ?_
  refine wp_region_lit ?_
  refine Y wn rfl (ym (v := .int .i64 r10) (et rfl rfl)) ?_
  refine Y wn rfl (yneq (et rfl rfl) rfl) ?_
  refine Y wn rfl (ya (v := .bool (!(decide (r10 = 0)))) (et rfl rfl)) ?_
  refine wpList_nil ?_
  refine k5 _ _ ?_
  rcases iteS hM with ⟨c11, hM⟩ | ⟨c11, hM⟩
  · refine condF (et rfl rfl) (nF (decide_eq_true c11)) ?_
    refine seqQ fun Q6 k6 z6 => ?_
    refine wp_region_lit ?_
    refine Y wn rfl (ym (v := h8.v) (et rfl rfl)) ?_
    refine Y wn rfl (yLen SL_22 (et rfl rfl) hst (rdI q4)) ?_
    refine Y wn rfl (yFb FL_29_1 (et rfl rfl)) ?_
    refine Y wn rfl (yLb (u := h4.v) O_22 (et rfl rfl) hst mhR rfl) ?_
    refine Y wn rfl (yLen SL_22 (et rfl rfl) hst (rdI q2)) ?_
    refine Y wn rfl (yneq (et rfl rfl) (et rfl rfl)) ?_
    refine Y wn rfl (ya (v := .bool (!(decide ((x7.length : Int) = (x3.length : Int))))) (et rfl rfl)) ?_
    refine wpList_nil ?_
    refine k6 _ _ ?_
    rcases iteS hM with ⟨c12, hM⟩ | ⟨c12, hM⟩
    · refine condF (et rfl rfl) (nF (decide_eq_true c12)) ?_
      refine seqQ fun Q7 k7 z7 => ?_
      refine wp_region_lit ?_
      refine Y wn rfl (ym (v := h8.v) (et rfl rfl)) ?_
      obtain ⟨r13, gr13, hM⟩ := bs hM
      refine Yc wn rfl (yCall FN_35 (a2 (et rfl rfl) rfl)) (slices_ContainsFunc_int_v3_ok (hM := gr13) (hst := hst) (q1 := q4)) ?_
      clear hst
      rintro _ w ⟨rfl, hst⟩
      refine ⟨_, rfl, ?_⟩
      refine Y wn rfl (ya (v := .bool r13) (et rfl rfl)) ?_
      refine wpList_nil ?_
      refine k7 _ _ ?_
      rcases iteS hM with ⟨c14, hM⟩ | ⟨c14, hM⟩
      · refine condT (et rfl rfl) c14 ?_
        refine seqQ fun Q8 k8 z8 => ?_
        refine wp_region_lit ?_
        refine Y wn rfl (ya (v := .int .i64 0) rfl) ?_
        refine Y wn rfl (ya (v := .int .i64 1) rfl) ?_
        refine wpList_nil ?_
        refine k8 _ _ ?_
        refine wp_ret ?_
        refine qb4 _ _ _ ?_
        refine z3 _ _ _ rfl ?_
        obtain rfl := someI hM
        exact hQ _ _ _ (fin2r Try.results20 ⟨rfl, rfl⟩ ⟨rfl, rfl⟩ ⟨rfl, (hst.pk 1 [] rfl)⟩)
      · refine condF (et rfl rfl) (bfalse c14) ?_
        refine wp_skip ?_
        refine qb4 _ _ _ ?_
        refine k3 _ _ ?_
        refine seqQ fun Q9 k9 z9 => ?_
        refine wp_region_lit ?_
        refine Y wn rfl (ya (v := .int .i64 0) rfl) ?_
        refine wpList_nil ?_
        refine k9 _ _ ?_
        refine seqQ fun Q10 k10 z10 => ?_
        refine seqQ fun Q11 k11 z11 => ?_
        refine wp_region_lit ?_
        refine Y wn rfl (yFb FL_29_0 (et rfl rfl)) ?_
        refine Y wn rfl (yFb FL_27_0 (et rfl rfl)) ?_
        refine Y wn rfl (yLb (u := h2.v) O_25 (et rfl rfl) hst mhR rfl) ?_
        refine Y wn rfl (yLen SL_25 (et rfl rfl) hst (rdI q1)) ?_
        refine Y wn rfl (ym (v := .int .i64 0) rfl) ?_
        refine wpList_nil ?_
        refine k11 _ _ ?_
        refine blockQ fun Q12 qb12 => ?_
        obtain ⟨o27, go27, hM⟩ := bs hM
        have je27_0 : ∀ (x125 : Int) (f : Nat → Value) (w : World), f 7 = .int .i64 x125 → St w0 (ros) (rs) w → x125 = o27 → Q12 (.exit 1) (fr 71 f) w := by
          intro x125 f w eje27_0_7 hst ho
          subst ho
          refine qb12 _ _ _ ?_
          refine k10 _ _ ?_
          refine seqQ fun Q63 k63 z63 => ?_
          refine wp_region_lit ?_
          refine Y wn rfl (ym (v := .int .i64 x125) (et rfl eje27_0_7)) ?_
          refine Y wn rfl (ya (v := .int .i64 x125) (et rfl rfl)) ?_
          refine Y wn rfl (ya (v := .int .i64 0) rfl) ?_
          refine wpList_nil ?_
          refine k63 _ _ ?_
          refine wp_ret ?_
          obtain rfl := someI hM
          exact hQ _ _ _ (fin2r Try.results20 ⟨rfl, rfl⟩ ⟨rfl, rfl⟩ ⟨rfl, hst⟩)
        refine loopQ (fun s a w => ∃ (x68 : Int) (x69 : Int) (f : Nat → Value), (x68, x69) = s ∧ a = fr 71 f ∧ f 1 = h8.v ∧ f 2 = .pointer (some ⟨b9, 0, none⟩) ∧ f 7 = .int .i64 x68 ∧ f 30 = h2.v ∧ f 31 = .int .i64 (x1.length : Int) ∧ f 32 = .int .i64 x69 ∧ St w0 (ros) (box b9 29 [h2.v, h4.v, h6.v] :: rs) w) go27 ⟨_, _, _, rfl, rfl, rfl, rfl, rfl, rfl, rfl, rfl, hst⟩ ?_
        clear hst
        rintro _ _ w r27_ ⟨x68, x69, f, rfl, rfl, e27_1, e27_2, e27_7, e27_30, e27_31, e27_32, hst⟩ hM27 ho27 Q100027 n27 zz27
        refine seqQ fun Q64 k64 z64 => ?_
        refine wp_region_lit ?_
        refine Y wn rfl (ylss (et rfl e27_32) (et rfl e27_31)) ?_
        refine wpList_nil ?_
        refine k64 _ _ ?_
        refine seqQ fun Q65 k65 z65 => ?_
        rcases iteS hM27 with ⟨c126, hM27⟩ | ⟨c126, hM27⟩
        · refine condT (et rfl rfl) (decide_eq_true c126) ?_
          refine wp_skip ?_
          refine k65 _ _ ?_
          refine seqQ fun Q66 k66 z66 => ?_
          refine blockQ fun Q67 qb67 => ?_
          refine seqQ fun Q68 k68 z68 => ?_
          refine wp_region_lit ?_
          refine Y wn rfl (ym (v := .int .i64 x69) (et rfl e27_32)) ?_
          obtain ⟨x127, gx127, hM27⟩ := bs hM27
          refine Y wn rfl (yIa SL_25 (et rfl e27_30) (et rfl e27_32) hst (rdI q1) gx127) ?_
          obtain ⟨h128, hst⟩ := iLs hst q1 gx127
          refine Y wn rfl (yCt O_22 (et rfl rfl) hst (mtF mhF) rfl) ?_
          refine Y wn rfl (ya (v := .int .i64 x69) (et rfl rfl)) ?_
          refine Y wn rfl (ya (v := h128.v) (et rfl rfl)) ?_
          refine wpList_nil ?_
          refine k68 _ _ ?_
          refine seqQ fun Q69 k69 z69 => ?_
          refine wp_region_lit ?_
          refine Y wn rfl (ym (v := h128.v) (et rfl rfl)) ?_
          refine Y wn rfl (yLen SL_22 (et rfl rfl) hst (rdI mhF)) ?_
          refine Y wn rfl (ym (v := .int .i64 0) rfl) ?_
          refine wpList_nil ?_
          refine k69 _ _ ?_
          refine blockQ fun Q70 qb70 => ?_
          obtain ⟨o36, go36, hM27⟩ := bs hM27
          have je36_0 : ∀ (x163 : Int) (f : Nat → Value) (w : World), f 1 = h8.v → f 2 = .pointer (some ⟨b9, 0, none⟩) → f 7 = .int .i64 x163 → f 30 = h2.v → f 31 = .int .i64 (x1.length : Int) → f 32 = .int .i64 x69 → St w0 (ros) (box b9 29 [h2.v, h4.v, h6.v] :: rs) w → x163 = o36 → Q70 (.exit 3) (fr 71 f) w := by
            intro x163 f w eje36_0_1 eje36_0_2 eje36_0_7 eje36_0_30 eje36_0_31 eje36_0_32 hst ho
            subst ho
            refine qb70 _ _ _ ?_
            refine qb67 _ _ _ ?_
            refine k66 _ _ ?_
            refine wp_region_lit ?_
            refine Y wn rfl (yadd (et rfl eje36_0_32) rfl) ?_
            refine Y wn rfl (ym (v := .int .i64 (wa .i64 x69 1)) (et rfl rfl)) ?_
            refine wpList_nil ?_
            obtain rfl := someI hM27
            exact n27 _ _ _ rfl ⟨_, _, _, rfl, rfl, eje36_0_1, eje36_0_2, eje36_0_7, eje36_0_30, eje36_0_31, rfl, hst⟩
          refine loopQ (fun s a w => ∃ (x144 : Int) (x145 : Int) (f : Nat → Value), (x144, x145) = s ∧ a = fr 71 f ∧ f 1 = h8.v ∧ f 2 = .pointer (some ⟨b9, 0, none⟩) ∧ f 7 = .int .i64 x144 ∧ f 8 = .int .i64 x69 ∧ f 30 = h2.v ∧ f 31 = .int .i64 (x1.length : Int) ∧ f 32 = .int .i64 x69 ∧ f 37 = h128.v ∧ f 38 = .int .i64 (x127.length : Int) ∧ f 39 = .int .i64 x145 ∧ St w0 (imm (rI .i64) h128.v x127 :: ros) (box b9 29 [h2.v, h4.v, h6.v] :: rs) w) go36 ⟨_, _, _, rfl, rfl, e27_1, e27_2, e27_7, rfl, e27_30, e27_31, e27_32, rfl, rfl, rfl, (hst.facts (allC mhF (allT (allT allI))))⟩ ?_
          clear hst
          rintro _ _ w r36_ ⟨x144, x145, f, rfl, rfl, e36_1, e36_2, e36_7, e36_8, e36_30, e36_31, e36_32, e36_37, e36_38, e36_39, hst⟩ hM36 ho36 Q100036 n36 zz36
          refine seqQ fun Q83 k83 z83 => ?_
          refine wp_region_lit ?_
          refine Y wn rfl (ylss (et rfl e36_39) (et rfl e36_38)) ?_
          refine wpList_nil ?_
          refine k83 _ _ ?_
          refine seqQ fun Q84 k84 z84 => ?_
          rcases iteS hM36 with ⟨c164, hM36⟩ | ⟨c164, hM36⟩
          · refine condT (et rfl rfl) (decide_eq_true c164) ?_
            refine wp_skip ?_
            refine k84 _ _ ?_
            refine seqQ fun Q85 k85 z85 => ?_
            refine blockQ fun Q86 qb86 => ?_
            refine seqQ fun Q87 k87 z87 => ?_
            refine wp_region_lit ?_
            refine Y wn rfl (ym (v := .int .i64 x145) (et rfl e36_39)) ?_
            obtain ⟨x165, gx165, hM36⟩ := bs hM36
            refine Y wn rfl (yIa SL_22 (et rfl e36_37) (et rfl e36_39) hst (rdI mhF) gx165) ?_
            refine Y wn rfl (yI O_3 (et rfl rfl) hst (rdI mhF) gx165) ?_
            refine Y wn rfl (ya (v := .int .i64 x145) (et rfl rfl)) ?_
            refine Y wn rfl (ya (v := .int .i64 x165) (et rfl rfl)) ?_
            refine wpList_nil ?_
            refine k87 _ _ ?_
            refine seqQ fun Q88 k88 z88 => ?_
            obtain ⟨r166, gr166, hM36⟩ := bs hM36
            refine joinN (n := 71) (fun f w => f 1 = h8.v ∧ f 2 = .pointer (some ⟨b9, 0, none⟩) ∧ f 7 = .int .i64 x144 ∧ f 8 = .int .i64 x69 ∧ f 10 = .int .i64 x145 ∧ f 30 = h2.v ∧ f 31 = .int .i64 (x1.length : Int) ∧ f 32 = .int .i64 x69 ∧ f 37 = h128.v ∧ f 38 = .int .i64 (x127.length : Int) ∧ f 39 = .int .i64 x145 ∧ f 57 = .bool r166 ∧ St w0 (imm (rI .i64) h128.v x127 :: ros) (box b9 29 [h2.v, h4.v, h6.v] :: rs) w) (fun j37 => ?_) ?_
            · rcases iteS gr166 with ⟨c168, gr166⟩ | ⟨c168, gr166⟩
              · obtain ⟨x169, gx169, gr166⟩ := bs gr166
                obtain ⟨x170, gx170, gr166⟩ := bs gr166
                have hr38 := someI gr166
                refine wp_drawR [0, 0, 3, 7, 15, 15, 63, 127, 15, 15, 783, 1807, 4095, 8191] [] 0 folM (by kernel_rfl) (by kernel_rfl) (by kernel_rfl) ?_
                replace hst := hst.drew
                refine DRz (l1 := [0, 1, 2, 3, 4, 5, 6, 7, 8, 9, 10, 11, 12, 13]) (l2 := []) (by kernel_rfl) (by kernel_rfl) ?_
                refine Ry rfl rfl wn (ym (v := .int .i64 x165) (et rfl rfl)) ?_
                refine Ry rfl rfl wn (ym (v := .int .i64 x69) (et rfl e36_8)) ?_
                refine Ry rfl rfl wn (ylss (et rfl rfl) (et rfl rfl)) ?_
                refine Ry rfl rfl wn (ym (v := .bool (decide (x165 < x69))) (et rfl rfl)) ?_
                refine Ry rfl rfl (wg rfl rfl rfl (decide_eq_true c168)) (ym (v := h8.v) (et rfl e36_1)) ?_
                refine Ry rfl rfl (wg rfl rfl rfl (decide_eq_true c168)) (ym (v := .int .i64 x165) (et rfl rfl)) ?_
                refine Ry rfl rfl (wg rfl rfl rfl (decide_eq_true c168)) (yIa SL_22 (et rfl rfl) (et rfl rfl) hst (rdI (mtF q4)) gx169) ?_
                refine Ry rfl rfl (wg rfl rfl rfl (decide_eq_true c168)) (yI O_3 (et rfl rfl) hst (rdI (mtF q4)) gx169) ?_
                refine Ry rfl rfl (wg rfl rfl rfl (decide_eq_true c168)) (ym (v := h8.v) (et rfl e36_1)) ?_
                refine Ry rfl rfl (wg rfl rfl rfl (decide_eq_true c168)) (ym (v := .int .i64 x69) (et rfl e36_8)) ?_
                refine Ry rfl rfl (wg rfl rfl rfl (decide_eq_true c168)) (yIa SL_22 (et rfl rfl) (et rfl rfl) hst (rdI (mtF q4)) gx170) ?_
                refine Ry rfl rfl (wg rfl rfl rfl (decide_eq_true c168)) (yI O_3 (et rfl rfl) hst (rdI (mtF q4)) gx170) ?_
                refine Ry rfl rfl (wg rfl rfl rfl (decide_eq_true c168)) (yneq (et rfl rfl) (et rfl rfl)) ?_
                refine Ry rfl rfl wn (ypt (v := .bool r166) (et rfl rfl) (decide_eq_true c168) (eqv hr38 (et rfl rfl))) ?_
                refine Rn QSn ?_
                exact j37 _ _ ⟨e36_1, e36_2, e36_7, e36_8, rfl, e36_30, e36_31, e36_32, e36_37, e36_38, e36_39, rfl, hst⟩
              · have hr39 := someI gr166
                refine wp_drawR [0, 0, 3, 7, 15, 15, 63, 127, 15, 15, 783, 1807, 4095, 8191] [] 0 folM (by kernel_rfl) (by kernel_rfl) (by kernel_rfl) ?_
                replace hst := hst.drew
                refine DRz (l1 := [0, 1, 2, 3, 4, 5, 6, 7, 8, 9, 10, 11, 12, 13]) (l2 := []) (by kernel_rfl) (by kernel_rfl) ?_
                refine Ry rfl rfl wn (ym (v := .int .i64 x165) (et rfl rfl)) ?_
                refine Ry rfl rfl wn (ym (v := .int .i64 x69) (et rfl e36_8)) ?_
                refine Ry rfl rfl wn (ylss (et rfl rfl) (et rfl rfl)) ?_
                refine Ry rfl rfl wn (ym (v := .bool (decide (x165 < x69))) (et rfl rfl)) ?_
                refine Rx rfl rfl (wx rfl rfl rfl (decide_eq_false c168)) ?_
                refine Rx rfl rfl (wx rfl rfl rfl (decide_eq_false c168)) ?_
                refine Rx rfl rfl (wx rfl rfl rfl (decide_eq_false c168)) ?_
                refine Rx rfl rfl (wx rfl rfl rfl (decide_eq_false c168)) ?_
                refine Rx rfl rfl (wx rfl rfl rfl (decide_eq_false c168)) ?_
                refine Rx rfl rfl (wx rfl rfl rfl (decide_eq_false c168)) ?_
                refine Rx rfl rfl (wx rfl rfl rfl (decide_eq_false c168)) ?_
                refine Rx rfl rfl (wx rfl rfl rfl (decide_eq_false c168)) ?_
                refine Rx rfl rfl (wx rfl rfl rfl (decide_eq_false c168)) ?_
                refine Ry rfl rfl wn (ypf (v := .bool r166) (et rfl rfl) (decide_eq_false c168) (eqv hr39 rfl)) ?_
                refine Rn QSn ?_
                exact j37 _ _ ⟨e36_1, e36_2, e36_7, e36_8, rfl, e36_30, e36_31, e36_32, e36_37, e36_38, e36_39, rfl, hst⟩
            clear hst
            rintro f w ⟨e167_1, e167_2, e167_7, e167_8, e167_10, e167_30, e167_31, e167_32, e167_37, e167_38, e167_39, e167_57, hst⟩
            refine k88 _ _ ?_
            have j40 : ∀ (x174 : Int) (f : Nat → Value) (w : World), f 1 = h8.v → f 2 = .pointer (some ⟨b9, 0, none⟩) → f 7 = .int .i64 x174 → f 8 = .int .i64 x69 → f 30 = h2.v → f 31 = .int .i64 (x1.length : Int) → f 32 = .int .i64 x69 → f 37 = h128.v → f 38 = .int .i64 (x127.length : Int) → f 39 = .int .i64 x145 → St w0 (imm (rI .i64) h128.v x127 :: ros) (box b9 29 [h2.v, h4.v, h6.v] :: rs) w → dissect_Cut_j40 x145 x174 = some r36_ → Q86 .normal (fr 71 f) w := by
              intro x174 f w ej40_1 ej40_2 ej40_7 ej40_8 ej40_30 ej40_31 ej40_32 ej40_37 ej40_38 ej40_39 hst hM
              refine qb86 _ _ _ ?_
              refine k85 _ _ ?_
              refine wp_region_lit ?_
              refine Y wn rfl (yadd (et rfl ej40_39) rfl) ?_
              refine Y wn rfl (ym (v := .int .i64 (wa .i64 x145 1)) (et rfl rfl)) ?_
              refine wpList_nil ?_
              obtain rfl := someI hM
              exact n36 _ _ _ rfl ⟨_, _, _, rfl, rfl, ej40_1, ej40_2, ej40_7, ej40_8, ej40_30, ej40_31, ej40_32, ej40_37, ej40_38, rfl, hst⟩
            rcases iteS hM36 with ⟨c175, hM36⟩ | ⟨c175, hM36⟩
            · refine condT (et rfl e167_57) c175 ?_
              refine wp_region_lit ?_
              refine Y wn rfl (ym (v := .int .i64 x144) (et rfl e167_7)) ?_
              refine Y wn rfl (yFb FL_29_2 (et rfl e167_2)) ?_
              refine Y wn rfl (yLb (u := h6.v) O_25 (et rfl rfl) hst mhR rfl) ?_
              refine Y wn rfl (ym (v := .int .i64 x69) (et rfl e167_8)) ?_
              obtain ⟨x176, gx176, hM36⟩ := bs hM36
              refine Y wn rfl (yIa SL_25 (et rfl rfl) (et rfl rfl) hst (rdI (mtF q3)) gx176) ?_
              obtain ⟨h177, hst⟩ := iLs hst (mtF q3) gx176
              refine Y wn rfl (yCt O_22 (et rfl rfl) hst (mtF mhF) rfl) ?_
              refine Y wn rfl (ym (v := .int .i64 x145) (et rfl e167_10)) ?_
              obtain ⟨x178, gx178, hM36⟩ := bs hM36
              refine Y wn rfl (yIa SL_22 (et rfl rfl) (et rfl rfl) hst (rdI mhF) gx178) ?_
              refine Y wn rfl (yI O_3 (et rfl rfl) hst (rdI mhF) gx178) ?_
              refine Y wn rfl (yadd (et rfl rfl) (et rfl rfl)) ?_
              refine Y wn rfl (ya (v := .int .i64 (wa .i64 x144 x178)) (et rfl rfl)) ?_
              refine wpList_nil ?_
              exact j40 _ _ _ e167_1 e167_2 rfl e167_8 e167_30 e167_31 e167_32 e167_37 e167_38 e167_39 (hst.facts (allC (mtF (mtF mhF)) (allT (allT (allT allI))))) hM36
            · refine condF (et rfl e167_57) (bfalse c175) ?_
              refine wp_skip ?_
              exact j40 _ _ _ e167_1 e167_2 e167_7 e167_8 e167_30 e167_31 e167_32 e167_37 e167_38 e167_39 hst hM36
          · refine condF (et rfl rfl) (decide_eq_false c164) ?_
            refine wp_exit ?_
            refine z84 _ _ _ rfl ?_
            obtain rfl := someI hM36
            refine zz36 _ _ _ _ rfl rfl ?_
            exact je36_0 _ _ _ e36_1 e36_2 e36_7 e36_30 e36_31 e36_32 (hst.facts (allT allI)) (ho36 _ rfl)
        · refine condF (et rfl rfl) (decide_eq_false c126) ?_
          refine wp_exit ?_
          refine z65 _ _ _ rfl ?_
          obtain rfl := someI hM27
          refine zz27 _ _ _ _ rfl rfl ?_
          exact je27_0 _ _ _ e27_7 (hst.pk 1 [] rfl) (ho27 _ rfl)
    · refine condT (et rfl rfl) (nT (decide_eq_false c12)) ?_
      refine seqQ fun Q89 k89 z89 => ?_
      refine wp_region_lit ?_
      refine Y wn rfl (ya (v := .int .i64 0) rfl) ?_
      refine Y wn rfl (ya (v := .int .i64 2) rfl) ?_
      refine wpList_nil ?_
      refine k89 _ _ ?_
      refine wp_ret ?_
      refine qb4 _ _ _ ?_
      refine z3 _ _ _ rfl ?_
      obtain rfl := someI hM
      exact hQ _ _ _ (fin2r Try.results20 ⟨rfl, rfl⟩ ⟨rfl, rfl⟩ ⟨rfl, (hst.pk 1 [] rfl)⟩)
  · refine condT (et rfl rfl) (nT (decide_eq_false c11)) ?_
    refine seqQ fun Q90 k90 z90 => ?_
    refine wp_region_lit ?_
    refine Y wn rfl (ym (v := .int .i64 r10) (et rfl rfl)) ?_
    refine Y wn rfl (ya (v := .int .i64 0) rfl) ?_
    refine Y wn rfl (ya (v := .int .i64 r10) (et rfl rfl)) ?_
    refine wpList_nil ?_
    refine k90 _ _ ?_
    refine wp_ret ?_
    refine qb4 _ _ _ ?_
    refine z3 _ _ _ rfl ?_
    obtain rfl := someI hM
    exact hQ _ _ _ (fin2r Try.results20 ⟨rfl, rfl⟩ ⟨rfl, rfl⟩ ⟨rfl, (hst.pk 1 [] rfl)⟩)

theorem sparseref18_Total_ok {w0 : World} {ros : List Fact} {rs : List Res} {w : World} {x1 : List (List Int)} {x3 : List Int} {x5 : List (List Int)} {h2 : Hdr} {h4 : Hdr} {h6 : Hdr} {out : Int} (hM : sparseref18_Total x1 x3 x5 = some out) (q1 : imm (rS (rI .i64)) h2.v x1 ∈ ros) (q2 : imm (rI .i64) h4.v x3 ∈ ros) (q3 : imm (rS (rI .i64)) h6.v x5 ∈ ros) (hst : St w0 ros (rs) w) :
    Calls Try.prog 24 #[.agg #[h2.v, h4.v, h6.v]] w (fun e w => e = .returned (.int .i64 out) ∧ St w0 (ros) (rs) w) := by
  refine enterQ Try.func24 rfl Try.ntmps24 rfl fun Q hQ => ?_
  refine seqQ fun Q1 k1 z1 => ?_
  refine wp_region_lit ?_
  refine YB wn rfl (r_box (vals := [h2.v, h4.v, h6.v]) hst (et rfl rfl) rfl) ?_
  clear hst
  intro b7 w hst
  refine Y wn rfl (ya (v := .int .i64 0) rfl) ?_
  refine wpList_nil ?_
  refine k1 _ _ ?_
  refine seqQ fun Q2 k2 z2 => ?_
  refine wp_region_lit ?_
  refine Y wn rfl (ya (v := .int .i64 0) rfl) ?_
  refine wpList_nil ?_
  refine k2 _ _ ?_
  refine seqQ fun Q3 k3 z3 => ?_
  refine seqQ fun Q4 k4 z4 => ?_
  refine wp_region_lit ?_
  refine Y wn rfl (ya (v := .int .i64 0) rfl) ?_
  refine wpList_nil ?_
  refine k4 _ _ ?_
  refine blockQ fun Q5 qb5 => ?_
  obtain ⟨o1, go1, hM⟩ := bs hM
  have je1_0 : ∀ (x16 : Int) (f : Nat → Value) (w : World), f 3 = .int .i64 x16 → St w0 (ros) (rs) w → x16 = o1 → Q5 (.exit 0) (fr 20 f) w := by
    intro x16 f w eje1_0_3 hst ho
    subst ho
    refine qb5 _ _ _ ?_
    refine k3 _ _ ?_
    refine seqQ fun Q14 k14 z14 => ?_
    refine wp_region_lit ?_
    refine Y wn rfl (ym (v := .int .i64 x16) (et rfl eje1_0_3)) ?_
    refine Y wn rfl (ya (v := .int .i64 x16) (et rfl rfl)) ?_
    refine wpList_nil ?_
    refine k14 _ _ ?_
    refine wp_ret ?_
    obtain rfl := someI hM
    exact hQ _ _ _ (fin1r Try.results24 ⟨rfl, rfl⟩ ⟨rfl, hst⟩)
  refine loopQ (fun s a w => ∃ (x10 : Int) (x11 : Int) (f : Nat → Value), (x10, x11) = s ∧ a = fr 20 f ∧ f 1 = .pointer (some ⟨b7, 0, none⟩) ∧ f 3 = .int .i64 x10 ∧ f 4 = .int .i64 x11 ∧ St w0 (ros) (box b7 29 [h2.v, h4.v, h6.v] :: rs) w) go1 ⟨_, _, _, rfl, rfl, rfl, rfl, rfl, hst⟩ ?_
  clear hst
  rintro _ _ w r1_ ⟨x10, x11, f, rfl, rfl, e1_1, e1_3, e1_4, hst⟩ hM1 ho1 Q100001 n1 zz1
  refine seqQ fun Q15 k15 z15 => ?_
  refine seqQ fun Q16 k16 z16 => ?_
  refine wp_region_lit ?_
  refine Y wn rfl (ym (v := .int .i64 x11) (et rfl e1_4)) ?_
  refine Y wn rfl (yFb FL_29_1 (et rfl e1_1)) ?_
  refine Y wn rfl (yLb (u := h4.v) O_22 (et rfl rfl) hst mhR rfl) ?_
  refine Y wn rfl (yLen SL_22 (et rfl rfl) hst (rdI q2)) ?_
  refine Y wn rfl (ylss (et rfl rfl) (et rfl rfl)) ?_
  refine wpList_nil ?_
  refine k16 _ _ ?_
  rcases iteS hM1 with ⟨c17, hM1⟩ | ⟨c17, hM1⟩
  · refine condT (et rfl rfl) (decide_eq_true c17) ?_
    refine wp_skip ?_
    refine k15 _ _ ?_
    refine seqQ fun Q17 k17 z17 => ?_
    refine blockQ fun Q18 qb18 => ?_
    refine wp_region_lit ?_
    refine Y wn rfl (ym (v := .int .i64 x10) (et rfl e1_3)) ?_
    refine Y wn rfl (yFb FL_29_1 (et rfl e1_1)) ?_
    refine Y wn rfl (yLb (u := h4.v) O_22 (et rfl rfl) hst mhR rfl) ?_
    refine Y wn rfl (ym (v := .int .i64 x11) (et rfl e1_4)) ?_
    obtain ⟨x18, gx18, hM1⟩ := bs hM1
    refine Y wn rfl (yIa SL_22 (et rfl rfl) (et rfl rfl) hst (rdI q2) gx18) ?_
    refine Y wn rfl (yI O_3 (et rfl rfl) hst (rdI q2) gx18) ?_
    refine Y wn rfl (yadd (et rfl rfl) (et rfl rfl)) ?_
    refine Y wn rfl (ya (v := .int .i64 (wa .i64 x10 x18)) (et rfl rfl)) ?_
    refine wpList_nil ?_
    refine qb18 _ _ _ ?_
    refine k17 _ _ ?_
    refine wp_region_lit ?_
    refine Y wn rfl (ym (v := .int .i64 x11) (et rfl e1_4)) ?_
    refine Y wn rfl (yadd (et rfl rfl) rfl) ?_
    refine Y wn rfl (ya (v := .int .i64 (wa .i64 x11 1)) (et rfl rfl)) ?_
    refine wpList_nil ?_
    obtain rfl := someI hM1
    exact n1 _ _ _ rfl ⟨_, _, _, rfl, rfl, e1_1, rfl, rfl, hst⟩
  · refine condF (et rfl rfl) (decide_eq_false c17) ?_
    refine wp_exit ?_
    refine z15 _ _ _ rfl ?_
    obtain rfl := someI hM1
    refine zz1 _ _ _ _ rfl rfl ?_
    exact je1_0 _ _ _ e1_3 (hst.pk 1 [] rfl) (ho1 _ rfl)

theorem sparsekit_Ascending_ok {w0 : World} {ros : List Fact} {rs : List Res} {w : World} {x1 : List Int} {h2 : Hdr} {out : Bool} (hM : sparsekit_Ascending x1 = some out) (q1 : imm (rI .i64) h2.v x1 ∈ ros) (hst : St w0 ros (rs) w) :
    Calls Try.prog 76 #[h2.v] w (fun e w => e = .returned (.bool out) ∧ St w0 (ros) (rs) w) := by
  refine enterQ Try.func76 rfl Try.ntmps76 rfl fun Q hQ => ?_
  refine seqQ fun Q1 k1 z1 => ?_
  refine wp_region_lit ?_
  refine Y wn rfl (ya (v := .bool false) rfl) ?_
  refine wpList_nil ?_
  refine k1 _ _ ?_
  refine seqQ fun Q2 k2 z2 => ?_
  refine seqQ fun Q3 k3 z3 => ?_
  refine wp_region_lit ?_
  refine Y wn rfl (ya (v := .int .i64 1) rfl) ?_
  refine wpList_nil ?_
  refine k3 _ _ ?_
  refine blockQ fun Q4 qb4 => ?_
  obtain ⟨o1, go1, hM⟩ := bs hM
  have je1_0 : ∀ (f : Nat → Value) (w : World), St w0 (ros) (rs) w → .inl () = o1 → Q4 (.exit 0) (fr 20 f) w := by
    intro f w hst ho
    subst ho
    refine qb4 _ _ _ ?_
    refine k2 _ _ ?_
    refine seqQ fun Q17 k17 z17 => ?_
    refine wp_region_lit ?_
    refine Y wn rfl (ya (v := .bool true) rfl) ?_
    refine wpList_nil ?_
    refine k17 _ _ ?_
    refine wp_ret ?_
    obtain rfl := someI hM
    exact hQ _ _ _ (fin1r Try.results76 ⟨rfl, rfl⟩ ⟨rfl, hst⟩)
  have je1_1 : ∀ (f : Nat → Value) (w : World), f 2 = .bool false → St w0 (ros) (rs) w → .inr () = o1 → Q4 .ret (fr 20 f) w := by
    intro f w eje1_1_2 hst ho
    subst ho
    refine qb4 _ _ _ ?_
    refine z2 _ _ _ rfl ?_
    obtain rfl := someI hM
    exact hQ _ _ _ (fin1r Try.results76 ⟨rfl, eje1_1_2⟩ ⟨rfl, hst⟩)
  refine loopQ (fun s a w => ∃ (x7 : Int) (f : Nat → Value), x7 = s ∧ a = fr 20 f ∧ f 0 = h2.v ∧ f 3 = .int .i64 x7 ∧ St w0 (ros) (rs) w) go1 ⟨_, _, rfl, rfl, rfl, rfl, hst⟩ ?_
  clear hst
  rintro _ _ w r1_ ⟨x7, f, rfl, rfl, e1_0, e1_3, hst⟩ hM1 ho1 Q100001 n1 zz1
  refine seqQ fun Q18 k18 z18 => ?_
  refine seqQ fun Q19 k19 z19 => ?_
  refine wp_region_lit ?_
  refine Y wn rfl (ym (v := .int .i64 x7) (et rfl e1_3)) ?_
  refine Y wn rfl (ym (v := h2.v) (et rfl e1_0)) ?_
  refine Y wn rfl (yLen SL_22 (et rfl rfl) hst (rdI q1)) ?_
  refine Y wn rfl (ylss (et rfl rfl) (et rfl rfl)) ?_
  refine wpList_nil ?_
  refine k19 _ _ ?_
  rcases iteS hM1 with ⟨c13, hM1⟩ | ⟨c13, hM1⟩
  · refine condT (et rfl rfl) (decide_eq_true c13) ?_
    refine wp_skip ?_
    refine k18 _ _ ?_
    refine seqQ fun Q20 k20 z20 => ?_
    refine blockQ fun Q21 qb21 => ?_
    refine seqQ fun Q22 k22 z22 => ?_
    obtain ⟨x14, gx14, hM1⟩ := bs hM1
    obtain ⟨x15, gx15, hM1⟩ := bs hM1
    refine wp_drawR [0, 0, 3, 7, 0, 0, 32, 112, 240, 511] [] 0 folM (by kernel_rfl) (by kernel_rfl) (by kernel_rfl) ?_
    replace hst := hst.drew
    refine DRz (l1 := [0, 1, 2, 3, 4, 5, 6, 7, 8, 9]) (l2 := []) (by kernel_rfl) (by kernel_rfl) ?_
    refine Ry rfl rfl wn (ym (v := h2.v) (et rfl e1_0)) ?_
    refine Ry rfl rfl wn (ym (v := .int .i64 x7) (et rfl e1_3)) ?_
    refine Ry rfl rfl wn (yIa SL_22 (et rfl rfl) (et rfl rfl) hst (rdI q1) gx14) ?_
    refine Ry rfl rfl wn (yI O_3 (et rfl rfl) hst (rdI q1) gx14) ?_
    refine Ry rfl rfl wn (ym (v := h2.v) (et rfl e1_0)) ?_
    refine Ry rfl rfl wn (ym (v := .int .i64 x7) (et rfl e1_3)) ?_
    refine Ry rfl rfl wn (ysub (et rfl rfl) rfl) ?_
    refine Ry rfl rfl wn (yIa SL_22 (et rfl rfl) (et rfl rfl) hst (rdI q1) gx15) ?_
    refine Ry rfl rfl wn (yI O_3 (et rfl rfl) hst (rdI q1) gx15) ?_
    refine Ry rfl rfl wn (yleq (et rfl rfl) (et rfl rfl)) ?_
    refine Rn QSn ?_
    refine k22 _ _ ?_
    rcases iteS hM1 with ⟨c16, hM1⟩ | ⟨c16, hM1⟩
    · refine condT (et rfl rfl) (decide_eq_true c16) ?_
      refine seqQ fun Q23 k23 z23 => ?_
      refine wp_region_lit ?_
      refine Y wn rfl (ya (v := .bool false) rfl) ?_
      refine wpList_nil ?_
      refine k23 _ _ ?_
      refine wp_ret ?_
      refine qb21 _ _ _ ?_
      refine z20 _ _ _ rfl ?_
      obtain rfl := someI hM1
      refine zz1 _ _ _ _ rfl rfl ?_
      exact je1_1 _ _ rfl hst (ho1 _ rfl)
    · refine condF (et rfl rfl) (decide_eq_false c16) ?_
      refine wp_skip ?_
      refine qb21 _ _ _ ?_
      refine k20 _ _ ?_
      refine wp_region_lit ?_
      refine Y wn rfl (ym (v := .int .i64 x7) (et rfl e1_3)) ?_
      refine Y wn rfl (yadd (et rfl rfl) rfl) ?_
      refine Y wn rfl (ya (v := .int .i64 (wa .i64 x7 1)) (et rfl rfl)) ?_
      refine wpList_nil ?_
      obtain rfl := someI hM1
      exact n1 _ _ _ rfl ⟨_, _, rfl, rfl, e1_0, rfl, hst⟩
  · refine condF (et rfl rfl) (decide_eq_false c13) ?_
    refine wp_exit ?_
    refine z18 _ _ _ rfl ?_
    obtain rfl := someI hM1
    refine zz1 _ _ _ _ rfl rfl ?_
    exact je1_0 _ _ hst (ho1 _ rfl)
end Go.Proofs.Ythpeajepbffinaa
