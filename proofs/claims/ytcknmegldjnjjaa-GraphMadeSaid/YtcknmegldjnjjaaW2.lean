/- Walks: each function computes its model, printed. -/
import Derived.Test.YtcknmegldjnjjaaW1
namespace Go.Proofs.Ytcknmegldjnjjaa
open Go Sx M
set_option maxRecDepth 100000
set_option maxHeartbeats 400000
set_option linter.unusedVariables false
attribute [local irreducible] wpList Code.wp Calls DR QR QS LA LS St
theorem graph_Components_ok {w0 : World} {ros : List Fact} {rs : List Res} {w : World} {x1 : List (List Int)} {h2 : Hdr} {out : (List (List Int))} (hM : graph_Components x1 = some out) (q1 : imm (rS (rI .i64)) h2.v x1 ∈ ros) (hst : St w0 ros (rs) w) :
    Calls Try.prog 14 #[.agg #[h2.v]] w (fun e w => ∃ (h100001 : Hdr), e = .returned (h100001.v) ∧ St w0 (ros) (row 22 (rS (rI .i64)) h100001.v out :: rs) w) := by
  refine enterQ Try.func14 rfl Try.ntmps14 rfl fun Q hQ => ?_
  refine seqQ fun Q1 k1 z1 => ?_
  refine wp_region_lit ?_
  refine YB wn rfl (r_box (vals := [h2.v]) hst (et rfl rfl) rfl) ?_
  clear hst
  intro b3 w hst
  refine Y wn rfl (ya (v := hnil.v) rfl) ?_
  refine wpList_nil ?_
  refine k1 _ _ ?_
  refine seqQ fun Q2 k2 z2 => ?_
  refine seqQ fun Q3 k3 z3 => ?_
  refine wp_region_lit ?_
  refine Y wn rfl (yLbs (us := [h2.v]) ST_27 (et rfl rfl) hst mhR rfl rfl) ?_
  obtain ⟨r4, gr4, hM⟩ := bs hM
  refine Yc wn rfl (yCall FN_22 (a1 (et rfl rfl))) (graph_Check_ok (hM := gr4) (hst := hst) (q1 := q1)) ?_
  clear hst
  rintro _ w ⟨rfl, hst⟩
  refine ⟨_, rfl, ?_⟩
  refine Y wn rfl (yneq (et rfl rfl) rfl) ?_
  refine wpList_nil ?_
  refine k3 _ _ ?_
  rcases iteS hM with ⟨c5, hM⟩ | ⟨c5, hM⟩
  · refine condF (et rfl rfl) (nF (decide_eq_true c5)) ?_
    refine wp_skip ?_
    refine k2 _ _ ?_
    refine seqQ fun Q4 k4 z4 => ?_
    refine wp_region_lit ?_
    refine Y wn rfl (yFb FL_27_0 (et rfl rfl)) ?_
    refine Y wn rfl (yLb (u := h2.v) O_25 (et rfl rfl) hst mhR rfl) ?_
    refine Y wn rfl (yLen SL_25 (et rfl rfl) hst (rdI q1)) ?_
    obtain ⟨x8, gx8, hM⟩ := bs hM
    refine YH wn rfl (rMk hst SL_54 (et rfl rfl) gx8) ?_
    clear hst
    intro h6 w hst
    refine Y wn rfl (ya (v := h6.v) (et rfl rfl)) ?_
    refine wpList_nil ?_
    refine k4 _ _ ?_
    refine seqQ fun Q5 k5 z5 => ?_
    refine wp_region_lit ?_
    refine Y wn rfl (ya (v := hnil.v) rfl) ?_
    refine wpList_nil ?_
    refine k5 _ _ ?_
    refine seqQ fun Q6 k6 z6 => ?_
    refine seqQ fun Q7 k7 z7 => ?_
    refine wp_region_lit ?_
    refine Y wn rfl (yFb FL_27_0 (et rfl rfl)) ?_
    refine Y wn rfl (yLb (u := h2.v) O_25 (et rfl rfl) hst (mtR mhR) rfl) ?_
    refine Y wn rfl (yLen SL_25 (et rfl rfl) hst (rdI q1)) ?_
    refine Y wn rfl (ym (v := .int .i64 0) rfl) ?_
    refine wpList_nil ?_
    refine k7 _ _ ?_
    refine blockQ fun Q8 q8 => ?_
    obtain ⟨o9, go9, hM⟩ := bs hM
    have je9_0 : ∀ (x170 : List (List Int)) (h169 : Hdr) (f : Nat → Value) (w : World), f 4 = h169.v → St w0 (ros) (row 22 (rS (rI .i64)) h169.v x170 :: rs) w → x170 = o9 → Q8 (.exit 0) (fr 48 f) w := by
      intro x170 h169 f w eje9_0_4 hst ho
      subst ho
      refine q8 _ _ _ ?_
      refine k6 _ _ ?_
      refine seqQ fun Q159 k159 z159 => ?_
      refine wp_region_lit ?_
      refine Y wn rfl (ym (v := h169.v) (et rfl eje9_0_4)) ?_
      refine Y wn rfl (ya (v := h169.v) (et rfl rfl)) ?_
      refine wpList_nil ?_
      refine k159 _ _ ?_
      refine wp_ret ?_
      obtain rfl := someI hM
      exact hQ _ _ _ (fin1r Try.results14 ⟨rfl, rfl⟩ ⟨_, rfl, hst⟩)
    replace hst := hst.rowNh 22 (rS (rI .i64))
    refine loopQ (fun s a w => ∃ (x85 : List Bool) (x87 : List (List Int)) (x88 : Int) (f : Nat → Value) (h86 : Hdr), (x85, x87, x88) = s ∧ a = fr 48 f ∧ f 1 = .pointer (some ⟨b3, 0, none⟩) ∧ f 3 = h6.v ∧ f 4 = h86.v ∧ f 18 = .int .i64 (x1.length : Int) ∧ f 19 = .int .i64 x88 ∧ St w0 (ros) (box b3 27 [h2.v] :: row 4 rB h6.v x85 :: row 22 (rS (rI .i64)) h86.v x87 :: rs) w) go9 ⟨_, _, _, _, _, rfl, rfl, rfl, rfl, rfl, rfl, rfl, (hst.pk 3 [2, 1, 0] rfl)⟩ ?_
    clear hst
    rintro _ _ w r9_ ⟨x85, x87, x88, f, h86, rfl, rfl, e9_1, e9_3, e9_4, e9_18, e9_19, hst⟩ hM9 ho9 Q100009 n9 zz9
    refine seqQ fun Q160 k160 z160 => ?_
    refine wp_region_lit ?_
    refine Y wn rfl (ylss (et rfl e9_19) (et rfl e9_18)) ?_
    refine wpList_nil ?_
    refine k160 _ _ ?_
    refine seqQ fun Q161 k161 z161 => ?_
    rcases iteS hM9 with ⟨c171, hM9⟩ | ⟨c171, hM9⟩
    · refine condT (et rfl rfl) (decide_eq_true c171) ?_
      refine wp_skip ?_
      refine k161 _ _ ?_
      refine seqQ fun Q162 k162 z162 => ?_
      have j12 : ∀ (x220 : List Bool) (x222 : List (List Int)) (h221 : Hdr) (f : Nat → Value) (w : World), f 1 = .pointer (some ⟨b3, 0, none⟩) → f 3 = h6.v → f 4 = h221.v → f 18 = .int .i64 (x1.length : Int) → f 19 = .int .i64 x88 → St w0 (ros) (box b3 27 [h2.v] :: row 4 rB h6.v x220 :: row 22 (rS (rI .i64)) h221.v x222 :: rs) w → graph_Components_j12 x88 x220 x222 = some r9_ → Q162 .normal (fr 48 f) w := by
        intro x220 x222 h221 f w ej12_1 ej12_3 ej12_4 ej12_18 ej12_19 hst hM
        refine k162 _ _ ?_
        refine wp_region_lit ?_
        refine Y wn rfl (yadd (et rfl ej12_19) rfl) ?_
        refine Y wn rfl (ym (v := .int .i64 (wa .i64 x88 1)) (et rfl rfl)) ?_
        refine wpList_nil ?_
        obtain rfl := someI hM
        exact n9 _ _ _ rfl ⟨_, _, _, _, _, rfl, rfl, ej12_1, ej12_3, ej12_4, ej12_18, rfl, hst⟩
      refine blockQ fun Q211 q211 => ?_
      refine seqQ fun Q212 k212 z212 => ?_
      refine wp_region_lit ?_
      refine Y wn rfl (ym (v := .int .i64 x88) (et rfl e9_19)) ?_
      refine Y wn rfl (ya (v := .int .i64 x88) (et rfl rfl)) ?_
      refine wpList_nil ?_
      refine k212 _ _ ?_
      refine seqQ fun Q213 k213 z213 => ?_
      refine seqQ fun Q214 k214 z214 => ?_
      refine wp_region_lit ?_
      refine Y wn rfl (ym (v := h6.v) (et rfl e9_3)) ?_
      refine Y wn rfl (ym (v := .int .i64 x88) (et rfl rfl)) ?_
      obtain ⟨x223, gx223, hM9⟩ := bs hM9
      refine Y wn rfl (yIa SL_54 (et rfl rfl) (et rfl rfl) hst (rdO (mtR mhR)) gx223) ?_
      refine Y wn rfl (yB O_4 (et rfl rfl) hst (rdO (mtR mhR)) gx223) ?_
      refine wpList_nil ?_
      refine k214 _ _ ?_
      rcases iteS hM9 with ⟨c224, hM9⟩ | ⟨c224, hM9⟩
      · refine condT (et rfl rfl) c224 ?_
        refine wp_exit ?_
        refine z213 _ _ _ rfl ?_
        refine q211 _ _ _ ?_
        exact j12 _ _ _ _ _ e9_1 e9_3 e9_4 e9_18 e9_19 hst hM9
      · refine condF (et rfl rfl) (bfalse c224) ?_
        refine wp_skip ?_
        refine k213 _ _ ?_
        refine seqQ fun Q215 k215 z215 => ?_
        refine wp_region_lit ?_
        refine Y wn rfl (yLbs (us := [h2.v]) ST_27 (et rfl e9_1) hst mhR rfl rfl) ?_
        refine Y wn rfl (ym (v := .int .i64 x88) (et rfl rfl)) ?_
        obtain ⟨r225, gr225, hM9⟩ := bs hM9
        refine Yc wn rfl (yCall FN_38 (a2 (et rfl rfl) (et rfl rfl))) (graph_levels_ok (hM := gr225) (hst := hst) (q1 := q1)) ?_
        clear hst
        rintro _ w ⟨h226, rfl, hst⟩
        refine ⟨_, rfl, ?_⟩
        obtain ⟨r227, gr227, hM9⟩ := bs hM9
        replace hst := hst.fz
        refine Yc wn rfl (yCall FN_39 (a1 (et rfl rfl))) (slices_Concat_int_ok (hM := gr227) (hst := hst) (q1 := mhF)) ?_
        clear hst
        rintro _ w ⟨h228, rfl, hst⟩
        refine ⟨_, rfl, ?_⟩
        refine Y wn rfl (ya (v := h228.v) (et rfl rfl)) ?_
        refine wpList_nil ?_
        refine k215 _ _ ?_
        refine seqQ fun Q216 k216 z216 => ?_
        refine wp_region_lit ?_
        refine Y wn rfl (ym (v := h228.v) (et rfl rfl)) ?_
        obtain ⟨r229, gr229, hM9⟩ := bs hM9
        refine Yc wn rfl (yCall FN_40 (a1 (et rfl rfl))) (slices_Sort_int_ok (hM := gr229) (hst := hst) ) ?_
        clear hst
        rintro _ w ⟨rfl, hst⟩
        refine ⟨_, rfl, ?_⟩
        refine wpList_nil ?_
        refine k216 _ _ ?_
        refine seqQ fun Q217 k217 z217 => ?_
        refine seqQ fun Q218 k218 z218 => ?_
        refine wp_region_lit ?_
        refine Y wn rfl (ym (v := h228.v) (et rfl rfl)) ?_
        refine Y wn rfl (yLen SL_22 (et rfl rfl) hst (rdO mhR)) ?_
        refine Y wn rfl (ym (v := .int .i64 0) rfl) ?_
        refine wpList_nil ?_
        refine k218 _ _ ?_
        refine blockQ fun Q219 q219 => ?_
        obtain ⟨o13, go13, hM9⟩ := bs hM9
        have je13_0 : ∀ (x240 : List Bool) (f : Nat → Value) (w : World), f 1 = .pointer (some ⟨b3, 0, none⟩) → f 3 = h6.v → f 4 = h86.v → f 6 = h228.v → f 18 = .int .i64 (x1.length : Int) → f 19 = .int .i64 x88 → St w0 (ros) (box b3 27 [h2.v] :: row 4 rB h6.v x240 :: row 22 (rS (rI .i64)) h86.v x87 :: row 3 (rI .i64) h228.v r229 :: rs) w → x240 = o13 → Q219 (.exit 2) (fr 48 f) w := by
          intro x240 f w eje13_0_1 eje13_0_3 eje13_0_4 eje13_0_6 eje13_0_18 eje13_0_19 hst ho
          subst ho
          refine q219 _ _ _ ?_
          refine k217 _ _ ?_
          refine wp_region_lit ?_
          refine Y wn rfl (ym (v := h86.v) (et rfl eje13_0_4)) ?_
          refine Y wn rfl (ym (v := h228.v) (et rfl eje13_0_6)) ?_
          replace hst := hst.pk 4 [3, 0, 0, 0] rfl
          replace hst := hst.fz
          refine YH wn rfl (rLt (n := 1) (l := [r229]) hst SL_25 [h228.v] (bp1 (et rfl rfl)) rfl rfl (mks1 (cs := [h228.v]) rfl (mkS mhF) mks0)) ?_
          clear hst
          intro h241 w hst
          obtain ⟨x243, gx243, hM9⟩ := bs hM9
          replace hst := hst.pk 4 [3, 0, 0, 0] rfl
          refine YH wn rfl (rAp hst SL_25 (et rfl rfl) (et rfl rfl) (rdO (mtR mhR)) gx243) ?_
          clear hst
          intro h242 w hst
          refine Y wn rfl (ya (v := h242.v) (et rfl rfl)) ?_
          refine wpList_nil ?_
          refine q211 _ _ _ ?_
          exact j12 _ _ _ _ _ eje13_0_1 eje13_0_3 rfl eje13_0_18 eje13_0_19 ((hst.pk 4 [2, 2, 0] rfl).facts (allT allI)) hM9
        refine loopQ (fun s a w => ∃ (x233 : List Bool) (x234 : Int) (f : Nat → Value), (x233, x234) = s ∧ a = fr 48 f ∧ f 1 = .pointer (some ⟨b3, 0, none⟩) ∧ f 3 = h6.v ∧ f 4 = h86.v ∧ f 6 = h228.v ∧ f 18 = .int .i64 (x1.length : Int) ∧ f 19 = .int .i64 x88 ∧ f 32 = h228.v ∧ f 33 = .int .i64 (r229.length : Int) ∧ f 34 = .int .i64 x234 ∧ St w0 (ros) (box b3 27 [h2.v] :: row 4 rB h6.v x233 :: row 22 (rS (rI .i64)) h86.v x87 :: row 3 (rI .i64) h228.v r229 :: rs) w) go13 ⟨_, _, _, rfl, rfl, e9_1, e9_3, e9_4, rfl, e9_18, e9_19, rfl, rfl, rfl, ((hst.pk 4 [1, 1, 1, 0] rfl).facts (allT allI))⟩ ?_
        clear hst
        rintro _ _ w r13_ ⟨x233, x234, f, rfl, rfl, e13_1, e13_3, e13_4, e13_6, e13_18, e13_19, e13_32, e13_33, e13_34, hst⟩ hM13 ho13 Q100013 n13 zz13
        refine seqQ fun Q230 k230 z230 => ?_
        refine wp_region_lit ?_
        refine Y wn rfl (ylss (et rfl e13_34) (et rfl e13_33)) ?_
        refine wpList_nil ?_
        refine k230 _ _ ?_
        refine seqQ fun Q231 k231 z231 => ?_
        rcases iteS hM13 with ⟨c244, hM13⟩ | ⟨c244, hM13⟩
        · refine condT (et rfl rfl) (decide_eq_true c244) ?_
          refine wp_skip ?_
          refine k231 _ _ ?_
          refine seqQ fun Q232 k232 z232 => ?_
          refine blockQ fun Q233 q233 => ?_
          refine seqQ fun Q234 k234 z234 => ?_
          refine wp_region_lit ?_
          obtain ⟨x245, gx245, hM13⟩ := bs hM13
          refine Y wn rfl (yIa SL_22 (et rfl e13_32) (et rfl e13_34) hst (rdO (mtR (mtR (mtR mhR)))) gx245) ?_
          refine Y wn rfl (yI O_3 (et rfl rfl) hst (rdO (mtR (mtR (mtR mhR)))) gx245) ?_
          refine Y wn rfl (ya (v := .int .i64 x245) (et rfl rfl)) ?_
          refine wpList_nil ?_
          refine k234 _ _ ?_
          refine wp_region_lit ?_
          refine Y wn rfl (ym (v := h6.v) (et rfl e13_3)) ?_
          refine Y wn rfl (ym (v := .int .i64 x245) (et rfl rfl)) ?_
          obtain ⟨x246, gx246, hM13⟩ := bs hM13
          refine Y wn rfl (yIs SL_54 (et rfl rfl) (et rfl rfl) hst (rdO (mtR mhR)) gx246) ?_
          replace hst := hst.pk 2 [1, 0] rfl
          refine YT wn rfl (r_sti (cs := [.bool true]) hst O_4 rfl (et rfl rfl) rfl rfl mkB gx246) ?_
          clear hst
          intro w hst
          refine wpList_nil ?_
          refine q233 _ _ _ ?_
          refine k232 _ _ ?_
          refine wp_region_lit ?_
          refine Y wn rfl (yadd (et rfl e13_34) rfl) ?_
          refine Y wn rfl (ym (v := .int .i64 (wa .i64 x234 1)) (et rfl rfl)) ?_
          refine wpList_nil ?_
          obtain rfl := someI hM13
          exact n13 _ _ _ rfl ⟨_, _, _, rfl, rfl, e13_1, e13_3, e13_4, e13_6, e13_18, e13_19, e13_32, e13_33, rfl, (hst.pk 4 [1, 0, 0, 0] rfl)⟩
        · refine condF (et rfl rfl) (decide_eq_false c244) ?_
          refine wp_exit ?_
          refine z231 _ _ _ rfl ?_
          obtain rfl := someI hM13
          refine zz13 _ _ _ _ rfl rfl ?_
          exact je13_0 _ _ _ e13_1 e13_3 e13_4 e13_6 e13_18 e13_19 hst (ho13 _ rfl)
    · refine condF (et rfl rfl) (decide_eq_false c171) ?_
      refine wp_exit ?_
      refine z161 _ _ _ rfl ?_
      obtain rfl := someI hM9
      refine zz9 _ _ _ _ rfl rfl ?_
      exact je9_0 _ _ _ _ e9_4 (hst.pk 3 [2] rfl) (ho9 _ rfl)
  · refine condT (et rfl rfl) (nT (decide_eq_false c5)) ?_
    refine seqQ fun Q235 k235 z235 => ?_
    refine wp_region_lit ?_
    refine Y wn rfl (ya (v := hnil.v) rfl) ?_
    refine wpList_nil ?_
    refine k235 _ _ ?_
    refine wp_ret ?_
    refine z2 _ _ _ rfl ?_
    obtain rfl := someI hM
    replace hst := hst.rowNh 22 (rS (rI .i64))
    exact hQ _ _ _ (fin1r Try.results14 ⟨rfl, rfl⟩ ⟨_, rfl, (hst.pk 2 [0] rfl)⟩)

theorem sparselaw12_awake_ok {w0 : World} {ros : List Fact} {rs : List Res} {w : World} {out : Bool} (hM : sparselaw12_awake = some out) (hst : St w0 ros (rs) w) :
    Calls Try.prog 9 #[] w (fun e w => e = .returned (.bool out) ∧ St w0 (ros) (rs) w) := by
  refine enterQ Try.func9 rfl Try.ntmps9 rfl fun Q hQ => ?_
  refine seqQ fun Q1 k1 z1 => ?_
  refine wp_region_lit ?_
  refine Y wn rfl (ya (v := .bool false) rfl) ?_
  refine wpList_nil ?_
  refine k1 _ _ ?_
  refine seqQ fun Q2 k2 z2 => ?_
  refine wp_region_lit ?_
  refine YH wn rfl (rLt (n := 1) (l := [1]) hst SL_22 [.int .i64 1] (bp1 rfl) rfl rfl (mks1 (cs := [.int .i64 1]) rfl mkI mks0)) ?_
  clear hst
  intro h1 w hst
  refine YH wn rfl (rLt (n := 2) (l := [0, 2]) hst SL_22 [.int .i64 0, .int .i64 2] (bp2 rfl rfl) rfl rfl (mks1 (cs := [.int .i64 0]) rfl mkI (mks1 (cs := [.int .i64 2]) rfl mkI mks0))) ?_
  clear hst
  intro h2 w hst
  refine YH wn rfl (rLt (n := 2) (l := [1, 3]) hst SL_22 [.int .i64 1, .int .i64 3] (bp2 rfl rfl) rfl rfl (mks1 (cs := [.int .i64 1]) rfl mkI (mks1 (cs := [.int .i64 3]) rfl mkI mks0))) ?_
  clear hst
  intro h3 w hst
  refine YH wn rfl (rLt (n := 1) (l := [2]) hst SL_22 [.int .i64 2] (bp1 rfl) rfl rfl (mks1 (cs := [.int .i64 2]) rfl mkI mks0)) ?_
  clear hst
  intro h4 w hst
  replace hst := hst.pk 4 [3, 0, 0, 0] rfl
  replace hst := hst.fz
  replace hst := hst.pk 3 [2, 0, 0] rfl
  replace hst := hst.fz
  replace hst := hst.pk 2 [1, 0] rfl
  replace hst := hst.fz
  replace hst := hst.fz
  refine YH wn rfl (rLt (n := 4) (l := [[1], [0, 2], [1, 3], [2]]) hst SL_25 [h1.v, h2.v, h3.v, h4.v] (bp4 (et rfl rfl) (et rfl rfl) (et rfl rfl) (et rfl rfl)) rfl rfl (mks1 (cs := [h1.v]) rfl (mkS (mtF (mtF (mtF mhF)))) (mks1 (cs := [h2.v]) rfl (mkS (mtF (mtF mhF))) (mks1 (cs := [h3.v]) rfl (mkS (mtF mhF)) (mks1 (cs := [h4.v]) rfl (mkS mhF) mks0))))) ?_
  clear hst
  intro h5 w hst
  refine Y wn rfl (ybuild (us := [h5.v]) [(0, h5.v)] SO_27 (bp1 (et rfl rfl)) rfl) ?_
  refine YB wn rfl (rAl hst ZT_27) ?_
  clear hst
  intro b6 w hst
  refine YT wn rfl (r_stbn (vals' := [h5.v]) (us := [h5.v]) hst ST_27 (et rfl rfl) (et rfl rfl) rfl rfl (one_of rfl) rfl) ?_
  clear hst
  intro w hst
  refine wpList_nil ?_
  refine k2 _ _ ?_
  refine seqQ fun Q3 k3 z3 => ?_
  refine wp_region_lit ?_
  refine Y wn rfl (yLbs (us := [h5.v]) ST_27 (et rfl rfl) hst mhR rfl rfl) ?_
  obtain ⟨r7, gr7, hM⟩ := bs hM
  replace hst := hst.pk 2 [1, 0] rfl
  replace hst := hst.fz
  refine Yc wn rfl (yCall FN_22 (a1 (et rfl rfl))) (graph_Check_ok (hM := gr7) (hst := hst) (q1 := mhF)) ?_
  clear hst
  rintro _ w ⟨rfl, hst⟩
  refine ⟨_, rfl, ?_⟩
  refine Y wn rfl (yeql (et rfl rfl) rfl) ?_
  refine Y wn rfl (ym (v := .bool (decide (r7 = 0))) (et rfl rfl)) ?_
  obtain ⟨r9, gr9, hM⟩ := bs hM
  refine joinW 4 (fun f w => f 1 = .pointer (some ⟨b6, 0, none⟩) ∧ f 15 = .bool r9 ∧ St w0 (imm (rS (rI .i64)) h5.v [[1], [0, 2], [1, 3], [2]] :: ros) (box b6 27 [h5.v] :: rs) w) (fun j1 => ?_) ?_
  · rcases iteS gr9 with ⟨c11, gr9⟩ | ⟨c11, gr9⟩
    · refine Y (wg rfl rfl rfl (decide_eq_true c11)) rfl (yLbs (us := [h5.v]) ST_27 (et rfl rfl) hst mhR rfl rfl) ?_
      obtain ⟨r12, gr12, gr9⟩ := bs gr9
      refine Yc (wg rfl rfl rfl (decide_eq_true c11)) rfl (yCall FN_17 (a2 (et rfl rfl) rfl)) (graph_Peripheral_ok (hM := gr12) (hst := hst) (q1 := mhF)) ?_
      clear hst
      rintro _ w ⟨rfl, hst⟩
      refine ⟨_, rfl, ?_⟩
      refine Y (wg rfl rfl rfl (decide_eq_true c11)) rfl (yeql (et rfl rfl) rfl) ?_
      refine Y wn rfl (ypt (v := .bool (decide (r12 = 3))) (et rfl rfl) (decide_eq_true c11) (et rfl rfl)) ?_
      obtain rfl := someI gr9
      exact j1 _ _ ⟨rfl, rfl, (hst.facts (allC mhF (allT (allT (allT (allT (allT allI)))))))⟩
    · refine Gn (wx rfl rfl rfl (decide_eq_false c11)) rfl ?_
      refine Gn (wx rfl rfl rfl (decide_eq_false c11)) rfl ?_
      refine Gn (wx rfl rfl rfl (decide_eq_false c11)) rfl ?_
      refine Y wn rfl (ypf (v := .bool false) (et rfl rfl) (decide_eq_false c11) rfl) ?_
      obtain rfl := someI gr9
      exact j1 _ _ ⟨rfl, rfl, (hst.facts (allC mhF (allT (allT (allT (allT (allT allI)))))))⟩
  clear hst
  rintro f w ⟨e10_1, e10_15, hst⟩
  refine Y wn rfl (ym (v := .bool r9) (et rfl e10_15)) ?_
  obtain ⟨r20, gr20, hM⟩ := bs hM
  refine joinW 8 (fun f w => f 1 = .pointer (some ⟨b6, 0, none⟩) ∧ f 24 = .bool r20 ∧ St w0 (imm (rS (rI .i64)) h5.v [[1], [0, 2], [1, 3], [2]] :: ros) (box b6 27 [h5.v] :: rs) w) (fun j2 => ?_) ?_
  · rcases iteS gr20 with ⟨c22, gr20⟩ | ⟨c22, gr20⟩
    · refine Y (wg rfl rfl rfl c22) rfl (yLbs (us := [h5.v]) ST_27 (et rfl e10_1) hst mhR rfl rfl) ?_
      obtain ⟨r23, gr23, gr20⟩ := bs gr20
      refine Yc (wg rfl rfl rfl c22) rfl (yCall FN_12 (a2 (et rfl rfl) rfl)) (graph_Levels_ok (hM := gr23) (hst := hst) (q1 := mhF)) ?_
      clear hst
      rintro _ w ⟨h24, rfl, hst⟩
      refine ⟨_, rfl, ?_⟩
      refine YH (wg rfl rfl rfl c22) rfl (rLt (n := 1) (l := [1]) hst SL_22 [.int .i64 1] (bp1 rfl) rfl rfl (mks1 (cs := [.int .i64 1]) rfl mkI mks0)) ?_
      clear hst
      intro h25 w hst
      refine YH (wg rfl rfl rfl c22) rfl (rLt (n := 2) (l := [0, 2]) hst SL_22 [.int .i64 0, .int .i64 2] (bp2 rfl rfl) rfl rfl (mks1 (cs := [.int .i64 0]) rfl mkI (mks1 (cs := [.int .i64 2]) rfl mkI mks0))) ?_
      clear hst
      intro h26 w hst
      refine YH (wg rfl rfl rfl c22) rfl (rLt (n := 1) (l := [3]) hst SL_22 [.int .i64 3] (bp1 rfl) rfl rfl (mks1 (cs := [.int .i64 3]) rfl mkI mks0)) ?_
      clear hst
      intro h27 w hst
      replace hst := hst.pk 3 [2, 0, 0] rfl
      replace hst := hst.fz
      replace hst := hst.pk 2 [1, 0] rfl
      replace hst := hst.fz
      replace hst := hst.fz
      refine YH (wg rfl rfl rfl c22) rfl (rLt (n := 3) (l := [[1], [0, 2], [3]]) hst SL_25 [h25.v, h26.v, h27.v] (bp3 (et rfl rfl) (et rfl rfl) (et rfl rfl)) rfl rfl (mks1 (cs := [h25.v]) rfl (mkS (mtF (mtF mhF))) (mks1 (cs := [h26.v]) rfl (mkS (mtF mhF)) (mks1 (cs := [h27.v]) rfl (mkS mhF) mks0)))) ?_
      clear hst
      intro h28 w hst
      obtain ⟨r29, gr29, gr20⟩ := bs gr20
      replace hst := hst.pk 2 [1, 0] rfl
      replace hst := hst.fz
      replace hst := hst.fz
      refine Yc (wg rfl rfl rfl c22) rfl (yCall FN_24 (a2 (et rfl rfl) (et rfl rfl))) (sparsekit_Lists_ok (hM := gr29) (hst := hst) (q1 := (mtF mhF)) (q2 := mhF)) ?_
      clear hst
      rintro _ w ⟨rfl, hst⟩
      refine ⟨_, rfl, ?_⟩
      refine Y wn rfl (ypt (v := .bool r29) (et rfl rfl) c22 (et rfl rfl)) ?_
      obtain rfl := someI gr20
      exact j2 _ _ ⟨e10_1, rfl, (hst.facts (allC (mtF (mtF (mtF (mtF (mtF mhF))))) (allT (allT (allT (allT (allT (allT allI))))))))⟩
    · refine Gn (wx rfl rfl rfl (bfalse c22)) rfl ?_
      refine Gn (wx rfl rfl rfl (bfalse c22)) rfl ?_
      refine Gn (wx rfl rfl rfl (bfalse c22)) rfl ?_
      refine Gn (wx rfl rfl rfl (bfalse c22)) rfl ?_
      refine Gn (wx rfl rfl rfl (bfalse c22)) rfl ?_
      refine Gn (wx rfl rfl rfl (bfalse c22)) rfl ?_
      refine Gn (wx rfl rfl rfl (bfalse c22)) rfl ?_
      refine Y wn rfl (ypf (v := .bool false) (et rfl rfl) (bfalse c22) rfl) ?_
      obtain rfl := someI gr20
      exact j2 _ _ ⟨e10_1, rfl, hst⟩
  clear hst
  rintro f w ⟨e21_1, e21_24, hst⟩
  refine Y wn rfl (ym (v := .bool r20) (et rfl e21_24)) ?_
  obtain ⟨r32, gr32, hM⟩ := bs hM
  refine joinW 5 (fun f w => f 30 = .bool r32 ∧ St w0 (ros) (rs) w) (fun j3 => ?_) ?_
  · rcases iteS gr32 with ⟨c34, gr32⟩ | ⟨c34, gr32⟩
    · refine Y (wg rfl rfl rfl c34) rfl (yLbs (us := [h5.v]) ST_27 (et rfl e21_1) hst mhR rfl rfl) ?_
      obtain ⟨r35, gr35, gr32⟩ := bs gr32
      refine Yc (wg rfl rfl rfl c34) rfl (yCall FN_14 (a1 (et rfl rfl))) (graph_Components_ok (hM := gr35) (hst := hst) (q1 := mhF)) ?_
      clear hst
      rintro _ w ⟨h36, rfl, hst⟩
      refine ⟨_, rfl, ?_⟩
      refine Y (wg rfl rfl rfl c34) rfl (yLen SL_25 (et rfl rfl) hst (rdO mhR)) ?_
      refine Y (wg rfl rfl rfl c34) rfl (yeql (et rfl rfl) rfl) ?_
      refine Y wn rfl (ypt (v := .bool (decide ((r35.length : Int) = 1))) (et rfl rfl) c34 (et rfl rfl)) ?_
      obtain rfl := someI gr32
      exact j3 _ _ ⟨rfl, ((hst.pk 2 [] rfl).facts (allT allI))⟩
    · refine Gn (wx rfl rfl rfl (bfalse c34)) rfl ?_
      refine Gn (wx rfl rfl rfl (bfalse c34)) rfl ?_
      refine Gn (wx rfl rfl rfl (bfalse c34)) rfl ?_
      refine Gn (wx rfl rfl rfl (bfalse c34)) rfl ?_
      refine Y wn rfl (ypf (v := .bool false) (et rfl rfl) (bfalse c34) rfl) ?_
      obtain rfl := someI gr32
      exact j3 _ _ ⟨rfl, ((hst.pk 1 [] rfl).facts (allT allI))⟩
  clear hst
  rintro f w ⟨e33_30, hst⟩
  refine Y wn rfl (ya (v := .bool r32) (et rfl e33_30)) ?_
  refine wpList_nil ?_
  refine k3 _ _ ?_
  refine wp_ret ?_
  obtain rfl := someI hM
  exact hQ _ _ _ (fin1r Try.results9 ⟨rfl, rfl⟩ ⟨rfl, hst⟩)

theorem sparsekit_Place_ok {w0 : World} {ros : List Fact} {rs : List Res} {w : World} {x1 : Int} {x2 : Int} {out : Int} (hM : sparsekit_Place x1 x2 = some out) (hst : St w0 ros (rs) w) :
    Calls Try.prog 10 #[.int .i64 x1, .int .i64 x2] w (fun e w => e = .returned (.int .i64 out) ∧ St w0 (ros) (rs) w) := by
  refine enterQ Try.func10 rfl Try.ntmps10 rfl fun Q hQ => ?_
  refine seqQ fun Q1 k1 z1 => ?_
  refine wp_region_lit ?_
  refine Y wn rfl (ya (v := .int .i64 0) rfl) ?_
  refine wpList_nil ?_
  refine k1 _ _ ?_
  refine seqQ fun Q2 k2 z2 => ?_
  refine wp_region_lit ?_
  refine Y wn rfl (ym (v := .int .i64 x1) (et rfl rfl)) ?_
  refine Y wn rfl (ycv (k' := .u64) (by kernel_rfl) (by kernel_rfl) (et rfl rfl)) ?_
  refine Y wn rfl (ym (v := .int .i64 x2) (et rfl rfl)) ?_
  refine Y wn rfl (ycv (k' := .u64) (by kernel_rfl) (by kernel_rfl) (et rfl rfl)) ?_
  obtain ⟨x3, gx3, hM⟩ := bs hM
  refine Y wn rfl (yrem (et rfl rfl) (et rfl rfl) gx3) ?_
  refine Y wn rfl (ycv (k' := .i64) (by kernel_rfl) (by kernel_rfl) (et rfl rfl)) ?_
  refine Y wn rfl (ya (v := .int .i64 (wc .i64 x3)) (et rfl rfl)) ?_
  refine wpList_nil ?_
  refine k2 _ _ ?_
  refine wp_ret ?_
  obtain rfl := someI hM
  exact hQ _ _ _ (fin1r Try.results10 ⟨rfl, rfl⟩ ⟨rfl, hst⟩)

theorem sparseref12_FromTable_ok {w0 : World} {ros : List Fact} {rs : List Res} {w : World} {x1 : List (List Bool)} {h2 : Hdr} {out : (List (List Int))} (hM : sparseref12_FromTable x1 = some out) (q1 : imm (rS rB) h2.v x1 ∈ ros) (hst : St w0 ros (rs) w) :
    Calls Try.prog 36 #[h2.v] w (fun e w => ∃ (h100001 : Hdr), e = .returned (.agg #[h100001.v]) ∧ St w0 (ros) (row 22 (rS (rI .i64)) h100001.v out :: rs) w) := by
  refine enterQ Try.func36 rfl Try.ntmps36 rfl fun Q hQ => ?_
  refine seqQ fun Q1 k1 z1 => ?_
  refine wp_region_lit ?_
  refine YB wn rfl (rAl hst ZT_27) ?_
  clear hst
  intro b3 w hst
  refine wpList_nil ?_
  refine k1 _ _ ?_
  refine seqQ fun Q2 k2 z2 => ?_
  refine wp_region_lit ?_
  refine YB wn rfl (rAl hst ZT_27) ?_
  clear hst
  intro b4 w hst
  refine wpList_nil ?_
  refine k2 _ _ ?_
  refine seqQ fun Q3 k3 z3 => ?_
  refine seqQ fun Q4 k4 z4 => ?_
  refine wp_region_lit ?_
  refine Y wn rfl (ya (v := .int .i64 0) rfl) ?_
  refine wpList_nil ?_
  refine k4 _ _ ?_
  refine blockQ fun Q5 q5 => ?_
  obtain ⟨o27, go27, hM⟩ := bs hM
  have je27_0 : ∀ (x258 : List (List Int)) (h257 : Hdr) (f : Nat → Value) (w : World), f 2 = .pointer (some ⟨b3, 0, none⟩) → f 3 = .pointer (some ⟨b4, 0, none⟩) → St w0 (ros) (box b3 27 [hnil.v] :: row 22 (rS (rI .i64)) h257.v x258 :: box b4 27 [h257.v] :: rs) w → x258 = o27 → Q5 (.exit 0) (fr 51 f) w := by
    intro x258 h257 f w eje27_0_2 eje27_0_3 hst ho
    subst ho
    refine q5 _ _ _ ?_
    refine k3 _ _ ?_
    refine seqQ fun Q52 k52 z52 => ?_
    refine wp_region_lit ?_
    refine Y wn rfl (yLbs (us := [h257.v]) ST_27 (et rfl eje27_0_3) hst (mtR (mtR mhR)) rfl rfl) ?_
    refine YT wn rfl (r_stbn (vals' := [h257.v]) (us := [h257.v]) hst ST_27 (et rfl eje27_0_2) (et rfl rfl) rfl rfl (one_of rfl) rfl) ?_
    clear hst
    intro w hst
    refine wpList_nil ?_
    refine k52 _ _ ?_
    refine wp_ret ?_
    obtain rfl := someI hM
    exact hQ _ _ _ (fin1r Try.results36 (rcs2 rfl eje27_0_2 hst mhR ST_27 rfl) ⟨_, rfl, (hst.pk 3 [1] rfl)⟩)
  replace hst := hst.rowNh 22 (rS (rI .i64))
  refine loopQ (fun s a w => ∃ (x129 : List (List Int)) (x130 : Int) (f : Nat → Value) (h128 : Hdr), (x129, x130) = s ∧ a = fr 51 f ∧ f 0 = h2.v ∧ f 2 = .pointer (some ⟨b3, 0, none⟩) ∧ f 3 = .pointer (some ⟨b4, 0, none⟩) ∧ f 4 = .int .i64 x130 ∧ St w0 (ros) (box b3 27 [hnil.v] :: row 22 (rS (rI .i64)) h128.v x129 :: box b4 27 [h128.v] :: rs) w) go27 ⟨_, _, _, _, rfl, rfl, rfl, rfl, rfl, rfl, (hst.pk 3 [2, 0, 0] rfl)⟩ ?_
  clear hst
  rintro _ _ w r27_ ⟨x129, x130, f, h128, rfl, rfl, e27_0, e27_2, e27_3, e27_4, hst⟩ hM27 ho27 Q100027 n27 zz27
  refine seqQ fun Q53 k53 z53 => ?_
  refine seqQ fun Q54 k54 z54 => ?_
  refine wp_region_lit ?_
  refine Y wn rfl (ym (v := .int .i64 x130) (et rfl e27_4)) ?_
  refine Y wn rfl (ym (v := h2.v) (et rfl e27_0)) ?_
  refine Y wn rfl (yLen SL_53 (et rfl rfl) hst (rdI q1)) ?_
  refine Y wn rfl (ylss (et rfl rfl) (et rfl rfl)) ?_
  refine wpList_nil ?_
  refine k54 _ _ ?_
  rcases iteS hM27 with ⟨c259, hM27⟩ | ⟨c259, hM27⟩
  · refine condT (et rfl rfl) (decide_eq_true c259) ?_
    refine wp_skip ?_
    refine k53 _ _ ?_
    refine seqQ fun Q55 k55 z55 => ?_
    refine blockQ fun Q56 q56 => ?_
    refine seqQ fun Q57 k57 z57 => ?_
    refine wp_region_lit ?_
    refine Y wn rfl (ya (v := hnil.v) rfl) ?_
    refine wpList_nil ?_
    refine k57 _ _ ?_
    refine seqQ fun Q58 k58 z58 => ?_
    refine seqQ fun Q59 k59 z59 => ?_
    refine wp_region_lit ?_
    refine Y wn rfl (ya (v := .int .i64 0) rfl) ?_
    refine wpList_nil ?_
    refine k59 _ _ ?_
    refine blockQ fun Q60 q60 => ?_
    obtain ⟨o36, go36, hM27⟩ := bs hM27
    have je36_0 : ∀ (x341 : List Int) (h340 : Hdr) (f : Nat → Value) (w : World), f 0 = h2.v → f 2 = .pointer (some ⟨b3, 0, none⟩) → f 3 = .pointer (some ⟨b4, 0, none⟩) → f 4 = .int .i64 x130 → f 5 = h340.v → St w0 (ros) (box b3 27 [hnil.v] :: row 22 (rS (rI .i64)) h128.v x129 :: box b4 27 [h128.v] :: row 3 (rI .i64) h340.v x341 :: rs) w → x341 = o36 → Q60 (.exit 2) (fr 51 f) w := by
      intro x341 h340 f w eje36_0_0 eje36_0_2 eje36_0_3 eje36_0_4 eje36_0_5 hst ho
      subst ho
      refine q60 _ _ _ ?_
      refine k58 _ _ ?_
      refine wp_region_lit ?_
      refine Y wn rfl (yFb FL_27_0 (et rfl eje36_0_3)) ?_
      refine Y wn rfl (yLb (u := h128.v) O_25 (et rfl rfl) hst (mtR (mtR mhR)) rfl) ?_
      refine Y wn rfl (ym (v := h340.v) (et rfl eje36_0_5)) ?_
      replace hst := hst.pk 4 [3, 0, 0, 0] rfl
      replace hst := hst.fz
      refine YH wn rfl (rLt (n := 1) (l := [x341]) hst SL_25 [h340.v] (bp1 (et rfl rfl)) rfl rfl (mks1 (cs := [h340.v]) rfl (mkS mhF) mks0)) ?_
      clear hst
      intro h342 w hst
      obtain ⟨x344, gx344, hM27⟩ := bs hM27
      replace hst := hst.pk 3 [2, 0, 0] rfl
      refine YH wn rfl (rAp hst SL_25 (et rfl rfl) (et rfl rfl) (rdO (mtR mhR)) gx344) ?_
      clear hst
      intro h343 w hst
      refine Y wn rfl (yFb FL_27_0 (et rfl eje36_0_3)) ?_
      replace hst := hst.pk 4 [3, 0, 0, 0] rfl
      refine YT wn rfl (r_stb1 (vals' := [h343.v]) hst O_25 (et rfl rfl) (et rfl rfl) rfl rfl rfl rfl) ?_
      clear hst
      intro w hst
      refine wpList_nil ?_
      refine q56 _ _ _ ?_
      refine k55 _ _ ?_
      refine wp_region_lit ?_
      refine Y wn rfl (ym (v := .int .i64 x130) (et rfl eje36_0_4)) ?_
      refine Y wn rfl (yadd (et rfl rfl) rfl) ?_
      refine Y wn rfl (ya (v := .int .i64 (wa .i64 x130 1)) (et rfl rfl)) ?_
      refine wpList_nil ?_
      obtain rfl := someI hM27
      exact n27 _ _ _ rfl ⟨_, _, _, _, rfl, rfl, eje36_0_0, eje36_0_2, eje36_0_3, rfl, ((hst.pk 4 [3, 1, 0] rfl).facts (allT allI))⟩
    replace hst := hst.rowNh 3 (rI .i64)
    refine loopQ (fun s a w => ∃ (x298 : List Int) (x299 : Int) (f : Nat → Value) (h297 : Hdr), (x298, x299) = s ∧ a = fr 51 f ∧ f 0 = h2.v ∧ f 2 = .pointer (some ⟨b3, 0, none⟩) ∧ f 3 = .pointer (some ⟨b4, 0, none⟩) ∧ f 4 = .int .i64 x130 ∧ f 5 = h297.v ∧ f 6 = .int .i64 x299 ∧ St w0 (ros) (box b3 27 [hnil.v] :: row 22 (rS (rI .i64)) h128.v x129 :: box b4 27 [h128.v] :: row 3 (rI .i64) h297.v x298 :: rs) w) go36 ⟨_, _, _, _, rfl, rfl, e27_0, e27_2, e27_3, e27_4, rfl, rfl, (hst.pk 4 [1, 1, 1, 0] rfl)⟩ ?_
    clear hst
    rintro _ _ w r36_ ⟨x298, x299, f, h297, rfl, rfl, e36_0, e36_2, e36_3, e36_4, e36_5, e36_6, hst⟩ hM36 ho36 Q100036 n36 zz36
    refine seqQ fun Q71 k71 z71 => ?_
    refine seqQ fun Q72 k72 z72 => ?_
    refine wp_region_lit ?_
    refine Y wn rfl (ym (v := .int .i64 x299) (et rfl e36_6)) ?_
    refine Y wn rfl (ym (v := h2.v) (et rfl e36_0)) ?_
    refine Y wn rfl (yLen SL_53 (et rfl rfl) hst (rdI q1)) ?_
    refine Y wn rfl (ylss (et rfl rfl) (et rfl rfl)) ?_
    refine wpList_nil ?_
    refine k72 _ _ ?_
    rcases iteS hM36 with ⟨c345, hM36⟩ | ⟨c345, hM36⟩
    · refine condT (et rfl rfl) (decide_eq_true c345) ?_
      refine wp_skip ?_
      refine k71 _ _ ?_
      refine seqQ fun Q73 k73 z73 => ?_
      refine blockQ fun Q74 q74 => ?_
      refine seqQ fun Q75 k75 z75 => ?_
      refine wp_region_lit ?_
      refine Y wn rfl (ym (v := .int .i64 x130) (et rfl e36_4)) ?_
      refine Y wn rfl (ym (v := .int .i64 x299) (et rfl e36_6)) ?_
      refine Y wn rfl (yneq (et rfl rfl) (et rfl rfl)) ?_
      refine Y wn rfl (ym (v := .bool (!(decide (x130 = x299)))) (et rfl rfl)) ?_
      obtain ⟨r358, gr358, hM36⟩ := bs hM36
      refine joinW 17 (fun f w => f 0 = h2.v ∧ f 2 = .pointer (some ⟨b3, 0, none⟩) ∧ f 3 = .pointer (some ⟨b4, 0, none⟩) ∧ f 4 = .int .i64 x130 ∧ f 5 = h297.v ∧ f 6 = .int .i64 x299 ∧ f 39 = .bool r358 ∧ St w0 (ros) (box b3 27 [hnil.v] :: row 22 (rS (rI .i64)) h128.v x129 :: box b4 27 [h128.v] :: row 3 (rI .i64) h297.v x298 :: rs) w) (fun j38 => ?_) ?_
      · rcases iteS gr358 with ⟨c360, gr358⟩ | ⟨c360, gr358⟩
        · refine Gn (wx rfl rfl rfl (nF (decide_eq_true c360))) rfl ?_
          refine Gn (wx rfl rfl rfl (nF (decide_eq_true c360))) rfl ?_
          refine Gn (wx rfl rfl rfl (nF (decide_eq_true c360))) rfl ?_
          refine Gn (wx rfl rfl rfl (nF (decide_eq_true c360))) rfl ?_
          refine Gn (wx rfl rfl rfl (nF (decide_eq_true c360))) rfl ?_
          refine Gn (wx rfl rfl rfl (nF (decide_eq_true c360))) rfl ?_
          refine Gn (wx rfl rfl rfl (nF (decide_eq_true c360))) rfl ?_
          refine Gn (wx rfl rfl rfl (nF (decide_eq_true c360))) rfl ?_
          refine Gn (wxu rfl rfl rfl) rfl ?_
          refine Gn (wxu rfl rfl rfl) rfl ?_
          refine Gn (wxu rfl rfl rfl) rfl ?_
          refine Gn (wxu rfl rfl rfl) rfl ?_
          refine Gn (wxu rfl rfl rfl) rfl ?_
          refine Gn (wxu rfl rfl rfl) rfl ?_
          refine Gn (wxu rfl rfl rfl) rfl ?_
          refine Gn (wx rfl rfl rfl (nF (decide_eq_true c360))) rfl ?_
          refine Y wn rfl (ypf (v := .bool false) (et rfl rfl) (nF (decide_eq_true c360)) rfl) ?_
          obtain rfl := someI gr358
          exact j38 _ _ ⟨e36_0, e36_2, e36_3, e36_4, e36_5, e36_6, rfl, hst⟩
        · refine Y (wg rfl rfl rfl (nT (decide_eq_false c360))) rfl (ym (v := h2.v) (et rfl e36_0)) ?_
          refine Y (wg rfl rfl rfl (nT (decide_eq_false c360))) rfl (ym (v := .int .i64 x130) (et rfl e36_4)) ?_
          obtain ⟨x361, gx361, gr358⟩ := bs gr358
          refine Y (wg rfl rfl rfl (nT (decide_eq_false c360))) rfl (yIa SL_53 (et rfl rfl) (et rfl rfl) hst (rdI q1) gx361) ?_
          obtain ⟨h362, hst⟩ := iLs hst q1 gx361
          refine Y (wg rfl rfl rfl (nT (decide_eq_false c360))) rfl (yCt O_54 (et rfl rfl) hst (mtF mhF) rfl) ?_
          refine Y (wg rfl rfl rfl (nT (decide_eq_false c360))) rfl (ym (v := .int .i64 x299) (et rfl e36_6)) ?_
          obtain ⟨x363, gx363, gr358⟩ := bs gr358
          refine Y (wg rfl rfl rfl (nT (decide_eq_false c360))) rfl (yIa SL_54 (et rfl rfl) (et rfl rfl) hst (rdI mhF) gx363) ?_
          refine Y (wg rfl rfl rfl (nT (decide_eq_false c360))) rfl (yB O_4 (et rfl rfl) hst (rdI mhF) gx363) ?_
          refine Y (wg rfl rfl rfl (nT (decide_eq_false c360))) rfl (ym (v := .bool x363) (et rfl rfl)) ?_
          obtain ⟨r367, gr367, gr358⟩ := bs gr358
          refine joinW 8 (fun f w => f 0 = h2.v ∧ f 2 = .pointer (some ⟨b3, 0, none⟩) ∧ f 3 = .pointer (some ⟨b4, 0, none⟩) ∧ f 4 = .int .i64 x130 ∧ f 5 = h297.v ∧ f 6 = .int .i64 x299 ∧ f 22 = .bool (!(decide (x130 = x299))) ∧ f 23 = h2.v ∧ f 24 = .int .i64 x130 ∧ f 26 = h362.v ∧ f 27 = .int .i64 x299 ∧ f 29 = .bool x363 ∧ f 30 = .bool x363 ∧ f 38 = .bool r367 ∧ St w0 (imm rB h362.v x361 :: ros) (box b3 27 [hnil.v] :: row 22 (rS (rI .i64)) h128.v x129 :: box b4 27 [h128.v] :: row 3 (rI .i64) h297.v x298 :: rs) w) (fun j39 => ?_) ?_
          · rcases iteS gr367 with ⟨c369, gr367⟩ | ⟨c369, gr367⟩
            · refine Gn (wx rfl rfl rfl c369) rfl ?_
              refine Gn (wx rfl rfl rfl c369) rfl ?_
              refine Gn (wx rfl rfl rfl c369) rfl ?_
              refine Gn (wx rfl rfl rfl c369) rfl ?_
              refine Gn (wx rfl rfl rfl c369) rfl ?_
              refine Gn (wx rfl rfl rfl c369) rfl ?_
              refine Gn (wx rfl rfl rfl c369) rfl ?_
              refine Y (wg rfl rfl rfl (nT (decide_eq_false c360))) rfl (ypt (v := .bool true) (et rfl rfl) c369 rfl) ?_
              obtain rfl := someI gr367
              exact j39 _ _ ⟨e36_0, e36_2, e36_3, e36_4, e36_5, e36_6, rfl, rfl, rfl, rfl, rfl, rfl, rfl, rfl, (hst.facts (allC mhF (allT (allT allI))))⟩
            · refine Y (wg rfl rfl rfl (bfalse c369)) rfl (ym (v := h2.v) (et rfl e36_0)) ?_
              refine Y (wg rfl rfl rfl (bfalse c369)) rfl (ym (v := .int .i64 x299) (et rfl e36_6)) ?_
              obtain ⟨x370, gx370, gr367⟩ := bs gr367
              refine Y (wg rfl rfl rfl (bfalse c369)) rfl (yIa SL_53 (et rfl rfl) (et rfl rfl) hst (rdI (mtF (mtF q1))) gx370) ?_
              obtain ⟨h371, hst⟩ := iLs hst (mtF (mtF q1)) gx370
              refine Y (wg rfl rfl rfl (bfalse c369)) rfl (yCt O_54 (et rfl rfl) hst (mtF mhF) rfl) ?_
              refine Y (wg rfl rfl rfl (bfalse c369)) rfl (ym (v := .int .i64 x130) (et rfl e36_4)) ?_
              obtain ⟨x372, gx372, gr367⟩ := bs gr367
              refine Y (wg rfl rfl rfl (bfalse c369)) rfl (yIa SL_54 (et rfl rfl) (et rfl rfl) hst (rdI mhF) gx372) ?_
              refine Y (wg rfl rfl rfl (bfalse c369)) rfl (yB O_4 (et rfl rfl) hst (rdI mhF) gx372) ?_
              refine Y (wg rfl rfl rfl (nT (decide_eq_false c360))) rfl (ypf (v := .bool x372) (et rfl rfl) (bfalse c369) (et rfl rfl)) ?_
              obtain rfl := someI gr367
              exact j39 _ _ ⟨e36_0, e36_2, e36_3, e36_4, e36_5, e36_6, rfl, rfl, rfl, rfl, rfl, rfl, rfl, rfl, (hst.facts (allC (mtF (mtF mhF)) (allT (allT (allT (allT allI))))))⟩
          clear hst
          rintro f w ⟨e368_0, e368_2, e368_3, e368_4, e368_5, e368_6, e368_22, e368_23, e368_24, e368_26, e368_27, e368_29, e368_30, e368_38, hst⟩
          refine Y wn rfl (ypt (v := .bool r367) (et rfl e368_22) (nT (decide_eq_false c360)) (et rfl e368_38)) ?_
          obtain rfl := someI gr358
          exact j38 _ _ ⟨e368_0, e368_2, e368_3, e368_4, e368_5, e368_6, rfl, (hst.facts (allT allI))⟩
      clear hst
      rintro f w ⟨e359_0, e359_2, e359_3, e359_4, e359_5, e359_6, e359_39, hst⟩
      refine wpList_nil ?_
      refine k75 _ _ ?_
      have j40 : ∀ (x377 : List Int) (h376 : Hdr) (f : Nat → Value) (w : World), f 0 = h2.v → f 2 = .pointer (some ⟨b3, 0, none⟩) → f 3 = .pointer (some ⟨b4, 0, none⟩) → f 4 = .int .i64 x130 → f 5 = h376.v → f 6 = .int .i64 x299 → St w0 (ros) (box b3 27 [hnil.v] :: row 22 (rS (rI .i64)) h128.v x129 :: box b4 27 [h128.v] :: row 3 (rI .i64) h376.v x377 :: rs) w → sparseref12_FromTable_j40 x299 x377 = some r36_ → Q74 .normal (fr 51 f) w := by
        intro x377 h376 f w ej40_0 ej40_2 ej40_3 ej40_4 ej40_5 ej40_6 hst hM
        refine q74 _ _ _ ?_
        refine k73 _ _ ?_
        refine wp_region_lit ?_
        refine Y wn rfl (ym (v := .int .i64 x299) (et rfl ej40_6)) ?_
        refine Y wn rfl (yadd (et rfl rfl) rfl) ?_
        refine Y wn rfl (ya (v := .int .i64 (wa .i64 x299 1)) (et rfl rfl)) ?_
        refine wpList_nil ?_
        obtain rfl := someI hM
        exact n36 _ _ _ rfl ⟨_, _, _, _, rfl, rfl, ej40_0, ej40_2, ej40_3, ej40_4, ej40_5, rfl, hst⟩
      rcases iteS hM36 with ⟨c378, hM36⟩ | ⟨c378, hM36⟩
      · refine condT (et rfl e359_39) c378 ?_
        refine wp_region_lit ?_
        refine Y wn rfl (ym (v := h297.v) (et rfl e359_5)) ?_
        refine Y wn rfl (ym (v := .int .i64 x299) (et rfl e359_6)) ?_
        refine YH wn rfl (rLt (n := 1) (l := [x299]) hst SL_22 [.int .i64 x299] (bp1 (et rfl rfl)) rfl rfl (mks1 (cs := [.int .i64 x299]) rfl mkI mks0)) ?_
        clear hst
        intro h379 w hst
        obtain ⟨x381, gx381, hM36⟩ := bs hM36
        replace hst := hst.pk 5 [4, 0, 0, 0, 0] rfl
        refine YH wn rfl (rAp hst SL_22 (et rfl rfl) (et rfl rfl) (rdO (mtR mhR)) gx381) ?_
        clear hst
        intro h380 w hst
        refine Y wn rfl (ya (v := h380.v) (et rfl rfl)) ?_
        refine wpList_nil ?_
        exact j40 _ _ _ _ e359_0 e359_2 e359_3 e359_4 rfl e359_6 (hst.pk 5 [2, 2, 2, 0] rfl) hM36
      · refine condF (et rfl e359_39) (bfalse c378) ?_
        refine wp_skip ?_
        exact j40 _ _ _ _ e359_0 e359_2 e359_3 e359_4 e359_5 e359_6 hst hM36
    · refine condF (et rfl rfl) (decide_eq_false c345) ?_
      refine wp_exit ?_
      refine z71 _ _ _ rfl ?_
      obtain rfl := someI hM36
      refine zz36 _ _ _ _ rfl rfl ?_
      exact je36_0 _ _ _ _ e36_0 e36_2 e36_3 e36_4 e36_5 hst (ho36 _ rfl)
  · refine condF (et rfl rfl) (decide_eq_false c259) ?_
    refine wp_exit ?_
    refine z53 _ _ _ rfl ?_
    obtain rfl := someI hM27
    refine zz27 _ _ _ _ rfl rfl ?_
    exact je27_0 _ _ _ _ e27_2 e27_3 hst (ho27 _ rfl)

theorem sparsemake_Graph_ok {w0 : World} {ros : List Fact} {rs : List Res} {w : World} {x1 : Int} {x2 : List Int} {h3 : Hdr} {out : (List (List Int))} (hM : sparsemake_Graph x1 x2 = some out) (q1 : imm (rI .i64) h3.v x2 ∈ ros) (hst : St w0 ros (rs) w) :
    Calls Try.prog 11 #[.int .i64 x1, h3.v] w (fun e w => ∃ (h100001 : Hdr), e = .returned (.agg #[h100001.v]) ∧ St w0 (ros) (row 22 (rS (rI .i64)) h100001.v out :: rs) w) := by
  refine enterQ Try.func11 rfl Try.ntmps11 rfl fun Q hQ => ?_
  refine seqQ fun Q1 k1 z1 => ?_
  refine wp_region_lit ?_
  refine YB wn rfl (rAl hst ZT_27) ?_
  clear hst
  intro b4 w hst
  refine wpList_nil ?_
  refine k1 _ _ ?_
  refine seqQ fun Q2 k2 z2 => ?_
  refine wp_region_lit ?_
  refine Y wn rfl (ya (v := hnil.v) rfl) ?_
  refine wpList_nil ?_
  refine k2 _ _ ?_
  refine seqQ fun Q3 k3 z3 => ?_
  refine seqQ fun Q4 k4 z4 => ?_
  refine wp_region_lit ?_
  refine Y wn rfl (ya (v := .int .i64 0) rfl) ?_
  refine wpList_nil ?_
  refine k4 _ _ ?_
  refine blockQ fun Q5 q5 => ?_
  obtain ⟨o1, go1, hM⟩ := bs hM
  have je1_0 : ∀ (x33 : List (List Bool)) (h31 : Hdr) (y32 : List Hdr) (f : Nat → Value) (w : World), f 0 = .int .i64 x1 → f 1 = h3.v → f 4 = .pointer (some ⟨b4, 0, none⟩) → f 5 = h31.v → St w0 (ros) (box b4 27 [hnil.v] :: row 54 rH h31.v y32 :: fam 4 rB y32 x33 :: rs) w → x33 = o1 → Q5 (.exit 0) (fr 48 f) w := by
    intro x33 h31 y32 f w eje1_0_0 eje1_0_1 eje1_0_4 eje1_0_5 hst ho
    subst ho
    refine q5 _ _ _ ?_
    refine k3 _ _ ?_
    refine seqQ fun Q14 k14 z14 => ?_
    refine seqQ fun Q15 k15 z15 => ?_
    refine wp_region_lit ?_
    refine Y wn rfl (ya (v := .int .i64 0) rfl) ?_
    refine wpList_nil ?_
    refine k15 _ _ ?_
    refine blockQ fun Q16 q16 => ?_
    obtain ⟨o4, go4, hM⟩ := bs hM
    have je4_0 : ∀ (x60 : List (List Bool)) (f : Nat → Value) (w : World), f 4 = .pointer (some ⟨b4, 0, none⟩) → f 5 = h31.v → St w0 (ros) (box b4 27 [hnil.v] :: row 54 rH h31.v y32 :: fam 4 rB y32 x60 :: rs) w → x60 = o4 → Q16 (.exit 2) (fr 48 f) w := by
      intro x60 f w eje4_0_4 eje4_0_5 hst ho
      subst ho
      refine q16 _ _ _ ?_
      refine k14 _ _ ?_
      refine seqQ fun Q25 k25 z25 => ?_
      refine wp_region_lit ?_
      refine Y wn rfl (ym (v := h31.v) (et rfl eje4_0_5)) ?_
      obtain ⟨r61, gr61, hM⟩ := bs hM
      replace hst := hst.pk 3 [1, 1, 0] rfl
      replace hst := hst.ffz
      refine Yc wn rfl (yCall FN_36 (a1 (et rfl rfl))) (sparseref12_FromTable_ok (hM := gr61) (hst := hst) (q1 := mhF)) ?_
      clear hst
      rintro _ w ⟨h62, rfl, hst⟩
      refine ⟨_, rfl, ?_⟩
      replace hst := hst.pk 2 [1, 0] rfl
      refine YT wn rfl (r_stbn (vals' := [h62.v]) (us := [h62.v]) hst ST_27 (et rfl eje4_0_4) (et rfl rfl) rfl rfl (one_of rfl) rfl) ?_
      clear hst
      intro w hst
      refine wpList_nil ?_
      refine k25 _ _ ?_
      refine wp_ret ?_
      obtain rfl := someI hM
      exact hQ _ _ _ (fin1r Try.results11 (rcs2 rfl eje4_0_4 hst mhR ST_27 rfl) ⟨_, rfl, ((hst.pk 2 [1] rfl).facts (allT allI))⟩)
    refine loopQ (fun s a w => ∃ (x45 : List (List Bool)) (x46 : Int) (f : Nat → Value), (x45, x46) = s ∧ a = fr 48 f ∧ f 0 = .int .i64 x1 ∧ f 1 = h3.v ∧ f 4 = .pointer (some ⟨b4, 0, none⟩) ∧ f 5 = h31.v ∧ f 7 = .int .i64 x46 ∧ St w0 (ros) (box b4 27 [hnil.v] :: row 54 rH h31.v y32 :: fam 4 rB y32 x45 :: rs) w) go4 ⟨_, _, _, rfl, rfl, eje1_0_0, eje1_0_1, eje1_0_4, eje1_0_5, rfl, hst⟩ ?_
    clear hst
    rintro _ _ w r4_ ⟨x45, x46, f, rfl, rfl, e4_0, e4_1, e4_4, e4_5, e4_7, hst⟩ hM4 ho4 Q100004 n4 zz4
    refine seqQ fun Q26 k26 z26 => ?_
    refine seqQ fun Q27 k27 z27 => ?_
    refine wp_region_lit ?_
    refine Y wn rfl (ym (v := .int .i64 x46) (et rfl e4_7)) ?_
    refine Y wn rfl (yadd (et rfl rfl) rfl) ?_
    refine Y wn rfl (ym (v := h3.v) (et rfl e4_1)) ?_
    refine Y wn rfl (yLen SL_22 (et rfl rfl) hst (rdI q1)) ?_
    refine Y wn rfl (ylss (et rfl rfl) (et rfl rfl)) ?_
    refine Y wn rfl (ym (v := .bool (decide ((wa .i64 x46 1) < (x2.length : Int)))) (et rfl rfl)) ?_
    refine joinW 3 (fun f w => f 0 = .int .i64 x1 ∧ f 1 = h3.v ∧ f 4 = .pointer (some ⟨b4, 0, none⟩) ∧ f 5 = h31.v ∧ f 7 = .int .i64 x46 ∧ f 26 = .bool ((decide ((wa .i64 x46 1) < (x2.length : Int))) && (decide ((0 : Int) < x1))) ∧ St w0 (ros) (box b4 27 [hnil.v] :: row 54 rH h31.v y32 :: fam 4 rB y32 x45 :: rs) w) (fun j5 => ?_) ?_
    · rcases Bool.eq_false_or_eq_true (decide ((wa .i64 x46 1) < (x2.length : Int))) with c64 | c64
      · refine Y (wg rfl rfl rfl c64) rfl (ym (v := .int .i64 x1) (et rfl e4_0)) ?_
        refine Y (wg rfl rfl rfl c64) rfl (ygtr (et rfl rfl) rfl) ?_
        refine Y wn rfl (ypt (v := .bool (decide ((0 : Int) < x1))) (et rfl rfl) c64 (et rfl rfl)) ?_
        exact j5 _ _ ⟨e4_0, e4_1, e4_4, e4_5, e4_7, (congrArg Value.bool (andT c64)), hst⟩
      · refine Gn (wx rfl rfl rfl c64) rfl ?_
        refine Gn (wx rfl rfl rfl c64) rfl ?_
        refine Y wn rfl (ypf (v := .bool false) (et rfl rfl) c64 rfl) ?_
        exact j5 _ _ ⟨e4_0, e4_1, e4_4, e4_5, e4_7, (congrArg Value.bool (andF c64)), hst⟩
    clear hst
    rintro f w ⟨e63_0, e63_1, e63_4, e63_5, e63_7, e63_26, hst⟩
    refine wpList_nil ?_
    refine k27 _ _ ?_
    rcases iteS hM4 with ⟨c65, hM4⟩ | ⟨c65, hM4⟩
    · refine condT (et rfl e63_26) c65 ?_
      refine wp_skip ?_
      refine k26 _ _ ?_
      refine seqQ fun Q28 k28 z28 => ?_
      refine blockQ fun Q29 q29 => ?_
      obtain ⟨x66, gx66, hM4⟩ := bs hM4
      obtain ⟨r67, gr67, hM4⟩ := bs hM4
      obtain ⟨x68, gx68, hM4⟩ := bs hM4
      obtain ⟨x70, gx70, hM4⟩ := bs hM4
      obtain ⟨r71, gr71, hM4⟩ := bs hM4
      obtain ⟨x72, gx72, hM4⟩ := bs hM4
      obtain ⟨x73, gx73, hM4⟩ := bs hM4
      refine wp_drawR [0, 0, 0, 6, 14, 0, 62, 127, 255, 0, 0, 1024, 3584, 7680, 0, 32382, 65535, 131071] [6, 15, 17] 3 folM (by kernel_rfl) (by kernel_rfl) (by kernel_rfl) ?_
      replace hst := hst.drew
      refine DRn (l1 := [0, 1, 2, 3, 4, 5, 9, 10, 11, 12, 13, 14]) (l2 := []) (lc := [6]) (by kernel_rfl) (by kernel_rfl) (by kernel_rfl) ?_
      refine Ry rfl rfl wn (ym (v := h31.v) (et rfl e63_5)) ?_
      refine Ry rfl rfl wn (ym (v := h3.v) (et rfl e63_1)) ?_
      refine Ry rfl rfl wn (ym (v := .int .i64 x46) (et rfl e63_7)) ?_
      refine Ry rfl rfl wn (yIa SL_22 (et rfl rfl) (et rfl rfl) hst (rdI q1) gx66) ?_
      refine Ry rfl rfl wn (yI O_3 (et rfl rfl) hst (rdI q1) gx66) ?_
      refine Ry rfl rfl wn (ym (v := .int .i64 x1) (et rfl e63_0)) ?_
      refine Ry rfl rfl wn (ym (v := h3.v) (et rfl e63_1)) ?_
      refine Ry rfl rfl wn (ym (v := .int .i64 x46) (et rfl e63_7)) ?_
      refine Ry rfl rfl wn (yadd (et rfl rfl) rfl) ?_
      refine Ry rfl rfl wn (yIa SL_22 (et rfl rfl) (et rfl rfl) hst (rdI q1) gx70) ?_
      refine Ry rfl rfl wn (yI O_3 (et rfl rfl) hst (rdI q1) gx70) ?_
      refine Ry rfl rfl wn (ym (v := .int .i64 x1) (et rfl e63_0)) ?_
      refine Rn QSn ?_
      refine Lc rfl ?_ LAn
      refine Lk wn (yCall FN_10 (a2 (et rfl rfl) (et rfl rfl))) (sparsekit_Place_ok (hM := gr67) (hst := hst) ) ?_
      clear hst
      rintro _ w ⟨rfl, hst⟩
      refine ⟨_, rfl, ?_⟩
      refine DRn (l1 := [7, 8]) (l2 := [0, 9, 10, 11, 12, 13, 14]) (lc := [15]) (by kernel_rfl) (by kernel_rfl) (by kernel_rfl) ?_
      obtain ⟨h69, gh69⟩ := hst.famI (mtR (mtR mhR)) gx68
      refine Ry rfl rfl wn (yIa SLH_53 (et rfl rfl) (et rfl rfl) hst (rdO (mtR mhR)) gh69) ?_
      refine Ry rfl rfl wn (yF1 O_54 (et rfl rfl) hst (rdO (mtR mhR)) gh69 rfl) ?_
      refine Rn (Sy rfl rfl wn (ym (v := h31.v) (et rfl e63_5)) rfl (Sy rfl rfl wn (ym (v := h3.v) (et rfl e63_1)) rfl (Sy rfl rfl wn (ym (v := .int .i64 x46) (et rfl e63_7)) rfl (Sy rfl rfl wn (yadd (et rfl rfl) rfl) rfl (Sy rfl rfl wn (yIa SL_22 (et rfl rfl) (et rfl rfl) hst (rdI q1) gx70) rfl (Sy rfl rfl wn (yI O_3 (et rfl rfl) hst (rdI q1) gx70) rfl (Sy rfl rfl wn (ym (v := .int .i64 x1) (et rfl e63_0)) rfl QSn))))))) ?_
      refine Lc rfl ?_ LAn
      refine Lk wn (yCall FN_10 (a2 (et rfl rfl) (et rfl rfl))) (sparsekit_Place_ok (hM := gr71) (hst := hst) ) ?_
      clear hst
      rintro _ w ⟨rfl, hst⟩
      refine ⟨_, rfl, ?_⟩
      refine DRn (l1 := [16]) (l2 := [0, 7, 8]) (lc := [17]) (by kernel_rfl) (by kernel_rfl) (by kernel_rfl) ?_
      refine Ry rfl rfl wn (yIs SL_54 (et rfl rfl) (et rfl rfl) hst (rdF (mtR (mtR mhR)) gh69 gx68) gx72) ?_
      refine Rn (Sy rfl rfl wn (ym (v := h31.v) (et rfl e63_5)) rfl (Sy rfl rfl wn (yIa SLH_53 (et rfl rfl) (et rfl rfl) hst (rdO (mtR mhR)) gh69) rfl (Sy rfl rfl wn (yF1 O_54 (et rfl rfl) hst (rdO (mtR mhR)) gh69 rfl) rfl QSn))) ?_
      refine Lc rfl ?_ LAn
      replace hst := hst.pk 3 [2, 0, 0] rfl
      refine LT wn (r_sti (cs := [.bool true]) (hst.foc gh69 gx68) O_4 rfl (et rfl rfl) rfl rfl mkB gx72) ?_
      clear hst
      intro w hst
      replace hst := hst.unfoc' gh69 gx73
      refine DRz (l1 := []) (l2 := []) (by kernel_rfl) (by kernel_rfl) ?_
      refine Rn QSn ?_
      refine q29 _ _ _ ?_
      refine k28 _ _ ?_
      refine wp_region_lit ?_
      refine Y wn rfl (ym (v := .int .i64 x46) (et rfl e63_7)) ?_
      refine Y wn rfl (yadd (et rfl rfl) rfl) ?_
      refine Y wn rfl (ya (v := .int .i64 (wa .i64 x46 2)) (et rfl rfl)) ?_
      refine wpList_nil ?_
      obtain rfl := someI hM4
      exact n4 _ _ _ rfl ⟨_, _, _, rfl, rfl, e63_0, e63_1, e63_4, e63_5, rfl, (hst.pk 3 [1, 1, 0] rfl)⟩
    · refine condF (et rfl e63_26) (bfalse c65) ?_
      refine wp_exit ?_
      refine z26 _ _ _ rfl ?_
      obtain rfl := someI hM4
      refine zz4 _ _ _ _ rfl rfl ?_
      exact je4_0 _ _ _ e63_4 e63_5 hst (ho4 _ rfl)
  replace hst := ((hst.rowNh 54 rH).fNew 4 rB).pk 2 [1, 0] rfl
  refine loopQ (fun s a w => ∃ (x16 : List (List Bool)) (x17 : Int) (f : Nat → Value) (h14 : Hdr) (y15 : List Hdr), (x16, x17) = s ∧ a = fr 48 f ∧ f 0 = .int .i64 x1 ∧ f 1 = h3.v ∧ f 4 = .pointer (some ⟨b4, 0, none⟩) ∧ f 5 = h14.v ∧ f 6 = .int .i64 x17 ∧ St w0 (ros) (box b4 27 [hnil.v] :: row 54 rH h14.v y15 :: fam 4 rB y15 x16 :: rs) w) go1 ⟨_, _, _, _, _, rfl, rfl, rfl, rfl, rfl, rfl, rfl, (hst.pk 3 [2, 0, 0] rfl)⟩ ?_
  clear hst
  rintro _ _ w r1_ ⟨x16, x17, f, h14, y15, rfl, rfl, e1_0, e1_1, e1_4, e1_5, e1_6, hst⟩ hM1 ho1 Q100001 n1 zz1
  refine seqQ fun Q30 k30 z30 => ?_
  refine seqQ fun Q31 k31 z31 => ?_
  refine wp_region_lit ?_
  refine Y wn rfl (ym (v := .int .i64 x17) (et rfl e1_6)) ?_
  refine Y wn rfl (ym (v := .int .i64 x1) (et rfl e1_0)) ?_
  refine Y wn rfl (ylss (et rfl rfl) (et rfl rfl)) ?_
  refine wpList_nil ?_
  refine k31 _ _ ?_
  rcases iteS hM1 with ⟨c74, hM1⟩ | ⟨c74, hM1⟩
  · refine condT (et rfl rfl) (decide_eq_true c74) ?_
    refine wp_skip ?_
    refine k30 _ _ ?_
    refine seqQ fun Q32 k32 z32 => ?_
    refine blockQ fun Q33 q33 => ?_
    refine wp_region_lit ?_
    refine Y wn rfl (ym (v := h14.v) (et rfl e1_5)) ?_
    refine Y wn rfl (ym (v := .int .i64 x1) (et rfl e1_0)) ?_
    obtain ⟨x77, gx77, hM1⟩ := bs hM1
    refine YH wn rfl (rMk hst SL_54 (et rfl rfl) gx77) ?_
    clear hst
    intro h75 w hst
    refine YH wn rfl (rLt (n := 1) (l := [h75]) hst SLH_53 [h75.v] (bp1 (et rfl rfl)) rfl rfl (mks1 rfl (mkF rfl) mks0)) ?_
    clear hst
    intro h78 w hst
    obtain ⟨x81, gx81, hM1⟩ := bs hM1
    replace hst := hst.pk 4 [3, 0, 0, 0] rfl
    obtain ⟨y82, ey82, gy82⟩ := app_rep gx81 (hst.famL (mtR (mtR (mtR (mtR mhR))))) (show [h75].length = [x77].length from rfl)
    refine YH wn rfl (rAp hst SLH_53 (et rfl rfl) (et rfl rfl) (rdO (mtR mhR)) gy82) ?_
    clear hst
    intro h80 w hst
    replace hst := hst.pk 5 [2, 3, 0, 0, 0] rfl
    replace hst := hst.fPush
    rw [← ey82, ← (app_some gx81).1] at hst
    refine Y wn rfl (ya (v := h80.v) (et rfl rfl)) ?_
    refine wpList_nil ?_
    refine q33 _ _ _ ?_
    refine k32 _ _ ?_
    refine wp_region_lit ?_
    refine Y wn rfl (ym (v := .int .i64 x17) (et rfl e1_6)) ?_
    refine Y wn rfl (yadd (et rfl rfl) rfl) ?_
    refine Y wn rfl (ya (v := .int .i64 (wa .i64 x17 1)) (et rfl rfl)) ?_
    refine wpList_nil ?_
    obtain rfl := someI hM1
    exact n1 _ _ _ rfl ⟨_, _, _, _, _, rfl, rfl, e1_0, e1_1, e1_4, rfl, rfl, (hst.pk 4 [3, 1, 0] rfl)⟩
  · refine condF (et rfl rfl) (decide_eq_false c74) ?_
    refine wp_exit ?_
    refine z30 _ _ _ rfl ?_
    obtain rfl := someI hM1
    refine zz1 _ _ _ _ rfl rfl ?_
    exact je1_0 _ _ _ _ _ e1_0 e1_1 e1_4 e1_5 hst (ho1 _ rfl)

theorem sparsekit_Ascending_ok {w0 : World} {ros : List Fact} {rs : List Res} {w : World} {x1 : List Int} {h2 : Hdr} {out : Bool} (hM : sparsekit_Ascending x1 = some out) (q1 : imm (rI .i64) h2.v x1 ∈ ros) (hst : St w0 ros (rs) w) :
    Calls Try.prog 13 #[h2.v] w (fun e w => e = .returned (.bool out) ∧ St w0 (ros) (rs) w) := by
  refine enterQ Try.func13 rfl Try.ntmps13 rfl fun Q hQ => ?_
  refine seqQ fun Q1 k1 z1 => ?_
  refine wp_region_lit ?_
  refine Y wn rfl (ya (v := .bool false) rfl) ?_
  refine wpList_nil ?_
  refine k1 _ _ ?_
  refine seqQ fun Q2 k2 z2 => ?_
  refine seqQ fun Q3 k3 z3 => ?_
  refine wp_region_lit ?_
  refine Y wn rfl (ya (v := .int .i64 1) rfl) ?_
  refine wpList_nil ?_
  refine k3 _ _ ?_
  refine blockQ fun Q4 q4 => ?_
  obtain ⟨o1, go1, hM⟩ := bs hM
  have je1_0 : ∀ (f : Nat → Value) (w : World), St w0 (ros) (rs) w → .inl () = o1 → Q4 (.exit 0) (fr 20 f) w := by
    intro f w hst ho
    subst ho
    refine q4 _ _ _ ?_
    refine k2 _ _ ?_
    refine seqQ fun Q17 k17 z17 => ?_
    refine wp_region_lit ?_
    refine Y wn rfl (ya (v := .bool true) rfl) ?_
    refine wpList_nil ?_
    refine k17 _ _ ?_
    refine wp_ret ?_
    obtain rfl := someI hM
    exact hQ _ _ _ (fin1r Try.results13 ⟨rfl, rfl⟩ ⟨rfl, hst⟩)
  have je1_1 : ∀ (f : Nat → Value) (w : World), f 2 = .bool false → St w0 (ros) (rs) w → .inr () = o1 → Q4 .ret (fr 20 f) w := by
    intro f w eje1_1_2 hst ho
    subst ho
    refine q4 _ _ _ ?_
    refine z2 _ _ _ rfl ?_
    obtain rfl := someI hM
    exact hQ _ _ _ (fin1r Try.results13 ⟨rfl, eje1_1_2⟩ ⟨rfl, hst⟩)
  refine loopQ (fun s a w => ∃ (x7 : Int) (f : Nat → Value), x7 = s ∧ a = fr 20 f ∧ f 0 = h2.v ∧ f 3 = .int .i64 x7 ∧ St w0 (ros) (rs) w) go1 ⟨_, _, rfl, rfl, rfl, rfl, hst⟩ ?_
  clear hst
  rintro _ _ w r1_ ⟨x7, f, rfl, rfl, e1_0, e1_3, hst⟩ hM1 ho1 Q100001 n1 zz1
  refine seqQ fun Q18 k18 z18 => ?_
  refine seqQ fun Q19 k19 z19 => ?_
  refine wp_region_lit ?_
  refine Y wn rfl (ym (v := .int .i64 x7) (et rfl e1_3)) ?_
  refine Y wn rfl (ym (v := h2.v) (et rfl e1_0)) ?_
  refine Y wn rfl (yLen SL_22 (et rfl rfl) hst (rdI q1)) ?_
  refine Y wn rfl (ylss (et rfl rfl) (et rfl rfl)) ?_
  refine wpList_nil ?_
  refine k19 _ _ ?_
  rcases iteS hM1 with ⟨c13, hM1⟩ | ⟨c13, hM1⟩
  · refine condT (et rfl rfl) (decide_eq_true c13) ?_
    refine wp_skip ?_
    refine k18 _ _ ?_
    refine seqQ fun Q20 k20 z20 => ?_
    refine blockQ fun Q21 q21 => ?_
    refine seqQ fun Q22 k22 z22 => ?_
    obtain ⟨x14, gx14, hM1⟩ := bs hM1
    obtain ⟨x15, gx15, hM1⟩ := bs hM1
    refine wp_drawR [0, 0, 3, 7, 0, 0, 32, 112, 240, 511] [] 0 folM (by kernel_rfl) (by kernel_rfl) (by kernel_rfl) ?_
    replace hst := hst.drew
    refine DRz (l1 := [0, 1, 2, 3, 4, 5, 6, 7, 8, 9]) (l2 := []) (by kernel_rfl) (by kernel_rfl) ?_
    refine Ry rfl rfl wn (ym (v := h2.v) (et rfl e1_0)) ?_
    refine Ry rfl rfl wn (ym (v := .int .i64 x7) (et rfl e1_3)) ?_
    refine Ry rfl rfl wn (yIa SL_22 (et rfl rfl) (et rfl rfl) hst (rdI q1) gx14) ?_
    refine Ry rfl rfl wn (yI O_3 (et rfl rfl) hst (rdI q1) gx14) ?_
    refine Ry rfl rfl wn (ym (v := h2.v) (et rfl e1_0)) ?_
    refine Ry rfl rfl wn (ym (v := .int .i64 x7) (et rfl e1_3)) ?_
    refine Ry rfl rfl wn (ysub (et rfl rfl) rfl) ?_
    refine Ry rfl rfl wn (yIa SL_22 (et rfl rfl) (et rfl rfl) hst (rdI q1) gx15) ?_
    refine Ry rfl rfl wn (yI O_3 (et rfl rfl) hst (rdI q1) gx15) ?_
    refine Ry rfl rfl wn (yleq (et rfl rfl) (et rfl rfl)) ?_
    refine Rn QSn ?_
    refine k22 _ _ ?_
    rcases iteS hM1 with ⟨c16, hM1⟩ | ⟨c16, hM1⟩
    · refine condT (et rfl rfl) (decide_eq_true c16) ?_
      refine seqQ fun Q23 k23 z23 => ?_
      refine wp_region_lit ?_
      refine Y wn rfl (ya (v := .bool false) rfl) ?_
      refine wpList_nil ?_
      refine k23 _ _ ?_
      refine wp_ret ?_
      refine q21 _ _ _ ?_
      refine z20 _ _ _ rfl ?_
      obtain rfl := someI hM1
      refine zz1 _ _ _ _ rfl rfl ?_
      exact je1_1 _ _ rfl hst (ho1 _ rfl)
    · refine condF (et rfl rfl) (decide_eq_false c16) ?_
      refine wp_skip ?_
      refine q21 _ _ _ ?_
      refine k20 _ _ ?_
      refine wp_region_lit ?_
      refine Y wn rfl (ym (v := .int .i64 x7) (et rfl e1_3)) ?_
      refine Y wn rfl (yadd (et rfl rfl) rfl) ?_
      refine Y wn rfl (ya (v := .int .i64 (wa .i64 x7 1)) (et rfl rfl)) ?_
      refine wpList_nil ?_
      obtain rfl := someI hM1
      exact n1 _ _ _ rfl ⟨_, _, rfl, rfl, e1_0, rfl, hst⟩
  · refine condF (et rfl rfl) (decide_eq_false c13) ?_
    refine wp_exit ?_
    refine z18 _ _ _ rfl ?_
    obtain rfl := someI hM1
    refine zz1 _ _ _ _ rfl rfl ?_
    exact je1_0 _ _ hst (ho1 _ rfl)

theorem sparselaw12_GraphLevels_ok {w0 : World} {ros : List Fact} {rs : List Res} {w : World} {x1 : Int} {x2 : List Int} {x4 : Int} {h3 : Hdr} {out : Bool} (hM : sparselaw12_GraphLevels x1 x2 x4 = some out) (q1 : imm (rI .i64) h3.v x2 ∈ ros) (hst : St w0 ros (rs) w) :
    Calls Try.prog 3 #[.int .i64 x1, h3.v, .int .i64 x4] w (fun e w => e = .returned (.bool out) ∧ St w0 (ros) (rs) w) := by
  refine enterQ Try.func3 rfl Try.ntmps3 rfl fun Q hQ => ?_
  refine seqQ fun Q1 k1 z1 => ?_
  refine wp_region_lit ?_
  refine Y wn rfl (ya (v := .bool false) rfl) ?_
  refine wpList_nil ?_
  refine k1 _ _ ?_
  refine seqQ fun Q2 k2 z2 => ?_
  refine seqQ fun Q3 k3 z3 => ?_
  refine wp_region_lit ?_
  refine Y wn rfl (ym (v := h3.v) (et rfl rfl)) ?_
  refine Y wn rfl (yLen SL_22 (et rfl rfl) hst (rdI q1)) ?_
  refine Y wn rfl (ygtr (et rfl rfl) rfl) ?_
  refine wpList_nil ?_
  refine k3 _ _ ?_
  rcases iteS hM with ⟨c5, hM⟩ | ⟨c5, hM⟩
  · refine condT (et rfl rfl) (decide_eq_true c5) ?_
    refine seqQ fun Q4 k4 z4 => ?_
    refine wp_region_lit ?_
    obtain ⟨r6, gr6, hM⟩ := bs hM
    refine Yc wn rfl (yCall FN_9 a0) (sparselaw12_awake_ok (hM := gr6) (hst := hst) ) ?_
    clear hst
    rintro _ w ⟨rfl, hst⟩
    refine ⟨_, rfl, ?_⟩
    refine Y wn rfl (ya (v := .bool r6) (et rfl rfl)) ?_
    refine wpList_nil ?_
    refine k4 _ _ ?_
    refine wp_ret ?_
    refine z2 _ _ _ rfl ?_
    obtain rfl := someI hM
    exact hQ _ _ _ (fin1r Try.results3 ⟨rfl, rfl⟩ ⟨rfl, hst⟩)
  · refine condF (et rfl rfl) (decide_eq_false c5) ?_
    refine wp_skip ?_
    refine k2 _ _ ?_
    refine seqQ fun Q5 k5 z5 => ?_
    refine wp_region_lit ?_
    refine Y wn rfl (ym (v := .int .i64 x1) (et rfl rfl)) ?_
    obtain ⟨r7, gr7, hM⟩ := bs hM
    refine Yc wn rfl (yCall FN_10 (a2 (et rfl rfl) rfl)) (sparsekit_Place_ok (hM := gr7) (hst := hst) ) ?_
    clear hst
    rintro _ w ⟨rfl, hst⟩
    refine ⟨_, rfl, ?_⟩
    refine Y wn rfl (yadd rfl (et rfl rfl)) ?_
    refine Y wn rfl (ya (v := .int .i64 (wa .i64 1 r7)) (et rfl rfl)) ?_
    refine wpList_nil ?_
    refine k5 _ _ ?_
    refine seqQ fun Q6 k6 z6 => ?_
    refine wp_region_lit ?_
    refine Y wn rfl (ym (v := .int .i64 (wa .i64 1 r7)) (et rfl rfl)) ?_
    refine Y wn rfl (ym (v := h3.v) (et rfl rfl)) ?_
    obtain ⟨r8, gr8, hM⟩ := bs hM
    refine Yc wn rfl (yCall FN_11 (a2 (et rfl rfl) (et rfl rfl))) (sparsemake_Graph_ok (hM := gr8) (hst := hst) (q1 := q1)) ?_
    clear hst
    rintro _ w ⟨h9, rfl, hst⟩
    refine ⟨_, rfl, ?_⟩
    refine YB wn rfl (rAl hst ZT_27) ?_
    clear hst
    intro b10 w hst
    refine YT wn rfl (r_stbn (vals' := [h9.v]) (us := [h9.v]) hst ST_27 (et rfl rfl) (et rfl rfl) rfl rfl (one_of rfl) rfl) ?_
    clear hst
    intro w hst
    refine wpList_nil ?_
    refine k6 _ _ ?_
    refine seqQ fun Q7 k7 z7 => ?_
    refine wp_region_lit ?_
    refine Y wn rfl (ym (v := .int .i64 x4) (et rfl rfl)) ?_
    refine Y wn rfl (ym (v := .int .i64 (wa .i64 1 r7)) (et rfl rfl)) ?_
    obtain ⟨r11, gr11, hM⟩ := bs hM
    refine Yc wn rfl (yCall FN_10 (a2 (et rfl rfl) (et rfl rfl))) (sparsekit_Place_ok (hM := gr11) (hst := hst) ) ?_
    clear hst
    rintro _ w ⟨rfl, hst⟩
    refine ⟨_, rfl, ?_⟩
    refine Y wn rfl (ya (v := .int .i64 r11) (et rfl rfl)) ?_
    refine wpList_nil ?_
    refine k7 _ _ ?_
    refine seqQ fun Q8 k8 z8 => ?_
    refine wp_region_lit ?_
    refine Y wn rfl (yLbs (us := [h9.v]) ST_27 (et rfl rfl) hst mhR rfl rfl) ?_
    refine Y wn rfl (ym (v := .int .i64 r11) (et rfl rfl)) ?_
    obtain ⟨r12, gr12, hM⟩ := bs hM
    replace hst := hst.pk 2 [1, 0] rfl
    replace hst := hst.fz
    refine Yc wn rfl (yCall FN_12 (a2 (et rfl rfl) (et rfl rfl))) (graph_Levels_ok (hM := gr12) (hst := hst) (q1 := mhF)) ?_
    clear hst
    rintro _ w ⟨h13, rfl, hst⟩
    refine ⟨_, rfl, ?_⟩
    refine Y wn rfl (ya (v := h13.v) (et rfl rfl)) ?_
    refine wpList_nil ?_
    refine k8 _ _ ?_
    refine seqQ fun Q9 k9 z9 => ?_
    refine wp_region_lit ?_
    refine Y wn rfl (ym (v := .int .i64 (wa .i64 1 r7)) (et rfl rfl)) ?_
    obtain ⟨x16, gx16, hM⟩ := bs hM
    refine YH wn rfl (rMk hst SL_22 (et rfl rfl) gx16) ?_
    clear hst
    intro h14 w hst
    refine Y wn rfl (ya (v := h14.v) (et rfl rfl)) ?_
    refine wpList_nil ?_
    refine k9 _ _ ?_
    refine seqQ fun Q10 k10 z10 => ?_
    refine seqQ fun Q11 k11 z11 => ?_
    refine wp_region_lit ?_
    refine Y wn rfl (ya (v := .int .i64 0) rfl) ?_
    refine wpList_nil ?_
    refine k11 _ _ ?_
    refine blockQ fun Q12 q12 => ?_
    obtain ⟨o17, go17, hM⟩ := bs hM
    have je17_0 : ∀ (x147 : List Int) (f : Nat → Value) (w : World), f 0 = .int .i64 (wa .i64 1 r7) → f 2 = .int .i64 r11 → f 7 = .pointer (some ⟨b10, 0, none⟩) → f 8 = h13.v → f 9 = h14.v → St w0 (imm (rS (rI .i64)) h9.v r8 :: ros) (box b10 27 [h9.v] :: row 22 (rS (rI .i64)) h13.v r12 :: row 3 (rI .i64) h14.v x147 :: rs) w → .inl x147 = o17 → Q12 (.exit 0) (fr 188 f) w := by
      intro x147 f w eje17_0_0 eje17_0_2 eje17_0_7 eje17_0_8 eje17_0_9 hst ho
      subst ho
      refine q12 _ _ _ ?_
      refine k10 _ _ ?_
      refine seqQ fun Q79 k79 z79 => ?_
      refine seqQ fun Q80 k80 z80 => ?_
      refine wp_region_lit ?_
      refine Y wn rfl (ym (v := h13.v) (et rfl eje17_0_8)) ?_
      refine Y wn rfl (yLen SL_25 (et rfl rfl) hst (rdO (mtR mhR))) ?_
      refine Y wn rfl (yeql (et rfl rfl) rfl) ?_
      refine Y wn rfl (ym (v := .bool (decide ((r12.length : Int) = 0))) (et rfl rfl)) ?_
      obtain ⟨r150, gr150, hM⟩ := bs hM
      refine joinW 6 (fun f w => f 0 = .int .i64 (wa .i64 1 r7) ∧ f 2 = .int .i64 r11 ∧ f 7 = .pointer (some ⟨b10, 0, none⟩) ∧ f 8 = h13.v ∧ f 9 = h14.v ∧ f 99 = .bool r150 ∧ St w0 (imm (rS (rI .i64)) h9.v r8 :: ros) (box b10 27 [h9.v] :: row 22 (rS (rI .i64)) h13.v r12 :: row 3 (rI .i64) h14.v x147 :: rs) w) (fun j18 => ?_) ?_
      · rcases iteS gr150 with ⟨c152, gr150⟩ | ⟨c152, gr150⟩
        · refine Gn (wx rfl rfl rfl (decide_eq_true c152)) rfl ?_
          refine Gn (wx rfl rfl rfl (decide_eq_true c152)) rfl ?_
          refine Gn (wx rfl rfl rfl (decide_eq_true c152)) rfl ?_
          refine Gn (wx rfl rfl rfl (decide_eq_true c152)) rfl ?_
          refine Gn (wx rfl rfl rfl (decide_eq_true c152)) rfl ?_
          refine Y wn rfl (ypt (v := .bool true) (et rfl rfl) (decide_eq_true c152) rfl) ?_
          obtain rfl := someI gr150
          exact j18 _ _ ⟨eje17_0_0, eje17_0_2, eje17_0_7, eje17_0_8, eje17_0_9, rfl, hst⟩
        · refine Y (wg rfl rfl rfl (decide_eq_false c152)) rfl (ym (v := h13.v) (et rfl eje17_0_8)) ?_
          obtain ⟨x153, gx153, gr150⟩ := bs gr150
          refine Y (wg rfl rfl rfl (decide_eq_false c152)) rfl (yIa SL_25 (et rfl rfl) rfl hst (rdO (mtR mhR)) gx153) ?_
          obtain ⟨h154, ch154, hst⟩ := rLs hst (rdO (mtR mhR)) gx153
          refine Y (wg rfl rfl rfl (decide_eq_false c152)) rfl (yCe O_22 (et rfl rfl) ch154 rfl) ?_
          refine Y (wg rfl rfl rfl (decide_eq_false c152)) rfl (yLen SL_22 (et rfl rfl) hst (rdI mhF)) ?_
          refine Y (wg rfl rfl rfl (decide_eq_false c152)) rfl (yneq (et rfl rfl) rfl) ?_
          refine Y wn rfl (ypf (v := .bool (!(decide ((x153.length : Int) = 1)))) (et rfl rfl) (decide_eq_false c152) (et rfl rfl)) ?_
          obtain rfl := someI gr150
          exact j18 _ _ ⟨eje17_0_0, eje17_0_2, eje17_0_7, eje17_0_8, eje17_0_9, rfl, (hst.facts (allC (mtF mhF) (allT (allT allI))))⟩
      clear hst
      rintro f w ⟨e151_0, e151_2, e151_7, e151_8, e151_9, e151_99, hst⟩
      refine Y wn rfl (ym (v := .bool r150) (et rfl e151_99)) ?_
      obtain ⟨r158, gr158, hM⟩ := bs hM
      refine joinW 8 (fun f w => f 0 = .int .i64 (wa .i64 1 r7) ∧ f 7 = .pointer (some ⟨b10, 0, none⟩) ∧ f 9 = h14.v ∧ f 108 = .bool r158 ∧ St w0 (imm (rS (rI .i64)) h9.v r8 :: ros) (box b10 27 [h9.v] :: row 3 (rI .i64) h14.v x147 :: rs) w) (fun j19 => ?_) ?_
      · rcases iteS gr158 with ⟨c160, gr158⟩ | ⟨c160, gr158⟩
        · refine Gn (wx rfl rfl rfl c160) rfl ?_
          refine Gn (wx rfl rfl rfl c160) rfl ?_
          refine Gn (wx rfl rfl rfl c160) rfl ?_
          refine Gn (wx rfl rfl rfl c160) rfl ?_
          refine Gn (wx rfl rfl rfl c160) rfl ?_
          refine Gn (wx rfl rfl rfl c160) rfl ?_
          refine Gn (wx rfl rfl rfl c160) rfl ?_
          refine Y wn rfl (ypt (v := .bool true) (et rfl rfl) c160 rfl) ?_
          obtain rfl := someI gr158
          exact j19 _ _ ⟨e151_0, e151_7, e151_9, rfl, (hst.pk 3 [0, 1] rfl)⟩
        · refine Y (wg rfl rfl rfl (bfalse c160)) rfl (ym (v := h13.v) (et rfl e151_8)) ?_
          obtain ⟨x161, gx161, gr158⟩ := bs gr158
          refine Y (wg rfl rfl rfl (bfalse c160)) rfl (yIa SL_25 (et rfl rfl) rfl hst (rdO (mtR mhR)) gx161) ?_
          obtain ⟨h162, ch162, hst⟩ := rLs hst (rdO (mtR mhR)) gx161
          refine Y (wg rfl rfl rfl (bfalse c160)) rfl (yCe O_22 (et rfl rfl) ch162 rfl) ?_
          obtain ⟨x163, gx163, gr158⟩ := bs gr158
          refine Y (wg rfl rfl rfl (bfalse c160)) rfl (yIa SL_22 (et rfl rfl) rfl hst (rdI mhF) gx163) ?_
          refine Y (wg rfl rfl rfl (bfalse c160)) rfl (yI O_3 (et rfl rfl) hst (rdI mhF) gx163) ?_
          refine Y (wg rfl rfl rfl (bfalse c160)) rfl (ym (v := .int .i64 r11) (et rfl e151_2)) ?_
          refine Y (wg rfl rfl rfl (bfalse c160)) rfl (yneq (et rfl rfl) (et rfl rfl)) ?_
          refine Y wn rfl (ypf (v := .bool (!(decide (x163 = r11)))) (et rfl rfl) (bfalse c160) (et rfl rfl)) ?_
          obtain rfl := someI gr158
          exact j19 _ _ ⟨e151_0, e151_7, e151_9, rfl, ((hst.pk 3 [0, 1] rfl).facts (allC (mtF mhF) (allT (allT allI))))⟩
      clear hst
      rintro f w ⟨e159_0, e159_7, e159_9, e159_108, hst⟩
      refine wpList_nil ?_
      refine k80 _ _ ?_
      rcases iteS hM with ⟨c164, hM⟩ | ⟨c164, hM⟩
      · refine condT (et rfl e159_108) c164 ?_
        refine seqQ fun Q81 k81 z81 => ?_
        refine wp_region_lit ?_
        refine Y wn rfl (ya (v := .bool false) rfl) ?_
        refine wpList_nil ?_
        refine k81 _ _ ?_
        refine wp_ret ?_
        refine z79 _ _ _ rfl ?_
        obtain rfl := someI hM
        exact hQ _ _ _ (fin1r Try.results3 ⟨rfl, rfl⟩ ⟨rfl, ((hst.pk 2 [] rfl).facts (allT allI))⟩)
      · refine condF (et rfl e159_108) (bfalse c164) ?_
        refine wp_skip ?_
        refine k79 _ _ ?_
        refine seqQ fun Q82 k82 z82 => ?_
        refine seqQ fun Q83 k83 z83 => ?_
        refine wp_region_lit ?_
        refine Y wn rfl (ya (v := .int .i64 0) rfl) ?_
        refine wpList_nil ?_
        refine k83 _ _ ?_
        refine blockQ fun Q84 q84 => ?_
        obtain ⟨o76, go76, hM⟩ := bs hM
        have je76_0 : ∀ (f : Nat → Value) (w : World), St w0 (ros) (rs) w → .inl () = o76 → Q84 (.exit 4) (fr 188 f) w := by
          intro f w hst ho
          subst ho
          refine q84 _ _ _ ?_
          refine k82 _ _ ?_
          refine seqQ fun Q153 k153 z153 => ?_
          refine wp_region_lit ?_
          obtain ⟨r327, gr327, hM⟩ := bs hM
          refine Yc wn rfl (yCall FN_9 a0) (sparselaw12_awake_ok (hM := gr327) (hst := hst) ) ?_
          clear hst
          rintro _ w ⟨rfl, hst⟩
          refine ⟨_, rfl, ?_⟩
          refine Y wn rfl (ya (v := .bool r327) (et rfl rfl)) ?_
          refine wpList_nil ?_
          refine k153 _ _ ?_
          refine wp_ret ?_
          obtain rfl := someI hM
          exact hQ _ _ _ (fin1r Try.results3 ⟨rfl, rfl⟩ ⟨rfl, hst⟩)
        have je76_1 : ∀ (f : Nat → Value) (w : World), f 6 = .bool false → St w0 (ros) (rs) w → .inr () = o76 → Q84 .ret (fr 188 f) w := by
          intro f w eje76_1_6 hst ho
          subst ho
          refine q84 _ _ _ ?_
          refine z82 _ _ _ rfl ?_
          obtain rfl := someI hM
          exact hQ _ _ _ (fin1r Try.results3 ⟨rfl, eje76_1_6⟩ ⟨rfl, hst⟩)
        refine loopQ (fun s a w => ∃ (x245 : Int) (f : Nat → Value), x245 = s ∧ a = fr 188 f ∧ f 0 = .int .i64 (wa .i64 1 r7) ∧ f 7 = .pointer (some ⟨b10, 0, none⟩) ∧ f 9 = h14.v ∧ f 13 = .int .i64 x245 ∧ St w0 (imm (rS (rI .i64)) h9.v r8 :: ros) (box b10 27 [h9.v] :: row 3 (rI .i64) h14.v x147 :: rs) w) go76 ⟨_, _, rfl, rfl, e159_0, e159_7, e159_9, rfl, hst⟩ ?_
        clear hst
        rintro _ _ w r76_ ⟨x245, f, rfl, rfl, e76_0, e76_7, e76_9, e76_13, hst⟩ hM76 ho76 Q100076 n76 zz76
        refine seqQ fun Q154 k154 z154 => ?_
        refine seqQ fun Q155 k155 z155 => ?_
        refine wp_region_lit ?_
        refine Y wn rfl (ym (v := .int .i64 x245) (et rfl e76_13)) ?_
        refine Y wn rfl (ym (v := .int .i64 (wa .i64 1 r7)) (et rfl e76_0)) ?_
        refine Y wn rfl (ylss (et rfl rfl) (et rfl rfl)) ?_
        refine wpList_nil ?_
        refine k155 _ _ ?_
        rcases iteS hM76 with ⟨c328, hM76⟩ | ⟨c328, hM76⟩
        · refine condT (et rfl rfl) (decide_eq_true c328) ?_
          refine wp_skip ?_
          refine k154 _ _ ?_
          refine seqQ fun Q156 k156 z156 => ?_
          refine blockQ fun Q157 q157 => ?_
          refine seqQ fun Q158 k158 z158 => ?_
          refine wp_region_lit ?_
          refine Y wn rfl (ym (v := h14.v) (et rfl e76_9)) ?_
          refine Y wn rfl (ym (v := .int .i64 x245) (et rfl e76_13)) ?_
          obtain ⟨x329, gx329, hM76⟩ := bs hM76
          refine Y wn rfl (yIa SL_22 (et rfl rfl) (et rfl rfl) hst (rdO (mtR mhR)) gx329) ?_
          refine Y wn rfl (yI O_3 (et rfl rfl) hst (rdO (mtR mhR)) gx329) ?_
          refine Y wn rfl (yleq (et rfl rfl) rfl) ?_
          refine Y wn rfl (ya (v := .bool (decide (x329 ≤ 1))) (et rfl rfl)) ?_
          refine wpList_nil ?_
          refine k158 _ _ ?_
          refine seqQ fun Q159 k159 z159 => ?_
          refine seqQ fun Q160 k160 z160 => ?_
          refine wp_region_lit ?_
          refine Y wn rfl (ya (v := .int .i64 0) rfl) ?_
          refine wpList_nil ?_
          refine k160 _ _ ?_
          refine blockQ fun Q161 q161 => ?_
          obtain ⟨o95, go95, hM76⟩ := bs hM76
          have je95_0 : ∀ (x382 : Bool) (f : Nat → Value) (w : World), f 0 = .int .i64 (wa .i64 1 r7) → f 7 = .pointer (some ⟨b10, 0, none⟩) → f 9 = h14.v → f 13 = .int .i64 x245 → f 14 = .bool x382 → St w0 (imm (rS (rI .i64)) h9.v r8 :: ros) (box b10 27 [h9.v] :: row 3 (rI .i64) h14.v x147 :: rs) w → .inl x382 = o95 → Q161 (.exit 6) (fr 188 f) w := by
            intro x382 f w eje95_0_0 eje95_0_7 eje95_0_9 eje95_0_13 eje95_0_14 hst ho
            subst ho
            refine q161 _ _ _ ?_
            refine k159 _ _ ?_
            refine seqQ fun Q178 k178 z178 => ?_
            refine wp_region_lit ?_
            refine Y wn rfl (ym (v := .bool x382) (et rfl eje95_0_14)) ?_
            refine Y wn rfl (ynot (et rfl rfl)) ?_
            refine wpList_nil ?_
            refine k178 _ _ ?_
            rcases iteS hM76 with ⟨c383, hM76⟩ | ⟨c383, hM76⟩
            · refine condF (et rfl rfl) (nF c383) ?_
              refine wp_skip ?_
              refine q157 _ _ _ ?_
              refine k156 _ _ ?_
              refine wp_region_lit ?_
              refine Y wn rfl (ym (v := .int .i64 x245) (et rfl eje95_0_13)) ?_
              refine Y wn rfl (yadd (et rfl rfl) rfl) ?_
              refine Y wn rfl (ya (v := .int .i64 (wa .i64 x245 1)) (et rfl rfl)) ?_
              refine wpList_nil ?_
              obtain rfl := someI hM76
              exact n76 _ _ _ rfl ⟨_, _, rfl, rfl, eje95_0_0, eje95_0_7, eje95_0_9, rfl, hst⟩
            · refine condT (et rfl rfl) (nT (bfalse c383)) ?_
              refine seqQ fun Q179 k179 z179 => ?_
              refine wp_region_lit ?_
              refine Y wn rfl (ya (v := .bool false) rfl) ?_
              refine wpList_nil ?_
              refine k179 _ _ ?_
              refine wp_ret ?_
              refine q157 _ _ _ ?_
              refine z156 _ _ _ rfl ?_
              obtain rfl := someI hM76
              refine zz76 _ _ _ _ rfl rfl ?_
              exact je76_1 _ _ rfl ((hst.pk 2 [] rfl).facts (allT allI)) (ho76 _ rfl)
          have je95_1 : ∀ (f : Nat → Value) (w : World), f 6 = .bool false → St w0 (ros) (rs) w → .inr () = o95 → Q161 .ret (fr 188 f) w := by
            intro f w eje95_1_6 hst ho
            subst ho
            refine q161 _ _ _ ?_
            refine z159 _ _ _ rfl ?_
            refine q157 _ _ _ ?_
            refine z156 _ _ _ rfl ?_
            obtain rfl := someI hM76
            refine zz76 _ _ _ _ rfl rfl ?_
            exact je76_1 _ _ eje95_1_6 hst (ho76 _ rfl)
          refine loopQ (fun s a w => ∃ (x354 : Bool) (x355 : Int) (f : Nat → Value), (x354, x355) = s ∧ a = fr 188 f ∧ f 0 = .int .i64 (wa .i64 1 r7) ∧ f 7 = .pointer (some ⟨b10, 0, none⟩) ∧ f 9 = h14.v ∧ f 13 = .int .i64 x245 ∧ f 14 = .bool x354 ∧ f 15 = .int .i64 x355 ∧ St w0 (imm (rS (rI .i64)) h9.v r8 :: ros) (box b10 27 [h9.v] :: row 3 (rI .i64) h14.v x147 :: rs) w) go95 ⟨_, _, _, rfl, rfl, e76_0, e76_7, e76_9, e76_13, rfl, rfl, hst⟩ ?_
          clear hst
          rintro _ _ w r95_ ⟨x354, x355, f, rfl, rfl, e95_0, e95_7, e95_9, e95_13, e95_14, e95_15, hst⟩ hM95 ho95 Q100095 n95 zz95
          refine seqQ fun Q180 k180 z180 => ?_
          refine seqQ fun Q181 k181 z181 => ?_
          refine wp_region_lit ?_
          refine Y wn rfl (ym (v := .int .i64 x355) (et rfl e95_15)) ?_
          refine Y wn rfl (yFb FL_27_0 (et rfl e95_7)) ?_
          refine Y wn rfl (yLb (u := h9.v) O_25 (et rfl rfl) hst mhR rfl) ?_
          refine Y wn rfl (ym (v := .int .i64 x245) (et rfl e95_13)) ?_
          obtain ⟨x384, gx384, hM95⟩ := bs hM95
          refine Y wn rfl (yIa SL_25 (et rfl rfl) (et rfl rfl) hst (rdI mhF) gx384) ?_
          obtain ⟨h385, hst⟩ := iLs hst mhF gx384
          refine Y wn rfl (yCt O_22 (et rfl rfl) hst (mtF mhF) rfl) ?_
          refine Y wn rfl (yLen SL_22 (et rfl rfl) hst (rdI mhF)) ?_
          refine Y wn rfl (ylss (et rfl rfl) (et rfl rfl)) ?_
          refine wpList_nil ?_
          refine k181 _ _ ?_
          rcases iteS hM95 with ⟨c386, hM95⟩ | ⟨c386, hM95⟩
          · refine condT (et rfl rfl) (decide_eq_true c386) ?_
            refine wp_skip ?_
            refine k180 _ _ ?_
            refine seqQ fun Q182 k182 z182 => ?_
            refine blockQ fun Q183 q183 => ?_
            refine seqQ fun Q184 k184 z184 => ?_
            refine wp_region_lit ?_
            refine Y wn rfl (yFb FL_27_0 (et rfl e95_7)) ?_
            refine Y wn rfl (yLb (u := h9.v) O_25 (et rfl rfl) hst mhR rfl) ?_
            refine Y wn rfl (ym (v := .int .i64 x245) (et rfl e95_13)) ?_
            obtain ⟨x387, gx387, hM95⟩ := bs hM95
            refine Y wn rfl (yIa SL_25 (et rfl rfl) (et rfl rfl) hst (rdI (mtF (mtF mhF))) gx387) ?_
            obtain ⟨h388, hst⟩ := iLs hst (mtF (mtF mhF)) gx387
            refine Y wn rfl (yCt O_22 (et rfl rfl) hst (mtF mhF) rfl) ?_
            refine Y wn rfl (ym (v := .int .i64 x355) (et rfl e95_15)) ?_
            obtain ⟨x389, gx389, hM95⟩ := bs hM95
            refine Y wn rfl (yIa SL_22 (et rfl rfl) (et rfl rfl) hst (rdI mhF) gx389) ?_
            refine Y wn rfl (yI O_3 (et rfl rfl) hst (rdI mhF) gx389) ?_
            refine Y wn rfl (ya (v := .int .i64 x389) (et rfl rfl)) ?_
            refine wpList_nil ?_
            refine k184 _ _ ?_
            refine seqQ fun Q185 k185 z185 => ?_
            refine seqQ fun Q186 k186 z186 => ?_
            obtain ⟨x390, gx390, hM95⟩ := bs hM95
            obtain ⟨x391, gx391, hM95⟩ := bs hM95
            obtain ⟨r392, gr392, hM95⟩ := bs hM95
            obtain ⟨r393, gr393, hM95⟩ := bs hM95
            refine joinN (n := 188) (fun f w => f 0 = .int .i64 (wa .i64 1 r7) ∧ f 7 = .pointer (some ⟨b10, 0, none⟩) ∧ f 9 = h14.v ∧ f 13 = .int .i64 x245 ∧ f 14 = .bool x354 ∧ f 15 = .int .i64 x355 ∧ f 16 = .int .i64 x389 ∧ f 171 = .bool r393 ∧ St w0 (imm (rS (rI .i64)) h9.v r8 :: ros) (box b10 27 [h9.v] :: row 3 (rI .i64) h14.v x147 :: rs) w) (fun j96 => ?_) ?_
            · rcases iteS gr392 with ⟨c395, gr392⟩ | ⟨c395, gr392⟩
              · have hr97 := someI gr392
                have c396 : r392 = true := hr97.symm
                rw [if_pos c396] at gr393
                have hr98 := someI gr393
                refine wp_drawR [0, 0, 3, 7, 0, 0, 48, 112, 255, 511, 1023, 2047, 2047, 8191, 16383, 2047, 2047, 100351, 231423, 524287, 1048575, 2097151, 4194303, 8388607, 8388607, 33554431, 67108863, 134217727, 8388607, 8388607, 813694975, 1887436799, 4034920447, 8589934591, 17179869183] [] 0 folM (by kernel_rfl) (by kernel_rfl) (by kernel_rfl) ?_
                replace hst := hst.drew
                refine DRz (l1 := [0, 1, 2, 3, 4, 5, 6, 7, 8, 9, 10, 11, 12, 13, 14, 15, 16, 17, 18, 19, 20, 21, 22, 23, 24, 25, 26, 27, 28, 29, 30, 31, 32, 33, 34]) (l2 := []) (by kernel_rfl) (by kernel_rfl) ?_
                refine Ry rfl rfl wn (ym (v := h14.v) (et rfl e95_9)) ?_
                refine Ry rfl rfl wn (ym (v := .int .i64 x245) (et rfl e95_13)) ?_
                refine Ry rfl rfl wn (yIa SL_22 (et rfl rfl) (et rfl rfl) hst (rdO (mtR mhR)) gx390) ?_
                refine Ry rfl rfl wn (yI O_3 (et rfl rfl) hst (rdO (mtR mhR)) gx390) ?_
                refine Ry rfl rfl wn (ym (v := h14.v) (et rfl e95_9)) ?_
                refine Ry rfl rfl wn (ym (v := .int .i64 x389) (et rfl rfl)) ?_
                refine Ry rfl rfl wn (yIa SL_22 (et rfl rfl) (et rfl rfl) hst (rdO (mtR mhR)) gx391) ?_
                refine Ry rfl rfl wn (yI O_3 (et rfl rfl) hst (rdO (mtR mhR)) gx391) ?_
                refine Ry rfl rfl wn (ysub (et rfl rfl) (et rfl rfl)) ?_
                refine Ry rfl rfl wn (ygtr (et rfl rfl) rfl) ?_
                refine Ry rfl rfl wn (ym (v := .bool (decide ((1 : Int) < (ws .i64 x390 x391)))) (et rfl rfl)) ?_
                refine Rx rfl rfl (wx rfl rfl rfl (decide_eq_true c395)) ?_
                refine Rx rfl rfl (wx rfl rfl rfl (decide_eq_true c395)) ?_
                refine Rx rfl rfl (wx rfl rfl rfl (decide_eq_true c395)) ?_
                refine Rx rfl rfl (wx rfl rfl rfl (decide_eq_true c395)) ?_
                refine Rx rfl rfl (wx rfl rfl rfl (decide_eq_true c395)) ?_
                refine Rx rfl rfl (wx rfl rfl rfl (decide_eq_true c395)) ?_
                refine Rx rfl rfl (wx rfl rfl rfl (decide_eq_true c395)) ?_
                refine Rx rfl rfl (wx rfl rfl rfl (decide_eq_true c395)) ?_
                refine Rx rfl rfl (wx rfl rfl rfl (decide_eq_true c395)) ?_
                refine Rx rfl rfl (wx rfl rfl rfl (decide_eq_true c395)) ?_
                refine Ry rfl rfl wn (ypt (v := .bool r392) (et rfl rfl) (decide_eq_true c395) (eqv hr97 rfl)) ?_
                refine Ry rfl rfl wn (ym (v := .bool r392) (et rfl rfl)) ?_
                refine Rx rfl rfl (wx rfl rfl rfl c396) ?_
                refine Rx rfl rfl (wx rfl rfl rfl c396) ?_
                refine Rx rfl rfl (wx rfl rfl rfl c396) ?_
                refine Rx rfl rfl (wx rfl rfl rfl c396) ?_
                refine Rx rfl rfl (wx rfl rfl rfl c396) ?_
                refine Rx rfl rfl (wx rfl rfl rfl c396) ?_
                refine Rx rfl rfl (wx rfl rfl rfl c396) ?_
                refine Rx rfl rfl (wx rfl rfl rfl c396) ?_
                refine Rx rfl rfl (wx rfl rfl rfl c396) ?_
                refine Rx rfl rfl (wx rfl rfl rfl c396) ?_
                refine Rx rfl rfl (wx rfl rfl rfl c396) ?_
                refine Ry rfl rfl wn (ypt (v := .bool r393) (et rfl rfl) c396 (eqv hr98 rfl)) ?_
                refine Rn QSn ?_
                exact j96 _ _ ⟨e95_0, e95_7, e95_9, e95_13, e95_14, e95_15, rfl, rfl, (hst.facts (allC (mtF (mtF (mtF (mtF mhF)))) (allT (allT (allT (allT (allT allI)))))))⟩
              · obtain ⟨x397, gx397, gr392⟩ := bs gr392
                obtain ⟨x398, gx398, gr392⟩ := bs gr392
                have hr99 := someI gr392
                rcases iteS gr393 with ⟨c399, gr393⟩ | ⟨c399, gr393⟩
                · have hr100 := someI gr393
                  refine wp_drawR [0, 0, 3, 7, 0, 0, 48, 112, 255, 511, 1023, 2047, 2047, 8191, 16383, 2047, 2047, 100351, 231423, 524287, 1048575, 2097151, 4194303, 8388607, 8388607, 33554431, 67108863, 134217727, 8388607, 8388607, 813694975, 1887436799, 4034920447, 8589934591, 17179869183] [] 0 folM (by kernel_rfl) (by kernel_rfl) (by kernel_rfl) ?_
                  replace hst := hst.drew
                  refine DRz (l1 := [0, 1, 2, 3, 4, 5, 6, 7, 8, 9, 10, 11, 12, 13, 14, 15, 16, 17, 18, 19, 20, 21, 22, 23, 24, 25, 26, 27, 28, 29, 30, 31, 32, 33, 34]) (l2 := []) (by kernel_rfl) (by kernel_rfl) ?_
                  refine Ry rfl rfl wn (ym (v := h14.v) (et rfl e95_9)) ?_
                  refine Ry rfl rfl wn (ym (v := .int .i64 x245) (et rfl e95_13)) ?_
                  refine Ry rfl rfl wn (yIa SL_22 (et rfl rfl) (et rfl rfl) hst (rdO (mtR mhR)) gx390) ?_
                  refine Ry rfl rfl wn (yI O_3 (et rfl rfl) hst (rdO (mtR mhR)) gx390) ?_
                  refine Ry rfl rfl wn (ym (v := h14.v) (et rfl e95_9)) ?_
                  refine Ry rfl rfl wn (ym (v := .int .i64 x389) (et rfl rfl)) ?_
                  refine Ry rfl rfl wn (yIa SL_22 (et rfl rfl) (et rfl rfl) hst (rdO (mtR mhR)) gx391) ?_
                  refine Ry rfl rfl wn (yI O_3 (et rfl rfl) hst (rdO (mtR mhR)) gx391) ?_
                  refine Ry rfl rfl wn (ysub (et rfl rfl) (et rfl rfl)) ?_
                  refine Ry rfl rfl wn (ygtr (et rfl rfl) rfl) ?_
                  refine Ry rfl rfl wn (ym (v := .bool (decide ((1 : Int) < (ws .i64 x390 x391)))) (et rfl rfl)) ?_
                  refine Ry rfl rfl (wg rfl rfl rfl (decide_eq_false c395)) (ym (v := h14.v) (et rfl e95_9)) ?_
                  refine Ry rfl rfl (wg rfl rfl rfl (decide_eq_false c395)) (ym (v := .int .i64 x389) (et rfl rfl)) ?_
                  refine Ry rfl rfl (wg rfl rfl rfl (decide_eq_false c395)) (yIa SL_22 (et rfl rfl) (et rfl rfl) hst (rdO (mtR mhR)) gx397) ?_
                  refine Ry rfl rfl (wg rfl rfl rfl (decide_eq_false c395)) (yI O_3 (et rfl rfl) hst (rdO (mtR mhR)) gx397) ?_
                  refine Ry rfl rfl (wg rfl rfl rfl (decide_eq_false c395)) (ym (v := h14.v) (et rfl e95_9)) ?_
                  refine Ry rfl rfl (wg rfl rfl rfl (decide_eq_false c395)) (ym (v := .int .i64 x245) (et rfl e95_13)) ?_
                  refine Ry rfl rfl (wg rfl rfl rfl (decide_eq_false c395)) (yIa SL_22 (et rfl rfl) (et rfl rfl) hst (rdO (mtR mhR)) gx398) ?_
                  refine Ry rfl rfl (wg rfl rfl rfl (decide_eq_false c395)) (yI O_3 (et rfl rfl) hst (rdO (mtR mhR)) gx398) ?_
                  refine Ry rfl rfl (wg rfl rfl rfl (decide_eq_false c395)) (ysub (et rfl rfl) (et rfl rfl)) ?_
                  refine Ry rfl rfl (wg rfl rfl rfl (decide_eq_false c395)) (ygtr (et rfl rfl) rfl) ?_
                  refine Ry rfl rfl wn (ypf (v := .bool r392) (et rfl rfl) (decide_eq_false c395) (eqv hr99 (et rfl rfl))) ?_
                  refine Ry rfl rfl wn (ym (v := .bool r392) (et rfl rfl)) ?_
                  refine Rx rfl rfl (wx rfl rfl rfl c399) ?_
                  refine Rx rfl rfl (wx rfl rfl rfl c399) ?_
                  refine Rx rfl rfl (wx rfl rfl rfl c399) ?_
                  refine Rx rfl rfl (wx rfl rfl rfl c399) ?_
                  refine Rx rfl rfl (wx rfl rfl rfl c399) ?_
                  refine Rx rfl rfl (wx rfl rfl rfl c399) ?_
                  refine Rx rfl rfl (wx rfl rfl rfl c399) ?_
                  refine Rx rfl rfl (wx rfl rfl rfl c399) ?_
                  refine Rx rfl rfl (wx rfl rfl rfl c399) ?_
                  refine Rx rfl rfl (wx rfl rfl rfl c399) ?_
                  refine Rx rfl rfl (wx rfl rfl rfl c399) ?_
                  refine Ry rfl rfl wn (ypt (v := .bool r393) (et rfl rfl) c399 (eqv hr100 rfl)) ?_
                  refine Rn QSn ?_
                  exact j96 _ _ ⟨e95_0, e95_7, e95_9, e95_13, e95_14, e95_15, rfl, rfl, (hst.facts (allC (mtF (mtF (mtF (mtF mhF)))) (allT (allT (allT (allT (allT allI)))))))⟩
                · obtain ⟨x400, gx400, gr393⟩ := bs gr393
                  obtain ⟨x401, gx401, gr393⟩ := bs gr393
                  have hr101 := someI gr393
                  refine wp_drawR [0, 0, 3, 7, 0, 0, 48, 112, 255, 511, 1023, 2047, 2047, 8191, 16383, 2047, 2047, 100351, 231423, 524287, 1048575, 2097151, 4194303, 8388607, 8388607, 33554431, 67108863, 134217727, 8388607, 8388607, 813694975, 1887436799, 4034920447, 8589934591, 17179869183] [] 0 folM (by kernel_rfl) (by kernel_rfl) (by kernel_rfl) ?_
                  replace hst := hst.drew
                  refine DRz (l1 := [0, 1, 2, 3, 4, 5, 6, 7, 8, 9, 10, 11, 12, 13, 14, 15, 16, 17, 18, 19, 20, 21, 22, 23, 24, 25, 26, 27, 28, 29, 30, 31, 32, 33, 34]) (l2 := []) (by kernel_rfl) (by kernel_rfl) ?_
                  refine Ry rfl rfl wn (ym (v := h14.v) (et rfl e95_9)) ?_
                  refine Ry rfl rfl wn (ym (v := .int .i64 x245) (et rfl e95_13)) ?_
                  refine Ry rfl rfl wn (yIa SL_22 (et rfl rfl) (et rfl rfl) hst (rdO (mtR mhR)) gx390) ?_
                  refine Ry rfl rfl wn (yI O_3 (et rfl rfl) hst (rdO (mtR mhR)) gx390) ?_
                  refine Ry rfl rfl wn (ym (v := h14.v) (et rfl e95_9)) ?_
                  refine Ry rfl rfl wn (ym (v := .int .i64 x389) (et rfl rfl)) ?_
                  refine Ry rfl rfl wn (yIa SL_22 (et rfl rfl) (et rfl rfl) hst (rdO (mtR mhR)) gx391) ?_
                  refine Ry rfl rfl wn (yI O_3 (et rfl rfl) hst (rdO (mtR mhR)) gx391) ?_
                  refine Ry rfl rfl wn (ysub (et rfl rfl) (et rfl rfl)) ?_
                  refine Ry rfl rfl wn (ygtr (et rfl rfl) rfl) ?_
                  refine Ry rfl rfl wn (ym (v := .bool (decide ((1 : Int) < (ws .i64 x390 x391)))) (et rfl rfl)) ?_
                  refine Ry rfl rfl (wg rfl rfl rfl (decide_eq_false c395)) (ym (v := h14.v) (et rfl e95_9)) ?_
                  refine Ry rfl rfl (wg rfl rfl rfl (decide_eq_false c395)) (ym (v := .int .i64 x389) (et rfl rfl)) ?_
                  refine Ry rfl rfl (wg rfl rfl rfl (decide_eq_false c395)) (yIa SL_22 (et rfl rfl) (et rfl rfl) hst (rdO (mtR mhR)) gx397) ?_
                  refine Ry rfl rfl (wg rfl rfl rfl (decide_eq_false c395)) (yI O_3 (et rfl rfl) hst (rdO (mtR mhR)) gx397) ?_
                  refine Ry rfl rfl (wg rfl rfl rfl (decide_eq_false c395)) (ym (v := h14.v) (et rfl e95_9)) ?_
                  refine Ry rfl rfl (wg rfl rfl rfl (decide_eq_false c395)) (ym (v := .int .i64 x245) (et rfl e95_13)) ?_
                  refine Ry rfl rfl (wg rfl rfl rfl (decide_eq_false c395)) (yIa SL_22 (et rfl rfl) (et rfl rfl) hst (rdO (mtR mhR)) gx398) ?_
                  refine Ry rfl rfl (wg rfl rfl rfl (decide_eq_false c395)) (yI O_3 (et rfl rfl) hst (rdO (mtR mhR)) gx398) ?_
                  refine Ry rfl rfl (wg rfl rfl rfl (decide_eq_false c395)) (ysub (et rfl rfl) (et rfl rfl)) ?_
                  refine Ry rfl rfl (wg rfl rfl rfl (decide_eq_false c395)) (ygtr (et rfl rfl) rfl) ?_
                  refine Ry rfl rfl wn (ypf (v := .bool r392) (et rfl rfl) (decide_eq_false c395) (eqv hr99 (et rfl rfl))) ?_
                  refine Ry rfl rfl wn (ym (v := .bool r392) (et rfl rfl)) ?_
                  refine Ry rfl rfl (wg rfl rfl rfl (bfalse c399)) (ym (v := h14.v) (et rfl e95_9)) ?_
                  refine Ry rfl rfl (wg rfl rfl rfl (bfalse c399)) (ym (v := .int .i64 x245) (et rfl e95_13)) ?_
                  refine Ry rfl rfl (wg rfl rfl rfl (bfalse c399)) (yIa SL_22 (et rfl rfl) (et rfl rfl) hst (rdO (mtR mhR)) gx400) ?_
                  refine Ry rfl rfl (wg rfl rfl rfl (bfalse c399)) (yI O_3 (et rfl rfl) hst (rdO (mtR mhR)) gx400) ?_
                  refine Ry rfl rfl (wg rfl rfl rfl (bfalse c399)) (yeql (et rfl rfl) rfl) ?_
                  refine Ry rfl rfl (wg rfl rfl rfl (bfalse c399)) (ym (v := h14.v) (et rfl e95_9)) ?_
                  refine Ry rfl rfl (wg rfl rfl rfl (bfalse c399)) (ym (v := .int .i64 x389) (et rfl rfl)) ?_
                  refine Ry rfl rfl (wg rfl rfl rfl (bfalse c399)) (yIa SL_22 (et rfl rfl) (et rfl rfl) hst (rdO (mtR mhR)) gx401) ?_
                  refine Ry rfl rfl (wg rfl rfl rfl (bfalse c399)) (yI O_3 (et rfl rfl) hst (rdO (mtR mhR)) gx401) ?_
                  refine Ry rfl rfl (wg rfl rfl rfl (bfalse c399)) (yeql (et rfl rfl) rfl) ?_
                  refine Ry rfl rfl (wg rfl rfl rfl (bfalse c399)) (yneb (by kernel_rfl) (et rfl rfl) (et rfl rfl)) ?_
                  refine Ry rfl rfl wn (ypf (v := .bool r393) (et rfl rfl) (bfalse c399) (eqv hr101 (et rfl rfl))) ?_
                  refine Rn QSn ?_
                  exact j96 _ _ ⟨e95_0, e95_7, e95_9, e95_13, e95_14, e95_15, rfl, rfl, (hst.facts (allC (mtF (mtF (mtF (mtF mhF)))) (allT (allT (allT (allT (allT allI)))))))⟩
            clear hst
            rintro f w ⟨e394_0, e394_7, e394_9, e394_13, e394_14, e394_15, e394_16, e394_171, hst⟩
            refine k186 _ _ ?_
            rcases iteS hM95 with ⟨c402, hM95⟩ | ⟨c402, hM95⟩
            · refine condT (et rfl e394_171) c402 ?_
              refine seqQ fun Q187 k187 z187 => ?_
              refine wp_region_lit ?_
              refine Y wn rfl (ya (v := .bool false) rfl) ?_
              refine wpList_nil ?_
              refine k187 _ _ ?_
              refine wp_ret ?_
              refine z185 _ _ _ rfl ?_
              refine q183 _ _ _ ?_
              refine z182 _ _ _ rfl ?_
              obtain rfl := someI hM95
              refine zz95 _ _ _ _ rfl rfl ?_
              exact je95_1 _ _ rfl ((hst.pk 2 [] rfl).facts (allT allI)) (ho95 _ rfl)
            · refine condF (et rfl e394_171) (bfalse c402) ?_
              refine wp_skip ?_
              refine k185 _ _ ?_
              obtain ⟨r403, gr403, hM95⟩ := bs hM95
              refine joinN (n := 188) (fun f w => f 0 = .int .i64 (wa .i64 1 r7) ∧ f 7 = .pointer (some ⟨b10, 0, none⟩) ∧ f 9 = h14.v ∧ f 13 = .int .i64 x245 ∧ f 14 = .bool r403 ∧ f 15 = .int .i64 x355 ∧ St w0 (imm (rS (rI .i64)) h9.v r8 :: ros) (box b10 27 [h9.v] :: row 3 (rI .i64) h14.v x147 :: rs) w) (fun j102 => ?_) ?_
              · rcases iteS gr403 with ⟨c405, gr403⟩ | ⟨c405, gr403⟩
                · have hr103 := someI gr403
                  refine wp_drawR [0, 1, 3, 3, 15, 31, 3, 3, 195, 451, 963, 2047, 4095, 8191] [13] 1 folM (by kernel_rfl) (by kernel_rfl) (by kernel_rfl) ?_
                  replace hst := hst.drew
                  refine DRn (l1 := [0, 1, 2, 3, 4, 5, 6, 7, 8, 9, 10, 11, 12]) (l2 := []) (lc := [13]) (by kernel_rfl) (by kernel_rfl) (by kernel_rfl) ?_
                  refine Ry rfl rfl wn (ym (v := .bool x354) (et rfl e394_14)) ?_
                  refine Ry rfl rfl wn (ym (v := .bool x354) (et rfl rfl)) ?_
                  refine Rx rfl rfl (wx rfl rfl rfl c405) ?_
                  refine Rx rfl rfl (wx rfl rfl rfl c405) ?_
                  refine Rx rfl rfl (wx rfl rfl rfl c405) ?_
                  refine Rx rfl rfl (wx rfl rfl rfl c405) ?_
                  refine Rx rfl rfl (wx rfl rfl rfl c405) ?_
                  refine Rx rfl rfl (wx rfl rfl rfl c405) ?_
                  refine Rx rfl rfl (wx rfl rfl rfl c405) ?_
                  refine Rx rfl rfl (wx rfl rfl rfl c405) ?_
                  refine Rx rfl rfl (wx rfl rfl rfl c405) ?_
                  refine Rx rfl rfl (wx rfl rfl rfl c405) ?_
                  refine Ry rfl rfl wn (ypt (v := .bool r403) (et rfl rfl) c405 (eqv hr103 rfl)) ?_
                  refine Rn QSn ?_
                  refine Lc rfl ?_ LAn
                  refine Ly wn (ya (v := .bool r403) (et rfl rfl)) ?_
                  refine DRz (l1 := []) (l2 := []) (by kernel_rfl) (by kernel_rfl) ?_
                  refine Rn QSn ?_
                  exact j102 _ _ ⟨e394_0, e394_7, e394_9, e394_13, rfl, e394_15, hst⟩
                · obtain ⟨x406, gx406, gr403⟩ := bs gr403
                  obtain ⟨x407, gx407, gr403⟩ := bs gr403
                  have hr104 := someI gr403
                  refine wp_drawR [0, 1, 3, 3, 15, 31, 3, 3, 195, 451, 963, 2047, 4095, 8191] [13] 1 folM (by kernel_rfl) (by kernel_rfl) (by kernel_rfl) ?_
                  replace hst := hst.drew
                  refine DRn (l1 := [0, 1, 2, 3, 4, 5, 6, 7, 8, 9, 10, 11, 12]) (l2 := []) (lc := [13]) (by kernel_rfl) (by kernel_rfl) (by kernel_rfl) ?_
                  refine Ry rfl rfl wn (ym (v := .bool x354) (et rfl e394_14)) ?_
                  refine Ry rfl rfl wn (ym (v := .bool x354) (et rfl rfl)) ?_
                  refine Ry rfl rfl (wg rfl rfl rfl (bfalse c405)) (ym (v := h14.v) (et rfl e394_9)) ?_
                  refine Ry rfl rfl (wg rfl rfl rfl (bfalse c405)) (ym (v := .int .i64 x389) (et rfl e394_16)) ?_
                  refine Ry rfl rfl (wg rfl rfl rfl (bfalse c405)) (yIa SL_22 (et rfl rfl) (et rfl rfl) hst (rdO (mtR mhR)) gx406) ?_
                  refine Ry rfl rfl (wg rfl rfl rfl (bfalse c405)) (yI O_3 (et rfl rfl) hst (rdO (mtR mhR)) gx406) ?_
                  refine Ry rfl rfl (wg rfl rfl rfl (bfalse c405)) (ym (v := h14.v) (et rfl e394_9)) ?_
                  refine Ry rfl rfl (wg rfl rfl rfl (bfalse c405)) (ym (v := .int .i64 x245) (et rfl e394_13)) ?_
                  refine Ry rfl rfl (wg rfl rfl rfl (bfalse c405)) (yIa SL_22 (et rfl rfl) (et rfl rfl) hst (rdO (mtR mhR)) gx407) ?_
                  refine Ry rfl rfl (wg rfl rfl rfl (bfalse c405)) (yI O_3 (et rfl rfl) hst (rdO (mtR mhR)) gx407) ?_
                  refine Ry rfl rfl (wg rfl rfl rfl (bfalse c405)) (ysub (et rfl rfl) rfl) ?_
                  refine Ry rfl rfl (wg rfl rfl rfl (bfalse c405)) (yeql (et rfl rfl) (et rfl rfl)) ?_
                  refine Ry rfl rfl wn (ypf (v := .bool r403) (et rfl rfl) (bfalse c405) (eqv hr104 (et rfl rfl))) ?_
                  refine Rn QSn ?_
                  refine Lc rfl ?_ LAn
                  refine Ly wn (ya (v := .bool r403) (et rfl rfl)) ?_
                  refine DRz (l1 := []) (l2 := []) (by kernel_rfl) (by kernel_rfl) ?_
                  refine Rn QSn ?_
                  exact j102 _ _ ⟨e394_0, e394_7, e394_9, e394_13, rfl, e394_15, hst⟩
              clear hst
              rintro f w ⟨e404_0, e404_7, e404_9, e404_13, e404_14, e404_15, hst⟩
              refine q183 _ _ _ ?_
              refine k182 _ _ ?_
              refine wp_region_lit ?_
              refine Y wn rfl (ym (v := .int .i64 x355) (et rfl e404_15)) ?_
              refine Y wn rfl (yadd (et rfl rfl) rfl) ?_
              refine Y wn rfl (ya (v := .int .i64 (wa .i64 x355 1)) (et rfl rfl)) ?_
              refine wpList_nil ?_
              obtain rfl := someI hM95
              exact n95 _ _ _ rfl ⟨_, _, _, rfl, rfl, e404_0, e404_7, e404_9, e404_13, e404_14, rfl, hst⟩
          · refine condF (et rfl rfl) (decide_eq_false c386) ?_
            refine wp_exit ?_
            refine z180 _ _ _ rfl ?_
            obtain rfl := someI hM95
            refine zz95 _ _ _ _ rfl rfl ?_
            exact je95_0 _ _ _ e95_0 e95_7 e95_9 e95_13 e95_14 (hst.facts (allC (mtF (mtF mhF)) (allT (allT (allT allI))))) (ho95 _ rfl)
        · refine condF (et rfl rfl) (decide_eq_false c328) ?_
          refine wp_exit ?_
          refine z154 _ _ _ rfl ?_
          obtain rfl := someI hM76
          refine zz76 _ _ _ _ rfl rfl ?_
          exact je76_0 _ _ ((hst.pk 2 [] rfl).facts (allT allI)) (ho76 _ rfl)
    have je17_1 : ∀ (f : Nat → Value) (w : World), f 6 = .bool false → St w0 (ros) (rs) w → .inr () = o17 → Q12 .ret (fr 188 f) w := by
      intro f w eje17_1_6 hst ho
      subst ho
      refine q12 _ _ _ ?_
      refine z10 _ _ _ rfl ?_
      obtain rfl := someI hM
      exact hQ _ _ _ (fin1r Try.results3 ⟨rfl, eje17_1_6⟩ ⟨rfl, hst⟩)
    refine loopQ (fun s a w => ∃ (x80 : List Int) (x81 : Int) (f : Nat → Value), (x80, x81) = s ∧ a = fr 188 f ∧ f 0 = .int .i64 (wa .i64 1 r7) ∧ f 2 = .int .i64 r11 ∧ f 7 = .pointer (some ⟨b10, 0, none⟩) ∧ f 8 = h13.v ∧ f 9 = h14.v ∧ f 10 = .int .i64 x81 ∧ St w0 (imm (rS (rI .i64)) h9.v r8 :: ros) (box b10 27 [h9.v] :: row 22 (rS (rI .i64)) h13.v r12 :: row 3 (rI .i64) h14.v x80 :: rs) w) go17 ⟨_, _, _, rfl, rfl, rfl, rfl, rfl, rfl, rfl, rfl, (hst.pk 3 [2, 1, 0] rfl)⟩ ?_
    clear hst
    rintro _ _ w r17_ ⟨x80, x81, f, rfl, rfl, e17_0, e17_2, e17_7, e17_8, e17_9, e17_10, hst⟩ hM17 ho17 Q100017 n17 zz17
    refine seqQ fun Q188 k188 z188 => ?_
    refine seqQ fun Q189 k189 z189 => ?_
    refine wp_region_lit ?_
    refine Y wn rfl (ym (v := .int .i64 x81) (et rfl e17_10)) ?_
    refine Y wn rfl (ym (v := h13.v) (et rfl e17_8)) ?_
    refine Y wn rfl (yLen SL_25 (et rfl rfl) hst (rdO (mtR mhR))) ?_
    refine Y wn rfl (ylss (et rfl rfl) (et rfl rfl)) ?_
    refine wpList_nil ?_
    refine k189 _ _ ?_
    rcases iteS hM17 with ⟨c408, hM17⟩ | ⟨c408, hM17⟩
    · refine condT (et rfl rfl) (decide_eq_true c408) ?_
      refine wp_skip ?_
      refine k188 _ _ ?_
      refine seqQ fun Q190 k190 z190 => ?_
      refine blockQ fun Q191 q191 => ?_
      refine seqQ fun Q192 k192 z192 => ?_
      refine seqQ fun Q193 k193 z193 => ?_
      refine wp_region_lit ?_
      refine Y wn rfl (ym (v := h13.v) (et rfl e17_8)) ?_
      refine Y wn rfl (ym (v := .int .i64 x81) (et rfl e17_10)) ?_
      obtain ⟨x409, gx409, hM17⟩ := bs hM17
      refine Y wn rfl (yIa SL_25 (et rfl rfl) (et rfl rfl) hst (rdO (mtR mhR)) gx409) ?_
      obtain ⟨h410, ch410, hst⟩ := rLs hst (rdO (mtR mhR)) gx409
      refine Y wn rfl (yCe O_22 (et rfl rfl) ch410 rfl) ?_
      refine Y wn rfl (yLen SL_22 (et rfl rfl) hst (rdI mhF)) ?_
      refine Y wn rfl (yeql (et rfl rfl) rfl) ?_
      refine Y wn rfl (ym (v := .bool (decide ((x409.length : Int) = 0))) (et rfl rfl)) ?_
      obtain ⟨r414, gr414, hM17⟩ := bs hM17
      refine joinW 7 (fun f w => f 0 = .int .i64 (wa .i64 1 r7) ∧ f 2 = .int .i64 r11 ∧ f 7 = .pointer (some ⟨b10, 0, none⟩) ∧ f 8 = h13.v ∧ f 9 = h14.v ∧ f 10 = .int .i64 x81 ∧ f 54 = .bool r414 ∧ St w0 (imm (rS (rI .i64)) h9.v r8 :: ros) (box b10 27 [h9.v] :: row 22 (rS (rI .i64)) h13.v r12 :: row 3 (rI .i64) h14.v x80 :: rs) w) (fun j105 => ?_) ?_
      · rcases iteS gr414 with ⟨c416, gr414⟩ | ⟨c416, gr414⟩
        · refine Gn (wx rfl rfl rfl (decide_eq_true c416)) rfl ?_
          refine Gn (wx rfl rfl rfl (decide_eq_true c416)) rfl ?_
          refine Gn (wx rfl rfl rfl (decide_eq_true c416)) rfl ?_
          refine Gn (wx rfl rfl rfl (decide_eq_true c416)) rfl ?_
          refine Gn (wx rfl rfl rfl (decide_eq_true c416)) rfl ?_
          refine Gn (wx rfl rfl rfl (decide_eq_true c416)) rfl ?_
          refine Y wn rfl (ypt (v := .bool true) (et rfl rfl) (decide_eq_true c416) rfl) ?_
          obtain rfl := someI gr414
          exact j105 _ _ ⟨e17_0, e17_2, e17_7, e17_8, e17_9, e17_10, rfl, (hst.facts (allC (mtF mhF) (allT (allT allI))))⟩
        · refine Y (wg rfl rfl rfl (decide_eq_false c416)) rfl (ym (v := h13.v) (et rfl e17_8)) ?_
          refine Y (wg rfl rfl rfl (decide_eq_false c416)) rfl (ym (v := .int .i64 x81) (et rfl e17_10)) ?_
          obtain ⟨x417, gx417, gr414⟩ := bs gr414
          refine Y (wg rfl rfl rfl (decide_eq_false c416)) rfl (yIa SL_25 (et rfl rfl) (et rfl rfl) hst (rdO (mtR mhR)) gx417) ?_
          obtain ⟨h418, ch418, hst⟩ := rLs hst (rdO (mtR mhR)) gx417
          refine Y (wg rfl rfl rfl (decide_eq_false c416)) rfl (yCe O_22 (et rfl rfl) ch418 rfl) ?_
          obtain ⟨r419, gr419, gr414⟩ := bs gr414
          refine Yc (wg rfl rfl rfl (decide_eq_false c416)) rfl (yCall FN_13 (a1 (et rfl rfl))) (sparsekit_Ascending_ok (hM := gr419) (hst := hst) (q1 := mhF)) ?_
          clear hst
          rintro _ w ⟨rfl, hst⟩
          refine ⟨_, rfl, ?_⟩
          refine Y (wg rfl rfl rfl (decide_eq_false c416)) rfl (ynot (et rfl rfl)) ?_
          refine Y wn rfl (ypf (v := .bool (!(r419))) (et rfl rfl) (decide_eq_false c416) (et rfl rfl)) ?_
          obtain rfl := someI gr414
          exact j105 _ _ ⟨e17_0, e17_2, e17_7, e17_8, e17_9, e17_10, rfl, (hst.facts (allC (mtF (mtF mhF)) (allT (allT (allT allI)))))⟩
      clear hst
      rintro f w ⟨e415_0, e415_2, e415_7, e415_8, e415_9, e415_10, e415_54, hst⟩
      refine wpList_nil ?_
      refine k193 _ _ ?_
      rcases iteS hM17 with ⟨c420, hM17⟩ | ⟨c420, hM17⟩
      · refine condT (et rfl e415_54) c420 ?_
        refine seqQ fun Q194 k194 z194 => ?_
        refine wp_region_lit ?_
        refine Y wn rfl (ya (v := .bool false) rfl) ?_
        refine wpList_nil ?_
        refine k194 _ _ ?_
        refine wp_ret ?_
        refine z192 _ _ _ rfl ?_
        refine q191 _ _ _ ?_
        refine z190 _ _ _ rfl ?_
        obtain rfl := someI hM17
        refine zz17 _ _ _ _ rfl rfl ?_
        exact je17_1 _ _ rfl ((hst.pk 3 [] rfl).facts (allT allI)) (ho17 _ rfl)
      · refine condF (et rfl e415_54) (bfalse c420) ?_
        refine wp_skip ?_
        refine k192 _ _ ?_
        refine seqQ fun Q195 k195 z195 => ?_
        refine wp_region_lit ?_
        refine Y wn rfl (ya (v := .int .i64 0) rfl) ?_
        refine wpList_nil ?_
        refine k195 _ _ ?_
        refine blockQ fun Q196 q196 => ?_
        obtain ⟨o110, go110, hM17⟩ := bs hM17
        have je110_0 : ∀ (x455 : List Int) (f : Nat → Value) (w : World), f 0 = .int .i64 (wa .i64 1 r7) → f 2 = .int .i64 r11 → f 7 = .pointer (some ⟨b10, 0, none⟩) → f 8 = h13.v → f 9 = h14.v → f 10 = .int .i64 x81 → St w0 (imm (rS (rI .i64)) h9.v r8 :: ros) (box b10 27 [h9.v] :: row 22 (rS (rI .i64)) h13.v r12 :: row 3 (rI .i64) h14.v x455 :: rs) w → .inl x455 = o110 → Q196 (.exit 2) (fr 188 f) w := by
          intro x455 f w eje110_0_0 eje110_0_2 eje110_0_7 eje110_0_8 eje110_0_9 eje110_0_10 hst ho
          subst ho
          refine q196 _ _ _ ?_
          refine q191 _ _ _ ?_
          refine k190 _ _ ?_
          refine wp_region_lit ?_
          refine Y wn rfl (ym (v := .int .i64 x81) (et rfl eje110_0_10)) ?_
          refine Y wn rfl (yadd (et rfl rfl) rfl) ?_
          refine Y wn rfl (ya (v := .int .i64 (wa .i64 x81 1)) (et rfl rfl)) ?_
          refine wpList_nil ?_
          obtain rfl := someI hM17
          exact n17 _ _ _ rfl ⟨_, _, _, rfl, rfl, eje110_0_0, eje110_0_2, eje110_0_7, eje110_0_8, eje110_0_9, rfl, hst⟩
        have je110_1 : ∀ (f : Nat → Value) (w : World), f 6 = .bool false → St w0 (ros) (rs) w → .inr () = o110 → Q196 .ret (fr 188 f) w := by
          intro f w eje110_1_6 hst ho
          subst ho
          refine q196 _ _ _ ?_
          refine q191 _ _ _ ?_
          refine z190 _ _ _ rfl ?_
          obtain rfl := someI hM17
          refine zz17 _ _ _ _ rfl rfl ?_
          exact je17_1 _ _ eje110_1_6 hst (ho17 _ rfl)
        refine loopQ (fun s a w => ∃ (x436 : List Int) (x437 : Int) (f : Nat → Value), (x436, x437) = s ∧ a = fr 188 f ∧ f 0 = .int .i64 (wa .i64 1 r7) ∧ f 2 = .int .i64 r11 ∧ f 7 = .pointer (some ⟨b10, 0, none⟩) ∧ f 8 = h13.v ∧ f 9 = h14.v ∧ f 10 = .int .i64 x81 ∧ f 11 = .int .i64 x437 ∧ St w0 (imm (rS (rI .i64)) h9.v r8 :: ros) (box b10 27 [h9.v] :: row 22 (rS (rI .i64)) h13.v r12 :: row 3 (rI .i64) h14.v x436 :: rs) w) go110 ⟨_, _, _, rfl, rfl, e415_0, e415_2, e415_7, e415_8, e415_9, e415_10, rfl, hst⟩ ?_
        clear hst
        rintro _ _ w r110_ ⟨x436, x437, f, rfl, rfl, e110_0, e110_2, e110_7, e110_8, e110_9, e110_10, e110_11, hst⟩ hM110 ho110 Q100110 n110 zz110
        refine seqQ fun Q213 k213 z213 => ?_
        refine seqQ fun Q214 k214 z214 => ?_
        refine wp_region_lit ?_
        refine Y wn rfl (ym (v := .int .i64 x437) (et rfl e110_11)) ?_
        refine Y wn rfl (ym (v := h13.v) (et rfl e110_8)) ?_
        refine Y wn rfl (ym (v := .int .i64 x81) (et rfl e110_10)) ?_
        obtain ⟨x456, gx456, hM110⟩ := bs hM110
        refine Y wn rfl (yIa SL_25 (et rfl rfl) (et rfl rfl) hst (rdO (mtR mhR)) gx456) ?_
        obtain ⟨h457, ch457, hst⟩ := rLs hst (rdO (mtR mhR)) gx456
        refine Y wn rfl (yCe O_22 (et rfl rfl) ch457 rfl) ?_
        refine Y wn rfl (yLen SL_22 (et rfl rfl) hst (rdI mhF)) ?_
        refine Y wn rfl (ylss (et rfl rfl) (et rfl rfl)) ?_
        refine wpList_nil ?_
        refine k214 _ _ ?_
        rcases iteS hM110 with ⟨c458, hM110⟩ | ⟨c458, hM110⟩
        · refine condT (et rfl rfl) (decide_eq_true c458) ?_
          refine wp_skip ?_
          refine k213 _ _ ?_
          refine seqQ fun Q215 k215 z215 => ?_
          refine blockQ fun Q216 q216 => ?_
          refine seqQ fun Q217 k217 z217 => ?_
          refine wp_region_lit ?_
          refine Y wn rfl (ym (v := h13.v) (et rfl e110_8)) ?_
          refine Y wn rfl (ym (v := .int .i64 x81) (et rfl e110_10)) ?_
          obtain ⟨x459, gx459, hM110⟩ := bs hM110
          refine Y wn rfl (yIa SL_25 (et rfl rfl) (et rfl rfl) hst (rdO (mtR mhR)) gx459) ?_
          obtain ⟨h460, ch460, hst⟩ := rLs hst (rdO (mtR mhR)) gx459
          refine Y wn rfl (yCe O_22 (et rfl rfl) ch460 rfl) ?_
          refine Y wn rfl (ym (v := .int .i64 x437) (et rfl e110_11)) ?_
          obtain ⟨x461, gx461, hM110⟩ := bs hM110
          refine Y wn rfl (yIa SL_22 (et rfl rfl) (et rfl rfl) hst (rdI mhF) gx461) ?_
          refine Y wn rfl (yI O_3 (et rfl rfl) hst (rdI mhF) gx461) ?_
          refine Y wn rfl (ya (v := .int .i64 x461) (et rfl rfl)) ?_
          refine wpList_nil ?_
          refine k217 _ _ ?_
          refine seqQ fun Q218 k218 z218 => ?_
          refine seqQ fun Q219 k219 z219 => ?_
          refine wp_region_lit ?_
          refine Y wn rfl (ym (v := .int .i64 x461) (et rfl rfl)) ?_
          refine Y wn rfl (ylss (et rfl rfl) rfl) ?_
          refine Y wn rfl (ym (v := .bool (decide (x461 < 0))) (et rfl rfl)) ?_
          refine joinW 4 (fun f w => f 0 = .int .i64 (wa .i64 1 r7) ∧ f 2 = .int .i64 r11 ∧ f 7 = .pointer (some ⟨b10, 0, none⟩) ∧ f 8 = h13.v ∧ f 9 = h14.v ∧ f 10 = .int .i64 x81 ∧ f 11 = .int .i64 x437 ∧ f 12 = .int .i64 x461 ∧ f 77 = .bool ((decide (x461 < 0)) || (decide ((wa .i64 1 r7) ≤ x461))) ∧ St w0 (imm (rS (rI .i64)) h9.v r8 :: ros) (box b10 27 [h9.v] :: row 22 (rS (rI .i64)) h13.v r12 :: row 3 (rI .i64) h14.v x436 :: rs) w) (fun j111 => ?_) ?_
          · rcases Bool.eq_false_or_eq_true (decide (x461 < 0)) with c463 | c463
            · refine Gn (wx rfl rfl rfl c463) rfl ?_
              refine Gn (wx rfl rfl rfl c463) rfl ?_
              refine Gn (wx rfl rfl rfl c463) rfl ?_
              refine Y wn rfl (ypt (v := .bool true) (et rfl rfl) c463 rfl) ?_
              exact j111 _ _ ⟨e110_0, e110_2, e110_7, e110_8, e110_9, e110_10, e110_11, rfl, (congrArg Value.bool (orT c463)), (hst.facts (allC (mtF (mtF mhF)) (allT (allT (allT allI)))))⟩
            · refine Y (wg rfl rfl rfl c463) rfl (ym (v := .int .i64 x461) (et rfl rfl)) ?_
              refine Y (wg rfl rfl rfl c463) rfl (ym (v := .int .i64 (wa .i64 1 r7)) (et rfl e110_0)) ?_
              refine Y (wg rfl rfl rfl c463) rfl (ygeq (et rfl rfl) (et rfl rfl)) ?_
              refine Y wn rfl (ypf (v := .bool (decide ((wa .i64 1 r7) ≤ x461))) (et rfl rfl) c463 (et rfl rfl)) ?_
              exact j111 _ _ ⟨e110_0, e110_2, e110_7, e110_8, e110_9, e110_10, e110_11, rfl, (congrArg Value.bool (orF c463)), (hst.facts (allC (mtF (mtF mhF)) (allT (allT (allT allI)))))⟩
          clear hst
          rintro f w ⟨e462_0, e462_2, e462_7, e462_8, e462_9, e462_10, e462_11, e462_12, e462_77, hst⟩
          refine Y wn rfl (ym (v := .bool ((decide (x461 < 0)) || (decide ((wa .i64 1 r7) ≤ x461)))) (et rfl e462_77)) ?_
          obtain ⟨r465, gr465, hM110⟩ := bs hM110
          refine joinW 6 (fun f w => f 0 = .int .i64 (wa .i64 1 r7) ∧ f 2 = .int .i64 r11 ∧ f 7 = .pointer (some ⟨b10, 0, none⟩) ∧ f 8 = h13.v ∧ f 9 = h14.v ∧ f 10 = .int .i64 x81 ∧ f 11 = .int .i64 x437 ∧ f 12 = .int .i64 x461 ∧ f 84 = .bool r465 ∧ St w0 (imm (rS (rI .i64)) h9.v r8 :: ros) (box b10 27 [h9.v] :: row 22 (rS (rI .i64)) h13.v r12 :: row 3 (rI .i64) h14.v x436 :: rs) w) (fun j112 => ?_) ?_
          · rcases iteS gr465 with ⟨c467, gr465⟩ | ⟨c467, gr465⟩
            · refine Gn (wx rfl rfl rfl c467) rfl ?_
              refine Gn (wx rfl rfl rfl c467) rfl ?_
              refine Gn (wx rfl rfl rfl c467) rfl ?_
              refine Gn (wx rfl rfl rfl c467) rfl ?_
              refine Gn (wx rfl rfl rfl c467) rfl ?_
              refine Y wn rfl (ypt (v := .bool true) (et rfl rfl) c467 rfl) ?_
              obtain rfl := someI gr465
              exact j112 _ _ ⟨e462_0, e462_2, e462_7, e462_8, e462_9, e462_10, e462_11, e462_12, rfl, hst⟩
            · refine Y (wg rfl rfl rfl (bfalse c467)) rfl (ym (v := h14.v) (et rfl e462_9)) ?_
              refine Y (wg rfl rfl rfl (bfalse c467)) rfl (ym (v := .int .i64 x461) (et rfl e462_12)) ?_
              obtain ⟨x468, gx468, gr465⟩ := bs gr465
              refine Y (wg rfl rfl rfl (bfalse c467)) rfl (yIa SL_22 (et rfl rfl) (et rfl rfl) hst (rdO (mtR (mtR mhR))) gx468) ?_
              refine Y (wg rfl rfl rfl (bfalse c467)) rfl (yI O_3 (et rfl rfl) hst (rdO (mtR (mtR mhR))) gx468) ?_
              refine Y (wg rfl rfl rfl (bfalse c467)) rfl (yneq (et rfl rfl) rfl) ?_
              refine Y wn rfl (ypf (v := .bool (!(decide (x468 = 0)))) (et rfl rfl) (bfalse c467) (et rfl rfl)) ?_
              obtain rfl := someI gr465
              exact j112 _ _ ⟨e462_0, e462_2, e462_7, e462_8, e462_9, e462_10, e462_11, e462_12, rfl, hst⟩
          clear hst
          rintro f w ⟨e466_0, e466_2, e466_7, e466_8, e466_9, e466_10, e466_11, e466_12, e466_84, hst⟩
          refine wpList_nil ?_
          refine k219 _ _ ?_
          rcases iteS hM110 with ⟨c469, hM110⟩ | ⟨c469, hM110⟩
          · refine condT (et rfl e466_84) c469 ?_
            refine seqQ fun Q220 k220 z220 => ?_
            refine wp_region_lit ?_
            refine Y wn rfl (ya (v := .bool false) rfl) ?_
            refine wpList_nil ?_
            refine k220 _ _ ?_
            refine wp_ret ?_
            refine z218 _ _ _ rfl ?_
            refine q216 _ _ _ ?_
            refine z215 _ _ _ rfl ?_
            obtain rfl := someI hM110
            refine zz110 _ _ _ _ rfl rfl ?_
            exact je110_1 _ _ rfl ((hst.pk 3 [] rfl).facts (allT allI)) (ho110 _ rfl)
          · refine condF (et rfl e466_84) (bfalse c469) ?_
            refine wp_skip ?_
            refine k218 _ _ ?_
            refine wp_region_lit ?_
            refine Y wn rfl (ym (v := h14.v) (et rfl e466_9)) ?_
            refine Y wn rfl (ym (v := .int .i64 x461) (et rfl e466_12)) ?_
            refine Y wn rfl (ym (v := .int .i64 x81) (et rfl e466_10)) ?_
            refine Y wn rfl (yadd (et rfl rfl) rfl) ?_
            obtain ⟨x470, gx470, hM110⟩ := bs hM110
            refine Y wn rfl (yIs SL_22 (et rfl rfl) (et rfl rfl) hst (rdO (mtR (mtR mhR))) gx470) ?_
            replace hst := hst.pk 3 [2, 0, 0] rfl
            refine YT wn rfl (r_sti (cs := [.int .i64 (wa .i64 x81 1)]) hst O_3 rfl (et rfl rfl) (et rfl rfl) rfl mkI gx470) ?_
            clear hst
            intro w hst
            refine wpList_nil ?_
            refine q216 _ _ _ ?_
            refine k215 _ _ ?_
            refine wp_region_lit ?_
            refine Y wn rfl (ym (v := .int .i64 x437) (et rfl e466_11)) ?_
            refine Y wn rfl (yadd (et rfl rfl) rfl) ?_
            refine Y wn rfl (ya (v := .int .i64 (wa .i64 x437 1)) (et rfl rfl)) ?_
            refine wpList_nil ?_
            obtain rfl := someI hM110
            exact n110 _ _ _ rfl ⟨_, _, _, rfl, rfl, e466_0, e466_2, e466_7, e466_8, e466_9, e466_10, rfl, (hst.pk 3 [1, 1, 0] rfl)⟩
        · refine condF (et rfl rfl) (decide_eq_false c458) ?_
          refine wp_exit ?_
          refine z213 _ _ _ rfl ?_
          obtain rfl := someI hM110
          refine zz110 _ _ _ _ rfl rfl ?_
          exact je110_0 _ _ _ e110_0 e110_2 e110_7 e110_8 e110_9 e110_10 (hst.facts (allC (mtF mhF) (allT (allT allI)))) (ho110 _ rfl)
    · refine condF (et rfl rfl) (decide_eq_false c408) ?_
      refine wp_exit ?_
      refine z188 _ _ _ rfl ?_
      obtain rfl := someI hM17
      refine zz17 _ _ _ _ rfl rfl ?_
      exact je17_0 _ _ _ e17_0 e17_2 e17_7 e17_8 e17_9 hst (ho17 _ rfl)

theorem sparsekit_In_ok {w0 : World} {ros : List Fact} {rs : List Res} {w : World} {x1 : List Int} {x3 : Int} {h2 : Hdr} {out : Bool} (hM : sparsekit_In x1 x3 = some out) (q1 : imm (rI .i64) h2.v x1 ∈ ros) (hst : St w0 ros (rs) w) :
    Calls Try.prog 18 #[h2.v, .int .i64 x3] w (fun e w => e = .returned (.bool out) ∧ St w0 (ros) (rs) w) := by
  refine enterQ Try.func18 rfl Try.ntmps18 rfl fun Q hQ => ?_
  refine seqQ fun Q1 k1 z1 => ?_
  refine wp_region_lit ?_
  refine Y wn rfl (ya (v := .bool false) rfl) ?_
  refine wpList_nil ?_
  refine k1 _ _ ?_
  refine seqQ fun Q2 k2 z2 => ?_
  refine seqQ fun Q3 k3 z3 => ?_
  refine wp_region_lit ?_
  refine Y wn rfl (ya (v := .int .i64 0) rfl) ?_
  refine wpList_nil ?_
  refine k3 _ _ ?_
  refine blockQ fun Q4 q4 => ?_
  obtain ⟨o1, go1, hM⟩ := bs hM
  have je1_0 : ∀ (f : Nat → Value) (w : World), St w0 (ros) (rs) w → .inl () = o1 → Q4 (.exit 0) (fr 18 f) w := by
    intro f w hst ho
    subst ho
    refine q4 _ _ _ ?_
    refine k2 _ _ ?_
    refine seqQ fun Q17 k17 z17 => ?_
    refine wp_region_lit ?_
    refine Y wn rfl (ya (v := .bool false) rfl) ?_
    refine wpList_nil ?_
    refine k17 _ _ ?_
    refine wp_ret ?_
    obtain rfl := someI hM
    exact hQ _ _ _ (fin1r Try.results18 ⟨rfl, rfl⟩ ⟨rfl, hst⟩)
  have je1_1 : ∀ (f : Nat → Value) (w : World), f 4 = .bool true → St w0 (ros) (rs) w → .inr () = o1 → Q4 .ret (fr 18 f) w := by
    intro f w eje1_1_4 hst ho
    subst ho
    refine q4 _ _ _ ?_
    refine z2 _ _ _ rfl ?_
    obtain rfl := someI hM
    exact hQ _ _ _ (fin1r Try.results18 ⟨rfl, eje1_1_4⟩ ⟨rfl, hst⟩)
  refine loopQ (fun s a w => ∃ (x7 : Int) (f : Nat → Value), x7 = s ∧ a = fr 18 f ∧ f 0 = h2.v ∧ f 1 = .int .i64 x3 ∧ f 5 = .int .i64 x7 ∧ St w0 (ros) (rs) w) go1 ⟨_, _, rfl, rfl, rfl, rfl, rfl, hst⟩ ?_
  clear hst
  rintro _ _ w r1_ ⟨x7, f, rfl, rfl, e1_0, e1_1, e1_5, hst⟩ hM1 ho1 Q100001 n1 zz1
  refine seqQ fun Q18 k18 z18 => ?_
  refine seqQ fun Q19 k19 z19 => ?_
  refine wp_region_lit ?_
  refine Y wn rfl (ym (v := .int .i64 x7) (et rfl e1_5)) ?_
  refine Y wn rfl (ym (v := h2.v) (et rfl e1_0)) ?_
  refine Y wn rfl (yLen SL_22 (et rfl rfl) hst (rdI q1)) ?_
  refine Y wn rfl (ylss (et rfl rfl) (et rfl rfl)) ?_
  refine wpList_nil ?_
  refine k19 _ _ ?_
  rcases iteS hM1 with ⟨c12, hM1⟩ | ⟨c12, hM1⟩
  · refine condT (et rfl rfl) (decide_eq_true c12) ?_
    refine wp_skip ?_
    refine k18 _ _ ?_
    refine seqQ fun Q20 k20 z20 => ?_
    refine blockQ fun Q21 q21 => ?_
    refine seqQ fun Q22 k22 z22 => ?_
    refine wp_region_lit ?_
    refine Y wn rfl (ym (v := h2.v) (et rfl e1_0)) ?_
    refine Y wn rfl (ym (v := .int .i64 x7) (et rfl e1_5)) ?_
    obtain ⟨x13, gx13, hM1⟩ := bs hM1
    refine Y wn rfl (yIa SL_22 (et rfl rfl) (et rfl rfl) hst (rdI q1) gx13) ?_
    refine Y wn rfl (yI O_3 (et rfl rfl) hst (rdI q1) gx13) ?_
    refine Y wn rfl (ym (v := .int .i64 x3) (et rfl e1_1)) ?_
    refine Y wn rfl (yeql (et rfl rfl) (et rfl rfl)) ?_
    refine wpList_nil ?_
    refine k22 _ _ ?_
    rcases iteS hM1 with ⟨c14, hM1⟩ | ⟨c14, hM1⟩
    · refine condT (et rfl rfl) (decide_eq_true c14) ?_
      refine seqQ fun Q23 k23 z23 => ?_
      refine wp_region_lit ?_
      refine Y wn rfl (ya (v := .bool true) rfl) ?_
      refine wpList_nil ?_
      refine k23 _ _ ?_
      refine wp_ret ?_
      refine q21 _ _ _ ?_
      refine z20 _ _ _ rfl ?_
      obtain rfl := someI hM1
      refine zz1 _ _ _ _ rfl rfl ?_
      exact je1_1 _ _ rfl hst (ho1 _ rfl)
    · refine condF (et rfl rfl) (decide_eq_false c14) ?_
      refine wp_skip ?_
      refine q21 _ _ _ ?_
      refine k20 _ _ ?_
      refine wp_region_lit ?_
      refine Y wn rfl (ym (v := .int .i64 x7) (et rfl e1_5)) ?_
      refine Y wn rfl (yadd (et rfl rfl) rfl) ?_
      refine Y wn rfl (ya (v := .int .i64 (wa .i64 x7 1)) (et rfl rfl)) ?_
      refine wpList_nil ?_
      obtain rfl := someI hM1
      exact n1 _ _ _ rfl ⟨_, _, rfl, rfl, e1_0, e1_1, rfl, hst⟩
  · refine condF (et rfl rfl) (decide_eq_false c12) ?_
    refine wp_exit ?_
    refine z18 _ _ _ rfl ?_
    obtain rfl := someI hM1
    refine zz1 _ _ _ _ rfl rfl ?_
    exact je1_0 _ _ hst (ho1 _ rfl)

theorem sparseref12_Check_ok {w0 : World} {ros : List Fact} {rs : List Res} {w : World} {x1 : List (List Int)} {h2 : Hdr} {out : Int} (hM : sparseref12_Check x1 = some out) (q1 : imm (rS (rI .i64)) h2.v x1 ∈ ros) (hst : St w0 ros (rs) w) :
    Calls Try.prog 31 #[.agg #[h2.v]] w (fun e w => e = .returned (.int .i64 out) ∧ St w0 (ros) (rs) w) := by
  refine enterQ Try.func31 rfl Try.ntmps31 rfl fun Q hQ => ?_
  refine seqQ fun Q1 k1 z1 => ?_
  refine wp_region_lit ?_
  refine YB wn rfl (r_box (vals := [h2.v]) hst (et rfl rfl) rfl) ?_
  clear hst
  intro b3 w hst
  refine Y wn rfl (ya (v := .int .i64 0) rfl) ?_
  refine wpList_nil ?_
  refine k1 _ _ ?_
  refine seqQ fun Q2 k2 z2 => ?_
  refine wp_region_lit ?_
  refine Y wn rfl (yFb FL_27_0 (et rfl rfl)) ?_
  refine Y wn rfl (yLb (u := h2.v) O_25 (et rfl rfl) hst mhR rfl) ?_
  refine Y wn rfl (yLen SL_25 (et rfl rfl) hst (rdI q1)) ?_
  refine Y wn rfl (ya (v := .int .i64 (x1.length : Int)) (et rfl rfl)) ?_
  refine wpList_nil ?_
  refine k2 _ _ ?_
  refine seqQ fun Q3 k3 z3 => ?_
  refine seqQ fun Q4 k4 z4 => ?_
  refine wp_region_lit ?_
  refine Y wn rfl (ym (v := .int .i64 (x1.length : Int)) (et rfl rfl)) ?_
  refine Y wn rfl (ygtr (et rfl rfl) rfl) ?_
  refine wpList_nil ?_
  refine k4 _ _ ?_
  rcases iteS hM with ⟨c4, hM⟩ | ⟨c4, hM⟩
  · refine condT (et rfl rfl) (decide_eq_true c4) ?_
    refine seqQ fun Q5 k5 z5 => ?_
    refine wp_region_lit ?_
    refine Y wn rfl (ya (v := .int .i64 6) rfl) ?_
    refine wpList_nil ?_
    refine k5 _ _ ?_
    refine wp_ret ?_
    refine z3 _ _ _ rfl ?_
    obtain rfl := someI hM
    exact hQ _ _ _ (fin1r Try.results31 ⟨rfl, rfl⟩ ⟨rfl, (hst.pk 1 [] rfl)⟩)
  · refine condF (et rfl rfl) (decide_eq_false c4) ?_
    refine wp_skip ?_
    refine k3 _ _ ?_
    refine seqQ fun Q6 k6 z6 => ?_
    refine seqQ fun Q7 k7 z7 => ?_
    refine wp_region_lit ?_
    refine Y wn rfl (ya (v := .int .i64 0) rfl) ?_
    refine wpList_nil ?_
    refine k7 _ _ ?_
    refine blockQ fun Q8 q8 => ?_
    obtain ⟨o21, go21, hM⟩ := bs hM
    have je21_0 : ∀ (f : Nat → Value) (w : World), St w0 (ros) (rs) w → .inl () = o21 → Q8 (.exit 0) (fr 64 f) w := by
      intro f w hst ho
      subst ho
      refine q8 _ _ _ ?_
      refine k6 _ _ ?_
      refine seqQ fun Q69 k69 z69 => ?_
      refine wp_region_lit ?_
      refine Y wn rfl (ya (v := .int .i64 0) rfl) ?_
      refine wpList_nil ?_
      refine k69 _ _ ?_
      refine wp_ret ?_
      obtain rfl := someI hM
      exact hQ _ _ _ (fin1r Try.results31 ⟨rfl, rfl⟩ ⟨rfl, hst⟩)
    have je21_1 : ∀ (f : Nat → Value) (w : World), f 2 = .int .i64 1 → St w0 (ros) (rs) w → .inr () = o21 → Q8 .ret (fr 64 f) w := by
      intro f w eje21_1_2 hst ho
      subst ho
      refine q8 _ _ _ ?_
      refine z6 _ _ _ rfl ?_
      obtain rfl := someI hM
      exact hQ _ _ _ (fin1r Try.results31 ⟨rfl, eje21_1_2⟩ ⟨rfl, hst⟩)
    refine loopQ (fun s a w => ∃ (x72 : Int) (f : Nat → Value), x72 = s ∧ a = fr 64 f ∧ f 1 = .pointer (some ⟨b3, 0, none⟩) ∧ f 3 = .int .i64 (x1.length : Int) ∧ f 4 = .int .i64 x72 ∧ St w0 (ros) (box b3 27 [h2.v] :: rs) w) go21 ⟨_, _, rfl, rfl, rfl, rfl, rfl, hst⟩ ?_
    clear hst
    rintro _ _ w r21_ ⟨x72, f, rfl, rfl, e21_1, e21_3, e21_4, hst⟩ hM21 ho21 Q100021 n21 zz21
    refine seqQ fun Q70 k70 z70 => ?_
    refine seqQ fun Q71 k71 z71 => ?_
    refine wp_region_lit ?_
    refine Y wn rfl (ym (v := .int .i64 x72) (et rfl e21_4)) ?_
    refine Y wn rfl (ym (v := .int .i64 (x1.length : Int)) (et rfl e21_3)) ?_
    refine Y wn rfl (ylss (et rfl rfl) (et rfl rfl)) ?_
    refine wpList_nil ?_
    refine k71 _ _ ?_
    rcases iteS hM21 with ⟨c141, hM21⟩ | ⟨c141, hM21⟩
    · refine condT (et rfl rfl) (decide_eq_true c141) ?_
      refine wp_skip ?_
      refine k70 _ _ ?_
      refine seqQ fun Q72 k72 z72 => ?_
      refine blockQ fun Q73 q73 => ?_
      refine seqQ fun Q74 k74 z74 => ?_
      refine seqQ fun Q75 k75 z75 => ?_
      refine wp_region_lit ?_
      refine Y wn rfl (yFb FL_27_0 (et rfl e21_1)) ?_
      refine Y wn rfl (yLb (u := h2.v) O_25 (et rfl rfl) hst mhR rfl) ?_
      refine Y wn rfl (ym (v := .int .i64 x72) (et rfl e21_4)) ?_
      obtain ⟨x142, gx142, hM21⟩ := bs hM21
      refine Y wn rfl (yIa SL_25 (et rfl rfl) (et rfl rfl) hst (rdI q1) gx142) ?_
      obtain ⟨h143, hst⟩ := iLs hst q1 gx142
      refine Y wn rfl (yCt O_22 (et rfl rfl) hst (mtF mhF) rfl) ?_
      obtain ⟨r144, gr144, hM21⟩ := bs hM21
      refine Yc wn rfl (yCall FN_13 (a1 (et rfl rfl))) (sparsekit_Ascending_ok (hM := gr144) (hst := hst) (q1 := mhF)) ?_
      clear hst
      rintro _ w ⟨rfl, hst⟩
      refine ⟨_, rfl, ?_⟩
      refine Y wn rfl (ynot (et rfl rfl)) ?_
      refine wpList_nil ?_
      refine k75 _ _ ?_
      rcases iteS hM21 with ⟨c145, hM21⟩ | ⟨c145, hM21⟩
      · refine condF (et rfl rfl) (nF c145) ?_
        refine wp_skip ?_
        refine k74 _ _ ?_
        refine seqQ fun Q76 k76 z76 => ?_
        refine wp_region_lit ?_
        refine Y wn rfl (ya (v := .int .i64 0) rfl) ?_
        refine wpList_nil ?_
        refine k76 _ _ ?_
        refine blockQ fun Q77 q77 => ?_
        obtain ⟨o28, go28, hM21⟩ := bs hM21
        have je28_0 : ∀ (f : Nat → Value) (w : World), f 1 = .pointer (some ⟨b3, 0, none⟩) → f 3 = .int .i64 (x1.length : Int) → f 4 = .int .i64 x72 → St w0 (ros) (box b3 27 [h2.v] :: rs) w → .inl () = o28 → Q77 (.exit 2) (fr 64 f) w := by
          intro f w eje28_0_1 eje28_0_3 eje28_0_4 hst ho
          subst ho
          refine q77 _ _ _ ?_
          refine q73 _ _ _ ?_
          refine k72 _ _ ?_
          refine wp_region_lit ?_
          refine Y wn rfl (ym (v := .int .i64 x72) (et rfl eje28_0_4)) ?_
          refine Y wn rfl (yadd (et rfl rfl) rfl) ?_
          refine Y wn rfl (ya (v := .int .i64 (wa .i64 x72 1)) (et rfl rfl)) ?_
          refine wpList_nil ?_
          obtain rfl := someI hM21
          exact n21 _ _ _ rfl ⟨_, _, rfl, rfl, eje28_0_1, eje28_0_3, rfl, hst⟩
        have je28_1 : ∀ (f : Nat → Value) (w : World), f 2 = .int .i64 1 → St w0 (ros) (rs) w → .inr () = o28 → Q77 .ret (fr 64 f) w := by
          intro f w eje28_1_2 hst ho
          subst ho
          refine q77 _ _ _ ?_
          refine q73 _ _ _ ?_
          refine z72 _ _ _ rfl ?_
          obtain rfl := someI hM21
          refine zz21 _ _ _ _ rfl rfl ?_
          exact je21_1 _ _ eje28_1_2 hst (ho21 _ rfl)
        refine loopQ (fun s a w => ∃ (x166 : Int) (f : Nat → Value), x166 = s ∧ a = fr 64 f ∧ f 1 = .pointer (some ⟨b3, 0, none⟩) ∧ f 3 = .int .i64 (x1.length : Int) ∧ f 4 = .int .i64 x72 ∧ f 5 = .int .i64 x166 ∧ St w0 (ros) (box b3 27 [h2.v] :: rs) w) go28 ⟨_, _, rfl, rfl, e21_1, e21_3, e21_4, rfl, (hst.facts (allT (allT allI)))⟩ ?_
        clear hst
        rintro _ _ w r28_ ⟨x166, f, rfl, rfl, e28_1, e28_3, e28_4, e28_5, hst⟩ hM28 ho28 Q100028 n28 zz28
        refine seqQ fun Q92 k92 z92 => ?_
        refine seqQ fun Q93 k93 z93 => ?_
        refine wp_region_lit ?_
        refine Y wn rfl (ym (v := .int .i64 x166) (et rfl e28_5)) ?_
        refine Y wn rfl (yFb FL_27_0 (et rfl e28_1)) ?_
        refine Y wn rfl (yLb (u := h2.v) O_25 (et rfl rfl) hst mhR rfl) ?_
        refine Y wn rfl (ym (v := .int .i64 x72) (et rfl e28_4)) ?_
        obtain ⟨x188, gx188, hM28⟩ := bs hM28
        refine Y wn rfl (yIa SL_25 (et rfl rfl) (et rfl rfl) hst (rdI q1) gx188) ?_
        obtain ⟨h189, hst⟩ := iLs hst q1 gx188
        refine Y wn rfl (yCt O_22 (et rfl rfl) hst (mtF mhF) rfl) ?_
        refine Y wn rfl (yLen SL_22 (et rfl rfl) hst (rdI mhF)) ?_
        refine Y wn rfl (ylss (et rfl rfl) (et rfl rfl)) ?_
        refine wpList_nil ?_
        refine k93 _ _ ?_
        rcases iteS hM28 with ⟨c190, hM28⟩ | ⟨c190, hM28⟩
        · refine condT (et rfl rfl) (decide_eq_true c190) ?_
          refine wp_skip ?_
          refine k92 _ _ ?_
          refine seqQ fun Q94 k94 z94 => ?_
          refine blockQ fun Q95 q95 => ?_
          refine seqQ fun Q96 k96 z96 => ?_
          refine wp_region_lit ?_
          refine Y wn rfl (yFb FL_27_0 (et rfl e28_1)) ?_
          refine Y wn rfl (yLb (u := h2.v) O_25 (et rfl rfl) hst mhR rfl) ?_
          refine Y wn rfl (ym (v := .int .i64 x72) (et rfl e28_4)) ?_
          obtain ⟨x191, gx191, hM28⟩ := bs hM28
          refine Y wn rfl (yIa SL_25 (et rfl rfl) (et rfl rfl) hst (rdI (mtF (mtF q1))) gx191) ?_
          obtain ⟨h192, hst⟩ := iLs hst (mtF (mtF q1)) gx191
          refine Y wn rfl (yCt O_22 (et rfl rfl) hst (mtF mhF) rfl) ?_
          refine Y wn rfl (ym (v := .int .i64 x166) (et rfl e28_5)) ?_
          obtain ⟨x193, gx193, hM28⟩ := bs hM28
          refine Y wn rfl (yIa SL_22 (et rfl rfl) (et rfl rfl) hst (rdI mhF) gx193) ?_
          refine Y wn rfl (yI O_3 (et rfl rfl) hst (rdI mhF) gx193) ?_
          refine Y wn rfl (ya (v := .int .i64 x193) (et rfl rfl)) ?_
          refine wpList_nil ?_
          refine k96 _ _ ?_
          refine seqQ fun Q97 k97 z97 => ?_
          refine wp_region_lit ?_
          refine Y wn rfl (ym (v := .int .i64 x193) (et rfl rfl)) ?_
          refine Y wn rfl (ylss (et rfl rfl) rfl) ?_
          refine Y wn rfl (ym (v := .bool (decide (x193 < 0))) (et rfl rfl)) ?_
          refine joinW 4 (fun f w => f 1 = .pointer (some ⟨b3, 0, none⟩) ∧ f 3 = .int .i64 (x1.length : Int) ∧ f 4 = .int .i64 x72 ∧ f 5 = .int .i64 x166 ∧ f 6 = .int .i64 x193 ∧ f 48 = .bool ((decide (x193 < 0)) || (decide ((x1.length : Int) ≤ x193))) ∧ St w0 (ros) (box b3 27 [h2.v] :: rs) w) (fun j29 => ?_) ?_
          · rcases Bool.eq_false_or_eq_true (decide (x193 < 0)) with c195 | c195
            · refine Gn (wx rfl rfl rfl c195) rfl ?_
              refine Gn (wx rfl rfl rfl c195) rfl ?_
              refine Gn (wx rfl rfl rfl c195) rfl ?_
              refine Y wn rfl (ypt (v := .bool true) (et rfl rfl) c195 rfl) ?_
              exact j29 _ _ ⟨e28_1, e28_3, e28_4, e28_5, rfl, (congrArg Value.bool (orT c195)), (hst.facts (allT (allT (allT (allT allI)))))⟩
            · refine Y (wg rfl rfl rfl c195) rfl (ym (v := .int .i64 x193) (et rfl rfl)) ?_
              refine Y (wg rfl rfl rfl c195) rfl (ym (v := .int .i64 (x1.length : Int)) (et rfl e28_3)) ?_
              refine Y (wg rfl rfl rfl c195) rfl (ygeq (et rfl rfl) (et rfl rfl)) ?_
              refine Y wn rfl (ypf (v := .bool (decide ((x1.length : Int) ≤ x193))) (et rfl rfl) c195 (et rfl rfl)) ?_
              exact j29 _ _ ⟨e28_1, e28_3, e28_4, e28_5, rfl, (congrArg Value.bool (orF c195)), (hst.facts (allT (allT (allT (allT allI)))))⟩
          clear hst
          rintro f w ⟨e194_1, e194_3, e194_4, e194_5, e194_6, e194_48, hst⟩
          refine Y wn rfl (ym (v := .bool ((decide (x193 < 0)) || (decide ((x1.length : Int) ≤ x193)))) (et rfl e194_48)) ?_
          refine joinW 4 (fun f w => f 1 = .pointer (some ⟨b3, 0, none⟩) ∧ f 3 = .int .i64 (x1.length : Int) ∧ f 4 = .int .i64 x72 ∧ f 5 = .int .i64 x166 ∧ f 6 = .int .i64 x193 ∧ f 53 = .bool (((decide (x193 < 0)) || (decide ((x1.length : Int) ≤ x193))) || (decide (x193 = x72))) ∧ St w0 (ros) (box b3 27 [h2.v] :: rs) w) (fun j30 => ?_) ?_
          · rcases Bool.eq_false_or_eq_true (((decide (x193 < 0)) || (decide ((x1.length : Int) ≤ x193)))) with c197 | c197
            · refine Gn (wx rfl rfl rfl c197) rfl ?_
              refine Gn (wx rfl rfl rfl c197) rfl ?_
              refine Gn (wx rfl rfl rfl c197) rfl ?_
              refine Y wn rfl (ypt (v := .bool true) (et rfl rfl) c197 rfl) ?_
              exact j30 _ _ ⟨e194_1, e194_3, e194_4, e194_5, e194_6, (congrArg Value.bool (orT c197)), hst⟩
            · refine Y (wg rfl rfl rfl c197) rfl (ym (v := .int .i64 x193) (et rfl e194_6)) ?_
              refine Y (wg rfl rfl rfl c197) rfl (ym (v := .int .i64 x72) (et rfl e194_4)) ?_
              refine Y (wg rfl rfl rfl c197) rfl (yeql (et rfl rfl) (et rfl rfl)) ?_
              refine Y wn rfl (ypf (v := .bool (decide (x193 = x72))) (et rfl rfl) c197 (et rfl rfl)) ?_
              exact j30 _ _ ⟨e194_1, e194_3, e194_4, e194_5, e194_6, (congrArg Value.bool (orF c197)), hst⟩
          clear hst
          rintro f w ⟨e196_1, e196_3, e196_4, e196_5, e196_6, e196_53, hst⟩
          refine Y wn rfl (ym (v := .bool (((decide (x193 < 0)) || (decide ((x1.length : Int) ≤ x193))) || (decide (x193 = x72)))) (et rfl e196_53)) ?_
          obtain ⟨r201, gr201, hM28⟩ := bs hM28
          refine joinW 9 (fun f w => f 1 = .pointer (some ⟨b3, 0, none⟩) ∧ f 3 = .int .i64 (x1.length : Int) ∧ f 4 = .int .i64 x72 ∧ f 5 = .int .i64 x166 ∧ f 63 = .bool r201 ∧ St w0 (ros) (box b3 27 [h2.v] :: rs) w) (fun j31 => ?_) ?_
          · rcases iteS gr201 with ⟨c203, gr201⟩ | ⟨c203, gr201⟩
            · refine Gn (wx rfl rfl rfl c203) rfl ?_
              refine Gn (wx rfl rfl rfl c203) rfl ?_
              refine Gn (wx rfl rfl rfl c203) rfl ?_
              refine Gn (wx rfl rfl rfl c203) rfl ?_
              refine Gn (wx rfl rfl rfl c203) rfl ?_
              refine Gn (wx rfl rfl rfl c203) rfl ?_
              refine Gn (wx rfl rfl rfl c203) rfl ?_
              refine Gn (wx rfl rfl rfl c203) rfl ?_
              refine Y wn rfl (ypt (v := .bool true) (et rfl rfl) c203 rfl) ?_
              obtain rfl := someI gr201
              exact j31 _ _ ⟨e196_1, e196_3, e196_4, e196_5, rfl, hst⟩
            · refine Y (wg rfl rfl rfl (bfalse c203)) rfl (yFb FL_27_0 (et rfl e196_1)) ?_
              refine Y (wg rfl rfl rfl (bfalse c203)) rfl (yLb (u := h2.v) O_25 (et rfl rfl) hst mhR rfl) ?_
              refine Y (wg rfl rfl rfl (bfalse c203)) rfl (ym (v := .int .i64 x193) (et rfl e196_6)) ?_
              obtain ⟨x204, gx204, gr201⟩ := bs gr201
              refine Y (wg rfl rfl rfl (bfalse c203)) rfl (yIa SL_25 (et rfl rfl) (et rfl rfl) hst (rdI q1) gx204) ?_
              obtain ⟨h205, hst⟩ := iLs hst q1 gx204
              refine Y (wg rfl rfl rfl (bfalse c203)) rfl (yCt O_22 (et rfl rfl) hst (mtF mhF) rfl) ?_
              refine Y (wg rfl rfl rfl (bfalse c203)) rfl (ym (v := .int .i64 x72) (et rfl e196_4)) ?_
              obtain ⟨r206, gr206, gr201⟩ := bs gr201
              refine Yc (wg rfl rfl rfl (bfalse c203)) rfl (yCall FN_18 (a2 (et rfl rfl) (et rfl rfl))) (sparsekit_In_ok (hM := gr206) (hst := hst) (q1 := mhF)) ?_
              clear hst
              rintro _ w ⟨rfl, hst⟩
              refine ⟨_, rfl, ?_⟩
              refine Y (wg rfl rfl rfl (bfalse c203)) rfl (ynot (et rfl rfl)) ?_
              refine Y wn rfl (ypf (v := .bool (!(r206))) (et rfl rfl) (bfalse c203) (et rfl rfl)) ?_
              obtain rfl := someI gr201
              exact j31 _ _ ⟨e196_1, e196_3, e196_4, e196_5, rfl, (hst.facts (allT (allT allI)))⟩
          clear hst
          rintro f w ⟨e202_1, e202_3, e202_4, e202_5, e202_63, hst⟩
          refine wpList_nil ?_
          refine k97 _ _ ?_
          rcases iteS hM28 with ⟨c207, hM28⟩ | ⟨c207, hM28⟩
          · refine condT (et rfl e202_63) c207 ?_
            refine seqQ fun Q98 k98 z98 => ?_
            refine wp_region_lit ?_
            refine Y wn rfl (ya (v := .int .i64 1) rfl) ?_
            refine wpList_nil ?_
            refine k98 _ _ ?_
            refine wp_ret ?_
            refine q95 _ _ _ ?_
            refine z94 _ _ _ rfl ?_
            obtain rfl := someI hM28
            refine zz28 _ _ _ _ rfl rfl ?_
            exact je28_1 _ _ rfl (hst.pk 1 [] rfl) (ho28 _ rfl)
          · refine condF (et rfl e202_63) (bfalse c207) ?_
            refine wp_skip ?_
            refine q95 _ _ _ ?_
            refine k94 _ _ ?_
            refine wp_region_lit ?_
            refine Y wn rfl (ym (v := .int .i64 x166) (et rfl e202_5)) ?_
            refine Y wn rfl (yadd (et rfl rfl) rfl) ?_
            refine Y wn rfl (ya (v := .int .i64 (wa .i64 x166 1)) (et rfl rfl)) ?_
            refine wpList_nil ?_
            obtain rfl := someI hM28
            exact n28 _ _ _ rfl ⟨_, _, rfl, rfl, e202_1, e202_3, e202_4, rfl, hst⟩
        · refine condF (et rfl rfl) (decide_eq_false c190) ?_
          refine wp_exit ?_
          refine z92 _ _ _ rfl ?_
          obtain rfl := someI hM28
          refine zz28 _ _ _ _ rfl rfl ?_
          exact je28_0 _ _ e28_1 e28_3 e28_4 (hst.facts (allT (allT allI))) (ho28 _ rfl)
      · refine condT (et rfl rfl) (nT (bfalse c145)) ?_
        refine seqQ fun Q99 k99 z99 => ?_
        refine wp_region_lit ?_
        refine Y wn rfl (ya (v := .int .i64 1) rfl) ?_
        refine wpList_nil ?_
        refine k99 _ _ ?_
        refine wp_ret ?_
        refine z74 _ _ _ rfl ?_
        refine q73 _ _ _ ?_
        refine z72 _ _ _ rfl ?_
        obtain rfl := someI hM21
        refine zz21 _ _ _ _ rfl rfl ?_
        exact je21_1 _ _ rfl ((hst.pk 1 [] rfl).facts (allT (allT allI))) (ho21 _ rfl)
    · refine condF (et rfl rfl) (decide_eq_false c141) ?_
      refine wp_exit ?_
      refine z70 _ _ _ rfl ?_
      obtain rfl := someI hM21
      refine zz21 _ _ _ _ rfl rfl ?_
      exact je21_0 _ _ (hst.pk 1 [] rfl) (ho21 _ rfl)

theorem sparseref12_Levels_ok {w0 : World} {ros : List Fact} {rs : List Res} {w : World} {x1 : List (List Int)} {x3 : Int} {h2 : Hdr} {out : (List (List Int))} (hM : sparseref12_Levels x1 x3 = some out) (q1 : imm (rS (rI .i64)) h2.v x1 ∈ ros) (hst : St w0 ros (rs) w) :
    Calls Try.prog 15 #[.agg #[h2.v], .int .i64 x3] w (fun e w => ∃ (h100001 : Hdr), e = .returned (h100001.v) ∧ St w0 (ros) (row 22 (rS (rI .i64)) h100001.v out :: rs) w) := by
  refine enterQ Try.func15 rfl Try.ntmps15 rfl fun Q hQ => ?_
  refine seqQ fun Q1 k1 z1 => ?_
  refine wp_region_lit ?_
  refine YB wn rfl (r_box (vals := [h2.v]) hst (et rfl rfl) rfl) ?_
  clear hst
  intro b4 w hst
  refine Y wn rfl (ya (v := hnil.v) rfl) ?_
  refine wpList_nil ?_
  refine k1 _ _ ?_
  refine seqQ fun Q2 k2 z2 => ?_
  refine wp_region_lit ?_
  refine Y wn rfl (yFb FL_27_0 (et rfl rfl)) ?_
  refine Y wn rfl (yLb (u := h2.v) O_25 (et rfl rfl) hst mhR rfl) ?_
  refine Y wn rfl (yLen SL_25 (et rfl rfl) hst (rdI q1)) ?_
  refine Y wn rfl (ya (v := .int .i64 (x1.length : Int)) (et rfl rfl)) ?_
  refine wpList_nil ?_
  refine k2 _ _ ?_
  refine seqQ fun Q3 k3 z3 => ?_
  refine seqQ fun Q4 k4 z4 => ?_
  refine wp_region_lit ?_
  refine Y wn rfl (yLbs (us := [h2.v]) ST_27 (et rfl rfl) hst mhR rfl rfl) ?_
  obtain ⟨r5, gr5, hM⟩ := bs hM
  refine Yc wn rfl (yCall FN_31 (a1 (et rfl rfl))) (sparseref12_Check_ok (hM := gr5) (hst := hst) (q1 := q1)) ?_
  clear hst
  rintro _ w ⟨rfl, hst⟩
  refine ⟨_, rfl, ?_⟩
  refine Y wn rfl (yneq (et rfl rfl) rfl) ?_
  refine Y wn rfl (ym (v := .bool (!(decide (r5 = 0)))) (et rfl rfl)) ?_
  refine joinW 3 (fun f w => f 1 = .int .i64 x3 ∧ f 2 = .pointer (some ⟨b4, 0, none⟩) ∧ f 5 = .int .i64 (x1.length : Int) ∧ f 24 = .bool ((!(decide (r5 = 0))) || (decide (x3 < 0))) ∧ St w0 (ros) (box b4 27 [h2.v] :: rs) w) (fun j1 => ?_) ?_
  · rcases Bool.eq_false_or_eq_true (!(decide (r5 = 0))) with c7 | c7
    · refine Gn (wx rfl rfl rfl c7) rfl ?_
      refine Gn (wx rfl rfl rfl c7) rfl ?_
      refine Y wn rfl (ypt (v := .bool true) (et rfl rfl) c7 rfl) ?_
      exact j1 _ _ ⟨rfl, rfl, rfl, (congrArg Value.bool (orT c7)), hst⟩
    · refine Y (wg rfl rfl rfl c7) rfl (ym (v := .int .i64 x3) (et rfl rfl)) ?_
      refine Y (wg rfl rfl rfl c7) rfl (ylss (et rfl rfl) rfl) ?_
      refine Y wn rfl (ypf (v := .bool (decide (x3 < 0))) (et rfl rfl) c7 (et rfl rfl)) ?_
      exact j1 _ _ ⟨rfl, rfl, rfl, (congrArg Value.bool (orF c7)), hst⟩
  clear hst
  rintro f w ⟨e6_1, e6_2, e6_5, e6_24, hst⟩
  refine Y wn rfl (ym (v := .bool ((!(decide (r5 = 0))) || (decide (x3 < 0)))) (et rfl e6_24)) ?_
  refine joinW 4 (fun f w => f 1 = .int .i64 x3 ∧ f 2 = .pointer (some ⟨b4, 0, none⟩) ∧ f 5 = .int .i64 (x1.length : Int) ∧ f 29 = .bool (((!(decide (r5 = 0))) || (decide (x3 < 0))) || (decide ((x1.length : Int) ≤ x3))) ∧ St w0 (ros) (box b4 27 [h2.v] :: rs) w) (fun j2 => ?_) ?_
  · rcases Bool.eq_false_or_eq_true (((!(decide (r5 = 0))) || (decide (x3 < 0)))) with c9 | c9
    · refine Gn (wx rfl rfl rfl c9) rfl ?_
      refine Gn (wx rfl rfl rfl c9) rfl ?_
      refine Gn (wx rfl rfl rfl c9) rfl ?_
      refine Y wn rfl (ypt (v := .bool true) (et rfl rfl) c9 rfl) ?_
      exact j2 _ _ ⟨e6_1, e6_2, e6_5, (congrArg Value.bool (orT c9)), hst⟩
    · refine Y (wg rfl rfl rfl c9) rfl (ym (v := .int .i64 x3) (et rfl e6_1)) ?_
      refine Y (wg rfl rfl rfl c9) rfl (ym (v := .int .i64 (x1.length : Int)) (et rfl e6_5)) ?_
      refine Y (wg rfl rfl rfl c9) rfl (ygeq (et rfl rfl) (et rfl rfl)) ?_
      refine Y wn rfl (ypf (v := .bool (decide ((x1.length : Int) ≤ x3))) (et rfl rfl) c9 (et rfl rfl)) ?_
      exact j2 _ _ ⟨e6_1, e6_2, e6_5, (congrArg Value.bool (orF c9)), hst⟩
  clear hst
  rintro f w ⟨e8_1, e8_2, e8_5, e8_29, hst⟩
  refine wpList_nil ?_
  refine k4 _ _ ?_
  rcases iteS hM with ⟨c10, hM⟩ | ⟨c10, hM⟩
  · refine condT (et rfl e8_29) c10 ?_
    refine seqQ fun Q5 k5 z5 => ?_
    refine wp_region_lit ?_
    refine Y wn rfl (ya (v := hnil.v) rfl) ?_
    refine wpList_nil ?_
    refine k5 _ _ ?_
    refine wp_ret ?_
    refine z3 _ _ _ rfl ?_
    obtain rfl := someI hM
    replace hst := hst.rowNh 22 (rS (rI .i64))
    exact hQ _ _ _ (fin1r Try.results15 ⟨rfl, rfl⟩ ⟨_, rfl, (hst.pk 2 [0] rfl)⟩)
  · refine condF (et rfl e8_29) (bfalse c10) ?_
    refine wp_skip ?_
    refine k3 _ _ ?_
    refine seqQ fun Q6 k6 z6 => ?_
    refine wp_region_lit ?_
    refine Y wn rfl (ym (v := .int .i64 (x1.length : Int)) (et rfl e8_5)) ?_
    obtain ⟨x13, gx13, hM⟩ := bs hM
    refine YH wn rfl (rMk hst SL_54 (et rfl rfl) gx13) ?_
    clear hst
    intro h11 w hst
    refine Y wn rfl (ya (v := h11.v) (et rfl rfl)) ?_
    refine wpList_nil ?_
    refine k6 _ _ ?_
    refine seqQ fun Q7 k7 z7 => ?_
    refine wp_region_lit ?_
    refine Y wn rfl (ym (v := h11.v) (et rfl rfl)) ?_
    refine Y wn rfl (ym (v := .int .i64 x3) (et rfl e8_1)) ?_
    obtain ⟨x14, gx14, hM⟩ := bs hM
    refine Y wn rfl (yIs SL_54 (et rfl rfl) (et rfl rfl) hst (rdO mhR) gx14) ?_
    refine YT wn rfl (r_sti (cs := [.bool true]) hst O_4 rfl (et rfl rfl) rfl rfl mkB gx14) ?_
    clear hst
    intro w hst
    refine wpList_nil ?_
    refine k7 _ _ ?_
    refine seqQ fun Q8 k8 z8 => ?_
    refine wp_region_lit ?_
    refine Y wn rfl (ym (v := .int .i64 x3) (et rfl e8_1)) ?_
    refine YH wn rfl (rLt (n := 1) (l := [x3]) hst SL_22 [.int .i64 x3] (bp1 (et rfl rfl)) rfl rfl (mks1 (cs := [.int .i64 x3]) rfl mkI mks0)) ?_
    clear hst
    intro h15 w hst
    refine Y wn rfl (ya (v := h15.v) (et rfl rfl)) ?_
    refine wpList_nil ?_
    refine k8 _ _ ?_
    refine seqQ fun Q9 k9 z9 => ?_
    refine wp_region_lit ?_
    refine Y wn rfl (ya (v := hnil.v) rfl) ?_
    refine wpList_nil ?_
    refine k9 _ _ ?_
    refine seqQ fun Q10 k10 z10 => ?_
    refine blockQ fun Q11 q11 => ?_
    obtain ⟨o73, go73, hM⟩ := bs hM
    have je73_0 : ∀ (x391 : List (List Int)) (h390 : Hdr) (f : Nat → Value) (w : World), f 8 = h390.v → St w0 (ros) (row 22 (rS (rI .i64)) h390.v x391 :: rs) w → x391 = o73 → Q11 (.exit 0) (fr 107 f) w := by
      intro x391 h390 f w eje73_0_8 hst ho
      subst ho
      refine q11 _ _ _ ?_
      refine k10 _ _ ?_
      refine seqQ fun Q192 k192 z192 => ?_
      refine wp_region_lit ?_
      refine Y wn rfl (ym (v := h390.v) (et rfl eje73_0_8)) ?_
      refine Y wn rfl (ya (v := h390.v) (et rfl rfl)) ?_
      refine wpList_nil ?_
      refine k192 _ _ ?_
      refine wp_ret ?_
      obtain rfl := someI hM
      exact hQ _ _ _ (fin1r Try.results15 ⟨rfl, rfl⟩ ⟨_, rfl, hst⟩)
    replace hst := hst.rowNh 22 (rS (rI .i64))
    refine loopQ (fun s a w => ∃ (x198 : List Bool) (x200 : List Int) (x202 : List (List Int)) (f : Nat → Value) (h199 : Hdr) (h201 : Hdr), (x198, x200, x202) = s ∧ a = fr 107 f ∧ f 2 = .pointer (some ⟨b4, 0, none⟩) ∧ f 5 = .int .i64 (x1.length : Int) ∧ f 6 = h11.v ∧ f 7 = h199.v ∧ f 8 = h201.v ∧ St w0 (ros) (box b4 27 [h2.v] :: row 4 rB h11.v x198 :: row 3 (rI .i64) h199.v x200 :: row 22 (rS (rI .i64)) h201.v x202 :: rs) w) go73 ⟨_, _, _, _, _, _, rfl, rfl, e8_2, e8_5, rfl, rfl, rfl, (hst.pk 4 [3, 2, 1, 0] rfl)⟩ ?_
    clear hst
    rintro _ _ w r73_ ⟨x198, x200, x202, f, h199, h201, rfl, rfl, e73_2, e73_5, e73_6, e73_7, e73_8, hst⟩ hM73 ho73 Q100073 n73 zz73
    refine seqQ fun Q193 k193 z193 => ?_
    refine seqQ fun Q194 k194 z194 => ?_
    refine wp_region_lit ?_
    refine Y wn rfl (ym (v := h199.v) (et rfl e73_7)) ?_
    refine Y wn rfl (yLen SL_22 (et rfl rfl) hst (rdO (mtR (mtR mhR)))) ?_
    refine Y wn rfl (ygtr (et rfl rfl) rfl) ?_
    refine wpList_nil ?_
    refine k194 _ _ ?_
    rcases iteS hM73 with ⟨c392, hM73⟩ | ⟨c392, hM73⟩
    · refine condT (et rfl rfl) (decide_eq_true c392) ?_
      refine wp_skip ?_
      refine k193 _ _ ?_
      refine blockQ fun Q195 q195 => ?_
      refine seqQ fun Q196 k196 z196 => ?_
      refine wp_region_lit ?_
      refine Y wn rfl (ym (v := h201.v) (et rfl e73_8)) ?_
      refine Y wn rfl (ym (v := h199.v) (et rfl e73_7)) ?_
      replace hst := hst.pk 3 [2, 0, 0] rfl
      replace hst := hst.fz
      refine YH wn rfl (rLt (n := 1) (l := [x200]) hst SL_25 [h199.v] (bp1 (et rfl rfl)) rfl rfl (mks1 (cs := [h199.v]) rfl (mkS mhF) mks0)) ?_
      clear hst
      intro h393 w hst
      obtain ⟨x395, gx395, hM73⟩ := bs hM73
      replace hst := hst.pk 4 [3, 0, 0, 0] rfl
      refine YH wn rfl (rAp hst SL_25 (et rfl rfl) (et rfl rfl) (rdO (mtR mhR)) gx395) ?_
      clear hst
      intro h394 w hst
      refine Y wn rfl (ya (v := h394.v) (et rfl rfl)) ?_
      refine wpList_nil ?_
      refine k196 _ _ ?_
      refine seqQ fun Q197 k197 z197 => ?_
      refine wp_region_lit ?_
      refine Y wn rfl (ym (v := .int .i64 (x1.length : Int)) (et rfl e73_5)) ?_
      obtain ⟨x398, gx398, hM73⟩ := bs hM73
      refine YH wn rfl (rMk hst SL_54 (et rfl rfl) gx398) ?_
      clear hst
      intro h396 w hst
      refine Y wn rfl (ya (v := h396.v) (et rfl rfl)) ?_
      refine wpList_nil ?_
      refine k197 _ _ ?_
      refine seqQ fun Q198 k198 z198 => ?_
      refine seqQ fun Q199 k199 z199 => ?_
      refine wp_region_lit ?_
      refine Y wn rfl (ya (v := .int .i64 0) rfl) ?_
      refine wpList_nil ?_
      refine k199 _ _ ?_
      refine blockQ fun Q200 q200 => ?_
      obtain ⟨o94, go94, hM73⟩ := bs hM73
      have je94_0 : ∀ (x481 : List Bool) (f : Nat → Value) (w : World), f 2 = .pointer (some ⟨b4, 0, none⟩) → f 5 = .int .i64 (x1.length : Int) → f 6 = h11.v → f 8 = h394.v → f 9 = h396.v → St w0 (ros) (box b4 27 [h2.v] :: row 4 rB h11.v x198 :: row 22 (rS (rI .i64)) h394.v x395 :: row 4 rB h396.v x481 :: rs) w → x481 = o94 → Q200 (.exit 2) (fr 107 f) w := by
        intro x481 f w eje94_0_2 eje94_0_5 eje94_0_6 eje94_0_8 eje94_0_9 hst ho
        subst ho
        refine q200 _ _ _ ?_
        refine k198 _ _ ?_
        refine seqQ fun Q239 k239 z239 => ?_
        refine wp_region_lit ?_
        refine Y wn rfl (ya (v := hnil.v) rfl) ?_
        refine wpList_nil ?_
        refine k239 _ _ ?_
        refine seqQ fun Q240 k240 z240 => ?_
        refine seqQ fun Q241 k241 z241 => ?_
        refine wp_region_lit ?_
        refine Y wn rfl (ya (v := .int .i64 0) rfl) ?_
        refine wpList_nil ?_
        refine k241 _ _ ?_
        refine blockQ fun Q242 q242 => ?_
        obtain ⟨o97, go97, hM73⟩ := bs hM73
        have je97_0 : ∀ (x518 : List Bool) (x520 : List Int) (h519 : Hdr) (f : Nat → Value) (w : World), f 2 = .pointer (some ⟨b4, 0, none⟩) → f 5 = .int .i64 (x1.length : Int) → f 6 = h11.v → f 8 = h394.v → f 13 = h519.v → St w0 (ros) (box b4 27 [h2.v] :: row 4 rB h11.v x518 :: row 22 (rS (rI .i64)) h394.v x395 :: row 3 (rI .i64) h519.v x520 :: rs) w → (x518, x520) = o97 → Q242 (.exit 6) (fr 107 f) w := by
          intro x518 x520 h519 f w eje97_0_2 eje97_0_5 eje97_0_6 eje97_0_8 eje97_0_13 hst ho
          subst ho
          refine q242 _ _ _ ?_
          refine k240 _ _ ?_
          refine wp_region_lit ?_
          refine Y wn rfl (ym (v := h519.v) (et rfl eje97_0_13)) ?_
          refine Y wn rfl (ya (v := h519.v) (et rfl rfl)) ?_
          refine wpList_nil ?_
          refine q195 _ _ _ ?_
          obtain rfl := someI hM73
          exact n73 _ _ _ rfl ⟨_, _, _, _, _, _, rfl, rfl, eje97_0_2, eje97_0_5, eje97_0_6, rfl, eje97_0_8, (hst.pk 4 [0, 0, 1, 0] rfl)⟩
        replace hst := hst.rowNh 3 (rI .i64)
        refine loopQ (fun s a w => ∃ (x496 : List Bool) (x498 : List Int) (x499 : Int) (f : Nat → Value) (h497 : Hdr), (x496, x498, x499) = s ∧ a = fr 107 f ∧ f 2 = .pointer (some ⟨b4, 0, none⟩) ∧ f 5 = .int .i64 (x1.length : Int) ∧ f 6 = h11.v ∧ f 8 = h394.v ∧ f 9 = h396.v ∧ f 13 = h497.v ∧ f 14 = .int .i64 x499 ∧ St w0 (ros) (box b4 27 [h2.v] :: row 4 rB h11.v x496 :: row 22 (rS (rI .i64)) h394.v x395 :: row 4 rB h396.v x481 :: row 3 (rI .i64) h497.v x498 :: rs) w) go97 ⟨_, _, _, _, _, rfl, rfl, eje94_0_2, eje94_0_5, eje94_0_6, eje94_0_8, eje94_0_9, rfl, rfl, (hst.pk 5 [1, 1, 1, 1, 0] rfl)⟩ ?_
        clear hst
        rintro _ _ w r97_ ⟨x496, x498, x499, f, h497, rfl, rfl, e97_2, e97_5, e97_6, e97_8, e97_9, e97_13, e97_14, hst⟩ hM97 ho97 Q100097 n97 zz97
        refine seqQ fun Q257 k257 z257 => ?_
        refine seqQ fun Q258 k258 z258 => ?_
        refine wp_region_lit ?_
        refine Y wn rfl (ym (v := .int .i64 x499) (et rfl e97_14)) ?_
        refine Y wn rfl (ym (v := .int .i64 (x1.length : Int)) (et rfl e97_5)) ?_
        refine Y wn rfl (ylss (et rfl rfl) (et rfl rfl)) ?_
        refine wpList_nil ?_
        refine k258 _ _ ?_
        rcases iteS hM97 with ⟨c521, hM97⟩ | ⟨c521, hM97⟩
        · refine condT (et rfl rfl) (decide_eq_true c521) ?_
          refine wp_skip ?_
          refine k257 _ _ ?_
          refine seqQ fun Q259 k259 z259 => ?_
          refine blockQ fun Q260 q260 => ?_
          refine seqQ fun Q261 k261 z261 => ?_
          refine wp_region_lit ?_
          refine Y wn rfl (ym (v := h396.v) (et rfl e97_9)) ?_
          refine Y wn rfl (ym (v := .int .i64 x499) (et rfl e97_14)) ?_
          obtain ⟨x522, gx522, hM97⟩ := bs hM97
          refine Y wn rfl (yIa SL_54 (et rfl rfl) (et rfl rfl) hst (rdO (mtR (mtR (mtR mhR)))) gx522) ?_
          refine Y wn rfl (yB O_4 (et rfl rfl) hst (rdO (mtR (mtR (mtR mhR)))) gx522) ?_
          refine wpList_nil ?_
          refine k261 _ _ ?_
          have j98 : ∀ (x527 : List Bool) (x529 : List Int) (h528 : Hdr) (f : Nat → Value) (w : World), f 2 = .pointer (some ⟨b4, 0, none⟩) → f 5 = .int .i64 (x1.length : Int) → f 6 = h11.v → f 8 = h394.v → f 9 = h396.v → f 13 = h528.v → f 14 = .int .i64 x499 → St w0 (ros) (box b4 27 [h2.v] :: row 4 rB h11.v x527 :: row 22 (rS (rI .i64)) h394.v x395 :: row 4 rB h396.v x481 :: row 3 (rI .i64) h528.v x529 :: rs) w → sparseref12_Levels_j98 x499 x527 x529 = some r97_ → Q260 .normal (fr 107 f) w := by
            intro x527 x529 h528 f w ej98_2 ej98_5 ej98_6 ej98_8 ej98_9 ej98_13 ej98_14 hst hM
            refine q260 _ _ _ ?_
            refine k259 _ _ ?_
            refine wp_region_lit ?_
            refine Y wn rfl (ym (v := .int .i64 x499) (et rfl ej98_14)) ?_
            refine Y wn rfl (yadd (et rfl rfl) rfl) ?_
            refine Y wn rfl (ya (v := .int .i64 (wa .i64 x499 1)) (et rfl rfl)) ?_
            refine wpList_nil ?_
            obtain rfl := someI hM
            exact n97 _ _ _ rfl ⟨_, _, _, _, _, rfl, rfl, ej98_2, ej98_5, ej98_6, ej98_8, ej98_9, ej98_13, rfl, hst⟩
          rcases iteS hM97 with ⟨c530, hM97⟩ | ⟨c530, hM97⟩
          · refine condT (et rfl rfl) c530 ?_
            refine seqQ fun Q263 k263 z263 => ?_
            refine wp_region_lit ?_
            refine Y wn rfl (ym (v := h497.v) (et rfl e97_13)) ?_
            refine Y wn rfl (ym (v := .int .i64 x499) (et rfl e97_14)) ?_
            refine YH wn rfl (rLt (n := 1) (l := [x499]) hst SL_22 [.int .i64 x499] (bp1 (et rfl rfl)) rfl rfl (mks1 (cs := [.int .i64 x499]) rfl mkI mks0)) ?_
            clear hst
            intro h531 w hst
            obtain ⟨x533, gx533, hM97⟩ := bs hM97
            replace hst := hst.pk 6 [5, 0, 0, 0, 0, 0] rfl
            refine YH wn rfl (rAp hst SL_22 (et rfl rfl) (et rfl rfl) (rdO (mtR mhR)) gx533) ?_
            clear hst
            intro h532 w hst
            refine Y wn rfl (ya (v := h532.v) (et rfl rfl)) ?_
            refine wpList_nil ?_
            refine k263 _ _ ?_
            refine wp_region_lit ?_
            refine Y wn rfl (ym (v := h11.v) (et rfl e97_6)) ?_
            refine Y wn rfl (ym (v := .int .i64 x499) (et rfl e97_14)) ?_
            obtain ⟨x534, gx534, hM97⟩ := bs hM97
            refine Y wn rfl (yIs SL_54 (et rfl rfl) (et rfl rfl) hst (rdO (mtR (mtR (mtR mhR)))) gx534) ?_
            replace hst := hst.pk 4 [3, 0, 0, 0] rfl
            refine YT wn rfl (r_sti (cs := [.bool true]) hst O_4 rfl (et rfl rfl) rfl rfl mkB gx534) ?_
            clear hst
            intro w hst
            refine wpList_nil ?_
            exact j98 _ _ _ _ _ e97_2 e97_5 e97_6 e97_8 e97_9 rfl e97_14 (hst.pk 6 [3, 0, 2, 2, 0] rfl) hM97
          · refine condF (et rfl rfl) (bfalse c530) ?_
            refine wp_skip ?_
            exact j98 _ _ _ _ _ e97_2 e97_5 e97_6 e97_8 e97_9 e97_13 e97_14 hst hM97
        · refine condF (et rfl rfl) (decide_eq_false c521) ?_
          refine wp_exit ?_
          refine z257 _ _ _ rfl ?_
          obtain rfl := someI hM97
          refine zz97 _ _ _ _ rfl rfl ?_
          exact je97_0 _ _ _ _ _ e97_2 e97_5 e97_6 e97_8 e97_13 (hst.pk 5 [0, 0, 0, 1] rfl) (ho97 _ rfl)
      refine loopQ (fun s a w => ∃ (x438 : List Bool) (x439 : Int) (f : Nat → Value), (x438, x439) = s ∧ a = fr 107 f ∧ f 2 = .pointer (some ⟨b4, 0, none⟩) ∧ f 5 = .int .i64 (x1.length : Int) ∧ f 6 = h11.v ∧ f 7 = h199.v ∧ f 8 = h394.v ∧ f 9 = h396.v ∧ f 10 = .int .i64 x439 ∧ St w0 (imm (rI .i64) h199.v x200 :: ros) (box b4 27 [h2.v] :: row 4 rB h11.v x198 :: row 22 (rS (rI .i64)) h394.v x395 :: row 4 rB h396.v x438 :: rs) w) go94 ⟨_, _, _, rfl, rfl, e73_2, e73_5, e73_6, e73_7, rfl, rfl, rfl, (hst.pk 5 [3, 3, 1, 0] rfl)⟩ ?_
      clear hst
      rintro _ _ w r94_ ⟨x438, x439, f, rfl, rfl, e94_2, e94_5, e94_6, e94_7, e94_8, e94_9, e94_10, hst⟩ hM94 ho94 Q100094 n94 zz94
      refine seqQ fun Q264 k264 z264 => ?_
      refine seqQ fun Q265 k265 z265 => ?_
      refine wp_region_lit ?_
      refine Y wn rfl (ym (v := .int .i64 x439) (et rfl e94_10)) ?_
      refine Y wn rfl (ym (v := h199.v) (et rfl e94_7)) ?_
      refine Y wn rfl (yLen SL_22 (et rfl rfl) hst (rdI mhF)) ?_
      refine Y wn rfl (ylss (et rfl rfl) (et rfl rfl)) ?_
      refine wpList_nil ?_
      refine k265 _ _ ?_
      rcases iteS hM94 with ⟨c535, hM94⟩ | ⟨c535, hM94⟩
      · refine condT (et rfl rfl) (decide_eq_true c535) ?_
        refine wp_skip ?_
        refine k264 _ _ ?_
        refine seqQ fun Q266 k266 z266 => ?_
        refine blockQ fun Q267 q267 => ?_
        refine seqQ fun Q268 k268 z268 => ?_
        obtain ⟨x536, gx536, hM94⟩ := bs hM94
        obtain ⟨x537, gx537, hM94⟩ := bs hM94
        refine wp_drawR [0, 1, 0, 0, 12, 28, 63, 127, 255] [8] 1 folM (by kernel_rfl) (by kernel_rfl) (by kernel_rfl) ?_
        replace hst := hst.drew
        refine DRn (l1 := [0, 1, 2, 3, 4, 5, 6, 7]) (l2 := []) (lc := [8]) (by kernel_rfl) (by kernel_rfl) (by kernel_rfl) ?_
        refine Ry rfl rfl wn (yFb FL_27_0 (et rfl e94_2)) ?_
        refine Ry rfl rfl wn (yLb (u := h2.v) O_25 (et rfl rfl) hst mhR rfl) ?_
        refine Ry rfl rfl wn (ym (v := h199.v) (et rfl e94_7)) ?_
        refine Ry rfl rfl wn (ym (v := .int .i64 x439) (et rfl e94_10)) ?_
        refine Ry rfl rfl wn (yIa SL_22 (et rfl rfl) (et rfl rfl) hst (rdI mhF) gx536) ?_
        refine Ry rfl rfl wn (yI O_3 (et rfl rfl) hst (rdI mhF) gx536) ?_
        refine Ry rfl rfl wn (yIa SL_25 (et rfl rfl) (et rfl rfl) hst (rdI (mtF q1)) gx537) ?_
        obtain ⟨h538, hst⟩ := iLs hst (mtF q1) gx537
        refine Ry rfl rfl wn (yCt O_22 (et rfl rfl) hst (mtF mhF) rfl) ?_
        refine Rn QSn ?_
        refine Lc rfl ?_ LAn
        refine Ly wn (ya (v := h538.v) (et rfl rfl)) ?_
        refine DRz (l1 := []) (l2 := []) (by kernel_rfl) (by kernel_rfl) ?_
        refine Rn QSn ?_
        refine k268 _ _ ?_
        refine seqQ fun Q269 k269 z269 => ?_
        refine wp_region_lit ?_
        refine Y wn rfl (ya (v := .int .i64 0) rfl) ?_
        refine wpList_nil ?_
        refine k269 _ _ ?_
        refine blockQ fun Q270 q270 => ?_
        obtain ⟨o105, go105, hM94⟩ := bs hM94
        have je105_0 : ∀ (x563 : List Bool) (f : Nat → Value) (w : World), f 2 = .pointer (some ⟨b4, 0, none⟩) → f 5 = .int .i64 (x1.length : Int) → f 6 = h11.v → f 7 = h199.v → f 8 = h394.v → f 9 = h396.v → f 10 = .int .i64 x439 → St w0 (imm (rI .i64) h199.v x200 :: ros) (box b4 27 [h2.v] :: row 4 rB h11.v x198 :: row 22 (rS (rI .i64)) h394.v x395 :: row 4 rB h396.v x563 :: rs) w → x563 = o105 → Q270 (.exit 4) (fr 107 f) w := by
          intro x563 f w eje105_0_2 eje105_0_5 eje105_0_6 eje105_0_7 eje105_0_8 eje105_0_9 eje105_0_10 hst ho
          subst ho
          refine q270 _ _ _ ?_
          refine q267 _ _ _ ?_
          refine k266 _ _ ?_
          refine wp_region_lit ?_
          refine Y wn rfl (ym (v := .int .i64 x439) (et rfl eje105_0_10)) ?_
          refine Y wn rfl (yadd (et rfl rfl) rfl) ?_
          refine Y wn rfl (ya (v := .int .i64 (wa .i64 x439 1)) (et rfl rfl)) ?_
          refine wpList_nil ?_
          obtain rfl := someI hM94
          exact n94 _ _ _ rfl ⟨_, _, _, rfl, rfl, eje105_0_2, eje105_0_5, eje105_0_6, eje105_0_7, eje105_0_8, eje105_0_9, rfl, hst⟩
        refine loopQ (fun s a w => ∃ (x549 : List Bool) (x550 : Int) (f : Nat → Value), (x549, x550) = s ∧ a = fr 107 f ∧ f 2 = .pointer (some ⟨b4, 0, none⟩) ∧ f 5 = .int .i64 (x1.length : Int) ∧ f 6 = h11.v ∧ f 7 = h199.v ∧ f 8 = h394.v ∧ f 9 = h396.v ∧ f 10 = .int .i64 x439 ∧ f 11 = h538.v ∧ f 12 = .int .i64 x550 ∧ St w0 (imm (rI .i64) h199.v x200 :: imm (rI .i64) h538.v x537 :: ros) (box b4 27 [h2.v] :: row 4 rB h11.v x198 :: row 22 (rS (rI .i64)) h394.v x395 :: row 4 rB h396.v x549 :: rs) w) go105 ⟨_, _, _, rfl, rfl, e94_2, e94_5, e94_6, e94_7, e94_8, e94_9, e94_10, rfl, rfl, (hst.facts (allC (mtF (mtF mhF)) (allC mhF (allT (allT (allT allI))))))⟩ ?_
        clear hst
        rintro _ _ w r105_ ⟨x549, x550, f, rfl, rfl, e105_2, e105_5, e105_6, e105_7, e105_8, e105_9, e105_10, e105_11, e105_12, hst⟩ hM105 ho105 Q100105 n105 zz105
        refine seqQ fun Q279 k279 z279 => ?_
        refine seqQ fun Q280 k280 z280 => ?_
        refine wp_region_lit ?_
        refine Y wn rfl (ym (v := .int .i64 x550) (et rfl e105_12)) ?_
        refine Y wn rfl (ym (v := h538.v) (et rfl e105_11)) ?_
        refine Y wn rfl (yLen SL_22 (et rfl rfl) hst (rdI (mtF mhF))) ?_
        refine Y wn rfl (ylss (et rfl rfl) (et rfl rfl)) ?_
        refine wpList_nil ?_
        refine k280 _ _ ?_
        rcases iteS hM105 with ⟨c564, hM105⟩ | ⟨c564, hM105⟩
        · refine condT (et rfl rfl) (decide_eq_true c564) ?_
          refine wp_skip ?_
          refine k279 _ _ ?_
          refine seqQ fun Q281 k281 z281 => ?_
          refine blockQ fun Q282 q282 => ?_
          obtain ⟨x565, gx565, hM105⟩ := bs hM105
          obtain ⟨x566, gx566, hM105⟩ := bs hM105
          obtain ⟨x567, gx567, hM105⟩ := bs hM105
          obtain ⟨r568, gr568, hM105⟩ := bs hM105
          obtain ⟨x569, gx569, hM105⟩ := bs hM105
          refine joinN (n := 107) (fun f w => f 2 = .pointer (some ⟨b4, 0, none⟩) ∧ f 5 = .int .i64 (x1.length : Int) ∧ f 6 = h11.v ∧ f 7 = h199.v ∧ f 8 = h394.v ∧ f 9 = h396.v ∧ f 10 = .int .i64 x439 ∧ f 11 = h538.v ∧ f 12 = .int .i64 x550 ∧ St w0 (imm (rI .i64) h199.v x200 :: imm (rI .i64) h538.v x537 :: ros) (box b4 27 [h2.v] :: row 4 rB h11.v x198 :: row 22 (rS (rI .i64)) h394.v x395 :: row 4 rB h396.v x569 :: rs) w) (fun j106 => ?_) ?_
          · rcases iteS gr568 with ⟨c571, gr568⟩ | ⟨c571, gr568⟩
            · have hr107 := someI gr568
              refine wp_drawR [0, 0, 0, 6, 14, 0, 0, 0, 192, 448, 992, 2016, 4064, 8160, 8160, 8160, 57312, 122848, 262112, 524256, 1048544, 2097120, 4194303, 8388607] [23] 1 folM (by kernel_rfl) (by kernel_rfl) (by kernel_rfl) ?_
              replace hst := hst.drew
              refine DRn (l1 := [0, 1, 2, 3, 4, 5, 6, 7, 8, 9, 10, 11, 12, 13, 14, 15, 16, 17, 18, 19, 20, 21, 22]) (l2 := []) (lc := [23]) (by kernel_rfl) (by kernel_rfl) (by kernel_rfl) ?_
              refine Ry rfl rfl wn (ym (v := h396.v) (et rfl e105_9)) ?_
              refine Ry rfl rfl wn (ym (v := h538.v) (et rfl e105_11)) ?_
              refine Ry rfl rfl wn (ym (v := .int .i64 x550) (et rfl e105_12)) ?_
              refine Ry rfl rfl wn (yIa SL_22 (et rfl rfl) (et rfl rfl) hst (rdI (mtF mhF)) gx565) ?_
              refine Ry rfl rfl wn (yI O_3 (et rfl rfl) hst (rdI (mtF mhF)) gx565) ?_
              refine Ry rfl rfl wn (ym (v := h396.v) (et rfl e105_9)) ?_
              refine Ry rfl rfl wn (ym (v := h538.v) (et rfl e105_11)) ?_
              refine Ry rfl rfl wn (ym (v := .int .i64 x550) (et rfl e105_12)) ?_
              refine Ry rfl rfl wn (yIa SL_22 (et rfl rfl) (et rfl rfl) hst (rdI (mtF mhF)) gx566) ?_
              refine Ry rfl rfl wn (yI O_3 (et rfl rfl) hst (rdI (mtF mhF)) gx566) ?_
              refine Ry rfl rfl wn (yIa SL_54 (et rfl rfl) (et rfl rfl) hst (rdO (mtR (mtR (mtR mhR)))) gx567) ?_
              refine Ry rfl rfl wn (yB O_4 (et rfl rfl) hst (rdO (mtR (mtR (mtR mhR)))) gx567) ?_
              refine Ry rfl rfl wn (ym (v := .bool x567) (et rfl rfl)) ?_
              refine Rx rfl rfl (wx rfl rfl rfl c571) ?_
              refine Rx rfl rfl (wx rfl rfl rfl c571) ?_
              refine Rx rfl rfl (wx rfl rfl rfl c571) ?_
              refine Rx rfl rfl (wx rfl rfl rfl c571) ?_
              refine Rx rfl rfl (wx rfl rfl rfl c571) ?_
              refine Rx rfl rfl (wx rfl rfl rfl c571) ?_
              refine Rx rfl rfl (wx rfl rfl rfl c571) ?_
              refine Rx rfl rfl (wx rfl rfl rfl c571) ?_
              refine Ry rfl rfl wn (ypt (v := .bool r568) (et rfl rfl) c571 (eqv hr107 rfl)) ?_
              refine Ry rfl rfl wn (yIs SL_54 (et rfl rfl) (et rfl rfl) hst (rdO (mtR (mtR (mtR mhR)))) gx569) ?_
              refine Rn QSn ?_
              refine Lc rfl ?_ LAn
              replace hst := hst.pk 4 [3, 0, 0, 0] rfl
              refine LT wn (r_sti (cs := [.bool r568]) hst O_4 rfl (et rfl rfl) (et rfl rfl) rfl mkB gx569) ?_
              clear hst
              intro w hst
              refine DRz (l1 := []) (l2 := []) (by kernel_rfl) (by kernel_rfl) ?_
              refine Rn QSn ?_
              exact j106 _ _ ⟨e105_2, e105_5, e105_6, e105_7, e105_8, e105_9, e105_10, e105_11, e105_12, (hst.pk 4 [1, 1, 1, 0] rfl)⟩
            · obtain ⟨x572, gx572, gr568⟩ := bs gr568
              obtain ⟨x573, gx573, gr568⟩ := bs gr568
              have hr108 := someI gr568
              refine wp_drawR [0, 0, 0, 6, 14, 0, 0, 0, 192, 448, 992, 2016, 4064, 8160, 8160, 8160, 57312, 122848, 262112, 524256, 1048544, 2097120, 4194303, 8388607] [23] 1 folM (by kernel_rfl) (by kernel_rfl) (by kernel_rfl) ?_
              replace hst := hst.drew
              refine DRn (l1 := [0, 1, 2, 3, 4, 5, 6, 7, 8, 9, 10, 11, 12, 13, 14, 15, 16, 17, 18, 19, 20, 21, 22]) (l2 := []) (lc := [23]) (by kernel_rfl) (by kernel_rfl) (by kernel_rfl) ?_
              refine Ry rfl rfl wn (ym (v := h396.v) (et rfl e105_9)) ?_
              refine Ry rfl rfl wn (ym (v := h538.v) (et rfl e105_11)) ?_
              refine Ry rfl rfl wn (ym (v := .int .i64 x550) (et rfl e105_12)) ?_
              refine Ry rfl rfl wn (yIa SL_22 (et rfl rfl) (et rfl rfl) hst (rdI (mtF mhF)) gx565) ?_
              refine Ry rfl rfl wn (yI O_3 (et rfl rfl) hst (rdI (mtF mhF)) gx565) ?_
              refine Ry rfl rfl wn (ym (v := h396.v) (et rfl e105_9)) ?_
              refine Ry rfl rfl wn (ym (v := h538.v) (et rfl e105_11)) ?_
              refine Ry rfl rfl wn (ym (v := .int .i64 x550) (et rfl e105_12)) ?_
              refine Ry rfl rfl wn (yIa SL_22 (et rfl rfl) (et rfl rfl) hst (rdI (mtF mhF)) gx566) ?_
              refine Ry rfl rfl wn (yI O_3 (et rfl rfl) hst (rdI (mtF mhF)) gx566) ?_
              refine Ry rfl rfl wn (yIa SL_54 (et rfl rfl) (et rfl rfl) hst (rdO (mtR (mtR (mtR mhR)))) gx567) ?_
              refine Ry rfl rfl wn (yB O_4 (et rfl rfl) hst (rdO (mtR (mtR (mtR mhR)))) gx567) ?_
              refine Ry rfl rfl wn (ym (v := .bool x567) (et rfl rfl)) ?_
              refine Ry rfl rfl (wg rfl rfl rfl (bfalse c571)) (ym (v := h11.v) (et rfl e105_6)) ?_
              refine Ry rfl rfl (wg rfl rfl rfl (bfalse c571)) (ym (v := h538.v) (et rfl e105_11)) ?_
              refine Ry rfl rfl (wg rfl rfl rfl (bfalse c571)) (ym (v := .int .i64 x550) (et rfl e105_12)) ?_
              refine Ry rfl rfl (wg rfl rfl rfl (bfalse c571)) (yIa SL_22 (et rfl rfl) (et rfl rfl) hst (rdI (mtF mhF)) gx572) ?_
              refine Ry rfl rfl (wg rfl rfl rfl (bfalse c571)) (yI O_3 (et rfl rfl) hst (rdI (mtF mhF)) gx572) ?_
              refine Ry rfl rfl (wg rfl rfl rfl (bfalse c571)) (yIa SL_54 (et rfl rfl) (et rfl rfl) hst (rdO (mtR mhR)) gx573) ?_
              refine Ry rfl rfl (wg rfl rfl rfl (bfalse c571)) (yB O_4 (et rfl rfl) hst (rdO (mtR mhR)) gx573) ?_
              refine Ry rfl rfl (wg rfl rfl rfl (bfalse c571)) (ynot (et rfl rfl)) ?_
              refine Ry rfl rfl wn (ypf (v := .bool r568) (et rfl rfl) (bfalse c571) (eqv hr108 (et rfl rfl))) ?_
              refine Ry rfl rfl wn (yIs SL_54 (et rfl rfl) (et rfl rfl) hst (rdO (mtR (mtR (mtR mhR)))) gx569) ?_
              refine Rn QSn ?_
              refine Lc rfl ?_ LAn
              replace hst := hst.pk 4 [3, 0, 0, 0] rfl
              refine LT wn (r_sti (cs := [.bool r568]) hst O_4 rfl (et rfl rfl) (et rfl rfl) rfl mkB gx569) ?_
              clear hst
              intro w hst
              refine DRz (l1 := []) (l2 := []) (by kernel_rfl) (by kernel_rfl) ?_
              refine Rn QSn ?_
              exact j106 _ _ ⟨e105_2, e105_5, e105_6, e105_7, e105_8, e105_9, e105_10, e105_11, e105_12, (hst.pk 4 [1, 1, 1, 0] rfl)⟩
          clear hst
          rintro f w ⟨e570_2, e570_5, e570_6, e570_7, e570_8, e570_9, e570_10, e570_11, e570_12, hst⟩
          refine q282 _ _ _ ?_
          refine k281 _ _ ?_
          refine wp_region_lit ?_
          refine Y wn rfl (ym (v := .int .i64 x550) (et rfl e570_12)) ?_
          refine Y wn rfl (yadd (et rfl rfl) rfl) ?_
          refine Y wn rfl (ya (v := .int .i64 (wa .i64 x550 1)) (et rfl rfl)) ?_
          refine wpList_nil ?_
          obtain rfl := someI hM105
          exact n105 _ _ _ rfl ⟨_, _, _, rfl, rfl, e570_2, e570_5, e570_6, e570_7, e570_8, e570_9, e570_10, e570_11, rfl, hst⟩
        · refine condF (et rfl rfl) (decide_eq_false c564) ?_
          refine wp_exit ?_
          refine z279 _ _ _ rfl ?_
          obtain rfl := someI hM105
          refine zz105 _ _ _ _ rfl rfl ?_
          exact je105_0 _ _ _ e105_2 e105_5 e105_6 e105_7 e105_8 e105_9 e105_10 (hst.facts (allC mhF (allT (allT allI)))) (ho105 _ rfl)
      · refine condF (et rfl rfl) (decide_eq_false c535) ?_
        refine wp_exit ?_
        refine z264 _ _ _ rfl ?_
        obtain rfl := someI hM94
        refine zz94 _ _ _ _ rfl rfl ?_
        exact je94_0 _ _ _ e94_2 e94_5 e94_6 e94_8 e94_9 (hst.facts (allT allI)) (ho94 _ rfl)
    · refine condF (et rfl rfl) (decide_eq_false c392) ?_
      refine wp_exit ?_
      refine z193 _ _ _ rfl ?_
      obtain rfl := someI hM73
      refine zz73 _ _ _ _ rfl rfl ?_
      exact je73_0 _ _ _ _ e73_8 (hst.pk 4 [3] rfl) (ho73 _ rfl)

theorem sparsekit_Perm_ok {w0 : World} {ros : List Fact} {rs : List Res} {w : World} {x1 : List Int} {x3 : Int} {h2 : Hdr} {out : Bool} (hM : sparsekit_Perm x1 x3 = some out) (q1 : imm (rI .i64) h2.v x1 ∈ ros) (hst : St w0 ros (rs) w) :
    Calls Try.prog 16 #[h2.v, .int .i64 x3] w (fun e w => e = .returned (.bool out) ∧ St w0 (ros) (rs) w) := by
  refine enterQ Try.func16 rfl Try.ntmps16 rfl fun Q hQ => ?_
  refine seqQ fun Q1 k1 z1 => ?_
  refine wp_region_lit ?_
  refine Y wn rfl (ya (v := .bool false) rfl) ?_
  refine wpList_nil ?_
  refine k1 _ _ ?_
  refine seqQ fun Q2 k2 z2 => ?_
  refine seqQ fun Q3 k3 z3 => ?_
  refine wp_region_lit ?_
  refine Y wn rfl (ym (v := h2.v) (et rfl rfl)) ?_
  refine Y wn rfl (yLen SL_22 (et rfl rfl) hst (rdI q1)) ?_
  refine Y wn rfl (ym (v := .int .i64 x3) (et rfl rfl)) ?_
  refine Y wn rfl (yneq (et rfl rfl) (et rfl rfl)) ?_
  refine wpList_nil ?_
  refine k3 _ _ ?_
  rcases iteS hM with ⟨c4, hM⟩ | ⟨c4, hM⟩
  · refine condF (et rfl rfl) (nF (decide_eq_true c4)) ?_
    refine wp_skip ?_
    refine k2 _ _ ?_
    refine seqQ fun Q4 k4 z4 => ?_
    refine wp_region_lit ?_
    refine Y wn rfl (ym (v := .int .i64 x3) (et rfl rfl)) ?_
    obtain ⟨x7, gx7, hM⟩ := bs hM
    refine YH wn rfl (rMk hst SL_54 (et rfl rfl) gx7) ?_
    clear hst
    intro h5 w hst
    refine Y wn rfl (ya (v := h5.v) (et rfl rfl)) ?_
    refine wpList_nil ?_
    refine k4 _ _ ?_
    refine seqQ fun Q5 k5 z5 => ?_
    refine seqQ fun Q6 k6 z6 => ?_
    refine wp_region_lit ?_
    refine Y wn rfl (ya (v := .int .i64 0) rfl) ?_
    refine wpList_nil ?_
    refine k6 _ _ ?_
    refine blockQ fun Q7 q7 => ?_
    obtain ⟨o5, go5, hM⟩ := bs hM
    have je5_0 : ∀ (f : Nat → Value) (w : World), St w0 (ros) (rs) w → .inl () = o5 → Q7 (.exit 0) (fr 46 f) w := by
      intro f w hst ho
      subst ho
      refine q7 _ _ _ ?_
      refine k5 _ _ ?_
      refine seqQ fun Q22 k22 z22 => ?_
      refine wp_region_lit ?_
      refine Y wn rfl (ya (v := .bool true) rfl) ?_
      refine wpList_nil ?_
      refine k22 _ _ ?_
      refine wp_ret ?_
      obtain rfl := someI hM
      exact hQ _ _ _ (fin1r Try.results16 ⟨rfl, rfl⟩ ⟨rfl, hst⟩)
    have je5_1 : ∀ (f : Nat → Value) (w : World), f 4 = .bool false → St w0 (ros) (rs) w → .inr () = o5 → Q7 .ret (fr 46 f) w := by
      intro f w eje5_1_4 hst ho
      subst ho
      refine q7 _ _ _ ?_
      refine z5 _ _ _ rfl ?_
      obtain rfl := someI hM
      exact hQ _ _ _ (fin1r Try.results16 ⟨rfl, eje5_1_4⟩ ⟨rfl, hst⟩)
    refine loopQ (fun s a w => ∃ (x25 : List Bool) (x26 : Int) (f : Nat → Value), (x25, x26) = s ∧ a = fr 46 f ∧ f 0 = h2.v ∧ f 1 = .int .i64 x3 ∧ f 5 = h5.v ∧ f 6 = .int .i64 x26 ∧ St w0 (ros) (row 4 rB h5.v x25 :: rs) w) go5 ⟨_, _, _, rfl, rfl, rfl, rfl, rfl, rfl, hst⟩ ?_
    clear hst
    rintro _ _ w r5_ ⟨x25, x26, f, rfl, rfl, e5_0, e5_1, e5_5, e5_6, hst⟩ hM5 ho5 Q100005 n5 zz5
    refine seqQ fun Q23 k23 z23 => ?_
    refine seqQ fun Q24 k24 z24 => ?_
    refine wp_region_lit ?_
    refine Y wn rfl (ym (v := .int .i64 x26) (et rfl e5_6)) ?_
    refine Y wn rfl (ym (v := .int .i64 x3) (et rfl e5_1)) ?_
    refine Y wn rfl (ylss (et rfl rfl) (et rfl rfl)) ?_
    refine wpList_nil ?_
    refine k24 _ _ ?_
    rcases iteS hM5 with ⟨c46, hM5⟩ | ⟨c46, hM5⟩
    · refine condT (et rfl rfl) (decide_eq_true c46) ?_
      refine wp_skip ?_
      refine k23 _ _ ?_
      refine seqQ fun Q25 k25 z25 => ?_
      refine blockQ fun Q26 q26 => ?_
      refine seqQ fun Q27 k27 z27 => ?_
      refine seqQ fun Q28 k28 z28 => ?_
      refine wp_region_lit ?_
      refine Y wn rfl (ym (v := h2.v) (et rfl e5_0)) ?_
      refine Y wn rfl (ym (v := .int .i64 x26) (et rfl e5_6)) ?_
      obtain ⟨x47, gx47, hM5⟩ := bs hM5
      refine Y wn rfl (yIa SL_22 (et rfl rfl) (et rfl rfl) hst (rdI q1) gx47) ?_
      refine Y wn rfl (yI O_3 (et rfl rfl) hst (rdI q1) gx47) ?_
      refine Y wn rfl (ylss (et rfl rfl) rfl) ?_
      refine Y wn rfl (ym (v := .bool (decide (x47 < 0))) (et rfl rfl)) ?_
      obtain ⟨r49, gr49, hM5⟩ := bs hM5
      refine joinW 7 (fun f w => f 0 = h2.v ∧ f 1 = .int .i64 x3 ∧ f 5 = h5.v ∧ f 6 = .int .i64 x26 ∧ f 30 = .bool r49 ∧ St w0 (ros) (row 4 rB h5.v x25 :: rs) w) (fun j6 => ?_) ?_
      · rcases iteS gr49 with ⟨c51, gr49⟩ | ⟨c51, gr49⟩
        · refine Gn (wx rfl rfl rfl (decide_eq_true c51)) rfl ?_
          refine Gn (wx rfl rfl rfl (decide_eq_true c51)) rfl ?_
          refine Gn (wx rfl rfl rfl (decide_eq_true c51)) rfl ?_
          refine Gn (wx rfl rfl rfl (decide_eq_true c51)) rfl ?_
          refine Gn (wx rfl rfl rfl (decide_eq_true c51)) rfl ?_
          refine Gn (wx rfl rfl rfl (decide_eq_true c51)) rfl ?_
          refine Y wn rfl (ypt (v := .bool true) (et rfl rfl) (decide_eq_true c51) rfl) ?_
          obtain rfl := someI gr49
          exact j6 _ _ ⟨e5_0, e5_1, e5_5, e5_6, rfl, hst⟩
        · refine Y (wg rfl rfl rfl (decide_eq_false c51)) rfl (ym (v := h2.v) (et rfl e5_0)) ?_
          refine Y (wg rfl rfl rfl (decide_eq_false c51)) rfl (ym (v := .int .i64 x26) (et rfl e5_6)) ?_
          obtain ⟨x52, gx52, gr49⟩ := bs gr49
          refine Y (wg rfl rfl rfl (decide_eq_false c51)) rfl (yIa SL_22 (et rfl rfl) (et rfl rfl) hst (rdI q1) gx52) ?_
          refine Y (wg rfl rfl rfl (decide_eq_false c51)) rfl (yI O_3 (et rfl rfl) hst (rdI q1) gx52) ?_
          refine Y (wg rfl rfl rfl (decide_eq_false c51)) rfl (ym (v := .int .i64 x3) (et rfl e5_1)) ?_
          refine Y (wg rfl rfl rfl (decide_eq_false c51)) rfl (ygeq (et rfl rfl) (et rfl rfl)) ?_
          refine Y wn rfl (ypf (v := .bool (decide (x3 ≤ x52))) (et rfl rfl) (decide_eq_false c51) (et rfl rfl)) ?_
          obtain rfl := someI gr49
          exact j6 _ _ ⟨e5_0, e5_1, e5_5, e5_6, rfl, hst⟩
      clear hst
      rintro f w ⟨e50_0, e50_1, e50_5, e50_6, e50_30, hst⟩
      refine Y wn rfl (ym (v := .bool r49) (et rfl e50_30)) ?_
      obtain ⟨r55, gr55, hM5⟩ := bs hM5
      refine joinW 8 (fun f w => f 0 = h2.v ∧ f 1 = .int .i64 x3 ∧ f 5 = h5.v ∧ f 6 = .int .i64 x26 ∧ f 39 = .bool r55 ∧ St w0 (ros) (row 4 rB h5.v x25 :: rs) w) (fun j7 => ?_) ?_
      · rcases iteS gr55 with ⟨c57, gr55⟩ | ⟨c57, gr55⟩
        · refine Gn (wx rfl rfl rfl c57) rfl ?_
          refine Gn (wx rfl rfl rfl c57) rfl ?_
          refine Gn (wx rfl rfl rfl c57) rfl ?_
          refine Gn (wx rfl rfl rfl c57) rfl ?_
          refine Gn (wx rfl rfl rfl c57) rfl ?_
          refine Gn (wx rfl rfl rfl c57) rfl ?_
          refine Gn (wx rfl rfl rfl c57) rfl ?_
          refine Y wn rfl (ypt (v := .bool true) (et rfl rfl) c57 rfl) ?_
          obtain rfl := someI gr55
          exact j7 _ _ ⟨e50_0, e50_1, e50_5, e50_6, rfl, hst⟩
        · refine Y (wg rfl rfl rfl (bfalse c57)) rfl (ym (v := h5.v) (et rfl e50_5)) ?_
          refine Y (wg rfl rfl rfl (bfalse c57)) rfl (ym (v := h2.v) (et rfl e50_0)) ?_
          refine Y (wg rfl rfl rfl (bfalse c57)) rfl (ym (v := .int .i64 x26) (et rfl e50_6)) ?_
          obtain ⟨x58, gx58, gr55⟩ := bs gr55
          refine Y (wg rfl rfl rfl (bfalse c57)) rfl (yIa SL_22 (et rfl rfl) (et rfl rfl) hst (rdI q1) gx58) ?_
          refine Y (wg rfl rfl rfl (bfalse c57)) rfl (yI O_3 (et rfl rfl) hst (rdI q1) gx58) ?_
          obtain ⟨x59, gx59, gr55⟩ := bs gr55
          refine Y (wg rfl rfl rfl (bfalse c57)) rfl (yIa SL_54 (et rfl rfl) (et rfl rfl) hst (rdO mhR) gx59) ?_
          refine Y (wg rfl rfl rfl (bfalse c57)) rfl (yB O_4 (et rfl rfl) hst (rdO mhR) gx59) ?_
          refine Y wn rfl (ypf (v := .bool x59) (et rfl rfl) (bfalse c57) (et rfl rfl)) ?_
          obtain rfl := someI gr55
          exact j7 _ _ ⟨e50_0, e50_1, e50_5, e50_6, rfl, hst⟩
      clear hst
      rintro f w ⟨e56_0, e56_1, e56_5, e56_6, e56_39, hst⟩
      refine wpList_nil ?_
      refine k28 _ _ ?_
      rcases iteS hM5 with ⟨c60, hM5⟩ | ⟨c60, hM5⟩
      · refine condT (et rfl e56_39) c60 ?_
        refine seqQ fun Q29 k29 z29 => ?_
        refine wp_region_lit ?_
        refine Y wn rfl (ya (v := .bool false) rfl) ?_
        refine wpList_nil ?_
        refine k29 _ _ ?_
        refine wp_ret ?_
        refine z27 _ _ _ rfl ?_
        refine q26 _ _ _ ?_
        refine z25 _ _ _ rfl ?_
        obtain rfl := someI hM5
        refine zz5 _ _ _ _ rfl rfl ?_
        exact je5_1 _ _ rfl (hst.pk 1 [] rfl) (ho5 _ rfl)
      · refine condF (et rfl e56_39) (bfalse c60) ?_
        refine wp_skip ?_
        refine k27 _ _ ?_
        refine wp_region_lit ?_
        refine Y wn rfl (ym (v := h5.v) (et rfl e56_5)) ?_
        refine Y wn rfl (ym (v := h2.v) (et rfl e56_0)) ?_
        refine Y wn rfl (ym (v := .int .i64 x26) (et rfl e56_6)) ?_
        obtain ⟨x61, gx61, hM5⟩ := bs hM5
        refine Y wn rfl (yIa SL_22 (et rfl rfl) (et rfl rfl) hst (rdI q1) gx61) ?_
        refine Y wn rfl (yI O_3 (et rfl rfl) hst (rdI q1) gx61) ?_
        obtain ⟨x62, gx62, hM5⟩ := bs hM5
        refine Y wn rfl (yIs SL_54 (et rfl rfl) (et rfl rfl) hst (rdO mhR) gx62) ?_
        refine YT wn rfl (r_sti (cs := [.bool true]) hst O_4 rfl (et rfl rfl) rfl rfl mkB gx62) ?_
        clear hst
        intro w hst
        refine wpList_nil ?_
        refine q26 _ _ _ ?_
        refine k25 _ _ ?_
        refine wp_region_lit ?_
        refine Y wn rfl (ym (v := .int .i64 x26) (et rfl e56_6)) ?_
        refine Y wn rfl (yadd (et rfl rfl) rfl) ?_
        refine Y wn rfl (ya (v := .int .i64 (wa .i64 x26 1)) (et rfl rfl)) ?_
        refine wpList_nil ?_
        obtain rfl := someI hM5
        exact n5 _ _ _ rfl ⟨_, _, _, rfl, rfl, e56_0, e56_1, e56_5, rfl, hst⟩
    · refine condF (et rfl rfl) (decide_eq_false c46) ?_
      refine wp_exit ?_
      refine z23 _ _ _ rfl ?_
      obtain rfl := someI hM5
      refine zz5 _ _ _ _ rfl rfl ?_
      exact je5_0 _ _ (hst.pk 1 [] rfl) (ho5 _ rfl)
  · refine condT (et rfl rfl) (nT (decide_eq_false c4)) ?_
    refine seqQ fun Q30 k30 z30 => ?_
    refine wp_region_lit ?_
    refine Y wn rfl (ya (v := .bool false) rfl) ?_
    refine wpList_nil ?_
    refine k30 _ _ ?_
    refine wp_ret ?_
    refine z2 _ _ _ rfl ?_
    obtain rfl := someI hM
    exact hQ _ _ _ (fin1r Try.results16 ⟨rfl, rfl⟩ ⟨rfl, hst⟩)

theorem sparselaw12_GraphComponents_ok {w0 : World} {ros : List Fact} {rs : List Res} {w : World} {x1 : Int} {x2 : List Int} {h3 : Hdr} {out : Bool} (hM : sparselaw12_GraphComponents x1 x2 = some out) (q1 : imm (rI .i64) h3.v x2 ∈ ros) (hst : St w0 ros (rs) w) :
    Calls Try.prog 4 #[.int .i64 x1, h3.v] w (fun e w => e = .returned (.bool out) ∧ St w0 (ros) (rs) w) := by
  refine enterQ Try.func4 rfl Try.ntmps4 rfl fun Q hQ => ?_
  refine seqQ fun Q1 k1 z1 => ?_
  refine wp_region_lit ?_
  refine Y wn rfl (ya (v := .bool false) rfl) ?_
  refine wpList_nil ?_
  refine k1 _ _ ?_
  refine seqQ fun Q2 k2 z2 => ?_
  refine seqQ fun Q3 k3 z3 => ?_
  refine wp_region_lit ?_
  refine Y wn rfl (ym (v := h3.v) (et rfl rfl)) ?_
  refine Y wn rfl (yLen SL_22 (et rfl rfl) hst (rdI q1)) ?_
  refine Y wn rfl (ygtr (et rfl rfl) rfl) ?_
  refine wpList_nil ?_
  refine k3 _ _ ?_
  rcases iteS hM with ⟨c4, hM⟩ | ⟨c4, hM⟩
  · refine condT (et rfl rfl) (decide_eq_true c4) ?_
    refine seqQ fun Q4 k4 z4 => ?_
    refine wp_region_lit ?_
    obtain ⟨r5, gr5, hM⟩ := bs hM
    refine Yc wn rfl (yCall FN_9 a0) (sparselaw12_awake_ok (hM := gr5) (hst := hst) ) ?_
    clear hst
    rintro _ w ⟨rfl, hst⟩
    refine ⟨_, rfl, ?_⟩
    refine Y wn rfl (ya (v := .bool r5) (et rfl rfl)) ?_
    refine wpList_nil ?_
    refine k4 _ _ ?_
    refine wp_ret ?_
    refine z2 _ _ _ rfl ?_
    obtain rfl := someI hM
    exact hQ _ _ _ (fin1r Try.results4 ⟨rfl, rfl⟩ ⟨rfl, hst⟩)
  · refine condF (et rfl rfl) (decide_eq_false c4) ?_
    refine wp_skip ?_
    refine k2 _ _ ?_
    refine seqQ fun Q5 k5 z5 => ?_
    refine wp_region_lit ?_
    refine Y wn rfl (ym (v := .int .i64 x1) (et rfl rfl)) ?_
    obtain ⟨r6, gr6, hM⟩ := bs hM
    refine Yc wn rfl (yCall FN_10 (a2 (et rfl rfl) rfl)) (sparsekit_Place_ok (hM := gr6) (hst := hst) ) ?_
    clear hst
    rintro _ w ⟨rfl, hst⟩
    refine ⟨_, rfl, ?_⟩
    refine Y wn rfl (ya (v := .int .i64 r6) (et rfl rfl)) ?_
    refine wpList_nil ?_
    refine k5 _ _ ?_
    refine seqQ fun Q6 k6 z6 => ?_
    refine wp_region_lit ?_
    refine Y wn rfl (ym (v := .int .i64 r6) (et rfl rfl)) ?_
    refine Y wn rfl (ym (v := h3.v) (et rfl rfl)) ?_
    obtain ⟨r7, gr7, hM⟩ := bs hM
    refine Yc wn rfl (yCall FN_11 (a2 (et rfl rfl) (et rfl rfl))) (sparsemake_Graph_ok (hM := gr7) (hst := hst) (q1 := q1)) ?_
    clear hst
    rintro _ w ⟨h8, rfl, hst⟩
    refine ⟨_, rfl, ?_⟩
    refine YB wn rfl (rAl hst ZT_27) ?_
    clear hst
    intro b9 w hst
    refine YT wn rfl (r_stbn (vals' := [h8.v]) (us := [h8.v]) hst ST_27 (et rfl rfl) (et rfl rfl) rfl rfl (one_of rfl) rfl) ?_
    clear hst
    intro w hst
    refine wpList_nil ?_
    refine k6 _ _ ?_
    refine seqQ fun Q7 k7 z7 => ?_
    refine wp_region_lit ?_
    refine Y wn rfl (yLbs (us := [h8.v]) ST_27 (et rfl rfl) hst mhR rfl rfl) ?_
    obtain ⟨r10, gr10, hM⟩ := bs hM
    replace hst := hst.pk 2 [1, 0] rfl
    replace hst := hst.fz
    refine Yc wn rfl (yCall FN_14 (a1 (et rfl rfl))) (graph_Components_ok (hM := gr10) (hst := hst) (q1 := mhF)) ?_
    clear hst
    rintro _ w ⟨h11, rfl, hst⟩
    refine ⟨_, rfl, ?_⟩
    refine Y wn rfl (ya (v := h11.v) (et rfl rfl)) ?_
    refine wpList_nil ?_
    refine k7 _ _ ?_
    refine seqQ fun Q8 k8 z8 => ?_
    refine wp_region_lit ?_
    refine Y wn rfl (ya (v := hnil.v) rfl) ?_
    refine wpList_nil ?_
    refine k8 _ _ ?_
    refine seqQ fun Q9 k9 z9 => ?_
    refine wp_region_lit ?_
    refine Y wn rfl (ym (v := .int .i64 r6) (et rfl rfl)) ?_
    obtain ⟨x14, gx14, hM⟩ := bs hM
    refine YH wn rfl (rMk hst SL_22 (et rfl rfl) gx14) ?_
    clear hst
    intro h12 w hst
    refine Y wn rfl (ya (v := h12.v) (et rfl rfl)) ?_
    refine wpList_nil ?_
    refine k9 _ _ ?_
    refine seqQ fun Q10 k10 z10 => ?_
    refine seqQ fun Q11 k11 z11 => ?_
    refine wp_region_lit ?_
    refine Y wn rfl (ya (v := .int .i64 0) rfl) ?_
    refine wpList_nil ?_
    refine k11 _ _ ?_
    refine blockQ fun Q12 q12 => ?_
    obtain ⟨o27, go27, hM⟩ := bs hM
    have je27_0 : ∀ (x248 : List Int) (x249 : List Int) (h247 : Hdr) (f : Nat → Value) (w : World), f 0 = .int .i64 r6 → f 5 = .pointer (some ⟨b9, 0, none⟩) → f 7 = h247.v → f 8 = h12.v → St w0 (imm (rS (rI .i64)) h8.v r7 :: ros) (box b9 27 [h8.v] :: row 3 (rI .i64) h247.v x248 :: row 3 (rI .i64) h12.v x249 :: rs) w → .inl (x248, x249) = o27 → Q12 (.exit 0) (fr 177 f) w := by
      intro x248 x249 h247 f w eje27_0_0 eje27_0_5 eje27_0_7 eje27_0_8 hst ho
      subst ho
      refine q12 _ _ _ ?_
      refine k10 _ _ ?_
      refine seqQ fun Q115 k115 z115 => ?_
      refine seqQ fun Q116 k116 z116 => ?_
      refine wp_region_lit ?_
      refine Y wn rfl (ym (v := h247.v) (et rfl eje27_0_7)) ?_
      refine Y wn rfl (ym (v := .int .i64 r6) (et rfl eje27_0_0)) ?_
      obtain ⟨r250, gr250, hM⟩ := bs hM
      replace hst := hst.pk 2 [1, 0] rfl
      replace hst := hst.fz
      refine Yc wn rfl (yCall FN_16 (a2 (et rfl rfl) (et rfl rfl))) (sparsekit_Perm_ok (hM := gr250) (hst := hst) (q1 := mhF)) ?_
      clear hst
      rintro _ w ⟨rfl, hst⟩
      refine ⟨_, rfl, ?_⟩
      refine Y wn rfl (ynot (et rfl rfl)) ?_
      refine wpList_nil ?_
      refine k116 _ _ ?_
      rcases iteS hM with ⟨c251, hM⟩ | ⟨c251, hM⟩
      · refine condF (et rfl rfl) (nF c251) ?_
        refine wp_skip ?_
        refine k115 _ _ ?_
        refine seqQ fun Q117 k117 z117 => ?_
        refine seqQ fun Q118 k118 z118 => ?_
        refine wp_region_lit ?_
        refine Y wn rfl (ya (v := .int .i64 0) rfl) ?_
        refine wpList_nil ?_
        refine k118 _ _ ?_
        refine blockQ fun Q119 q119 => ?_
        obtain ⟨o30, go30, hM⟩ := bs hM
        have je30_0 : ∀ (f : Nat → Value) (w : World), St w0 (ros) (rs) w → .inl () = o30 → Q119 (.exit 6) (fr 177 f) w := by
          intro f w hst ho
          subst ho
          refine q119 _ _ _ ?_
          refine k117 _ _ ?_
          refine seqQ fun Q168 k168 z168 => ?_
          refine wp_region_lit ?_
          obtain ⟨r314, gr314, hM⟩ := bs hM
          refine Yc wn rfl (yCall FN_9 a0) (sparselaw12_awake_ok (hM := gr314) (hst := hst) ) ?_
          clear hst
          rintro _ w ⟨rfl, hst⟩
          refine ⟨_, rfl, ?_⟩
          refine Y wn rfl (ya (v := .bool r314) (et rfl rfl)) ?_
          refine wpList_nil ?_
          refine k168 _ _ ?_
          refine wp_ret ?_
          obtain rfl := someI hM
          exact hQ _ _ _ (fin1r Try.results4 ⟨rfl, rfl⟩ ⟨rfl, hst⟩)
        have je30_1 : ∀ (f : Nat → Value) (w : World), f 4 = .bool false → St w0 (ros) (rs) w → .inr () = o30 → Q119 .ret (fr 177 f) w := by
          intro f w eje30_1_4 hst ho
          subst ho
          refine q119 _ _ _ ?_
          refine z117 _ _ _ rfl ?_
          obtain rfl := someI hM
          exact hQ _ _ _ (fin1r Try.results4 ⟨rfl, eje30_1_4⟩ ⟨rfl, hst⟩)
        refine loopQ (fun s a w => ∃ (x282 : Int) (f : Nat → Value), x282 = s ∧ a = fr 177 f ∧ f 0 = .int .i64 r6 ∧ f 5 = .pointer (some ⟨b9, 0, none⟩) ∧ f 8 = h12.v ∧ f 14 = .int .i64 x282 ∧ St w0 (imm (rS (rI .i64)) h8.v r7 :: ros) (box b9 27 [h8.v] :: row 3 (rI .i64) h12.v x249 :: rs) w) go30 ⟨_, _, rfl, rfl, eje27_0_0, eje27_0_5, eje27_0_8, rfl, (hst.facts (allC (mtF mhF) (allT (allT allI))))⟩ ?_
        clear hst
        rintro _ _ w r30_ ⟨x282, f, rfl, rfl, e30_0, e30_5, e30_8, e30_14, hst⟩ hM30 ho30 Q100030 n30 zz30
        refine seqQ fun Q169 k169 z169 => ?_
        refine seqQ fun Q170 k170 z170 => ?_
        refine wp_region_lit ?_
        refine Y wn rfl (ym (v := .int .i64 x282) (et rfl e30_14)) ?_
        refine Y wn rfl (ym (v := .int .i64 r6) (et rfl e30_0)) ?_
        refine Y wn rfl (ylss (et rfl rfl) (et rfl rfl)) ?_
        refine wpList_nil ?_
        refine k170 _ _ ?_
        rcases iteS hM30 with ⟨c315, hM30⟩ | ⟨c315, hM30⟩
        · refine condT (et rfl rfl) (decide_eq_true c315) ?_
          refine wp_skip ?_
          refine k169 _ _ ?_
          refine seqQ fun Q171 k171 z171 => ?_
          refine blockQ fun Q172 q172 => ?_
          refine seqQ fun Q173 k173 z173 => ?_
          refine wp_region_lit ?_
          refine Y wn rfl (ya (v := .int .i64 0) rfl) ?_
          refine wpList_nil ?_
          refine k173 _ _ ?_
          refine blockQ fun Q174 q174 => ?_
          obtain ⟨o31, go31, hM30⟩ := bs hM30
          have je31_0 : ∀ (f : Nat → Value) (w : World), f 0 = .int .i64 r6 → f 5 = .pointer (some ⟨b9, 0, none⟩) → f 8 = h12.v → f 14 = .int .i64 x282 → St w0 (imm (rS (rI .i64)) h8.v r7 :: ros) (box b9 27 [h8.v] :: row 3 (rI .i64) h12.v x249 :: rs) w → .inl () = o31 → Q174 (.exit 8) (fr 177 f) w := by
            intro f w eje31_0_0 eje31_0_5 eje31_0_8 eje31_0_14 hst ho
            subst ho
            refine q174 _ _ _ ?_
            refine q172 _ _ _ ?_
            refine k171 _ _ ?_
            refine wp_region_lit ?_
            refine Y wn rfl (ym (v := .int .i64 x282) (et rfl eje31_0_14)) ?_
            refine Y wn rfl (yadd (et rfl rfl) rfl) ?_
            refine Y wn rfl (ya (v := .int .i64 (wa .i64 x282 1)) (et rfl rfl)) ?_
            refine wpList_nil ?_
            obtain rfl := someI hM30
            exact n30 _ _ _ rfl ⟨_, _, rfl, rfl, eje31_0_0, eje31_0_5, eje31_0_8, rfl, hst⟩
          have je31_1 : ∀ (f : Nat → Value) (w : World), f 4 = .bool false → St w0 (ros) (rs) w → .inr () = o31 → Q174 .ret (fr 177 f) w := by
            intro f w eje31_1_4 hst ho
            subst ho
            refine q174 _ _ _ ?_
            refine q172 _ _ _ ?_
            refine z171 _ _ _ rfl ?_
            obtain rfl := someI hM30
            refine zz30 _ _ _ _ rfl rfl ?_
            exact je30_1 _ _ eje31_1_4 hst (ho30 _ rfl)
          refine loopQ (fun s a w => ∃ (x325 : Int) (f : Nat → Value), x325 = s ∧ a = fr 177 f ∧ f 0 = .int .i64 r6 ∧ f 5 = .pointer (some ⟨b9, 0, none⟩) ∧ f 8 = h12.v ∧ f 14 = .int .i64 x282 ∧ f 15 = .int .i64 x325 ∧ St w0 (imm (rS (rI .i64)) h8.v r7 :: ros) (box b9 27 [h8.v] :: row 3 (rI .i64) h12.v x249 :: rs) w) go31 ⟨_, _, rfl, rfl, e30_0, e30_5, e30_8, e30_14, rfl, hst⟩ ?_
          clear hst
          rintro _ _ w r31_ ⟨x325, f, rfl, rfl, e31_0, e31_5, e31_8, e31_14, e31_15, hst⟩ hM31 ho31 Q100031 n31 zz31
          refine seqQ fun Q187 k187 z187 => ?_
          refine seqQ fun Q188 k188 z188 => ?_
          refine wp_region_lit ?_
          refine Y wn rfl (ym (v := .int .i64 x325) (et rfl e31_15)) ?_
          refine Y wn rfl (yFb FL_27_0 (et rfl e31_5)) ?_
          refine Y wn rfl (yLb (u := h8.v) O_25 (et rfl rfl) hst mhR rfl) ?_
          refine Y wn rfl (ym (v := .int .i64 x282) (et rfl e31_14)) ?_
          obtain ⟨x336, gx336, hM31⟩ := bs hM31
          refine Y wn rfl (yIa SL_25 (et rfl rfl) (et rfl rfl) hst (rdI mhF) gx336) ?_
          obtain ⟨h337, hst⟩ := iLs hst mhF gx336
          refine Y wn rfl (yCt O_22 (et rfl rfl) hst (mtF mhF) rfl) ?_
          refine Y wn rfl (yLen SL_22 (et rfl rfl) hst (rdI mhF)) ?_
          refine Y wn rfl (ylss (et rfl rfl) (et rfl rfl)) ?_
          refine wpList_nil ?_
          refine k188 _ _ ?_
          rcases iteS hM31 with ⟨c338, hM31⟩ | ⟨c338, hM31⟩
          · refine condT (et rfl rfl) (decide_eq_true c338) ?_
            refine wp_skip ?_
            refine k187 _ _ ?_
            refine seqQ fun Q189 k189 z189 => ?_
            refine blockQ fun Q190 q190 => ?_
            refine seqQ fun Q191 k191 z191 => ?_
            obtain ⟨x339, gx339, hM31⟩ := bs hM31
            obtain ⟨x341, gx341, hM31⟩ := bs hM31
            obtain ⟨x342, gx342, hM31⟩ := bs hM31
            obtain ⟨x343, gx343, hM31⟩ := bs hM31
            refine wp_drawR [0, 0, 2, 0, 14, 30, 0, 126, 254, 511, 1023, 0, 0, 6144, 14336, 32767] [] 0 folM (by kernel_rfl) (by kernel_rfl) (by kernel_rfl) ?_
            replace hst := hst.drew
            refine DRz (l1 := [0, 1, 2, 3, 4, 5, 6, 7, 8, 9, 10, 11, 12, 13, 14, 15]) (l2 := []) (by kernel_rfl) (by kernel_rfl) ?_
            refine Ry rfl rfl wn (ym (v := h12.v) (et rfl e31_8)) ?_
            refine Ry rfl rfl wn (yFb FL_27_0 (et rfl e31_5)) ?_
            refine Ry rfl rfl wn (yLb (u := h8.v) O_25 (et rfl rfl) hst mhR rfl) ?_
            refine Ry rfl rfl wn (ym (v := .int .i64 x282) (et rfl e31_14)) ?_
            refine Ry rfl rfl wn (yIa SL_25 (et rfl rfl) (et rfl rfl) hst (rdI (mtF (mtF mhF))) gx339) ?_
            obtain ⟨h340, hst⟩ := iLs hst (mtF (mtF mhF)) gx339
            refine Ry rfl rfl wn (yCt O_22 (et rfl rfl) hst (mtF mhF) rfl) ?_
            refine Ry rfl rfl wn (ym (v := .int .i64 x325) (et rfl e31_15)) ?_
            refine Ry rfl rfl wn (yIa SL_22 (et rfl rfl) (et rfl rfl) hst (rdI mhF) gx341) ?_
            refine Ry rfl rfl wn (yI O_3 (et rfl rfl) hst (rdI mhF) gx341) ?_
            refine Ry rfl rfl wn (yIa SL_22 (et rfl rfl) (et rfl rfl) hst (rdO (mtR mhR)) gx342) ?_
            refine Ry rfl rfl wn (yI O_3 (et rfl rfl) hst (rdO (mtR mhR)) gx342) ?_
            refine Ry rfl rfl wn (ym (v := h12.v) (et rfl e31_8)) ?_
            refine Ry rfl rfl wn (ym (v := .int .i64 x282) (et rfl e31_14)) ?_
            refine Ry rfl rfl wn (yIa SL_22 (et rfl rfl) (et rfl rfl) hst (rdO (mtR mhR)) gx343) ?_
            refine Ry rfl rfl wn (yI O_3 (et rfl rfl) hst (rdO (mtR mhR)) gx343) ?_
            refine Ry rfl rfl wn (yneq (et rfl rfl) (et rfl rfl)) ?_
            refine Rn QSn ?_
            refine k191 _ _ ?_
            rcases iteS hM31 with ⟨c344, hM31⟩ | ⟨c344, hM31⟩
            · refine condF (et rfl rfl) (nF (decide_eq_true c344)) ?_
              refine wp_skip ?_
              refine q190 _ _ _ ?_
              refine k189 _ _ ?_
              refine wp_region_lit ?_
              refine Y wn rfl (ym (v := .int .i64 x325) (et rfl e31_15)) ?_
              refine Y wn rfl (yadd (et rfl rfl) rfl) ?_
              refine Y wn rfl (ya (v := .int .i64 (wa .i64 x325 1)) (et rfl rfl)) ?_
              refine wpList_nil ?_
              obtain rfl := someI hM31
              exact n31 _ _ _ rfl ⟨_, _, rfl, rfl, e31_0, e31_5, e31_8, e31_14, rfl, (hst.facts (allC (mtF (mtF (mtF (mtF mhF)))) (allT (allT (allT (allT (allT allI)))))))⟩
            · refine condT (et rfl rfl) (nT (decide_eq_false c344)) ?_
              refine seqQ fun Q192 k192 z192 => ?_
              refine wp_region_lit ?_
              refine Y wn rfl (ya (v := .bool false) rfl) ?_
              refine wpList_nil ?_
              refine k192 _ _ ?_
              refine wp_ret ?_
              refine q190 _ _ _ ?_
              refine z189 _ _ _ rfl ?_
              obtain rfl := someI hM31
              refine zz31 _ _ _ _ rfl rfl ?_
              exact je31_1 _ _ rfl ((hst.pk 2 [] rfl).facts (allT (allT (allT (allT (allT allI)))))) (ho31 _ rfl)
          · refine condF (et rfl rfl) (decide_eq_false c338) ?_
            refine wp_exit ?_
            refine z187 _ _ _ rfl ?_
            obtain rfl := someI hM31
            refine zz31 _ _ _ _ rfl rfl ?_
            exact je31_0 _ _ e31_0 e31_5 e31_8 e31_14 (hst.facts (allC (mtF (mtF mhF)) (allT (allT (allT allI))))) (ho31 _ rfl)
        · refine condF (et rfl rfl) (decide_eq_false c315) ?_
          refine wp_exit ?_
          refine z169 _ _ _ rfl ?_
          obtain rfl := someI hM30
          refine zz30 _ _ _ _ rfl rfl ?_
          exact je30_0 _ _ ((hst.pk 2 [] rfl).facts (allT allI)) (ho30 _ rfl)
      · refine condT (et rfl rfl) (nT (bfalse c251)) ?_
        refine seqQ fun Q193 k193 z193 => ?_
        refine wp_region_lit ?_
        refine Y wn rfl (ya (v := .bool false) rfl) ?_
        refine wpList_nil ?_
        refine k193 _ _ ?_
        refine wp_ret ?_
        refine z115 _ _ _ rfl ?_
        obtain rfl := someI hM
        exact hQ _ _ _ (fin1r Try.results4 ⟨rfl, rfl⟩ ⟨rfl, ((hst.pk 2 [] rfl).facts (allT (allT allI)))⟩)
    have je27_1 : ∀ (f : Nat → Value) (w : World), f 4 = .bool false → St w0 (ros) (rs) w → .inr () = o27 → Q12 .ret (fr 177 f) w := by
      intro f w eje27_1_4 hst ho
      subst ho
      refine q12 _ _ _ ?_
      refine z10 _ _ _ rfl ?_
      obtain rfl := someI hM
      exact hQ _ _ _ (fin1r Try.results4 ⟨rfl, eje27_1_4⟩ ⟨rfl, hst⟩)
    replace hst := hst.rowNh 3 (rI .i64)
    refine loopQ (fun s a w => ∃ (x128 : List Int) (x129 : List Int) (x130 : Int) (f : Nat → Value) (h127 : Hdr), (x128, x129, x130) = s ∧ a = fr 177 f ∧ f 0 = .int .i64 r6 ∧ f 5 = .pointer (some ⟨b9, 0, none⟩) ∧ f 6 = h11.v ∧ f 7 = h127.v ∧ f 8 = h12.v ∧ f 9 = .int .i64 x130 ∧ St w0 (imm (rS (rI .i64)) h8.v r7 :: ros) (box b9 27 [h8.v] :: row 22 (rS (rI .i64)) h11.v r10 :: row 3 (rI .i64) h127.v x128 :: row 3 (rI .i64) h12.v x129 :: rs) w) go27 ⟨_, _, _, _, _, rfl, rfl, rfl, rfl, rfl, rfl, rfl, rfl, (hst.pk 4 [3, 2, 0, 0] rfl)⟩ ?_
    clear hst
    rintro _ _ w r27_ ⟨x128, x129, x130, f, h127, rfl, rfl, e27_0, e27_5, e27_6, e27_7, e27_8, e27_9, hst⟩ hM27 ho27 Q100027 n27 zz27
    refine seqQ fun Q194 k194 z194 => ?_
    refine seqQ fun Q195 k195 z195 => ?_
    refine wp_region_lit ?_
    refine Y wn rfl (ym (v := .int .i64 x130) (et rfl e27_9)) ?_
    refine Y wn rfl (ym (v := h11.v) (et rfl e27_6)) ?_
    refine Y wn rfl (yLen SL_25 (et rfl rfl) hst (rdO (mtR mhR))) ?_
    refine Y wn rfl (ylss (et rfl rfl) (et rfl rfl)) ?_
    refine wpList_nil ?_
    refine k195 _ _ ?_
    rcases iteS hM27 with ⟨c345, hM27⟩ | ⟨c345, hM27⟩
    · refine condT (et rfl rfl) (decide_eq_true c345) ?_
      refine wp_skip ?_
      refine k194 _ _ ?_
      refine seqQ fun Q196 k196 z196 => ?_
      refine blockQ fun Q197 q197 => ?_
      refine seqQ fun Q198 k198 z198 => ?_
      refine seqQ fun Q199 k199 z199 => ?_
      obtain ⟨x346, gx346, hM27⟩ := bs hM27
      obtain ⟨r348, gr348, hM27⟩ := bs hM27
      obtain ⟨r349, gr349, hM27⟩ := bs hM27
      refine joinN (n := 177) (fun f w => f 0 = .int .i64 r6 ∧ f 5 = .pointer (some ⟨b9, 0, none⟩) ∧ f 6 = h11.v ∧ f 7 = h127.v ∧ f 8 = h12.v ∧ f 9 = .int .i64 x130 ∧ f 68 = .bool r349 ∧ St w0 (imm (rS (rI .i64)) h8.v r7 :: ros) (box b9 27 [h8.v] :: row 22 (rS (rI .i64)) h11.v r10 :: row 3 (rI .i64) h127.v x128 :: row 3 (rI .i64) h12.v x129 :: rs) w) (fun j32 => ?_) ?_
      · rcases iteS gr348 with ⟨c351, gr348⟩ | ⟨c351, gr348⟩
        · have hr33 := someI gr348
          have c352 : r348 = true := hr33.symm
          rw [if_pos c352] at gr349
          have hr34 := someI gr349
          refine wp_drawR [0, 0, 3, 7, 15, 31, 63, 127, 127, 511, 1023, 2047, 4095, 8191, 16383, 32767, 65535, 131071, 262143, 262143, 1048575, 2097151, 4194303, 8388607, 262143, 262143, 33816575, 117702655, 251920383, 520355839, 1057226751, 2147483647, 4294967295, 8589934591] [11] 1 folM (by kernel_rfl) (by kernel_rfl) (by kernel_rfl) ?_
          replace hst := hst.drew
          refine DRn (l1 := [0, 1, 2, 3, 4, 5, 6, 7, 8, 9, 10]) (l2 := []) (lc := [11]) (by kernel_rfl) (by kernel_rfl) (by kernel_rfl) ?_
          refine Ry rfl rfl wn (ym (v := h11.v) (et rfl e27_6)) ?_
          refine Ry rfl rfl wn (ym (v := .int .i64 x130) (et rfl e27_9)) ?_
          refine Ry rfl rfl wn (yIa SL_25 (et rfl rfl) (et rfl rfl) hst (rdO (mtR mhR)) gx346) ?_
          obtain ⟨h347, ch347, hst⟩ := rLs hst (rdO (mtR mhR)) gx346
          refine Ry rfl rfl wn (yCe O_22 (et rfl rfl) ch347 rfl) ?_
          refine Ry rfl rfl wn (yLen SL_22 (et rfl rfl) hst (rdI mhF)) ?_
          refine Ry rfl rfl wn (yeql (et rfl rfl) rfl) ?_
          refine Ry rfl rfl wn (ym (v := .bool (decide ((x346.length : Int) = 0))) (et rfl rfl)) ?_
          refine Rx rfl rfl (wx rfl rfl rfl (decide_eq_true c351)) ?_
          refine Rx rfl rfl (wx rfl rfl rfl (decide_eq_true c351)) ?_
          refine Rx rfl rfl (wx rfl rfl rfl (decide_eq_true c351)) ?_
          refine Rx rfl rfl (wx rfl rfl rfl (decide_eq_true c351)) ?_
          refine Rn QSn ?_
          refine Lc rfl ?_ LAn
          refine Lx (wx rfl rfl rfl (decide_eq_true c351)) ?_
          refine DRz (l1 := [12, 13, 14, 15, 16, 17, 18, 19, 20, 21, 22, 23, 24, 25, 26, 27, 28, 29, 30, 31, 32, 33]) (l2 := []) (by kernel_rfl) (by kernel_rfl) ?_
          refine Rx rfl rfl (wx rfl rfl rfl (decide_eq_true c351)) ?_
          refine Ry rfl rfl wn (ypt (v := .bool r348) (et rfl rfl) (decide_eq_true c351) (eqv hr33 rfl)) ?_
          refine Ry rfl rfl wn (ym (v := .bool r348) (et rfl rfl)) ?_
          refine Rx rfl rfl (wx rfl rfl rfl c352) ?_
          refine Rx rfl rfl (wx rfl rfl rfl c352) ?_
          refine Rx rfl rfl (wx rfl rfl rfl c352) ?_
          refine Rx rfl rfl (wxu rfl rfl rfl) ?_
          refine Rx rfl rfl (wxu rfl rfl rfl) ?_
          refine Rx rfl rfl (wxu rfl rfl rfl) ?_
          refine Rx rfl rfl (wxu rfl rfl rfl) ?_
          refine Rx rfl rfl (wxu rfl rfl rfl) ?_
          refine Rx rfl rfl (wxu rfl rfl rfl) ?_
          refine Rx rfl rfl (wxu rfl rfl rfl) ?_
          refine Rx rfl rfl (wxu rfl rfl rfl) ?_
          refine Rx rfl rfl (wxu rfl rfl rfl) ?_
          refine Rx rfl rfl (wxu rfl rfl rfl) ?_
          refine Rx rfl rfl (wxu rfl rfl rfl) ?_
          refine Rx rfl rfl (wxu rfl rfl rfl) ?_
          refine Rx rfl rfl (wxu rfl rfl rfl) ?_
          refine Rx rfl rfl (wxu rfl rfl rfl) ?_
          refine Rx rfl rfl (wx rfl rfl rfl c352) ?_
          refine Ry rfl rfl wn (ypt (v := .bool r349) (et rfl rfl) c352 (eqv hr34 rfl)) ?_
          refine Rn QSn ?_
          exact j32 _ _ ⟨e27_0, e27_5, e27_6, e27_7, e27_8, e27_9, rfl, (hst.facts (allC (mtF mhF) (allT (allT allI))))⟩
        · obtain ⟨x353, gx353, gr348⟩ := bs gr348
          obtain ⟨r355, gr355, gr348⟩ := bs gr348
          have hr35 := someI gr348
          rcases iteS gr349 with ⟨c356, gr349⟩ | ⟨c356, gr349⟩
          · have hr36 := someI gr349
            refine wp_drawR [0, 0, 3, 7, 15, 31, 63, 127, 127, 511, 1023, 2047, 4095, 8191, 16383, 32767, 65535, 131071, 262143, 262143, 1048575, 2097151, 4194303, 8388607, 262143, 262143, 33816575, 117702655, 251920383, 520355839, 1057226751, 2147483647, 4294967295, 8589934591] [11] 1 folM (by kernel_rfl) (by kernel_rfl) (by kernel_rfl) ?_
            replace hst := hst.drew
            refine DRn (l1 := [0, 1, 2, 3, 4, 5, 6, 7, 8, 9, 10]) (l2 := []) (lc := [11]) (by kernel_rfl) (by kernel_rfl) (by kernel_rfl) ?_
            refine Ry rfl rfl wn (ym (v := h11.v) (et rfl e27_6)) ?_
            refine Ry rfl rfl wn (ym (v := .int .i64 x130) (et rfl e27_9)) ?_
            refine Ry rfl rfl wn (yIa SL_25 (et rfl rfl) (et rfl rfl) hst (rdO (mtR mhR)) gx346) ?_
            obtain ⟨h347, ch347, hst⟩ := rLs hst (rdO (mtR mhR)) gx346
            refine Ry rfl rfl wn (yCe O_22 (et rfl rfl) ch347 rfl) ?_
            refine Ry rfl rfl wn (yLen SL_22 (et rfl rfl) hst (rdI mhF)) ?_
            refine Ry rfl rfl wn (yeql (et rfl rfl) rfl) ?_
            refine Ry rfl rfl wn (ym (v := .bool (decide ((x346.length : Int) = 0))) (et rfl rfl)) ?_
            refine Ry rfl rfl (wg rfl rfl rfl (decide_eq_false c351)) (ym (v := h11.v) (et rfl e27_6)) ?_
            refine Ry rfl rfl (wg rfl rfl rfl (decide_eq_false c351)) (ym (v := .int .i64 x130) (et rfl e27_9)) ?_
            refine Ry rfl rfl (wg rfl rfl rfl (decide_eq_false c351)) (yIa SL_25 (et rfl rfl) (et rfl rfl) hst (rdO (mtR mhR)) gx353) ?_
            obtain ⟨h354, ch354, hst⟩ := rLs hst (rdO (mtR mhR)) gx353
            refine Ry rfl rfl (wg rfl rfl rfl (decide_eq_false c351)) (yCe O_22 (et rfl rfl) ch354 rfl) ?_
            refine Rn QSn ?_
            refine Lc rfl ?_ LAn
            refine Lk (wg rfl rfl rfl (decide_eq_false c351)) (yCall FN_13 (a1 (et rfl rfl))) (sparsekit_Ascending_ok (hM := gr355) (hst := hst) (q1 := mhF)) ?_
            clear hst
            rintro _ w ⟨rfl, hst⟩
            refine ⟨_, rfl, ?_⟩
            refine DRz (l1 := [12, 13, 14, 15, 16, 17, 18, 19, 20, 21, 22, 23, 24, 25, 26, 27, 28, 29, 30, 31, 32, 33]) (l2 := []) (by kernel_rfl) (by kernel_rfl) ?_
            refine Ry rfl rfl (wg rfl rfl rfl (decide_eq_false c351)) (ynot (et rfl rfl)) ?_
            refine Ry rfl rfl wn (ypf (v := .bool r348) (et rfl rfl) (decide_eq_false c351) (eqv hr35 (et rfl rfl))) ?_
            refine Ry rfl rfl wn (ym (v := .bool r348) (et rfl rfl)) ?_
            refine Rx rfl rfl (wx rfl rfl rfl c356) ?_
            refine Rx rfl rfl (wx rfl rfl rfl c356) ?_
            refine Rx rfl rfl (wx rfl rfl rfl c356) ?_
            refine Rx rfl rfl (wxu rfl rfl rfl) ?_
            refine Rx rfl rfl (wxu rfl rfl rfl) ?_
            refine Rx rfl rfl (wxu rfl rfl rfl) ?_
            refine Rx rfl rfl (wxu rfl rfl rfl) ?_
            refine Rx rfl rfl (wxu rfl rfl rfl) ?_
            refine Rx rfl rfl (wxu rfl rfl rfl) ?_
            refine Rx rfl rfl (wxu rfl rfl rfl) ?_
            refine Rx rfl rfl (wxu rfl rfl rfl) ?_
            refine Rx rfl rfl (wxu rfl rfl rfl) ?_
            refine Rx rfl rfl (wxu rfl rfl rfl) ?_
            refine Rx rfl rfl (wxu rfl rfl rfl) ?_
            refine Rx rfl rfl (wxu rfl rfl rfl) ?_
            refine Rx rfl rfl (wxu rfl rfl rfl) ?_
            refine Rx rfl rfl (wxu rfl rfl rfl) ?_
            refine Rx rfl rfl (wx rfl rfl rfl c356) ?_
            refine Ry rfl rfl wn (ypt (v := .bool r349) (et rfl rfl) c356 (eqv hr36 rfl)) ?_
            refine Rn QSn ?_
            exact j32 _ _ ⟨e27_0, e27_5, e27_6, e27_7, e27_8, e27_9, rfl, (hst.facts (allC (mtF (mtF mhF)) (allT (allT (allT allI)))))⟩
          · obtain ⟨r357, gr357, gr349⟩ := bs gr349
            have hr37 := someI gr349
            rcases iteS gr357 with ⟨c358, gr357⟩ | ⟨c358, gr357⟩
            · obtain ⟨x359, gx359, gr357⟩ := bs gr357
              obtain ⟨x361, gx361, gr357⟩ := bs gr357
              obtain ⟨x362, gx362, gr357⟩ := bs gr357
              obtain ⟨x364, gx364, gr357⟩ := bs gr357
              have hr38 := someI gr357
              refine wp_drawR [0, 0, 3, 7, 15, 31, 63, 127, 127, 511, 1023, 2047, 4095, 8191, 16383, 32767, 65535, 131071, 262143, 262143, 1048575, 2097151, 4194303, 8388607, 262143, 262143, 33816575, 117702655, 251920383, 520355839, 1057226751, 2147483647, 4294967295, 8589934591] [11] 1 folM (by kernel_rfl) (by kernel_rfl) (by kernel_rfl) ?_
              replace hst := hst.drew
              refine DRn (l1 := [0, 1, 2, 3, 4, 5, 6, 7, 8, 9, 10]) (l2 := []) (lc := [11]) (by kernel_rfl) (by kernel_rfl) (by kernel_rfl) ?_
              refine Ry rfl rfl wn (ym (v := h11.v) (et rfl e27_6)) ?_
              refine Ry rfl rfl wn (ym (v := .int .i64 x130) (et rfl e27_9)) ?_
              refine Ry rfl rfl wn (yIa SL_25 (et rfl rfl) (et rfl rfl) hst (rdO (mtR mhR)) gx346) ?_
              obtain ⟨h347, ch347, hst⟩ := rLs hst (rdO (mtR mhR)) gx346
              refine Ry rfl rfl wn (yCe O_22 (et rfl rfl) ch347 rfl) ?_
              refine Ry rfl rfl wn (yLen SL_22 (et rfl rfl) hst (rdI mhF)) ?_
              refine Ry rfl rfl wn (yeql (et rfl rfl) rfl) ?_
              refine Ry rfl rfl wn (ym (v := .bool (decide ((x346.length : Int) = 0))) (et rfl rfl)) ?_
              refine Ry rfl rfl (wg rfl rfl rfl (decide_eq_false c351)) (ym (v := h11.v) (et rfl e27_6)) ?_
              refine Ry rfl rfl (wg rfl rfl rfl (decide_eq_false c351)) (ym (v := .int .i64 x130) (et rfl e27_9)) ?_
              refine Ry rfl rfl (wg rfl rfl rfl (decide_eq_false c351)) (yIa SL_25 (et rfl rfl) (et rfl rfl) hst (rdO (mtR mhR)) gx353) ?_
              obtain ⟨h354, ch354, hst⟩ := rLs hst (rdO (mtR mhR)) gx353
              refine Ry rfl rfl (wg rfl rfl rfl (decide_eq_false c351)) (yCe O_22 (et rfl rfl) ch354 rfl) ?_
              refine Rn QSn ?_
              refine Lc rfl ?_ LAn
              refine Lk (wg rfl rfl rfl (decide_eq_false c351)) (yCall FN_13 (a1 (et rfl rfl))) (sparsekit_Ascending_ok (hM := gr355) (hst := hst) (q1 := mhF)) ?_
              clear hst
              rintro _ w ⟨rfl, hst⟩
              refine ⟨_, rfl, ?_⟩
              refine DRz (l1 := [12, 13, 14, 15, 16, 17, 18, 19, 20, 21, 22, 23, 24, 25, 26, 27, 28, 29, 30, 31, 32, 33]) (l2 := []) (by kernel_rfl) (by kernel_rfl) ?_
              refine Ry rfl rfl (wg rfl rfl rfl (decide_eq_false c351)) (ynot (et rfl rfl)) ?_
              refine Ry rfl rfl wn (ypf (v := .bool r348) (et rfl rfl) (decide_eq_false c351) (eqv hr35 (et rfl rfl))) ?_
              refine Ry rfl rfl wn (ym (v := .bool r348) (et rfl rfl)) ?_
              refine Ry rfl rfl (wg rfl rfl rfl (bfalse c356)) (ym (v := .int .i64 x130) (et rfl e27_9)) ?_
              refine Ry rfl rfl (wg rfl rfl rfl (bfalse c356)) (ygtr (et rfl rfl) rfl) ?_
              refine Ry rfl rfl (wg rfl rfl rfl (bfalse c356)) (ym (v := .bool (decide ((0 : Int) < x130))) (et rfl rfl)) ?_
              refine Ry rfl rfl (wg rfl rfl rfl (decide_eq_true c358)) (ym (v := h11.v) (et rfl e27_6)) ?_
              refine Ry rfl rfl (wg rfl rfl rfl (decide_eq_true c358)) (ym (v := .int .i64 x130) (et rfl e27_9)) ?_
              refine Ry rfl rfl (wg rfl rfl rfl (decide_eq_true c358)) (yIa SL_25 (et rfl rfl) (et rfl rfl) hst (rdO (mtR mhR)) gx359) ?_
              obtain ⟨h360, ch360, hst⟩ := rLs hst (rdO (mtR mhR)) gx359
              refine Ry rfl rfl (wg rfl rfl rfl (decide_eq_true c358)) (yCe O_22 (et rfl rfl) ch360 rfl) ?_
              refine Ry rfl rfl (wg rfl rfl rfl (decide_eq_true c358)) (yIa SL_22 (et rfl rfl) rfl hst (rdI mhF) gx361) ?_
              refine Ry rfl rfl (wg rfl rfl rfl (decide_eq_true c358)) (yI O_3 (et rfl rfl) hst (rdI mhF) gx361) ?_
              refine Ry rfl rfl (wg rfl rfl rfl (decide_eq_true c358)) (ym (v := h11.v) (et rfl e27_6)) ?_
              refine Ry rfl rfl (wg rfl rfl rfl (decide_eq_true c358)) (ym (v := .int .i64 x130) (et rfl e27_9)) ?_
              refine Ry rfl rfl (wg rfl rfl rfl (decide_eq_true c358)) (ysub (et rfl rfl) rfl) ?_
              refine Ry rfl rfl (wg rfl rfl rfl (decide_eq_true c358)) (yIa SL_25 (et rfl rfl) (et rfl rfl) hst (rdO (mtR mhR)) gx362) ?_
              obtain ⟨h363, ch363, hst⟩ := rLs hst (rdO (mtR mhR)) gx362
              refine Ry rfl rfl (wg rfl rfl rfl (decide_eq_true c358)) (yCe O_22 (et rfl rfl) ch363 rfl) ?_
              refine Ry rfl rfl (wg rfl rfl rfl (decide_eq_true c358)) (yIa SL_22 (et rfl rfl) rfl hst (rdI mhF) gx364) ?_
              refine Ry rfl rfl (wg rfl rfl rfl (decide_eq_true c358)) (yI O_3 (et rfl rfl) hst (rdI mhF) gx364) ?_
              refine Ry rfl rfl (wg rfl rfl rfl (decide_eq_true c358)) (ylss (et rfl rfl) (et rfl rfl)) ?_
              refine Ry rfl rfl (wg rfl rfl rfl (bfalse c356)) (ypt (v := .bool r357) (et rfl rfl) (decide_eq_true c358) (eqv hr38 (et rfl rfl))) ?_
              refine Ry rfl rfl wn (ypf (v := .bool r349) (et rfl rfl) (bfalse c356) (eqv hr37 (et rfl rfl))) ?_
              refine Rn QSn ?_
              exact j32 _ _ ⟨e27_0, e27_5, e27_6, e27_7, e27_8, e27_9, rfl, (hst.facts (allC (mtF (mtF (mtF (mtF mhF)))) (allT (allT (allT (allT (allT allI)))))))⟩
            · have hr39 := someI gr357
              refine wp_drawR [0, 0, 3, 7, 15, 31, 63, 127, 127, 511, 1023, 2047, 4095, 8191, 16383, 32767, 65535, 131071, 262143, 262143, 1048575, 2097151, 4194303, 8388607, 262143, 262143, 33816575, 117702655, 251920383, 520355839, 1057226751, 2147483647, 4294967295, 8589934591] [11] 1 folM (by kernel_rfl) (by kernel_rfl) (by kernel_rfl) ?_
              replace hst := hst.drew
              refine DRn (l1 := [0, 1, 2, 3, 4, 5, 6, 7, 8, 9, 10]) (l2 := []) (lc := [11]) (by kernel_rfl) (by kernel_rfl) (by kernel_rfl) ?_
              refine Ry rfl rfl wn (ym (v := h11.v) (et rfl e27_6)) ?_
              refine Ry rfl rfl wn (ym (v := .int .i64 x130) (et rfl e27_9)) ?_
              refine Ry rfl rfl wn (yIa SL_25 (et rfl rfl) (et rfl rfl) hst (rdO (mtR mhR)) gx346) ?_
              obtain ⟨h347, ch347, hst⟩ := rLs hst (rdO (mtR mhR)) gx346
              refine Ry rfl rfl wn (yCe O_22 (et rfl rfl) ch347 rfl) ?_
              refine Ry rfl rfl wn (yLen SL_22 (et rfl rfl) hst (rdI mhF)) ?_
              refine Ry rfl rfl wn (yeql (et rfl rfl) rfl) ?_
              refine Ry rfl rfl wn (ym (v := .bool (decide ((x346.length : Int) = 0))) (et rfl rfl)) ?_
              refine Ry rfl rfl (wg rfl rfl rfl (decide_eq_false c351)) (ym (v := h11.v) (et rfl e27_6)) ?_
              refine Ry rfl rfl (wg rfl rfl rfl (decide_eq_false c351)) (ym (v := .int .i64 x130) (et rfl e27_9)) ?_
              refine Ry rfl rfl (wg rfl rfl rfl (decide_eq_false c351)) (yIa SL_25 (et rfl rfl) (et rfl rfl) hst (rdO (mtR mhR)) gx353) ?_
              obtain ⟨h354, ch354, hst⟩ := rLs hst (rdO (mtR mhR)) gx353
              refine Ry rfl rfl (wg rfl rfl rfl (decide_eq_false c351)) (yCe O_22 (et rfl rfl) ch354 rfl) ?_
              refine Rn QSn ?_
              refine Lc rfl ?_ LAn
              refine Lk (wg rfl rfl rfl (decide_eq_false c351)) (yCall FN_13 (a1 (et rfl rfl))) (sparsekit_Ascending_ok (hM := gr355) (hst := hst) (q1 := mhF)) ?_
              clear hst
              rintro _ w ⟨rfl, hst⟩
              refine ⟨_, rfl, ?_⟩
              refine DRz (l1 := [12, 13, 14, 15, 16, 17, 18, 19, 20, 21, 22, 23, 24, 25, 26, 27, 28, 29, 30, 31, 32, 33]) (l2 := []) (by kernel_rfl) (by kernel_rfl) ?_
              refine Ry rfl rfl (wg rfl rfl rfl (decide_eq_false c351)) (ynot (et rfl rfl)) ?_
              refine Ry rfl rfl wn (ypf (v := .bool r348) (et rfl rfl) (decide_eq_false c351) (eqv hr35 (et rfl rfl))) ?_
              refine Ry rfl rfl wn (ym (v := .bool r348) (et rfl rfl)) ?_
              refine Ry rfl rfl (wg rfl rfl rfl (bfalse c356)) (ym (v := .int .i64 x130) (et rfl e27_9)) ?_
              refine Ry rfl rfl (wg rfl rfl rfl (bfalse c356)) (ygtr (et rfl rfl) rfl) ?_
              refine Ry rfl rfl (wg rfl rfl rfl (bfalse c356)) (ym (v := .bool (decide ((0 : Int) < x130))) (et rfl rfl)) ?_
              refine Rx rfl rfl (wx rfl rfl rfl (decide_eq_false c358)) ?_
              refine Rx rfl rfl (wx rfl rfl rfl (decide_eq_false c358)) ?_
              refine Rx rfl rfl (wx rfl rfl rfl (decide_eq_false c358)) ?_
              refine Rx rfl rfl (wx rfl rfl rfl (decide_eq_false c358)) ?_
              refine Rx rfl rfl (wx rfl rfl rfl (decide_eq_false c358)) ?_
              refine Rx rfl rfl (wx rfl rfl rfl (decide_eq_false c358)) ?_
              refine Rx rfl rfl (wx rfl rfl rfl (decide_eq_false c358)) ?_
              refine Rx rfl rfl (wx rfl rfl rfl (decide_eq_false c358)) ?_
              refine Rx rfl rfl (wx rfl rfl rfl (decide_eq_false c358)) ?_
              refine Rx rfl rfl (wx rfl rfl rfl (decide_eq_false c358)) ?_
              refine Rx rfl rfl (wx rfl rfl rfl (decide_eq_false c358)) ?_
              refine Rx rfl rfl (wx rfl rfl rfl (decide_eq_false c358)) ?_
              refine Rx rfl rfl (wx rfl rfl rfl (decide_eq_false c358)) ?_
              refine Rx rfl rfl (wx rfl rfl rfl (decide_eq_false c358)) ?_
              refine Ry rfl rfl (wg rfl rfl rfl (bfalse c356)) (ypf (v := .bool r357) (et rfl rfl) (decide_eq_false c358) (eqv hr39 rfl)) ?_
              refine Ry rfl rfl wn (ypf (v := .bool r349) (et rfl rfl) (bfalse c356) (eqv hr37 (et rfl rfl))) ?_
              refine Rn QSn ?_
              exact j32 _ _ ⟨e27_0, e27_5, e27_6, e27_7, e27_8, e27_9, rfl, (hst.facts (allC (mtF (mtF mhF)) (allT (allT (allT allI)))))⟩
      clear hst
      rintro f w ⟨e350_0, e350_5, e350_6, e350_7, e350_8, e350_9, e350_68, hst⟩
      refine k199 _ _ ?_
      rcases iteS hM27 with ⟨c365, hM27⟩ | ⟨c365, hM27⟩
      · refine condT (et rfl e350_68) c365 ?_
        refine seqQ fun Q200 k200 z200 => ?_
        refine wp_region_lit ?_
        refine Y wn rfl (ya (v := .bool false) rfl) ?_
        refine wpList_nil ?_
        refine k200 _ _ ?_
        refine wp_ret ?_
        refine z198 _ _ _ rfl ?_
        refine q197 _ _ _ ?_
        refine z196 _ _ _ rfl ?_
        obtain rfl := someI hM27
        refine zz27 _ _ _ _ rfl rfl ?_
        exact je27_1 _ _ rfl ((hst.pk 4 [] rfl).facts (allT allI)) (ho27 _ rfl)
      · refine condF (et rfl e350_68) (bfalse c365) ?_
        refine wp_skip ?_
        refine k198 _ _ ?_
        refine seqQ fun Q201 k201 z201 => ?_
        refine seqQ fun Q202 k202 z202 => ?_
        refine wp_region_lit ?_
        refine Y wn rfl (ya (v := .int .i64 0) rfl) ?_
        refine wpList_nil ?_
        refine k202 _ _ ?_
        refine blockQ fun Q203 q203 => ?_
        obtain ⟨o42, go42, hM27⟩ := bs hM27
        have je42_0 : ∀ (x410 : List Int) (f : Nat → Value) (w : World), f 0 = .int .i64 r6 → f 5 = .pointer (some ⟨b9, 0, none⟩) → f 6 = h11.v → f 7 = h127.v → f 8 = h12.v → f 9 = .int .i64 x130 → St w0 (imm (rS (rI .i64)) h8.v r7 :: ros) (box b9 27 [h8.v] :: row 22 (rS (rI .i64)) h11.v r10 :: row 3 (rI .i64) h127.v x128 :: row 3 (rI .i64) h12.v x410 :: rs) w → .inl x410 = o42 → Q203 (.exit 2) (fr 177 f) w := by
          intro x410 f w eje42_0_0 eje42_0_5 eje42_0_6 eje42_0_7 eje42_0_8 eje42_0_9 hst ho
          subst ho
          refine q203 _ _ _ ?_
          refine k201 _ _ ?_
          refine seqQ fun Q218 k218 z218 => ?_
          refine wp_region_lit ?_
          refine Y wn rfl (ya (v := .int .i64 0) rfl) ?_
          refine wpList_nil ?_
          refine k218 _ _ ?_
          refine seqQ fun Q219 k219 z219 => ?_
          obtain ⟨x411, gx411, hM27⟩ := bs hM27
          obtain ⟨x413, gx413, hM27⟩ := bs hM27
          obtain ⟨r414, gr414, hM27⟩ := bs hM27
          refine wp_drawR [0, 0, 0, 6, 14, 30, 62, 127, 255] [7, 8] 2 folM (by kernel_rfl) (by kernel_rfl) (by kernel_rfl) ?_
          replace hst := hst.drew
          refine DRn (l1 := [0, 1, 2, 3, 4, 5, 6]) (l2 := []) (lc := [7]) (by kernel_rfl) (by kernel_rfl) (by kernel_rfl) ?_
          refine Ry rfl rfl wn (yLbs (us := [h8.v]) ST_27 (et rfl eje42_0_5) hst mhR rfl rfl) ?_
          refine Ry rfl rfl wn (ym (v := h11.v) (et rfl eje42_0_6)) ?_
          refine Ry rfl rfl wn (ym (v := .int .i64 x130) (et rfl eje42_0_9)) ?_
          refine Ry rfl rfl wn (yIa SL_25 (et rfl rfl) (et rfl rfl) hst (rdO (mtR mhR)) gx411) ?_
          obtain ⟨h412, ch412, hst⟩ := rLs hst (rdO (mtR mhR)) gx411
          refine Ry rfl rfl wn (yCe O_22 (et rfl rfl) ch412 rfl) ?_
          refine Ry rfl rfl wn (yIa SL_22 (et rfl rfl) rfl hst (rdI mhF) gx413) ?_
          refine Ry rfl rfl wn (yI O_3 (et rfl rfl) hst (rdI mhF) gx413) ?_
          refine Rn QSn ?_
          refine Lc rfl ?_ LAn
          refine Lk wn (yCall FN_15 (a2 (et rfl rfl) (et rfl rfl))) (sparseref12_Levels_ok (hM := gr414) (hst := hst) (q1 := (mtF mhF))) ?_
          clear hst
          rintro _ w ⟨h415, rfl, hst⟩
          refine ⟨_, rfl, ?_⟩
          refine DRn (l1 := []) (l2 := []) (lc := [8]) (by kernel_rfl) (by kernel_rfl) (by kernel_rfl) ?_
          refine Rn QSn ?_
          refine Lc rfl ?_ LAn
          refine Ly wn (ya (v := h415.v) (et rfl rfl)) ?_
          refine DRz (l1 := []) (l2 := []) (by kernel_rfl) (by kernel_rfl) ?_
          refine Rn QSn ?_
          refine k219 _ _ ?_
          refine seqQ fun Q220 k220 z220 => ?_
          refine seqQ fun Q221 k221 z221 => ?_
          refine wp_region_lit ?_
          refine Y wn rfl (ya (v := .int .i64 0) rfl) ?_
          refine wpList_nil ?_
          refine k221 _ _ ?_
          refine blockQ fun Q222 q222 => ?_
          obtain ⟨o43, go43, hM27⟩ := bs hM27
          have je43_0 : ∀ (x426 : Int) (f : Nat → Value) (w : World), f 0 = .int .i64 r6 → f 5 = .pointer (some ⟨b9, 0, none⟩) → f 6 = h11.v → f 7 = h127.v → f 8 = h12.v → f 9 = .int .i64 x130 → f 11 = .int .i64 x426 → St w0 (imm (rS (rI .i64)) h8.v r7 :: ros) (box b9 27 [h8.v] :: row 22 (rS (rI .i64)) h11.v r10 :: row 3 (rI .i64) h127.v x128 :: row 3 (rI .i64) h12.v x410 :: rs) w → x426 = o43 → Q222 (.exit 4) (fr 177 f) w := by
            intro x426 f w eje43_0_0 eje43_0_5 eje43_0_6 eje43_0_7 eje43_0_8 eje43_0_9 eje43_0_11 hst ho
            subst ho
            refine q222 _ _ _ ?_
            refine k220 _ _ ?_
            refine seqQ fun Q231 k231 z231 => ?_
            refine seqQ fun Q232 k232 z232 => ?_
            refine wp_region_lit ?_
            refine Y wn rfl (ym (v := .int .i64 x426) (et rfl eje43_0_11)) ?_
            refine Y wn rfl (ym (v := h11.v) (et rfl eje43_0_6)) ?_
            refine Y wn rfl (ym (v := .int .i64 x130) (et rfl eje43_0_9)) ?_
            obtain ⟨x427, gx427, hM27⟩ := bs hM27
            refine Y wn rfl (yIa SL_25 (et rfl rfl) (et rfl rfl) hst (rdO (mtR mhR)) gx427) ?_
            obtain ⟨h428, ch428, hst⟩ := rLs hst (rdO (mtR mhR)) gx427
            refine Y wn rfl (yCe O_22 (et rfl rfl) ch428 rfl) ?_
            refine Y wn rfl (yLen SL_22 (et rfl rfl) hst (rdI mhF)) ?_
            refine Y wn rfl (yneq (et rfl rfl) (et rfl rfl)) ?_
            refine wpList_nil ?_
            refine k232 _ _ ?_
            rcases iteS hM27 with ⟨c429, hM27⟩ | ⟨c429, hM27⟩
            · refine condF (et rfl rfl) (nF (decide_eq_true c429)) ?_
              refine wp_skip ?_
              refine k231 _ _ ?_
              refine wp_region_lit ?_
              refine Y wn rfl (ym (v := h127.v) (et rfl eje43_0_7)) ?_
              refine Y wn rfl (ym (v := h11.v) (et rfl eje43_0_6)) ?_
              refine Y wn rfl (ym (v := .int .i64 x130) (et rfl eje43_0_9)) ?_
              obtain ⟨x430, gx430, hM27⟩ := bs hM27
              refine Y wn rfl (yIa SL_25 (et rfl rfl) (et rfl rfl) hst (rdO (mtR mhR)) gx430) ?_
              obtain ⟨h431, ch431, hst⟩ := rLs hst (rdO (mtR mhR)) gx430
              refine Y wn rfl (yCe O_22 (et rfl rfl) ch431 rfl) ?_
              obtain ⟨x433, gx433, hM27⟩ := bs hM27
              replace hst := hst.pk 3 [2, 0, 0] rfl
              refine YH wn rfl (rAp hst SL_22 (et rfl rfl) (et rfl rfl) (rdI mhF) gx433) ?_
              clear hst
              intro h432 w hst
              refine Y wn rfl (ya (v := h432.v) (et rfl rfl)) ?_
              refine wpList_nil ?_
              refine q197 _ _ _ ?_
              refine k196 _ _ ?_
              refine wp_region_lit ?_
              refine Y wn rfl (ym (v := .int .i64 x130) (et rfl eje43_0_9)) ?_
              refine Y wn rfl (yadd (et rfl rfl) rfl) ?_
              refine Y wn rfl (ya (v := .int .i64 (wa .i64 x130 1)) (et rfl rfl)) ?_
              refine wpList_nil ?_
              obtain rfl := someI hM27
              exact n27 _ _ _ rfl ⟨_, _, _, _, _, rfl, rfl, eje43_0_0, eje43_0_5, eje43_0_6, rfl, eje43_0_8, rfl, ((hst.pk 4 [1, 1, 0, 0] rfl).facts (allC (mtF (mtF mhF)) (allT (allT (allT allI)))))⟩
            · refine condT (et rfl rfl) (nT (decide_eq_false c429)) ?_
              refine seqQ fun Q233 k233 z233 => ?_
              refine wp_region_lit ?_
              refine Y wn rfl (ya (v := .bool false) rfl) ?_
              refine wpList_nil ?_
              refine k233 _ _ ?_
              refine wp_ret ?_
              refine z231 _ _ _ rfl ?_
              refine q197 _ _ _ ?_
              refine z196 _ _ _ rfl ?_
              obtain rfl := someI hM27
              refine zz27 _ _ _ _ rfl rfl ?_
              exact je27_1 _ _ rfl ((hst.pk 4 [] rfl).facts (allT (allT allI))) (ho27 _ rfl)
          refine loopQ (fun s a w => ∃ (x419 : Int) (x420 : Int) (f : Nat → Value), (x419, x420) = s ∧ a = fr 177 f ∧ f 0 = .int .i64 r6 ∧ f 5 = .pointer (some ⟨b9, 0, none⟩) ∧ f 6 = h11.v ∧ f 7 = h127.v ∧ f 8 = h12.v ∧ f 9 = .int .i64 x130 ∧ f 11 = .int .i64 x419 ∧ f 12 = h415.v ∧ f 13 = .int .i64 x420 ∧ St w0 (imm (rS (rI .i64)) h8.v r7 :: ros) (box b9 27 [h8.v] :: row 22 (rS (rI .i64)) h11.v r10 :: row 3 (rI .i64) h127.v x128 :: row 3 (rI .i64) h12.v x410 :: row 22 (rS (rI .i64)) h415.v r414 :: rs) w) go43 ⟨_, _, _, rfl, rfl, eje42_0_0, eje42_0_5, eje42_0_6, eje42_0_7, eje42_0_8, eje42_0_9, rfl, rfl, rfl, ((hst.pk 5 [1, 1, 1, 1, 0] rfl).facts (allC (mtF mhF) (allT (allT allI))))⟩ ?_
          clear hst
          rintro _ _ w r43_ ⟨x419, x420, f, rfl, rfl, e43_0, e43_5, e43_6, e43_7, e43_8, e43_9, e43_11, e43_12, e43_13, hst⟩ hM43 ho43 Q100043 n43 zz43
          refine seqQ fun Q234 k234 z234 => ?_
          refine seqQ fun Q235 k235 z235 => ?_
          refine wp_region_lit ?_
          refine Y wn rfl (ym (v := .int .i64 x420) (et rfl e43_13)) ?_
          refine Y wn rfl (ym (v := h415.v) (et rfl e43_12)) ?_
          refine Y wn rfl (yLen SL_25 (et rfl rfl) hst (rdO (mtR (mtR (mtR (mtR mhR)))))) ?_
          refine Y wn rfl (ylss (et rfl rfl) (et rfl rfl)) ?_
          refine wpList_nil ?_
          refine k235 _ _ ?_
          rcases iteS hM43 with ⟨c434, hM43⟩ | ⟨c434, hM43⟩
          · refine condT (et rfl rfl) (decide_eq_true c434) ?_
            refine wp_skip ?_
            refine k234 _ _ ?_
            refine seqQ fun Q236 k236 z236 => ?_
            refine blockQ fun Q237 q237 => ?_
            refine wp_region_lit ?_
            refine Y wn rfl (ym (v := .int .i64 x419) (et rfl e43_11)) ?_
            refine Y wn rfl (ym (v := h415.v) (et rfl e43_12)) ?_
            refine Y wn rfl (ym (v := .int .i64 x420) (et rfl e43_13)) ?_
            obtain ⟨x435, gx435, hM43⟩ := bs hM43
            refine Y wn rfl (yIa SL_25 (et rfl rfl) (et rfl rfl) hst (rdO (mtR (mtR (mtR (mtR mhR))))) gx435) ?_
            obtain ⟨h436, ch436, hst⟩ := rLs hst (rdO (mtR (mtR (mtR (mtR mhR))))) gx435
            refine Y wn rfl (yCe O_22 (et rfl rfl) ch436 rfl) ?_
            refine Y wn rfl (yLen SL_22 (et rfl rfl) hst (rdI mhF)) ?_
            refine Y wn rfl (yadd (et rfl rfl) (et rfl rfl)) ?_
            refine Y wn rfl (ya (v := .int .i64 (wa .i64 x419 (x435.length : Int))) (et rfl rfl)) ?_
            refine wpList_nil ?_
            refine q237 _ _ _ ?_
            refine k236 _ _ ?_
            refine wp_region_lit ?_
            refine Y wn rfl (ym (v := .int .i64 x420) (et rfl e43_13)) ?_
            refine Y wn rfl (yadd (et rfl rfl) rfl) ?_
            refine Y wn rfl (ya (v := .int .i64 (wa .i64 x420 1)) (et rfl rfl)) ?_
            refine wpList_nil ?_
            obtain rfl := someI hM43
            exact n43 _ _ _ rfl ⟨_, _, _, rfl, rfl, e43_0, e43_5, e43_6, e43_7, e43_8, e43_9, rfl, e43_12, rfl, (hst.facts (allC (mtF mhF) (allT (allT allI))))⟩
          · refine condF (et rfl rfl) (decide_eq_false c434) ?_
            refine wp_exit ?_
            refine z234 _ _ _ rfl ?_
            obtain rfl := someI hM43
            refine zz43 _ _ _ _ rfl rfl ?_
            exact je43_0 _ _ _ e43_0 e43_5 e43_6 e43_7 e43_8 e43_9 e43_11 (hst.pk 5 [0, 0, 0, 0] rfl) (ho43 _ rfl)
        have je42_1 : ∀ (f : Nat → Value) (w : World), f 4 = .bool false → St w0 (ros) (rs) w → .inr () = o42 → Q203 .ret (fr 177 f) w := by
          intro f w eje42_1_4 hst ho
          subst ho
          refine q203 _ _ _ ?_
          refine z201 _ _ _ rfl ?_
          refine q197 _ _ _ ?_
          refine z196 _ _ _ rfl ?_
          obtain rfl := someI hM27
          refine zz27 _ _ _ _ rfl rfl ?_
          exact je27_1 _ _ eje42_1_4 hst (ho27 _ rfl)
        refine loopQ (fun s a w => ∃ (x386 : List Int) (x387 : Int) (f : Nat → Value), (x386, x387) = s ∧ a = fr 177 f ∧ f 0 = .int .i64 r6 ∧ f 5 = .pointer (some ⟨b9, 0, none⟩) ∧ f 6 = h11.v ∧ f 7 = h127.v ∧ f 8 = h12.v ∧ f 9 = .int .i64 x130 ∧ f 10 = .int .i64 x387 ∧ St w0 (imm (rS (rI .i64)) h8.v r7 :: ros) (box b9 27 [h8.v] :: row 22 (rS (rI .i64)) h11.v r10 :: row 3 (rI .i64) h127.v x128 :: row 3 (rI .i64) h12.v x386 :: rs) w) go42 ⟨_, _, _, rfl, rfl, e350_0, e350_5, e350_6, e350_7, e350_8, e350_9, rfl, hst⟩ ?_
        clear hst
        rintro _ _ w r42_ ⟨x386, x387, f, rfl, rfl, e42_0, e42_5, e42_6, e42_7, e42_8, e42_9, e42_10, hst⟩ hM42 ho42 Q100042 n42 zz42
        refine seqQ fun Q238 k238 z238 => ?_
        refine seqQ fun Q239 k239 z239 => ?_
        refine wp_region_lit ?_
        refine Y wn rfl (ym (v := .int .i64 x387) (et rfl e42_10)) ?_
        refine Y wn rfl (ym (v := h11.v) (et rfl e42_6)) ?_
        refine Y wn rfl (ym (v := .int .i64 x130) (et rfl e42_9)) ?_
        obtain ⟨x437, gx437, hM42⟩ := bs hM42
        refine Y wn rfl (yIa SL_25 (et rfl rfl) (et rfl rfl) hst (rdO (mtR mhR)) gx437) ?_
        obtain ⟨h438, ch438, hst⟩ := rLs hst (rdO (mtR mhR)) gx437
        refine Y wn rfl (yCe O_22 (et rfl rfl) ch438 rfl) ?_
        refine Y wn rfl (yLen SL_22 (et rfl rfl) hst (rdI mhF)) ?_
        refine Y wn rfl (ylss (et rfl rfl) (et rfl rfl)) ?_
        refine wpList_nil ?_
        refine k239 _ _ ?_
        rcases iteS hM42 with ⟨c439, hM42⟩ | ⟨c439, hM42⟩
        · refine condT (et rfl rfl) (decide_eq_true c439) ?_
          refine wp_skip ?_
          refine k238 _ _ ?_
          refine seqQ fun Q240 k240 z240 => ?_
          refine blockQ fun Q241 q241 => ?_
          refine seqQ fun Q242 k242 z242 => ?_
          refine seqQ fun Q243 k243 z243 => ?_
          refine wp_region_lit ?_
          refine Y wn rfl (ym (v := h11.v) (et rfl e42_6)) ?_
          refine Y wn rfl (ym (v := .int .i64 x130) (et rfl e42_9)) ?_
          obtain ⟨x440, gx440, hM42⟩ := bs hM42
          refine Y wn rfl (yIa SL_25 (et rfl rfl) (et rfl rfl) hst (rdO (mtR mhR)) gx440) ?_
          obtain ⟨h441, ch441, hst⟩ := rLs hst (rdO (mtR mhR)) gx440
          refine Y wn rfl (yCe O_22 (et rfl rfl) ch441 rfl) ?_
          refine Y wn rfl (ym (v := .int .i64 x387) (et rfl e42_10)) ?_
          obtain ⟨x442, gx442, hM42⟩ := bs hM42
          refine Y wn rfl (yIa SL_22 (et rfl rfl) (et rfl rfl) hst (rdI mhF) gx442) ?_
          refine Y wn rfl (yI O_3 (et rfl rfl) hst (rdI mhF) gx442) ?_
          refine Y wn rfl (ylss (et rfl rfl) rfl) ?_
          refine Y wn rfl (ym (v := .bool (decide (x442 < 0))) (et rfl rfl)) ?_
          obtain ⟨r446, gr446, hM42⟩ := bs hM42
          refine joinW 10 (fun f w => f 0 = .int .i64 r6 ∧ f 5 = .pointer (some ⟨b9, 0, none⟩) ∧ f 6 = h11.v ∧ f 7 = h127.v ∧ f 8 = h12.v ∧ f 9 = .int .i64 x130 ∧ f 10 = .int .i64 x387 ∧ f 96 = .bool r446 ∧ St w0 (imm (rS (rI .i64)) h8.v r7 :: ros) (box b9 27 [h8.v] :: row 22 (rS (rI .i64)) h11.v r10 :: row 3 (rI .i64) h127.v x128 :: row 3 (rI .i64) h12.v x386 :: rs) w) (fun j44 => ?_) ?_
          · rcases iteS gr446 with ⟨c448, gr446⟩ | ⟨c448, gr446⟩
            · refine Gn (wx rfl rfl rfl (decide_eq_true c448)) rfl ?_
              refine Gn (wx rfl rfl rfl (decide_eq_true c448)) rfl ?_
              refine Gn (wx rfl rfl rfl (decide_eq_true c448)) rfl ?_
              refine Gn (wx rfl rfl rfl (decide_eq_true c448)) rfl ?_
              refine Gn (wx rfl rfl rfl (decide_eq_true c448)) rfl ?_
              refine Gn (wx rfl rfl rfl (decide_eq_true c448)) rfl ?_
              refine Gn (wx rfl rfl rfl (decide_eq_true c448)) rfl ?_
              refine Gn (wx rfl rfl rfl (decide_eq_true c448)) rfl ?_
              refine Gn (wx rfl rfl rfl (decide_eq_true c448)) rfl ?_
              refine Y wn rfl (ypt (v := .bool true) (et rfl rfl) (decide_eq_true c448) rfl) ?_
              obtain rfl := someI gr446
              exact j44 _ _ ⟨e42_0, e42_5, e42_6, e42_7, e42_8, e42_9, e42_10, rfl, (hst.facts (allC (mtF (mtF mhF)) (allT (allT (allT allI)))))⟩
            · refine Y (wg rfl rfl rfl (decide_eq_false c448)) rfl (ym (v := h11.v) (et rfl e42_6)) ?_
              refine Y (wg rfl rfl rfl (decide_eq_false c448)) rfl (ym (v := .int .i64 x130) (et rfl e42_9)) ?_
              obtain ⟨x449, gx449, gr446⟩ := bs gr446
              refine Y (wg rfl rfl rfl (decide_eq_false c448)) rfl (yIa SL_25 (et rfl rfl) (et rfl rfl) hst (rdO (mtR mhR)) gx449) ?_
              obtain ⟨h450, ch450, hst⟩ := rLs hst (rdO (mtR mhR)) gx449
              refine Y (wg rfl rfl rfl (decide_eq_false c448)) rfl (yCe O_22 (et rfl rfl) ch450 rfl) ?_
              refine Y (wg rfl rfl rfl (decide_eq_false c448)) rfl (ym (v := .int .i64 x387) (et rfl e42_10)) ?_
              obtain ⟨x451, gx451, gr446⟩ := bs gr446
              refine Y (wg rfl rfl rfl (decide_eq_false c448)) rfl (yIa SL_22 (et rfl rfl) (et rfl rfl) hst (rdI mhF) gx451) ?_
              refine Y (wg rfl rfl rfl (decide_eq_false c448)) rfl (yI O_3 (et rfl rfl) hst (rdI mhF) gx451) ?_
              refine Y (wg rfl rfl rfl (decide_eq_false c448)) rfl (ym (v := .int .i64 r6) (et rfl e42_0)) ?_
              refine Y (wg rfl rfl rfl (decide_eq_false c448)) rfl (ygeq (et rfl rfl) (et rfl rfl)) ?_
              refine Y wn rfl (ypf (v := .bool (decide (r6 ≤ x451))) (et rfl rfl) (decide_eq_false c448) (et rfl rfl)) ?_
              obtain rfl := someI gr446
              exact j44 _ _ ⟨e42_0, e42_5, e42_6, e42_7, e42_8, e42_9, e42_10, rfl, (hst.facts (allC (mtF (mtF (mtF mhF))) (allT (allT (allT (allT allI))))))⟩
          clear hst
          rintro f w ⟨e447_0, e447_5, e447_6, e447_7, e447_8, e447_9, e447_10, e447_96, hst⟩
          refine wpList_nil ?_
          refine k243 _ _ ?_
          rcases iteS hM42 with ⟨c452, hM42⟩ | ⟨c452, hM42⟩
          · refine condT (et rfl e447_96) c452 ?_
            refine seqQ fun Q244 k244 z244 => ?_
            refine wp_region_lit ?_
            refine Y wn rfl (ya (v := .bool false) rfl) ?_
            refine wpList_nil ?_
            refine k244 _ _ ?_
            refine wp_ret ?_
            refine z242 _ _ _ rfl ?_
            refine q241 _ _ _ ?_
            refine z240 _ _ _ rfl ?_
            obtain rfl := someI hM42
            refine zz42 _ _ _ _ rfl rfl ?_
            exact je42_1 _ _ rfl ((hst.pk 4 [] rfl).facts (allT allI)) (ho42 _ rfl)
          · refine condF (et rfl e447_96) (bfalse c452) ?_
            refine wp_skip ?_
            refine k242 _ _ ?_
            refine wp_region_lit ?_
            refine Y wn rfl (ym (v := h12.v) (et rfl e447_8)) ?_
            refine Y wn rfl (ym (v := h11.v) (et rfl e447_6)) ?_
            refine Y wn rfl (ym (v := .int .i64 x130) (et rfl e447_9)) ?_
            obtain ⟨x453, gx453, hM42⟩ := bs hM42
            refine Y wn rfl (yIa SL_25 (et rfl rfl) (et rfl rfl) hst (rdO (mtR mhR)) gx453) ?_
            obtain ⟨h454, ch454, hst⟩ := rLs hst (rdO (mtR mhR)) gx453
            refine Y wn rfl (yCe O_22 (et rfl rfl) ch454 rfl) ?_
            refine Y wn rfl (ym (v := .int .i64 x387) (et rfl e447_10)) ?_
            obtain ⟨x455, gx455, hM42⟩ := bs hM42
            refine Y wn rfl (yIa SL_22 (et rfl rfl) (et rfl rfl) hst (rdI mhF) gx455) ?_
            refine Y wn rfl (yI O_3 (et rfl rfl) hst (rdI mhF) gx455) ?_
            refine Y wn rfl (ym (v := .int .i64 x130) (et rfl e447_9)) ?_
            obtain ⟨x456, gx456, hM42⟩ := bs hM42
            refine Y wn rfl (yIs SL_22 (et rfl rfl) (et rfl rfl) hst (rdO (mtR (mtR (mtR mhR)))) gx456) ?_
            replace hst := hst.pk 4 [3, 0, 0, 0] rfl
            refine YT wn rfl (r_sti (cs := [.int .i64 x130]) hst O_3 rfl (et rfl rfl) (et rfl rfl) rfl mkI gx456) ?_
            clear hst
            intro w hst
            refine wpList_nil ?_
            refine q241 _ _ _ ?_
            refine k240 _ _ ?_
            refine wp_region_lit ?_
            refine Y wn rfl (ym (v := .int .i64 x387) (et rfl e447_10)) ?_
            refine Y wn rfl (yadd (et rfl rfl) rfl) ?_
            refine Y wn rfl (ya (v := .int .i64 (wa .i64 x387 1)) (et rfl rfl)) ?_
            refine wpList_nil ?_
            obtain rfl := someI hM42
            exact n42 _ _ _ rfl ⟨_, _, _, rfl, rfl, e447_0, e447_5, e447_6, e447_7, e447_8, e447_9, rfl, ((hst.pk 4 [1, 1, 1, 0] rfl).facts (allC (mtF mhF) (allT (allT allI))))⟩
        · refine condF (et rfl rfl) (decide_eq_false c439) ?_
          refine wp_exit ?_
          refine z238 _ _ _ rfl ?_
          obtain rfl := someI hM42
          refine zz42 _ _ _ _ rfl rfl ?_
          exact je42_0 _ _ _ e42_0 e42_5 e42_6 e42_7 e42_8 e42_9 (hst.facts (allC (mtF mhF) (allT (allT allI)))) (ho42 _ rfl)
    · refine condF (et rfl rfl) (decide_eq_false c345) ?_
      refine wp_exit ?_
      refine z194 _ _ _ rfl ?_
      obtain rfl := someI hM27
      refine zz27 _ _ _ _ rfl rfl ?_
      exact je27_0 _ _ _ _ _ e27_0 e27_5 e27_7 e27_8 (hst.pk 4 [0, 1, 1] rfl) (ho27 _ rfl)
end Go.Proofs.Ytcknmegldjnjjaa
