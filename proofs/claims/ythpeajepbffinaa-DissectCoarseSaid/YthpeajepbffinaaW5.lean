/- Walks: each function computes its model, printed. -/
import Derived.Test.YthpeajepbffinaaW4
namespace Go.Proofs.Ythpeajepbffinaa
open Go Sx M
set_option maxRecDepth 100000
set_option maxHeartbeats 4000000
set_option linter.unusedVariables false
attribute [local irreducible] wpList Code.wp Calls DR QR QS LA LS St
theorem dissect_Cut_ok {w0 : World} {ros : List Fact} {rs : List Res} {w : World} {x1 : List (List Int)} {x3 : List Int} {x5 : List (List Int)} {x7 : List Int} {h2 : Hdr} {h4 : Hdr} {h6 : Hdr} {h8 : Hdr} {out : Int × Int} (hM : dissect_Cut x1 x3 x5 x7 = some out) (q1 : imm (rS (rI .i64)) h2.v x1 ∈ ros) (q2 : imm (rI .i64) h4.v x3 ∈ ros) (q3 : imm (rS (rI .i64)) h6.v x5 ∈ ros) (q4 : imm (rI .i64) h8.v x7 ∈ ros) (hst : St w0 ros (rs) w) :
    Calls Try.prog 20 #[.agg #[h2.v, h4.v, h6.v], h8.v] w (fun e w => e = .returned (.tuple #[.int .i64 out.1, .int .i64 out.2]) ∧ St w0 (ros) (rs) w) := by
  refine enterQ Try.func20 rfl Try.ntmps20 rfl fun Q hQ => ?_
  refine seqQ fun Q1 k1 z1 => ?_
  refine wp_region_lit ?_
  refine YB wn rfl (r_box (vals := [h2.v, h4.v, h6.v]) hst (et rfl rfl) rfl) ?_
  clear hst
  intro b9 w hst
  refine Y wn rfl (ya (v := .int .i64 0) rfl) ?_
  refine Y wn rfl (ya (v := .int .i64 0) rfl) ?_
  refine wpList_nil ?_
  refine k1 _ _ ?_
  refine seqQ fun Q2 k2 z2 => ?_
  refine wp_region_lit ?_
  refine Y wn rfl (yLbs (us := [h2.v, h4.v, h6.v]) ST_29 (et rfl rfl) hst mhR rfl rfl) ?_
  obtain ⟨r10, gr10, hM⟩ := bs hM
  refine Yc wn rfl (yCall FN_23 (a1 (et rfl rfl))) (dissect_CheckWeighted_ok (hM := gr10) (hst := hst) (q1 := q1) (q2 := q2) (q3 := q3)) ?_
  clear hst
  rintro _ w ⟨rfl, hst⟩
  refine ⟨_, rfl, ?_⟩
  refine Y wn rfl (ya (v := .int .i64 r10) (et rfl rfl)) ?_
  refine wpList_nil ?_
  refine k2 _ _ ?_
  refine seqQ fun Q3 k3 z3 => ?_
  refine blockQ fun Q4 qb4 => ?_
  refine seqQ fun Q5 k5 z5 => ?_
  refine wp_region_lit ?_
  refine Y wn rfl (ym (v := .int .i64 r10) (et rfl rfl)) ?_
  refine Y wn rfl (yneq (et rfl rfl) rfl) ?_
  refine Y wn rfl (ya (v := .bool (!(decide (r10 = 0)))) (et rfl rfl)) ?_
  refine wpList_nil ?_
  refine k5 _ _ ?_
  rcases iteS hM with ⟨c11, hM⟩ | ⟨c11, hM⟩
  · refine condF (et rfl rfl) (nF (decide_eq_true c11)) ?_
    refine seqQ fun Q6 k6 z6 => ?_
    refine wp_region_lit ?_
    refine Y wn rfl (ym (v := h8.v) (et rfl rfl)) ?_
    refine Y wn rfl (yLen SL_22 (et rfl rfl) hst (rdI q4)) ?_
    refine Y wn rfl (yFb FL_29_1 (et rfl rfl)) ?_
    refine Y wn rfl (yLb (u := h4.v) O_22 (et rfl rfl) hst mhR rfl) ?_
    refine Y wn rfl (yLen SL_22 (et rfl rfl) hst (rdI q2)) ?_
    refine Y wn rfl (yneq (et rfl rfl) (et rfl rfl)) ?_
    refine Y wn rfl (ya (v := .bool (!(decide ((x7.length : Int) = (x3.length : Int))))) (et rfl rfl)) ?_
    refine wpList_nil ?_
    refine k6 _ _ ?_
    rcases iteS hM with ⟨c12, hM⟩ | ⟨c12, hM⟩
    · refine condF (et rfl rfl) (nF (decide_eq_true c12)) ?_
      refine seqQ fun Q7 k7 z7 => ?_
      refine wp_region_lit ?_
      refine Y wn rfl (ym (v := h8.v) (et rfl rfl)) ?_
      obtain ⟨r13, gr13, hM⟩ := bs hM
      refine Yc wn rfl (yCall FN_35 (a2 (et rfl rfl) rfl)) (slices_ContainsFunc_int_v3_ok (hM := gr13) (hst := hst) (q1 := q4)) ?_
      clear hst
      rintro _ w ⟨rfl, hst⟩
      refine ⟨_, rfl, ?_⟩
      refine Y wn rfl (ya (v := .bool r13) (et rfl rfl)) ?_
      refine wpList_nil ?_
      refine k7 _ _ ?_
      rcases iteS hM with ⟨c14, hM⟩ | ⟨c14, hM⟩
      · refine condT (et rfl rfl) c14 ?_
        refine seqQ fun Q8 k8 z8 => ?_
        refine wp_region_lit ?_
        refine Y wn rfl (ya (v := .int .i64 0) rfl) ?_
        refine Y wn rfl (ya (v := .int .i64 1) rfl) ?_
        refine wpList_nil ?_
        refine k8 _ _ ?_
        refine wp_ret ?_
        refine qb4 _ _ _ ?_
        refine z3 _ _ _ rfl ?_
        obtain rfl := someI hM
        exact hQ _ _ _ (fin2r Try.results20 ⟨rfl, rfl⟩ ⟨rfl, rfl⟩ ⟨rfl, (hst.pk 1 [] rfl)⟩)
      · refine condF (et rfl rfl) (bfalse c14) ?_
        refine wp_skip ?_
        refine qb4 _ _ _ ?_
        refine k3 _ _ ?_
        refine seqQ fun Q9 k9 z9 => ?_
        refine wp_region_lit ?_
        refine Y wn rfl (ya (v := .int .i64 0) rfl) ?_
        refine wpList_nil ?_
        refine k9 _ _ ?_
        refine seqQ fun Q10 k10 z10 => ?_
        refine seqQ fun Q11 k11 z11 => ?_
        refine wp_region_lit ?_
        refine Y wn rfl (yFb FL_29_0 (et rfl rfl)) ?_
        refine Y wn rfl (yFb FL_27_0 (et rfl rfl)) ?_
        refine Y wn rfl (yLb (u := h2.v) O_25 (et rfl rfl) hst mhR rfl) ?_
        refine Y wn rfl (yLen SL_25 (et rfl rfl) hst (rdI q1)) ?_
        refine Y wn rfl (ym (v := .int .i64 0) rfl) ?_
        refine wpList_nil ?_
        refine k11 _ _ ?_
        refine blockQ fun Q12 qb12 => ?_
        obtain ⟨o27, go27, hM⟩ := bs hM
        have je27_0 : ∀ (x125 : Int) (f : Nat → Value) (w : World), f 7 = .int .i64 x125 → St w0 (ros) (rs) w → x125 = o27 → Q12 (.exit 1) (fr 71 f) w := by
          intro x125 f w eje27_0_7 hst ho
          subst ho
          refine qb12 _ _ _ ?_
          refine k10 _ _ ?_
          refine seqQ fun Q63 k63 z63 => ?_
          refine wp_region_lit ?_
          refine Y wn rfl (ym (v := .int .i64 x125) (et rfl eje27_0_7)) ?_
          refine Y wn rfl (ya (v := .int .i64 x125) (et rfl rfl)) ?_
          refine Y wn rfl (ya (v := .int .i64 0) rfl) ?_
          refine wpList_nil ?_
          refine k63 _ _ ?_
          refine wp_ret ?_
          obtain rfl := someI hM
          exact hQ _ _ _ (fin2r Try.results20 ⟨rfl, rfl⟩ ⟨rfl, rfl⟩ ⟨rfl, hst⟩)
        refine loopQ (fun s a w => ∃ (x68 : Int) (x69 : Int) (f : Nat → Value), (x68, x69) = s ∧ a = fr 71 f ∧ f 1 = h8.v ∧ f 2 = .pointer (some ⟨b9, 0, none⟩) ∧ f 7 = .int .i64 x68 ∧ f 30 = h2.v ∧ f 31 = .int .i64 (x1.length : Int) ∧ f 32 = .int .i64 x69 ∧ St w0 (ros) (box b9 29 [h2.v, h4.v, h6.v] :: rs) w) go27 ⟨_, _, _, rfl, rfl, rfl, rfl, rfl, rfl, rfl, rfl, hst⟩ ?_
        clear hst
        rintro _ _ w r27_ ⟨x68, x69, f, rfl, rfl, e27_1, e27_2, e27_7, e27_30, e27_31, e27_32, hst⟩ hM27 ho27 Q100027 n27 zz27
        refine seqQ fun Q64 k64 z64 => ?_
        refine wp_region_lit ?_
        refine Y wn rfl (ylss (et rfl e27_32) (et rfl e27_31)) ?_
        refine wpList_nil ?_
        refine k64 _ _ ?_
        refine seqQ fun Q65 k65 z65 => ?_
        rcases iteS hM27 with ⟨c126, hM27⟩ | ⟨c126, hM27⟩
        · refine condT (et rfl rfl) (decide_eq_true c126) ?_
          refine wp_skip ?_
          refine k65 _ _ ?_
          refine seqQ fun Q66 k66 z66 => ?_
          refine blockQ fun Q67 qb67 => ?_
          refine seqQ fun Q68 k68 z68 => ?_
          refine wp_region_lit ?_
          refine Y wn rfl (ym (v := .int .i64 x69) (et rfl e27_32)) ?_
          obtain ⟨x127, gx127, hM27⟩ := bs hM27
          refine Y wn rfl (yIa SL_25 (et rfl e27_30) (et rfl e27_32) hst (rdI q1) gx127) ?_
          obtain ⟨h128, hst⟩ := iLs hst q1 gx127
          refine Y wn rfl (yCt O_22 (et rfl rfl) hst (mtF mhF) rfl) ?_
          refine Y wn rfl (ya (v := .int .i64 x69) (et rfl rfl)) ?_
          refine Y wn rfl (ya (v := h128.v) (et rfl rfl)) ?_
          refine wpList_nil ?_
          refine k68 _ _ ?_
          refine seqQ fun Q69 k69 z69 => ?_
          refine wp_region_lit ?_
          refine Y wn rfl (ym (v := h128.v) (et rfl rfl)) ?_
          refine Y wn rfl (yLen SL_22 (et rfl rfl) hst (rdI mhF)) ?_
          refine Y wn rfl (ym (v := .int .i64 0) rfl) ?_
          refine wpList_nil ?_
          refine k69 _ _ ?_
          refine blockQ fun Q70 qb70 => ?_
          obtain ⟨o36, go36, hM27⟩ := bs hM27
          have je36_0 : ∀ (x163 : Int) (f : Nat → Value) (w : World), f 1 = h8.v → f 2 = .pointer (some ⟨b9, 0, none⟩) → f 7 = .int .i64 x163 → f 30 = h2.v → f 31 = .int .i64 (x1.length : Int) → f 32 = .int .i64 x69 → St w0 (ros) (box b9 29 [h2.v, h4.v, h6.v] :: rs) w → x163 = o36 → Q70 (.exit 3) (fr 71 f) w := by
            intro x163 f w eje36_0_1 eje36_0_2 eje36_0_7 eje36_0_30 eje36_0_31 eje36_0_32 hst ho
            subst ho
            refine qb70 _ _ _ ?_
            refine qb67 _ _ _ ?_
            refine k66 _ _ ?_
            refine wp_region_lit ?_
            refine Y wn rfl (yadd (et rfl eje36_0_32) rfl) ?_
            refine Y wn rfl (ym (v := .int .i64 (wa .i64 x69 1)) (et rfl rfl)) ?_
            refine wpList_nil ?_
            obtain rfl := someI hM27
            exact n27 _ _ _ rfl ⟨_, _, _, rfl, rfl, eje36_0_1, eje36_0_2, eje36_0_7, eje36_0_30, eje36_0_31, rfl, hst⟩
          refine loopQ (fun s a w => ∃ (x144 : Int) (x145 : Int) (f : Nat → Value), (x144, x145) = s ∧ a = fr 71 f ∧ f 1 = h8.v ∧ f 2 = .pointer (some ⟨b9, 0, none⟩) ∧ f 7 = .int .i64 x144 ∧ f 8 = .int .i64 x69 ∧ f 30 = h2.v ∧ f 31 = .int .i64 (x1.length : Int) ∧ f 32 = .int .i64 x69 ∧ f 37 = h128.v ∧ f 38 = .int .i64 (x127.length : Int) ∧ f 39 = .int .i64 x145 ∧ St w0 (imm (rI .i64) h128.v x127 :: ros) (box b9 29 [h2.v, h4.v, h6.v] :: rs) w) go36 ⟨_, _, _, rfl, rfl, e27_1, e27_2, e27_7, rfl, e27_30, e27_31, e27_32, rfl, rfl, rfl, (hst.facts (allC mhF (allT (allT allI))))⟩ ?_
          clear hst
          rintro _ _ w r36_ ⟨x144, x145, f, rfl, rfl, e36_1, e36_2, e36_7, e36_8, e36_30, e36_31, e36_32, e36_37, e36_38, e36_39, hst⟩ hM36 ho36 Q100036 n36 zz36
          refine seqQ fun Q83 k83 z83 => ?_
          refine wp_region_lit ?_
          refine Y wn rfl (ylss (et rfl e36_39) (et rfl e36_38)) ?_
          refine wpList_nil ?_
          refine k83 _ _ ?_
          refine seqQ fun Q84 k84 z84 => ?_
          rcases iteS hM36 with ⟨c164, hM36⟩ | ⟨c164, hM36⟩
          · refine condT (et rfl rfl) (decide_eq_true c164) ?_
            refine wp_skip ?_
            refine k84 _ _ ?_
            refine seqQ fun Q85 k85 z85 => ?_
            refine blockQ fun Q86 qb86 => ?_
            refine seqQ fun Q87 k87 z87 => ?_
            refine wp_region_lit ?_
            refine Y wn rfl (ym (v := .int .i64 x145) (et rfl e36_39)) ?_
            obtain ⟨x165, gx165, hM36⟩ := bs hM36
            refine Y wn rfl (yIa SL_22 (et rfl e36_37) (et rfl e36_39) hst (rdI mhF) gx165) ?_
            refine Y wn rfl (yI O_3 (et rfl rfl) hst (rdI mhF) gx165) ?_
            refine Y wn rfl (ya (v := .int .i64 x145) (et rfl rfl)) ?_
            refine Y wn rfl (ya (v := .int .i64 x165) (et rfl rfl)) ?_
            refine wpList_nil ?_
            refine k87 _ _ ?_
            refine seqQ fun Q88 k88 z88 => ?_
            obtain ⟨r166, gr166, hM36⟩ := bs hM36
            refine joinN (n := 71) (fun f w => f 1 = h8.v ∧ f 2 = .pointer (some ⟨b9, 0, none⟩) ∧ f 7 = .int .i64 x144 ∧ f 8 = .int .i64 x69 ∧ f 10 = .int .i64 x145 ∧ f 30 = h2.v ∧ f 31 = .int .i64 (x1.length : Int) ∧ f 32 = .int .i64 x69 ∧ f 37 = h128.v ∧ f 38 = .int .i64 (x127.length : Int) ∧ f 39 = .int .i64 x145 ∧ f 57 = .bool r166 ∧ St w0 (imm (rI .i64) h128.v x127 :: ros) (box b9 29 [h2.v, h4.v, h6.v] :: rs) w) (fun j37 => ?_) ?_
            · rcases iteS gr166 with ⟨c168, gr166⟩ | ⟨c168, gr166⟩
              · obtain ⟨x169, gx169, gr166⟩ := bs gr166
                obtain ⟨x170, gx170, gr166⟩ := bs gr166
                have hr38 := someI gr166
                refine wp_drawR [0, 0, 3, 7, 15, 15, 63, 127, 15, 15, 783, 1807, 4095, 8191] [] 0 folM (by kernel_rfl) (by kernel_rfl) (by kernel_rfl) ?_
                replace hst := hst.drew
                refine DRz (l1 := [0, 1, 2, 3, 4, 5, 6, 7, 8, 9, 10, 11, 12, 13]) (l2 := []) (by kernel_rfl) (by kernel_rfl) ?_
                refine Ry rfl rfl wn (ym (v := .int .i64 x165) (et rfl rfl)) ?_
                refine Ry rfl rfl wn (ym (v := .int .i64 x69) (et rfl e36_8)) ?_
                refine Ry rfl rfl wn (ylss (et rfl rfl) (et rfl rfl)) ?_
                refine Ry rfl rfl wn (ym (v := .bool (decide (x165 < x69))) (et rfl rfl)) ?_
                refine Ry rfl rfl (wg rfl rfl rfl (decide_eq_true c168)) (ym (v := h8.v) (et rfl e36_1)) ?_
                refine Ry rfl rfl (wg rfl rfl rfl (decide_eq_true c168)) (ym (v := .int .i64 x165) (et rfl rfl)) ?_
                refine Ry rfl rfl (wg rfl rfl rfl (decide_eq_true c168)) (yIa SL_22 (et rfl rfl) (et rfl rfl) hst (rdI (mtF q4)) gx169) ?_
                refine Ry rfl rfl (wg rfl rfl rfl (decide_eq_true c168)) (yI O_3 (et rfl rfl) hst (rdI (mtF q4)) gx169) ?_
                refine Ry rfl rfl (wg rfl rfl rfl (decide_eq_true c168)) (ym (v := h8.v) (et rfl e36_1)) ?_
                refine Ry rfl rfl (wg rfl rfl rfl (decide_eq_true c168)) (ym (v := .int .i64 x69) (et rfl e36_8)) ?_
                refine Ry rfl rfl (wg rfl rfl rfl (decide_eq_true c168)) (yIa SL_22 (et rfl rfl) (et rfl rfl) hst (rdI (mtF q4)) gx170) ?_
                refine Ry rfl rfl (wg rfl rfl rfl (decide_eq_true c168)) (yI O_3 (et rfl rfl) hst (rdI (mtF q4)) gx170) ?_
                refine Ry rfl rfl (wg rfl rfl rfl (decide_eq_true c168)) (yneq (et rfl rfl) (et rfl rfl)) ?_
                refine Ry rfl rfl wn (ypt (v := .bool r166) (et rfl rfl) (decide_eq_true c168) (eqv hr38 (et rfl rfl))) ?_
                refine Rn QSn ?_
                exact j37 _ _ ⟨e36_1, e36_2, e36_7, e36_8, rfl, e36_30, e36_31, e36_32, e36_37, e36_38, e36_39, rfl, hst⟩
              · have hr39 := someI gr166
                refine wp_drawR [0, 0, 3, 7, 15, 15, 63, 127, 15, 15, 783, 1807, 4095, 8191] [] 0 folM (by kernel_rfl) (by kernel_rfl) (by kernel_rfl) ?_
                replace hst := hst.drew
                refine DRz (l1 := [0, 1, 2, 3, 4, 5, 6, 7, 8, 9, 10, 11, 12, 13]) (l2 := []) (by kernel_rfl) (by kernel_rfl) ?_
                refine Ry rfl rfl wn (ym (v := .int .i64 x165) (et rfl rfl)) ?_
                refine Ry rfl rfl wn (ym (v := .int .i64 x69) (et rfl e36_8)) ?_
                refine Ry rfl rfl wn (ylss (et rfl rfl) (et rfl rfl)) ?_
                refine Ry rfl rfl wn (ym (v := .bool (decide (x165 < x69))) (et rfl rfl)) ?_
                refine Rx rfl rfl (wx rfl rfl rfl (decide_eq_false c168)) ?_
                refine Rx rfl rfl (wx rfl rfl rfl (decide_eq_false c168)) ?_
                refine Rx rfl rfl (wx rfl rfl rfl (decide_eq_false c168)) ?_
                refine Rx rfl rfl (wx rfl rfl rfl (decide_eq_false c168)) ?_
                refine Rx rfl rfl (wx rfl rfl rfl (decide_eq_false c168)) ?_
                refine Rx rfl rfl (wx rfl rfl rfl (decide_eq_false c168)) ?_
                refine Rx rfl rfl (wx rfl rfl rfl (decide_eq_false c168)) ?_
                refine Rx rfl rfl (wx rfl rfl rfl (decide_eq_false c168)) ?_
                refine Rx rfl rfl (wx rfl rfl rfl (decide_eq_false c168)) ?_
                refine Ry rfl rfl wn (ypf (v := .bool r166) (et rfl rfl) (decide_eq_false c168) (eqv hr39 rfl)) ?_
                refine Rn QSn ?_
                exact j37 _ _ ⟨e36_1, e36_2, e36_7, e36_8, rfl, e36_30, e36_31, e36_32, e36_37, e36_38, e36_39, rfl, hst⟩
            clear hst
            rintro f w ⟨e167_1, e167_2, e167_7, e167_8, e167_10, e167_30, e167_31, e167_32, e167_37, e167_38, e167_39, e167_57, hst⟩
            refine k88 _ _ ?_
            have j40 : ∀ (x174 : Int) (f : Nat → Value) (w : World), f 1 = h8.v → f 2 = .pointer (some ⟨b9, 0, none⟩) → f 7 = .int .i64 x174 → f 8 = .int .i64 x69 → f 30 = h2.v → f 31 = .int .i64 (x1.length : Int) → f 32 = .int .i64 x69 → f 37 = h128.v → f 38 = .int .i64 (x127.length : Int) → f 39 = .int .i64 x145 → St w0 (imm (rI .i64) h128.v x127 :: ros) (box b9 29 [h2.v, h4.v, h6.v] :: rs) w → dissect_Cut_j40 x145 x174 = some r36_ → Q86 .normal (fr 71 f) w := by
              intro x174 f w ej40_1 ej40_2 ej40_7 ej40_8 ej40_30 ej40_31 ej40_32 ej40_37 ej40_38 ej40_39 hst hM
              refine qb86 _ _ _ ?_
              refine k85 _ _ ?_
              refine wp_region_lit ?_
              refine Y wn rfl (yadd (et rfl ej40_39) rfl) ?_
              refine Y wn rfl (ym (v := .int .i64 (wa .i64 x145 1)) (et rfl rfl)) ?_
              refine wpList_nil ?_
              obtain rfl := someI hM
              exact n36 _ _ _ rfl ⟨_, _, _, rfl, rfl, ej40_1, ej40_2, ej40_7, ej40_8, ej40_30, ej40_31, ej40_32, ej40_37, ej40_38, rfl, hst⟩
            rcases iteS hM36 with ⟨c175, hM36⟩ | ⟨c175, hM36⟩
            · refine condT (et rfl e167_57) c175 ?_
              refine wp_region_lit ?_
              refine Y wn rfl (ym (v := .int .i64 x144) (et rfl e167_7)) ?_
              refine Y wn rfl (yFb FL_29_2 (et rfl e167_2)) ?_
              refine Y wn rfl (yLb (u := h6.v) O_25 (et rfl rfl) hst mhR rfl) ?_
              refine Y wn rfl (ym (v := .int .i64 x69) (et rfl e167_8)) ?_
              obtain ⟨x176, gx176, hM36⟩ := bs hM36
              refine Y wn rfl (yIa SL_25 (et rfl rfl) (et rfl rfl) hst (rdI (mtF q3)) gx176) ?_
              obtain ⟨h177, hst⟩ := iLs hst (mtF q3) gx176
              refine Y wn rfl (yCt O_22 (et rfl rfl) hst (mtF mhF) rfl) ?_
              refine Y wn rfl (ym (v := .int .i64 x145) (et rfl e167_10)) ?_
              obtain ⟨x178, gx178, hM36⟩ := bs hM36
              refine Y wn rfl (yIa SL_22 (et rfl rfl) (et rfl rfl) hst (rdI mhF) gx178) ?_
              refine Y wn rfl (yI O_3 (et rfl rfl) hst (rdI mhF) gx178) ?_
              refine Y wn rfl (yadd (et rfl rfl) (et rfl rfl)) ?_
              refine Y wn rfl (ya (v := .int .i64 (wa .i64 x144 x178)) (et rfl rfl)) ?_
              refine wpList_nil ?_
              exact j40 _ _ _ e167_1 e167_2 rfl e167_8 e167_30 e167_31 e167_32 e167_37 e167_38 e167_39 (hst.facts (allC (mtF (mtF mhF)) (allT (allT (allT allI))))) hM36
            · refine condF (et rfl e167_57) (bfalse c175) ?_
              refine wp_skip ?_
              exact j40 _ _ _ e167_1 e167_2 e167_7 e167_8 e167_30 e167_31 e167_32 e167_37 e167_38 e167_39 hst hM36
          · refine condF (et rfl rfl) (decide_eq_false c164) ?_
            refine wp_exit ?_
            refine z84 _ _ _ rfl ?_
            obtain rfl := someI hM36
            refine zz36 _ _ _ _ rfl rfl ?_
            exact je36_0 _ _ _ e36_1 e36_2 e36_7 e36_30 e36_31 e36_32 (hst.facts (allT allI)) (ho36 _ rfl)
        · refine condF (et rfl rfl) (decide_eq_false c126) ?_
          refine wp_exit ?_
          refine z65 _ _ _ rfl ?_
          obtain rfl := someI hM27
          refine zz27 _ _ _ _ rfl rfl ?_
          exact je27_0 _ _ _ e27_7 (hst.pk 1 [] rfl) (ho27 _ rfl)
    · refine condT (et rfl rfl) (nT (decide_eq_false c12)) ?_
      refine seqQ fun Q89 k89 z89 => ?_
      refine wp_region_lit ?_
      refine Y wn rfl (ya (v := .int .i64 0) rfl) ?_
      refine Y wn rfl (ya (v := .int .i64 2) rfl) ?_
      refine wpList_nil ?_
      refine k89 _ _ ?_
      refine wp_ret ?_
      refine qb4 _ _ _ ?_
      refine z3 _ _ _ rfl ?_
      obtain rfl := someI hM
      exact hQ _ _ _ (fin2r Try.results20 ⟨rfl, rfl⟩ ⟨rfl, rfl⟩ ⟨rfl, (hst.pk 1 [] rfl)⟩)
  · refine condT (et rfl rfl) (nT (decide_eq_false c11)) ?_
    refine seqQ fun Q90 k90 z90 => ?_
    refine wp_region_lit ?_
    refine Y wn rfl (ym (v := .int .i64 r10) (et rfl rfl)) ?_
    refine Y wn rfl (ya (v := .int .i64 0) rfl) ?_
    refine Y wn rfl (ya (v := .int .i64 r10) (et rfl rfl)) ?_
    refine wpList_nil ?_
    refine k90 _ _ ?_
    refine wp_ret ?_
    refine qb4 _ _ _ ?_
    refine z3 _ _ _ rfl ?_
    obtain rfl := someI hM
    exact hQ _ _ _ (fin2r Try.results20 ⟨rfl, rfl⟩ ⟨rfl, rfl⟩ ⟨rfl, (hst.pk 1 [] rfl)⟩)

theorem sparselaw18_DissectCoarse_ok {w0 : World} {ros : List Fact} {rs : List Res} {w : World} {x1 : Int} {x2 : List Int} {x4 : List Int} {x6 : List Int} {h3 : Hdr} {h5 : Hdr} {h7 : Hdr} {out : Bool} (hM : sparselaw18_DissectCoarse x1 x2 x4 x6 = some out) (q1 : imm (rI .i64) h3.v x2 ∈ ros) (q2 : imm (rI .i64) h5.v x4 ∈ ros) (q3 : imm (rI .i64) h7.v x6 ∈ ros) (hst : St w0 ros (rs) w) :
    Calls Try.prog 6 #[.int .i64 x1, h3.v, h5.v, h7.v] w (fun e w => e = .returned (.bool out) ∧ St w0 (ros) (rs) w) := by
  refine enterQ Try.func6 rfl Try.ntmps6 rfl fun Q hQ => ?_
  refine seqQ fun Q1 k1 z1 => ?_
  refine wp_region_lit ?_
  refine Y wn rfl (ya (v := .bool false) rfl) ?_
  refine wpList_nil ?_
  refine k1 _ _ ?_
  refine seqQ fun Q2 k2 z2 => ?_
  refine seqQ fun Q3 k3 z3 => ?_
  refine wp_region_lit ?_
  refine Y wn rfl (ym (v := h3.v) (et rfl rfl)) ?_
  refine Y wn rfl (yLen SL_22 (et rfl rfl) hst (rdI q1)) ?_
  refine Y wn rfl (ygtr (et rfl rfl) rfl) ?_
  refine Y wn rfl (ym (v := .bool (decide ((90 : Int) < (x2.length : Int)))) (et rfl rfl)) ?_
  refine joinW 4 (fun f w => f 0 = .int .i64 x1 ∧ f 1 = h3.v ∧ f 2 = h5.v ∧ f 3 = h7.v ∧ f 31 = .bool ((decide ((90 : Int) < (x2.length : Int))) || (decide ((60 : Int) < (x4.length : Int)))) ∧ St w0 (ros) (rs) w) (fun j1 => ?_) ?_
  · rcases Bool.eq_false_or_eq_true (decide ((90 : Int) < (x2.length : Int))) with c9 | c9
    · refine Gn (wx rfl rfl rfl c9) rfl ?_
      refine Gn (wx rfl rfl rfl c9) rfl ?_
      refine Gn (wx rfl rfl rfl c9) rfl ?_
      refine Y wn rfl (ypt (v := .bool true) (et rfl rfl) c9 rfl) ?_
      exact j1 _ _ ⟨rfl, rfl, rfl, rfl, (congrArg Value.bool (orT c9)), hst⟩
    · refine Y (wg rfl rfl rfl c9) rfl (ym (v := h5.v) (et rfl rfl)) ?_
      refine Y (wg rfl rfl rfl c9) rfl (yLen SL_22 (et rfl rfl) hst (rdI q2)) ?_
      refine Y (wg rfl rfl rfl c9) rfl (ygtr (et rfl rfl) rfl) ?_
      refine Y wn rfl (ypf (v := .bool (decide ((60 : Int) < (x4.length : Int)))) (et rfl rfl) c9 (et rfl rfl)) ?_
      exact j1 _ _ ⟨rfl, rfl, rfl, rfl, (congrArg Value.bool (orF c9)), hst⟩
  clear hst
  rintro f w ⟨e8_0, e8_1, e8_2, e8_3, e8_31, hst⟩
  refine wpList_nil ?_
  refine k3 _ _ ?_
  rcases iteS hM with ⟨c10, hM⟩ | ⟨c10, hM⟩
  · refine condT (et rfl e8_31) c10 ?_
    refine seqQ fun Q4 k4 z4 => ?_
    refine wp_region_lit ?_
    obtain ⟨r11, gr11, hM⟩ := bs hM
    refine Yc wn rfl (yCall FN_7 a0) (sparselaw18_awake_ok (hM := gr11) (hst := hst) ) ?_
    clear hst
    rintro _ w ⟨rfl, hst⟩
    refine ⟨_, rfl, ?_⟩
    refine Y wn rfl (ya (v := .bool r11) (et rfl rfl)) ?_
    refine wpList_nil ?_
    refine k4 _ _ ?_
    refine wp_ret ?_
    refine z2 _ _ _ rfl ?_
    obtain rfl := someI hM
    exact hQ _ _ _ (fin1r Try.results6 ⟨rfl, rfl⟩ ⟨rfl, hst⟩)
  · refine condF (et rfl e8_31) (bfalse c10) ?_
    refine wp_skip ?_
    refine k2 _ _ ?_
    refine seqQ fun Q5 k5 z5 => ?_
    refine wp_region_lit ?_
    refine Y wn rfl (ym (v := .int .i64 x1) (et rfl e8_0)) ?_
    obtain ⟨r12, gr12, hM⟩ := bs hM
    refine Yc wn rfl (yCall FN_8 (a2 (et rfl rfl) rfl)) (sparsekit_Place_ok (hM := gr12) (hst := hst) ) ?_
    clear hst
    rintro _ w ⟨rfl, hst⟩
    refine ⟨_, rfl, ?_⟩
    refine Y wn rfl (ya (v := .int .i64 r12) (et rfl rfl)) ?_
    refine wpList_nil ?_
    refine k5 _ _ ?_
    refine seqQ fun Q6 k6 z6 => ?_
    refine wp_region_lit ?_
    refine Y wn rfl (ym (v := .int .i64 r12) (et rfl rfl)) ?_
    refine Y wn rfl (ym (v := h3.v) (et rfl e8_1)) ?_
    refine Y wn rfl (ym (v := h5.v) (et rfl e8_2)) ?_
    obtain ⟨r13, gr13, hM⟩ := bs hM
    refine Yc wn rfl (yCall FN_9 (a3 (et rfl rfl) (et rfl rfl) (et rfl rfl))) (sparsemake_Weighted_ok (hM := gr13) (hst := hst) (q1 := q1) (q2 := q2)) ?_
    clear hst
    rintro _ w ⟨h14, h15, h16, rfl, hst⟩
    refine ⟨_, rfl, ?_⟩
    refine YB wn rfl (rAl hst ZT_29) ?_
    clear hst
    intro b17 w hst
    refine YT wn rfl (r_stbn (vals' := [h14.v, h15.v, h16.v]) (us := [h14.v, h15.v, h16.v]) hst ST_29 (et rfl rfl) (et rfl rfl) rfl rfl (one_of rfl) rfl) ?_
    clear hst
    intro w hst
    refine wpList_nil ?_
    refine k6 _ _ ?_
    refine seqQ fun Q7 k7 z7 => ?_
    refine wp_region_lit ?_
    refine Y wn rfl (yLbs (us := [h14.v, h15.v, h16.v]) ST_29 (et rfl rfl) hst mhR rfl rfl) ?_
    obtain ⟨r18, gr18, hM⟩ := bs hM
    replace hst := hst.pk 2 [1, 0] rfl
    replace hst := hst.fz
    replace hst := hst.pk 2 [1, 0] rfl
    replace hst := hst.fz
    replace hst := hst.pk 2 [1, 0] rfl
    replace hst := hst.fz
    refine Yc wn rfl (yCall FN_10 (a1 (et rfl rfl))) (dissect_Match_ok (hM := gr18) (hst := hst) (q1 := (mtF (mtF mhF))) (q2 := (mtF mhF)) (q3 := mhF)) ?_
    clear hst
    rintro _ w ⟨h19, rfl, hst⟩
    refine ⟨_, rfl, ?_⟩
    refine Y wn rfl (ym (v := .tuple #[h19.v, .int .i64 r18.2]) (et rfl rfl)) ?_
    refine Y wn rfl (yx (v := h19.v) (et rfl rfl) rfl) ?_
    refine Y wn rfl (yx (v := .int .i64 r18.2) (et rfl rfl) rfl) ?_
    refine Y wn rfl (ya (v := h19.v) (et rfl rfl)) ?_
    refine Y wn rfl (ya (v := .int .i64 r18.2) (et rfl rfl)) ?_
    refine wpList_nil ?_
    refine k7 _ _ ?_
    refine seqQ fun Q8 k8 z8 => ?_
    refine wp_region_lit ?_
    refine Y wn rfl (yLbs (us := [h14.v, h15.v, h16.v]) ST_29 (et rfl rfl) hst (mtR mhR) rfl rfl) ?_
    refine Y wn rfl (ym (v := h19.v) (et rfl rfl)) ?_
    obtain ⟨r20, gr20, hM⟩ := bs hM
    replace hst := hst.fz
    refine Yc wn rfl (yCall FN_22 (a2 (et rfl rfl) (et rfl rfl))) (dissect_Coarsen_ok (hM := gr20) (hst := hst) (q1 := (mtF (mtF (mtF mhF)))) (q2 := (mtF (mtF mhF))) (q3 := (mtF mhF)) (q4 := mhF)) ?_
    clear hst
    rintro _ w ⟨h21, y22, h23, h24, y25, h26, rfl, hst⟩
    refine ⟨_, rfl, ?_⟩
    refine Y wn rfl (ym (v := .tuple #[.agg #[h21.v, h23.v, h24.v], h26.v, .int .i64 r20.2.2.2.2]) (et rfl rfl)) ?_
    refine Y wn rfl (yx (v := .agg #[h21.v, h23.v, h24.v]) (et rfl rfl) rfl) ?_
    refine Y wn rfl (yx (v := h26.v) (et rfl rfl) rfl) ?_
    refine Y wn rfl (yx (v := .int .i64 r20.2.2.2.2) (et rfl rfl) rfl) ?_
    refine YB wn rfl (rAl hst ZT_29) ?_
    clear hst
    intro b27 w hst
    refine YT wn rfl (r_stbn (vals' := [h21.v, h23.v, h24.v]) (us := [h21.v, h23.v, h24.v]) hst ST_29 (et rfl rfl) (et rfl rfl) rfl rfl (one_of rfl) rfl) ?_
    clear hst
    intro w hst
    refine Y wn rfl (ya (v := h26.v) (et rfl rfl)) ?_
    refine Y wn rfl (ya (v := .int .i64 r20.2.2.2.2) (et rfl rfl)) ?_
    refine wpList_nil ?_
    refine k8 _ _ ?_
    refine seqQ fun Q9 k9 z9 => ?_
    refine wp_region_lit ?_
    refine Y wn rfl (yFb FL_29_1 (et rfl rfl)) ?_
    refine Y wn rfl (yLb (u := h23.v) O_22 (et rfl rfl) hst mhR rfl) ?_
    refine Y wn rfl (yLen SL_22 (et rfl rfl) hst (rdI mhF)) ?_
    refine Y wn rfl (ya (v := .int .i64 (r20.2.1.length : Int)) (et rfl rfl)) ?_
    refine wpList_nil ?_
    refine k9 _ _ ?_
    refine seqQ fun Q10 k10 z10 => ?_
    refine seqQ fun Q11 k11 z11 => ?_
    replace hst := hst.pk 3 [1, 1, 0] rfl
    replace hst := hst.ffz
    replace hst := hst.pk 3 [1, 1, 0] rfl
    replace hst := hst.ffz
    obtain ⟨r28, gr28, hM⟩ := bs hM
    obtain ⟨r29, gr29, hM⟩ := bs hM
    obtain ⟨r30, gr30, hM⟩ := bs hM
    obtain ⟨r31, gr31, hM⟩ := bs hM
    obtain ⟨r32, gr32, hM⟩ := bs hM
    refine joinN (n := 149) (fun f w => f 0 = .int .i64 r12 ∧ f 3 = h7.v ∧ f 9 = .pointer (some ⟨b17, 0, none⟩) ∧ f 12 = .pointer (some ⟨b27, 0, none⟩) ∧ f 13 = h26.v ∧ f 15 = .int .i64 (r20.2.1.length : Int) ∧ f 82 = .bool r32 ∧ St w0 (imm (rS (rI .i64)) h14.v r13.1 :: imm (rI .i64) h15.v r13.2.1 :: imm (rS (rI .i64)) h16.v r13.2.2 :: imm (rS (rI .i64)) h21.v r20.1 :: imm (rI .i64) h23.v r20.2.1 :: imm (rS (rI .i64)) h24.v r20.2.2.1 :: ros) (box b17 29 [h14.v, h15.v, h16.v] :: box b27 29 [h21.v, h23.v, h24.v] :: row 3 (rI .i64) h26.v r20.2.2.2.1 :: rs) w) (fun j2 => ?_) ?_
    · rcases iteS gr28 with ⟨c34, gr28⟩ | ⟨c34, gr28⟩
      · have hr3 := someI gr28
        rcases iteS gr29 with ⟨c35, gr29⟩ | ⟨c35, gr29⟩
        · have hr4 := someI gr29
          have c36 : r29 = true := hr4.symm
          rw [if_pos c36] at gr30
          have hr5 := someI gr30
          have c37 : r30 = true := hr5.symm
          rw [if_pos c37] at gr31
          have hr6 := someI gr31
          have c38 : r31 = true := hr6.symm
          rw [if_pos c38] at gr32
          have hr7 := someI gr32
          refine wp_drawR [0, 1, 3, 7, 15, 31, 63, 127, 255, 127, 1023, 2047, 4095, 8191, 16383, 32767, 65535, 131071, 262143, 524287, 262143, 2097151, 4194303, 8388607, 16777215, 33554431, 33554431, 134217727, 268435455] [14, 19, 21] 3 folM (by kernel_rfl) (by kernel_rfl) (by kernel_rfl) ?_
          replace hst := hst.drew
          refine DRn (l1 := [0, 1, 2, 3, 4, 5, 6, 7, 8, 9, 10, 11, 12, 13]) (l2 := []) (lc := [14]) (by kernel_rfl) (by kernel_rfl) (by kernel_rfl) ?_
          refine Ry rfl rfl wn (ym (v := .int .i64 r18.2) (et rfl rfl)) ?_
          refine Ry rfl rfl wn (yneq (et rfl rfl) rfl) ?_
          refine Ry rfl rfl wn (ym (v := .bool (!(decide (r18.2 = 0)))) (et rfl rfl)) ?_
          refine Ry rfl rfl (wg rfl rfl rfl (nF (decide_eq_true c34))) (ym (v := .int .i64 r20.2.2.2.2) (et rfl rfl)) ?_
          refine Ry rfl rfl (wg rfl rfl rfl (nF (decide_eq_true c34))) (yneq (et rfl rfl) rfl) ?_
          refine Ry rfl rfl wn (ypf (v := .bool r28) (et rfl rfl) (nF (decide_eq_true c34)) (eqv hr3 (et rfl rfl))) ?_
          refine Ry rfl rfl wn (ym (v := .bool r28) (et rfl rfl)) ?_
          refine Rx rfl rfl (wx rfl rfl rfl c35) ?_
          refine Rx rfl rfl (wx rfl rfl rfl c35) ?_
          refine Rx rfl rfl (wx rfl rfl rfl c35) ?_
          refine Rx rfl rfl (wx rfl rfl rfl c35) ?_
          refine Ry rfl rfl wn (ypt (v := .bool r29) (et rfl rfl) c35 (eqv hr4 rfl)) ?_
          refine Ry rfl rfl wn (ym (v := .bool r29) (et rfl rfl)) ?_
          refine Rx rfl rfl (wx rfl rfl rfl c36) ?_
          refine Rn QSn ?_
          refine Lc rfl ?_ LAn
          refine Lx (wx rfl rfl rfl c36) ?_
          refine DRn (l1 := [15, 16, 17, 18, 20]) (l2 := []) (lc := [19]) (by kernel_rfl) (by kernel_rfl) (by kernel_rfl) ?_
          refine Rx rfl rfl (wx rfl rfl rfl c36) ?_
          refine Ry rfl rfl wn (ypt (v := .bool r30) (et rfl rfl) c36 (eqv hr5 rfl)) ?_
          refine Ry rfl rfl wn (ym (v := .bool r30) (et rfl rfl)) ?_
          refine Rx rfl rfl (wx rfl rfl rfl c37) ?_
          refine Rx rfl rfl (wx rfl rfl rfl c37) ?_
          refine Rn QSn ?_
          refine Lc rfl ?_ LAn
          refine Lx (wx rfl rfl rfl c37) ?_
          refine DRn (l1 := []) (l2 := [20]) (lc := [21]) (by kernel_rfl) (by kernel_rfl) (by kernel_rfl) ?_
          refine Rn (Sx_ rfl rfl (wx rfl rfl rfl c37) rfl QSn) ?_
          refine Lc rfl ?_ LAn
          refine Lx (wx rfl rfl rfl c37) ?_
          refine DRz (l1 := [22, 23, 24, 25, 26, 27, 28]) (l2 := []) (by kernel_rfl) (by kernel_rfl) ?_
          refine Rx rfl rfl (wx rfl rfl rfl c37) ?_
          refine Ry rfl rfl wn (ypt (v := .bool r31) (et rfl rfl) c37 (eqv hr6 rfl)) ?_
          refine Ry rfl rfl wn (ym (v := .bool r31) (et rfl rfl)) ?_
          refine Rx rfl rfl (wx rfl rfl rfl c38) ?_
          refine Rx rfl rfl (wx rfl rfl rfl c38) ?_
          refine Rx rfl rfl (wx rfl rfl rfl c38) ?_
          refine Ry rfl rfl wn (ypt (v := .bool r32) (et rfl rfl) c38 (eqv hr7 rfl)) ?_
          refine Rn QSn ?_
          exact j2 _ _ ⟨rfl, e8_3, rfl, rfl, rfl, rfl, rfl, ((hst.pk 3 [2, 0, 0] rfl).facts (allC (mtF (mtF (mtF (mtF (mtF (mtF mhF)))))) (allC (mtF (mtF (mtF (mtF (mtF mhF))))) (allC (mtF (mtF (mtF (mtF mhF)))) (allC (mtF mhF) (allC (mtF (mtF mhF)) (allC mhF (allT (allT (allT (allT (allT (allT (allT allI))))))))))))))⟩
        · have hr8 := someI gr29
          rcases iteS gr30 with ⟨c39, gr30⟩ | ⟨c39, gr30⟩
          · have hr9 := someI gr30
            have c40 : r30 = true := hr9.symm
            rw [if_pos c40] at gr31
            have hr10 := someI gr31
            have c41 : r31 = true := hr10.symm
            rw [if_pos c41] at gr32
            have hr11 := someI gr32
            refine wp_drawR [0, 1, 3, 7, 15, 31, 63, 127, 255, 127, 1023, 2047, 4095, 8191, 16383, 32767, 65535, 131071, 262143, 524287, 262143, 2097151, 4194303, 8388607, 16777215, 33554431, 33554431, 134217727, 268435455] [14, 19, 21] 3 folM (by kernel_rfl) (by kernel_rfl) (by kernel_rfl) ?_
            replace hst := hst.drew
            refine DRn (l1 := [0, 1, 2, 3, 4, 5, 6, 7, 8, 9, 10, 11, 12, 13]) (l2 := []) (lc := [14]) (by kernel_rfl) (by kernel_rfl) (by kernel_rfl) ?_
            refine Ry rfl rfl wn (ym (v := .int .i64 r18.2) (et rfl rfl)) ?_
            refine Ry rfl rfl wn (yneq (et rfl rfl) rfl) ?_
            refine Ry rfl rfl wn (ym (v := .bool (!(decide (r18.2 = 0)))) (et rfl rfl)) ?_
            refine Ry rfl rfl (wg rfl rfl rfl (nF (decide_eq_true c34))) (ym (v := .int .i64 r20.2.2.2.2) (et rfl rfl)) ?_
            refine Ry rfl rfl (wg rfl rfl rfl (nF (decide_eq_true c34))) (yneq (et rfl rfl) rfl) ?_
            refine Ry rfl rfl wn (ypf (v := .bool r28) (et rfl rfl) (nF (decide_eq_true c34)) (eqv hr3 (et rfl rfl))) ?_
            refine Ry rfl rfl wn (ym (v := .bool r28) (et rfl rfl)) ?_
            refine Ry rfl rfl (wg rfl rfl rfl (bfalse c35)) (ym (v := h26.v) (et rfl rfl)) ?_
            refine Ry rfl rfl (wg rfl rfl rfl (bfalse c35)) (yLen SL_22 (et rfl rfl) hst (rdO (mtR mhR))) ?_
            refine Ry rfl rfl (wg rfl rfl rfl (bfalse c35)) (ym (v := .int .i64 r12) (et rfl rfl)) ?_
            refine Ry rfl rfl (wg rfl rfl rfl (bfalse c35)) (yneq (et rfl rfl) (et rfl rfl)) ?_
            refine Ry rfl rfl wn (ypf (v := .bool r29) (et rfl rfl) (bfalse c35) (eqv hr8 (et rfl rfl))) ?_
            refine Ry rfl rfl wn (ym (v := .bool r29) (et rfl rfl)) ?_
            refine Rx rfl rfl (wx rfl rfl rfl c39) ?_
            refine Rn QSn ?_
            refine Lc rfl ?_ LAn
            refine Lx (wx rfl rfl rfl c39) ?_
            refine DRn (l1 := [15, 16, 17, 18, 20]) (l2 := []) (lc := [19]) (by kernel_rfl) (by kernel_rfl) (by kernel_rfl) ?_
            refine Rx rfl rfl (wx rfl rfl rfl c39) ?_
            refine Ry rfl rfl wn (ypt (v := .bool r30) (et rfl rfl) c39 (eqv hr9 rfl)) ?_
            refine Ry rfl rfl wn (ym (v := .bool r30) (et rfl rfl)) ?_
            refine Rx rfl rfl (wx rfl rfl rfl c40) ?_
            refine Rx rfl rfl (wx rfl rfl rfl c40) ?_
            refine Rn QSn ?_
            refine Lc rfl ?_ LAn
            refine Lx (wx rfl rfl rfl c40) ?_
            refine DRn (l1 := []) (l2 := [20]) (lc := [21]) (by kernel_rfl) (by kernel_rfl) (by kernel_rfl) ?_
            refine Rn (Sx_ rfl rfl (wx rfl rfl rfl c40) rfl QSn) ?_
            refine Lc rfl ?_ LAn
            refine Lx (wx rfl rfl rfl c40) ?_
            refine DRz (l1 := [22, 23, 24, 25, 26, 27, 28]) (l2 := []) (by kernel_rfl) (by kernel_rfl) ?_
            refine Rx rfl rfl (wx rfl rfl rfl c40) ?_
            refine Ry rfl rfl wn (ypt (v := .bool r31) (et rfl rfl) c40 (eqv hr10 rfl)) ?_
            refine Ry rfl rfl wn (ym (v := .bool r31) (et rfl rfl)) ?_
            refine Rx rfl rfl (wx rfl rfl rfl c41) ?_
            refine Rx rfl rfl (wx rfl rfl rfl c41) ?_
            refine Rx rfl rfl (wx rfl rfl rfl c41) ?_
            refine Ry rfl rfl wn (ypt (v := .bool r32) (et rfl rfl) c41 (eqv hr11 rfl)) ?_
            refine Rn QSn ?_
            exact j2 _ _ ⟨rfl, e8_3, rfl, rfl, rfl, rfl, rfl, ((hst.pk 3 [2, 0, 0] rfl).facts (allC (mtF (mtF (mtF (mtF (mtF (mtF mhF)))))) (allC (mtF (mtF (mtF (mtF (mtF mhF))))) (allC (mtF (mtF (mtF (mtF mhF)))) (allC (mtF mhF) (allC (mtF (mtF mhF)) (allC mhF (allT (allT (allT (allT (allT (allT (allT allI))))))))))))))⟩
          · obtain ⟨r42, gr42, gr30⟩ := bs gr30
            have hr12 := someI gr30
            rcases iteS gr31 with ⟨c43, gr31⟩ | ⟨c43, gr31⟩
            · have hr13 := someI gr31
              have c44 : r31 = true := hr13.symm
              rw [if_pos c44] at gr32
              have hr14 := someI gr32
              refine wp_drawR [0, 1, 3, 7, 15, 31, 63, 127, 255, 127, 1023, 2047, 4095, 8191, 16383, 32767, 65535, 131071, 262143, 524287, 262143, 2097151, 4194303, 8388607, 16777215, 33554431, 33554431, 134217727, 268435455] [14, 19, 21] 3 folM (by kernel_rfl) (by kernel_rfl) (by kernel_rfl) ?_
              replace hst := hst.drew
              refine DRn (l1 := [0, 1, 2, 3, 4, 5, 6, 7, 8, 9, 10, 11, 12, 13]) (l2 := []) (lc := [14]) (by kernel_rfl) (by kernel_rfl) (by kernel_rfl) ?_
              refine Ry rfl rfl wn (ym (v := .int .i64 r18.2) (et rfl rfl)) ?_
              refine Ry rfl rfl wn (yneq (et rfl rfl) rfl) ?_
              refine Ry rfl rfl wn (ym (v := .bool (!(decide (r18.2 = 0)))) (et rfl rfl)) ?_
              refine Ry rfl rfl (wg rfl rfl rfl (nF (decide_eq_true c34))) (ym (v := .int .i64 r20.2.2.2.2) (et rfl rfl)) ?_
              refine Ry rfl rfl (wg rfl rfl rfl (nF (decide_eq_true c34))) (yneq (et rfl rfl) rfl) ?_
              refine Ry rfl rfl wn (ypf (v := .bool r28) (et rfl rfl) (nF (decide_eq_true c34)) (eqv hr3 (et rfl rfl))) ?_
              refine Ry rfl rfl wn (ym (v := .bool r28) (et rfl rfl)) ?_
              refine Ry rfl rfl (wg rfl rfl rfl (bfalse c35)) (ym (v := h26.v) (et rfl rfl)) ?_
              refine Ry rfl rfl (wg rfl rfl rfl (bfalse c35)) (yLen SL_22 (et rfl rfl) hst (rdO (mtR mhR))) ?_
              refine Ry rfl rfl (wg rfl rfl rfl (bfalse c35)) (ym (v := .int .i64 r12) (et rfl rfl)) ?_
              refine Ry rfl rfl (wg rfl rfl rfl (bfalse c35)) (yneq (et rfl rfl) (et rfl rfl)) ?_
              refine Ry rfl rfl wn (ypf (v := .bool r29) (et rfl rfl) (bfalse c35) (eqv hr8 (et rfl rfl))) ?_
              refine Ry rfl rfl wn (ym (v := .bool r29) (et rfl rfl)) ?_
              refine Ry rfl rfl (wg rfl rfl rfl (bfalse c39)) (yLbs (us := [h21.v, h23.v, h24.v]) ST_29 (et rfl rfl) hst mhR rfl rfl) ?_
              refine Rn QSn ?_
              refine Lc rfl ?_ LAn
              refine Lk (wg rfl rfl rfl (bfalse c39)) (yCall FN_23 (a1 (et rfl rfl))) (dissect_CheckWeighted_ok (hM := gr42) (hst := hst) (q1 := (mtF mhF)) (q2 := (mtF (mtF mhF))) (q3 := mhF)) ?_
              clear hst
              rintro _ w ⟨rfl, hst⟩
              refine ⟨_, rfl, ?_⟩
              refine DRn (l1 := [15, 16, 17, 18, 20]) (l2 := []) (lc := [19]) (by kernel_rfl) (by kernel_rfl) (by kernel_rfl) ?_
              refine Ry rfl rfl (wg rfl rfl rfl (bfalse c39)) (yneq (et rfl rfl) rfl) ?_
              refine Ry rfl rfl wn (ypf (v := .bool r30) (et rfl rfl) (bfalse c39) (eqv hr12 (et rfl rfl))) ?_
              refine Ry rfl rfl wn (ym (v := .bool r30) (et rfl rfl)) ?_
              refine Rx rfl rfl (wx rfl rfl rfl c43) ?_
              refine Rx rfl rfl (wx rfl rfl rfl c43) ?_
              refine Rn QSn ?_
              refine Lc rfl ?_ LAn
              refine Lx (wx rfl rfl rfl c43) ?_
              refine DRn (l1 := []) (l2 := [20]) (lc := [21]) (by kernel_rfl) (by kernel_rfl) (by kernel_rfl) ?_
              refine Rn (Sx_ rfl rfl (wx rfl rfl rfl c43) rfl QSn) ?_
              refine Lc rfl ?_ LAn
              refine Lx (wx rfl rfl rfl c43) ?_
              refine DRz (l1 := [22, 23, 24, 25, 26, 27, 28]) (l2 := []) (by kernel_rfl) (by kernel_rfl) ?_
              refine Rx rfl rfl (wx rfl rfl rfl c43) ?_
              refine Ry rfl rfl wn (ypt (v := .bool r31) (et rfl rfl) c43 (eqv hr13 rfl)) ?_
              refine Ry rfl rfl wn (ym (v := .bool r31) (et rfl rfl)) ?_
              refine Rx rfl rfl (wx rfl rfl rfl c44) ?_
              refine Rx rfl rfl (wx rfl rfl rfl c44) ?_
              refine Rx rfl rfl (wx rfl rfl rfl c44) ?_
              refine Ry rfl rfl wn (ypt (v := .bool r32) (et rfl rfl) c44 (eqv hr14 rfl)) ?_
              refine Rn QSn ?_
              exact j2 _ _ ⟨rfl, e8_3, rfl, rfl, rfl, rfl, rfl, ((hst.pk 3 [2, 0, 0] rfl).facts (allC (mtF (mtF (mtF (mtF (mtF (mtF mhF)))))) (allC (mtF (mtF (mtF (mtF (mtF mhF))))) (allC (mtF (mtF (mtF (mtF mhF)))) (allC (mtF mhF) (allC (mtF (mtF mhF)) (allC mhF (allT (allT (allT (allT (allT (allT (allT allI))))))))))))))⟩
            · obtain ⟨r45, gr45, gr31⟩ := bs gr31
              obtain ⟨r46, gr46, gr31⟩ := bs gr31
              have hr15 := someI gr31
              rcases iteS gr32 with ⟨c47, gr32⟩ | ⟨c47, gr32⟩
              · have hr16 := someI gr32
                refine wp_drawR [0, 1, 3, 7, 15, 31, 63, 127, 255, 127, 1023, 2047, 4095, 8191, 16383, 32767, 65535, 131071, 262143, 524287, 262143, 2097151, 4194303, 8388607, 16777215, 33554431, 33554431, 134217727, 268435455] [14, 19, 21] 3 folM (by kernel_rfl) (by kernel_rfl) (by kernel_rfl) ?_
                replace hst := hst.drew
                refine DRn (l1 := [0, 1, 2, 3, 4, 5, 6, 7, 8, 9, 10, 11, 12, 13]) (l2 := []) (lc := [14]) (by kernel_rfl) (by kernel_rfl) (by kernel_rfl) ?_
                refine Ry rfl rfl wn (ym (v := .int .i64 r18.2) (et rfl rfl)) ?_
                refine Ry rfl rfl wn (yneq (et rfl rfl) rfl) ?_
                refine Ry rfl rfl wn (ym (v := .bool (!(decide (r18.2 = 0)))) (et rfl rfl)) ?_
                refine Ry rfl rfl (wg rfl rfl rfl (nF (decide_eq_true c34))) (ym (v := .int .i64 r20.2.2.2.2) (et rfl rfl)) ?_
                refine Ry rfl rfl (wg rfl rfl rfl (nF (decide_eq_true c34))) (yneq (et rfl rfl) rfl) ?_
                refine Ry rfl rfl wn (ypf (v := .bool r28) (et rfl rfl) (nF (decide_eq_true c34)) (eqv hr3 (et rfl rfl))) ?_
                refine Ry rfl rfl wn (ym (v := .bool r28) (et rfl rfl)) ?_
                refine Ry rfl rfl (wg rfl rfl rfl (bfalse c35)) (ym (v := h26.v) (et rfl rfl)) ?_
                refine Ry rfl rfl (wg rfl rfl rfl (bfalse c35)) (yLen SL_22 (et rfl rfl) hst (rdO (mtR mhR))) ?_
                refine Ry rfl rfl (wg rfl rfl rfl (bfalse c35)) (ym (v := .int .i64 r12) (et rfl rfl)) ?_
                refine Ry rfl rfl (wg rfl rfl rfl (bfalse c35)) (yneq (et rfl rfl) (et rfl rfl)) ?_
                refine Ry rfl rfl wn (ypf (v := .bool r29) (et rfl rfl) (bfalse c35) (eqv hr8 (et rfl rfl))) ?_
                refine Ry rfl rfl wn (ym (v := .bool r29) (et rfl rfl)) ?_
                refine Ry rfl rfl (wg rfl rfl rfl (bfalse c39)) (yLbs (us := [h21.v, h23.v, h24.v]) ST_29 (et rfl rfl) hst mhR rfl rfl) ?_
                refine Rn QSn ?_
                refine Lc rfl ?_ LAn
                refine Lk (wg rfl rfl rfl (bfalse c39)) (yCall FN_23 (a1 (et rfl rfl))) (dissect_CheckWeighted_ok (hM := gr42) (hst := hst) (q1 := (mtF mhF)) (q2 := (mtF (mtF mhF))) (q3 := mhF)) ?_
                clear hst
                rintro _ w ⟨rfl, hst⟩
                refine ⟨_, rfl, ?_⟩
                refine DRn (l1 := [15, 16, 17, 18, 20]) (l2 := []) (lc := [19]) (by kernel_rfl) (by kernel_rfl) (by kernel_rfl) ?_
                refine Ry rfl rfl (wg rfl rfl rfl (bfalse c39)) (yneq (et rfl rfl) rfl) ?_
                refine Ry rfl rfl wn (ypf (v := .bool r30) (et rfl rfl) (bfalse c39) (eqv hr12 (et rfl rfl))) ?_
                refine Ry rfl rfl wn (ym (v := .bool r30) (et rfl rfl)) ?_
                refine Ry rfl rfl (wg rfl rfl rfl (bfalse c43)) (yLbs (us := [h21.v, h23.v, h24.v]) ST_29 (et rfl rfl) hst mhR rfl rfl) ?_
                refine Ry rfl rfl (wg rfl rfl rfl (bfalse c43)) (yLbs (us := [h14.v, h15.v, h16.v]) ST_29 (et rfl rfl) hst (mtR (mtR mhR)) rfl rfl) ?_
                refine Rn QSn ?_
                refine Lc rfl ?_ LAn
                refine Lk (wg rfl rfl rfl (bfalse c43)) (yCall FN_24 (a1 (et rfl rfl))) (sparseref18_Total_ok (hM := gr45) (hst := hst) (q1 := (mtF mhF)) (q2 := (mtF (mtF mhF))) (q3 := mhF)) ?_
                clear hst
                rintro _ w ⟨rfl, hst⟩
                refine ⟨_, rfl, ?_⟩
                refine DRn (l1 := []) (l2 := [20]) (lc := [21]) (by kernel_rfl) (by kernel_rfl) (by kernel_rfl) ?_
                refine Rn (Sy rfl rfl (wg rfl rfl rfl (bfalse c43)) (yLbs (us := [h14.v, h15.v, h16.v]) ST_29 (et rfl rfl) hst (mtR (mtR mhR)) rfl rfl) rfl QSn) ?_
                refine Lc rfl ?_ LAn
                refine Lk (wg rfl rfl rfl (bfalse c43)) (yCall FN_24 (a1 (et rfl rfl))) (sparseref18_Total_ok (hM := gr46) (hst := hst) (q1 := (mtF (mtF (mtF (mtF (mtF (mtF mhF))))))) (q2 := (mtF (mtF (mtF (mtF (mtF mhF)))))) (q3 := (mtF (mtF (mtF (mtF mhF)))))) ?_
                clear hst
                rintro _ w ⟨rfl, hst⟩
                refine ⟨_, rfl, ?_⟩
                refine DRz (l1 := [22, 23, 24, 25, 26, 27, 28]) (l2 := []) (by kernel_rfl) (by kernel_rfl) ?_
                refine Ry rfl rfl (wg rfl rfl rfl (bfalse c43)) (yneq (et rfl rfl) (et rfl rfl)) ?_
                refine Ry rfl rfl wn (ypf (v := .bool r31) (et rfl rfl) (bfalse c43) (eqv hr15 (et rfl rfl))) ?_
                refine Ry rfl rfl wn (ym (v := .bool r31) (et rfl rfl)) ?_
                refine Rx rfl rfl (wx rfl rfl rfl c47) ?_
                refine Rx rfl rfl (wx rfl rfl rfl c47) ?_
                refine Rx rfl rfl (wx rfl rfl rfl c47) ?_
                refine Ry rfl rfl wn (ypt (v := .bool r32) (et rfl rfl) c47 (eqv hr16 rfl)) ?_
                refine Rn QSn ?_
                exact j2 _ _ ⟨rfl, e8_3, rfl, rfl, rfl, rfl, rfl, ((hst.pk 3 [2, 0, 0] rfl).facts (allC (mtF (mtF (mtF (mtF (mtF (mtF mhF)))))) (allC (mtF (mtF (mtF (mtF (mtF mhF))))) (allC (mtF (mtF (mtF (mtF mhF)))) (allC (mtF mhF) (allC (mtF (mtF mhF)) (allC mhF (allT (allT (allT (allT (allT (allT (allT allI))))))))))))))⟩
              · have hr17 := someI gr32
                refine wp_drawR [0, 1, 3, 7, 15, 31, 63, 127, 255, 127, 1023, 2047, 4095, 8191, 16383, 32767, 65535, 131071, 262143, 524287, 262143, 2097151, 4194303, 8388607, 16777215, 33554431, 33554431, 134217727, 268435455] [14, 19, 21] 3 folM (by kernel_rfl) (by kernel_rfl) (by kernel_rfl) ?_
                replace hst := hst.drew
                refine DRn (l1 := [0, 1, 2, 3, 4, 5, 6, 7, 8, 9, 10, 11, 12, 13]) (l2 := []) (lc := [14]) (by kernel_rfl) (by kernel_rfl) (by kernel_rfl) ?_
                refine Ry rfl rfl wn (ym (v := .int .i64 r18.2) (et rfl rfl)) ?_
                refine Ry rfl rfl wn (yneq (et rfl rfl) rfl) ?_
                refine Ry rfl rfl wn (ym (v := .bool (!(decide (r18.2 = 0)))) (et rfl rfl)) ?_
                refine Ry rfl rfl (wg rfl rfl rfl (nF (decide_eq_true c34))) (ym (v := .int .i64 r20.2.2.2.2) (et rfl rfl)) ?_
                refine Ry rfl rfl (wg rfl rfl rfl (nF (decide_eq_true c34))) (yneq (et rfl rfl) rfl) ?_
                refine Ry rfl rfl wn (ypf (v := .bool r28) (et rfl rfl) (nF (decide_eq_true c34)) (eqv hr3 (et rfl rfl))) ?_
                refine Ry rfl rfl wn (ym (v := .bool r28) (et rfl rfl)) ?_
                refine Ry rfl rfl (wg rfl rfl rfl (bfalse c35)) (ym (v := h26.v) (et rfl rfl)) ?_
                refine Ry rfl rfl (wg rfl rfl rfl (bfalse c35)) (yLen SL_22 (et rfl rfl) hst (rdO (mtR mhR))) ?_
                refine Ry rfl rfl (wg rfl rfl rfl (bfalse c35)) (ym (v := .int .i64 r12) (et rfl rfl)) ?_
                refine Ry rfl rfl (wg rfl rfl rfl (bfalse c35)) (yneq (et rfl rfl) (et rfl rfl)) ?_
                refine Ry rfl rfl wn (ypf (v := .bool r29) (et rfl rfl) (bfalse c35) (eqv hr8 (et rfl rfl))) ?_
                refine Ry rfl rfl wn (ym (v := .bool r29) (et rfl rfl)) ?_
                refine Ry rfl rfl (wg rfl rfl rfl (bfalse c39)) (yLbs (us := [h21.v, h23.v, h24.v]) ST_29 (et rfl rfl) hst mhR rfl rfl) ?_
                refine Rn QSn ?_
                refine Lc rfl ?_ LAn
                refine Lk (wg rfl rfl rfl (bfalse c39)) (yCall FN_23 (a1 (et rfl rfl))) (dissect_CheckWeighted_ok (hM := gr42) (hst := hst) (q1 := (mtF mhF)) (q2 := (mtF (mtF mhF))) (q3 := mhF)) ?_
                clear hst
                rintro _ w ⟨rfl, hst⟩
                refine ⟨_, rfl, ?_⟩
                refine DRn (l1 := [15, 16, 17, 18, 20]) (l2 := []) (lc := [19]) (by kernel_rfl) (by kernel_rfl) (by kernel_rfl) ?_
                refine Ry rfl rfl (wg rfl rfl rfl (bfalse c39)) (yneq (et rfl rfl) rfl) ?_
                refine Ry rfl rfl wn (ypf (v := .bool r30) (et rfl rfl) (bfalse c39) (eqv hr12 (et rfl rfl))) ?_
                refine Ry rfl rfl wn (ym (v := .bool r30) (et rfl rfl)) ?_
                refine Ry rfl rfl (wg rfl rfl rfl (bfalse c43)) (yLbs (us := [h21.v, h23.v, h24.v]) ST_29 (et rfl rfl) hst mhR rfl rfl) ?_
                refine Ry rfl rfl (wg rfl rfl rfl (bfalse c43)) (yLbs (us := [h14.v, h15.v, h16.v]) ST_29 (et rfl rfl) hst (mtR (mtR mhR)) rfl rfl) ?_
                refine Rn QSn ?_
                refine Lc rfl ?_ LAn
                refine Lk (wg rfl rfl rfl (bfalse c43)) (yCall FN_24 (a1 (et rfl rfl))) (sparseref18_Total_ok (hM := gr45) (hst := hst) (q1 := (mtF mhF)) (q2 := (mtF (mtF mhF))) (q3 := mhF)) ?_
                clear hst
                rintro _ w ⟨rfl, hst⟩
                refine ⟨_, rfl, ?_⟩
                refine DRn (l1 := []) (l2 := [20]) (lc := [21]) (by kernel_rfl) (by kernel_rfl) (by kernel_rfl) ?_
                refine Rn (Sy rfl rfl (wg rfl rfl rfl (bfalse c43)) (yLbs (us := [h14.v, h15.v, h16.v]) ST_29 (et rfl rfl) hst (mtR (mtR mhR)) rfl rfl) rfl QSn) ?_
                refine Lc rfl ?_ LAn
                refine Lk (wg rfl rfl rfl (bfalse c43)) (yCall FN_24 (a1 (et rfl rfl))) (sparseref18_Total_ok (hM := gr46) (hst := hst) (q1 := (mtF (mtF (mtF (mtF (mtF (mtF mhF))))))) (q2 := (mtF (mtF (mtF (mtF (mtF mhF)))))) (q3 := (mtF (mtF (mtF (mtF mhF)))))) ?_
                clear hst
                rintro _ w ⟨rfl, hst⟩
                refine ⟨_, rfl, ?_⟩
                refine DRz (l1 := [22, 23, 24, 25, 26, 27, 28]) (l2 := []) (by kernel_rfl) (by kernel_rfl) ?_
                refine Ry rfl rfl (wg rfl rfl rfl (bfalse c43)) (yneq (et rfl rfl) (et rfl rfl)) ?_
                refine Ry rfl rfl wn (ypf (v := .bool r31) (et rfl rfl) (bfalse c43) (eqv hr15 (et rfl rfl))) ?_
                refine Ry rfl rfl wn (ym (v := .bool r31) (et rfl rfl)) ?_
                refine Ry rfl rfl (wg rfl rfl rfl (bfalse c47)) (ym (v := .int .i64 (r20.2.1.length : Int)) (et rfl rfl)) ?_
                refine Ry rfl rfl (wg rfl rfl rfl (bfalse c47)) (ym (v := .int .i64 r12) (et rfl rfl)) ?_
                refine Ry rfl rfl (wg rfl rfl rfl (bfalse c47)) (ygtr (et rfl rfl) (et rfl rfl)) ?_
                refine Ry rfl rfl wn (ypf (v := .bool r32) (et rfl rfl) (bfalse c47) (eqv hr17 (et rfl rfl))) ?_
                refine Rn QSn ?_
                exact j2 _ _ ⟨rfl, e8_3, rfl, rfl, rfl, rfl, rfl, ((hst.pk 3 [2, 0, 0] rfl).facts (allC (mtF (mtF (mtF (mtF (mtF (mtF mhF)))))) (allC (mtF (mtF (mtF (mtF (mtF mhF))))) (allC (mtF (mtF (mtF (mtF mhF)))) (allC (mtF mhF) (allC (mtF (mtF mhF)) (allC mhF (allT (allT (allT (allT (allT (allT (allT allI))))))))))))))⟩
      · have hr18 := someI gr28
        have c48 : r28 = true := hr18.symm
        rw [if_pos c48] at gr29
        have hr19 := someI gr29
        have c49 : r29 = true := hr19.symm
        rw [if_pos c49] at gr30
        have hr20 := someI gr30
        have c50 : r30 = true := hr20.symm
        rw [if_pos c50] at gr31
        have hr21 := someI gr31
        have c51 : r31 = true := hr21.symm
        rw [if_pos c51] at gr32
        have hr22 := someI gr32
        refine wp_drawR [0, 1, 3, 7, 15, 31, 63, 127, 255, 127, 1023, 2047, 4095, 8191, 16383, 32767, 65535, 131071, 262143, 524287, 262143, 2097151, 4194303, 8388607, 16777215, 33554431, 33554431, 134217727, 268435455] [14, 19, 21] 3 folM (by kernel_rfl) (by kernel_rfl) (by kernel_rfl) ?_
        replace hst := hst.drew
        refine DRn (l1 := [0, 1, 2, 3, 4, 5, 6, 7, 8, 9, 10, 11, 12, 13]) (l2 := []) (lc := [14]) (by kernel_rfl) (by kernel_rfl) (by kernel_rfl) ?_
        refine Ry rfl rfl wn (ym (v := .int .i64 r18.2) (et rfl rfl)) ?_
        refine Ry rfl rfl wn (yneq (et rfl rfl) rfl) ?_
        refine Ry rfl rfl wn (ym (v := .bool (!(decide (r18.2 = 0)))) (et rfl rfl)) ?_
        refine Rx rfl rfl (wx rfl rfl rfl (nT (decide_eq_false c34))) ?_
        refine Rx rfl rfl (wx rfl rfl rfl (nT (decide_eq_false c34))) ?_
        refine Ry rfl rfl wn (ypt (v := .bool r28) (et rfl rfl) (nT (decide_eq_false c34)) (eqv hr18 rfl)) ?_
        refine Ry rfl rfl wn (ym (v := .bool r28) (et rfl rfl)) ?_
        refine Rx rfl rfl (wx rfl rfl rfl c48) ?_
        refine Rx rfl rfl (wx rfl rfl rfl c48) ?_
        refine Rx rfl rfl (wx rfl rfl rfl c48) ?_
        refine Rx rfl rfl (wx rfl rfl rfl c48) ?_
        refine Ry rfl rfl wn (ypt (v := .bool r29) (et rfl rfl) c48 (eqv hr19 rfl)) ?_
        refine Ry rfl rfl wn (ym (v := .bool r29) (et rfl rfl)) ?_
        refine Rx rfl rfl (wx rfl rfl rfl c49) ?_
        refine Rn QSn ?_
        refine Lc rfl ?_ LAn
        refine Lx (wx rfl rfl rfl c49) ?_
        refine DRn (l1 := [15, 16, 17, 18, 20]) (l2 := []) (lc := [19]) (by kernel_rfl) (by kernel_rfl) (by kernel_rfl) ?_
        refine Rx rfl rfl (wx rfl rfl rfl c49) ?_
        refine Ry rfl rfl wn (ypt (v := .bool r30) (et rfl rfl) c49 (eqv hr20 rfl)) ?_
        refine Ry rfl rfl wn (ym (v := .bool r30) (et rfl rfl)) ?_
        refine Rx rfl rfl (wx rfl rfl rfl c50) ?_
        refine Rx rfl rfl (wx rfl rfl rfl c50) ?_
        refine Rn QSn ?_
        refine Lc rfl ?_ LAn
        refine Lx (wx rfl rfl rfl c50) ?_
        refine DRn (l1 := []) (l2 := [20]) (lc := [21]) (by kernel_rfl) (by kernel_rfl) (by kernel_rfl) ?_
        refine Rn (Sx_ rfl rfl (wx rfl rfl rfl c50) rfl QSn) ?_
        refine Lc rfl ?_ LAn
        refine Lx (wx rfl rfl rfl c50) ?_
        refine DRz (l1 := [22, 23, 24, 25, 26, 27, 28]) (l2 := []) (by kernel_rfl) (by kernel_rfl) ?_
        refine Rx rfl rfl (wx rfl rfl rfl c50) ?_
        refine Ry rfl rfl wn (ypt (v := .bool r31) (et rfl rfl) c50 (eqv hr21 rfl)) ?_
        refine Ry rfl rfl wn (ym (v := .bool r31) (et rfl rfl)) ?_
        refine Rx rfl rfl (wx rfl rfl rfl c51) ?_
        refine Rx rfl rfl (wx rfl rfl rfl c51) ?_
        refine Rx rfl rfl (wx rfl rfl rfl c51) ?_
        refine Ry rfl rfl wn (ypt (v := .bool r32) (et rfl rfl) c51 (eqv hr22 rfl)) ?_
        refine Rn QSn ?_
        exact j2 _ _ ⟨rfl, e8_3, rfl, rfl, rfl, rfl, rfl, ((hst.pk 3 [2, 0, 0] rfl).facts (allC (mtF (mtF (mtF (mtF (mtF (mtF mhF)))))) (allC (mtF (mtF (mtF (mtF (mtF mhF))))) (allC (mtF (mtF (mtF (mtF mhF)))) (allC (mtF mhF) (allC (mtF (mtF mhF)) (allC mhF (allT (allT (allT (allT (allT (allT (allT allI))))))))))))))⟩
    clear hst
    rintro f w ⟨e33_0, e33_3, e33_9, e33_12, e33_13, e33_15, e33_82, hst⟩
    refine k11 _ _ ?_
    rcases iteS hM with ⟨c52, hM⟩ | ⟨c52, hM⟩
    · refine condT (et rfl e33_82) c52 ?_
      refine seqQ fun Q12 k12 z12 => ?_
      refine wp_region_lit ?_
      refine Y wn rfl (ya (v := .bool false) rfl) ?_
      refine wpList_nil ?_
      refine k12 _ _ ?_
      refine wp_ret ?_
      refine z10 _ _ _ rfl ?_
      obtain rfl := someI hM
      exact hQ _ _ _ (fin1r Try.results6 ⟨rfl, rfl⟩ ⟨rfl, ((hst.pk 3 [] rfl).facts (allT (allT (allT (allT (allT (allT allI)))))))⟩)
    · refine condF (et rfl e33_82) (bfalse c52) ?_
      refine wp_skip ?_
      refine k10 _ _ ?_
      refine seqQ fun Q13 k13 z13 => ?_
      refine wp_region_lit ?_
      refine Y wn rfl (ya (v := hnil.v) rfl) ?_
      refine Y wn rfl (ya (v := hnil.v) rfl) ?_
      refine wpList_nil ?_
      refine k13 _ _ ?_
      refine seqQ fun Q14 k14 z14 => ?_
      refine seqQ fun Q15 k15 z15 => ?_
      refine wp_region_lit ?_
      refine Y wn rfl (ya (v := .int .i64 0) rfl) ?_
      refine wpList_nil ?_
      refine k15 _ _ ?_
      refine blockQ fun Q16 qb16 => ?_
      obtain ⟨o23, go23, hM⟩ := bs hM
      have je23_0 : ∀ (x72 : List Int) (h71 : Hdr) (f : Nat → Value) (w : World), f 0 = .int .i64 r12 → f 9 = .pointer (some ⟨b17, 0, none⟩) → f 12 = .pointer (some ⟨b27, 0, none⟩) → f 13 = h26.v → f 15 = .int .i64 (r20.2.1.length : Int) → f 16 = h71.v → f 17 = hnil.v → St w0 (imm (rS (rI .i64)) h14.v r13.1 :: imm (rI .i64) h15.v r13.2.1 :: imm (rS (rI .i64)) h16.v r13.2.2 :: imm (rS (rI .i64)) h21.v r20.1 :: imm (rI .i64) h23.v r20.2.1 :: imm (rS (rI .i64)) h24.v r20.2.2.1 :: ros) (box b17 29 [h14.v, h15.v, h16.v] :: box b27 29 [h21.v, h23.v, h24.v] :: row 3 (rI .i64) h26.v r20.2.2.2.1 :: row 3 (rI .i64) h71.v x72 :: rs) w → x72 = o23 → Q16 (.exit 0) (fr 149 f) w := by
        intro x72 h71 f w eje23_0_0 eje23_0_9 eje23_0_12 eje23_0_13 eje23_0_15 eje23_0_16 eje23_0_17 hst ho
        subst ho
        refine qb16 _ _ _ ?_
        refine k14 _ _ ?_
        refine seqQ fun Q25 k25 z25 => ?_
        refine seqQ fun Q26 k26 z26 => ?_
        refine wp_region_lit ?_
        refine Y wn rfl (ya (v := .int .i64 0) rfl) ?_
        refine wpList_nil ?_
        refine k26 _ _ ?_
        refine blockQ fun Q27 qb27 => ?_
        obtain ⟨o26, go26, hM⟩ := bs hM
        have je26_0 : ∀ (x106 : List Int) (h105 : Hdr) (f : Nat → Value) (w : World), f 9 = .pointer (some ⟨b17, 0, none⟩) → f 12 = .pointer (some ⟨b27, 0, none⟩) → f 16 = h71.v → f 17 = h105.v → St w0 (imm (rS (rI .i64)) h14.v r13.1 :: imm (rI .i64) h15.v r13.2.1 :: imm (rS (rI .i64)) h16.v r13.2.2 :: imm (rS (rI .i64)) h21.v r20.1 :: imm (rI .i64) h23.v r20.2.1 :: imm (rS (rI .i64)) h24.v r20.2.2.1 :: ros) (box b17 29 [h14.v, h15.v, h16.v] :: box b27 29 [h21.v, h23.v, h24.v] :: row 3 (rI .i64) h71.v x72 :: row 3 (rI .i64) h105.v x106 :: rs) w → .inl x106 = o26 → Q27 (.exit 2) (fr 149 f) w := by
          intro x106 h105 f w eje26_0_9 eje26_0_12 eje26_0_16 eje26_0_17 hst ho
          subst ho
          refine qb27 _ _ _ ?_
          refine k25 _ _ ?_
          refine seqQ fun Q42 k42 z42 => ?_
          refine wp_region_lit ?_
          refine Y wn rfl (yLbs (us := [h21.v, h23.v, h24.v]) ST_29 (et rfl eje26_0_12) hst (mtR mhR) rfl rfl) ?_
          refine Y wn rfl (ym (v := h71.v) (et rfl eje26_0_16)) ?_
          obtain ⟨r107, gr107, hM⟩ := bs hM
          replace hst := hst.pk 3 [2, 0, 0] rfl
          replace hst := hst.fz
          refine Yc wn rfl (yCall FN_20 (a2 (et rfl rfl) (et rfl rfl))) (dissect_Cut_ok (hM := gr107) (hst := hst) (q1 := (mtF (mtF (mtF (mtF mhF))))) (q2 := (mtF (mtF (mtF (mtF (mtF mhF)))))) (q3 := (mtF (mtF (mtF (mtF (mtF (mtF mhF))))))) (q4 := mhF)) ?_
          clear hst
          rintro _ w ⟨rfl, hst⟩
          refine ⟨_, rfl, ?_⟩
          refine Y wn rfl (ym (v := .tuple #[.int .i64 r107.1, .int .i64 r107.2]) (et rfl rfl)) ?_
          refine Y wn rfl (yx (v := .int .i64 r107.1) (et rfl rfl) rfl) ?_
          refine Y wn rfl (yx (v := .int .i64 r107.2) (et rfl rfl) rfl) ?_
          refine Y wn rfl (ya (v := .int .i64 r107.1) (et rfl rfl)) ?_
          refine Y wn rfl (ya (v := .int .i64 r107.2) (et rfl rfl)) ?_
          refine wpList_nil ?_
          refine k42 _ _ ?_
          refine seqQ fun Q43 k43 z43 => ?_
          refine wp_region_lit ?_
          refine Y wn rfl (yLbs (us := [h14.v, h15.v, h16.v]) ST_29 (et rfl eje26_0_9) hst mhR rfl rfl) ?_
          refine Y wn rfl (ym (v := h105.v) (et rfl eje26_0_17)) ?_
          obtain ⟨r108, gr108, hM⟩ := bs hM
          replace hst := hst.pk 3 [2, 0, 0] rfl
          replace hst := hst.fz
          refine Yc wn rfl (yCall FN_20 (a2 (et rfl rfl) (et rfl rfl))) (dissect_Cut_ok (hM := gr108) (hst := hst) (q1 := (mtF (mtF mhF))) (q2 := (mtF (mtF (mtF mhF)))) (q3 := (mtF (mtF (mtF (mtF mhF))))) (q4 := mhF)) ?_
          clear hst
          rintro _ w ⟨rfl, hst⟩
          refine ⟨_, rfl, ?_⟩
          refine Y wn rfl (ym (v := .tuple #[.int .i64 r108.1, .int .i64 r108.2]) (et rfl rfl)) ?_
          refine Y wn rfl (yx (v := .int .i64 r108.1) (et rfl rfl) rfl) ?_
          refine Y wn rfl (yx (v := .int .i64 r108.2) (et rfl rfl) rfl) ?_
          refine Y wn rfl (ya (v := .int .i64 r108.1) (et rfl rfl)) ?_
          refine Y wn rfl (ya (v := .int .i64 r108.2) (et rfl rfl)) ?_
          refine wpList_nil ?_
          refine k43 _ _ ?_
          refine seqQ fun Q44 k44 z44 => ?_
          refine wp_region_lit ?_
          refine Y wn rfl (ym (v := .int .i64 r107.2) (et rfl rfl)) ?_
          refine Y wn rfl (yeql (et rfl rfl) rfl) ?_
          refine Y wn rfl (ym (v := .bool (decide (r107.2 = 0))) (et rfl rfl)) ?_
          refine joinW 3 (fun f w => f 20 = .int .i64 r107.1 ∧ f 22 = .int .i64 r108.1 ∧ f 140 = .bool ((decide (r107.2 = 0)) && (decide (r108.2 = 0))) ∧ St w0 (ros) (rs) w) (fun j27 => ?_) ?_
          · rcases Bool.eq_false_or_eq_true (decide (r107.2 = 0)) with c110 | c110
            · refine Y (wg rfl rfl rfl c110) rfl (ym (v := .int .i64 r108.2) (et rfl rfl)) ?_
              refine Y (wg rfl rfl rfl c110) rfl (yeql (et rfl rfl) rfl) ?_
              refine Y wn rfl (ypt (v := .bool (decide (r108.2 = 0))) (et rfl rfl) c110 (et rfl rfl)) ?_
              exact j27 _ _ ⟨rfl, rfl, (congrArg Value.bool (andT c110)), ((hst.pk 2 [] rfl).facts (allT (allT (allT (allT (allT (allT (allT (allT allI)))))))))⟩
            · refine Gn (wx rfl rfl rfl c110) rfl ?_
              refine Gn (wx rfl rfl rfl c110) rfl ?_
              refine Y wn rfl (ypf (v := .bool false) (et rfl rfl) c110 rfl) ?_
              exact j27 _ _ ⟨rfl, rfl, (congrArg Value.bool (andF c110)), ((hst.pk 2 [] rfl).facts (allT (allT (allT (allT (allT (allT (allT (allT allI)))))))))⟩
          clear hst
          rintro f w ⟨e109_20, e109_22, e109_140, hst⟩
          refine Y wn rfl (ym (v := .bool ((decide (r107.2 = 0)) && (decide (r108.2 = 0)))) (et rfl e109_140)) ?_
          refine joinW 4 (fun f w => f 145 = .bool (((decide (r107.2 = 0)) && (decide (r108.2 = 0))) && (decide (r107.1 = r108.1))) ∧ St w0 (ros) (rs) w) (fun j28 => ?_) ?_
          · rcases Bool.eq_false_or_eq_true (((decide (r107.2 = 0)) && (decide (r108.2 = 0)))) with c112 | c112
            · refine Y (wg rfl rfl rfl c112) rfl (ym (v := .int .i64 r107.1) (et rfl e109_20)) ?_
              refine Y (wg rfl rfl rfl c112) rfl (ym (v := .int .i64 r108.1) (et rfl e109_22)) ?_
              refine Y (wg rfl rfl rfl c112) rfl (yeql (et rfl rfl) (et rfl rfl)) ?_
              refine Y wn rfl (ypt (v := .bool (decide (r107.1 = r108.1))) (et rfl rfl) c112 (et rfl rfl)) ?_
              exact j28 _ _ ⟨(congrArg Value.bool (andT c112)), hst⟩
            · refine Gn (wx rfl rfl rfl c112) rfl ?_
              refine Gn (wx rfl rfl rfl c112) rfl ?_
              refine Gn (wx rfl rfl rfl c112) rfl ?_
              refine Y wn rfl (ypf (v := .bool false) (et rfl rfl) c112 rfl) ?_
              exact j28 _ _ ⟨(congrArg Value.bool (andF c112)), hst⟩
          clear hst
          rintro f w ⟨e111_145, hst⟩
          refine Y wn rfl (ym (v := .bool (((decide (r107.2 = 0)) && (decide (r108.2 = 0))) && (decide (r107.1 = r108.1)))) (et rfl e111_145)) ?_
          obtain ⟨r114, gr114, hM⟩ := bs hM
          refine joinW 2 (fun f w => f 148 = .bool r114 ∧ St w0 (ros) (rs) w) (fun j29 => ?_) ?_
          · rcases iteS gr114 with ⟨c116, gr114⟩ | ⟨c116, gr114⟩
            · obtain ⟨r117, gr117, gr114⟩ := bs gr114
              refine Yc (wg rfl rfl rfl c116) rfl (yCall FN_7 a0) (sparselaw18_awake_ok (hM := gr117) (hst := hst) ) ?_
              clear hst
              rintro _ w ⟨rfl, hst⟩
              refine ⟨_, rfl, ?_⟩
              refine Y wn rfl (ypt (v := .bool r117) (et rfl rfl) c116 (et rfl rfl)) ?_
              obtain rfl := someI gr114
              exact j29 _ _ ⟨rfl, hst⟩
            · refine Gn (wx rfl rfl rfl (bfalse c116)) rfl ?_
              refine Y wn rfl (ypf (v := .bool false) (et rfl rfl) (bfalse c116) rfl) ?_
              obtain rfl := someI gr114
              exact j29 _ _ ⟨rfl, hst⟩
          clear hst
          rintro f w ⟨e115_148, hst⟩
          refine Y wn rfl (ya (v := .bool r114) (et rfl e115_148)) ?_
          refine wpList_nil ?_
          refine k44 _ _ ?_
          refine wp_ret ?_
          obtain rfl := someI hM
          exact hQ _ _ _ (fin1r Try.results6 ⟨rfl, rfl⟩ ⟨rfl, hst⟩)
        have je26_1 : ∀ (f : Nat → Value) (w : World), f 8 = .bool false → St w0 (ros) (rs) w → .inr () = o26 → Q27 .ret (fr 149 f) w := by
          intro f w eje26_1_8 hst ho
          subst ho
          refine qb27 _ _ _ ?_
          refine z25 _ _ _ rfl ?_
          obtain rfl := someI hM
          exact hQ _ _ _ (fin1r Try.results6 ⟨rfl, eje26_1_8⟩ ⟨rfl, hst⟩)
        replace hst := hst.rowNh 3 (rI .i64)
        refine loopQ (fun s a w => ∃ (x87 : List Int) (x88 : Int) (f : Nat → Value) (h86 : Hdr), (x87, x88) = s ∧ a = fr 149 f ∧ f 0 = .int .i64 r12 ∧ f 9 = .pointer (some ⟨b17, 0, none⟩) ∧ f 12 = .pointer (some ⟨b27, 0, none⟩) ∧ f 13 = h26.v ∧ f 15 = .int .i64 (r20.2.1.length : Int) ∧ f 16 = h71.v ∧ f 17 = h86.v ∧ f 19 = .int .i64 x88 ∧ St w0 (imm (rS (rI .i64)) h14.v r13.1 :: imm (rI .i64) h15.v r13.2.1 :: imm (rS (rI .i64)) h16.v r13.2.2 :: imm (rS (rI .i64)) h21.v r20.1 :: imm (rI .i64) h23.v r20.2.1 :: imm (rS (rI .i64)) h24.v r20.2.2.1 :: ros) (box b17 29 [h14.v, h15.v, h16.v] :: box b27 29 [h21.v, h23.v, h24.v] :: row 3 (rI .i64) h26.v r20.2.2.2.1 :: row 3 (rI .i64) h71.v x72 :: row 3 (rI .i64) h86.v x87 :: rs) w) go26 ⟨_, _, _, _, rfl, rfl, eje23_0_0, eje23_0_9, eje23_0_12, eje23_0_13, eje23_0_15, eje23_0_16, eje23_0_17, rfl, (hst.pk 5 [1, 1, 1, 1, 0] rfl)⟩ ?_
        clear hst
        rintro _ _ w r26_ ⟨x87, x88, f, h86, rfl, rfl, e26_0, e26_9, e26_12, e26_13, e26_15, e26_16, e26_17, e26_19, hst⟩ hM26 ho26 Q100026 n26 zz26
        refine seqQ fun Q45 k45 z45 => ?_
        refine seqQ fun Q46 k46 z46 => ?_
        refine wp_region_lit ?_
        refine Y wn rfl (ym (v := .int .i64 x88) (et rfl e26_19)) ?_
        refine Y wn rfl (ym (v := .int .i64 r12) (et rfl e26_0)) ?_
        refine Y wn rfl (ylss (et rfl rfl) (et rfl rfl)) ?_
        refine wpList_nil ?_
        refine k46 _ _ ?_
        rcases iteS hM26 with ⟨c118, hM26⟩ | ⟨c118, hM26⟩
        · refine condT (et rfl rfl) (decide_eq_true c118) ?_
          refine wp_skip ?_
          refine k45 _ _ ?_
          refine seqQ fun Q47 k47 z47 => ?_
          refine blockQ fun Q48 qb48 => ?_
          refine seqQ fun Q49 k49 z49 => ?_
          refine seqQ fun Q50 k50 z50 => ?_
          refine wp_region_lit ?_
          refine Y wn rfl (ym (v := h26.v) (et rfl e26_13)) ?_
          refine Y wn rfl (ym (v := .int .i64 x88) (et rfl e26_19)) ?_
          obtain ⟨x119, gx119, hM26⟩ := bs hM26
          refine Y wn rfl (yIa SL_22 (et rfl rfl) (et rfl rfl) hst (rdO (mtR (mtR mhR))) gx119) ?_
          refine Y wn rfl (yI O_3 (et rfl rfl) hst (rdO (mtR (mtR mhR))) gx119) ?_
          refine Y wn rfl (ylss (et rfl rfl) rfl) ?_
          refine Y wn rfl (ym (v := .bool (decide (x119 < 0))) (et rfl rfl)) ?_
          obtain ⟨r121, gr121, hM26⟩ := bs hM26
          refine joinW 7 (fun f w => f 0 = .int .i64 r12 ∧ f 9 = .pointer (some ⟨b17, 0, none⟩) ∧ f 12 = .pointer (some ⟨b27, 0, none⟩) ∧ f 13 = h26.v ∧ f 15 = .int .i64 (r20.2.1.length : Int) ∧ f 16 = h71.v ∧ f 17 = h86.v ∧ f 19 = .int .i64 x88 ∧ f 112 = .bool r121 ∧ St w0 (imm (rS (rI .i64)) h14.v r13.1 :: imm (rI .i64) h15.v r13.2.1 :: imm (rS (rI .i64)) h16.v r13.2.2 :: imm (rS (rI .i64)) h21.v r20.1 :: imm (rI .i64) h23.v r20.2.1 :: imm (rS (rI .i64)) h24.v r20.2.2.1 :: ros) (box b17 29 [h14.v, h15.v, h16.v] :: box b27 29 [h21.v, h23.v, h24.v] :: row 3 (rI .i64) h26.v r20.2.2.2.1 :: row 3 (rI .i64) h71.v x72 :: row 3 (rI .i64) h86.v x87 :: rs) w) (fun j30 => ?_) ?_
          · rcases iteS gr121 with ⟨c123, gr121⟩ | ⟨c123, gr121⟩
            · refine Gn (wx rfl rfl rfl (decide_eq_true c123)) rfl ?_
              refine Gn (wx rfl rfl rfl (decide_eq_true c123)) rfl ?_
              refine Gn (wx rfl rfl rfl (decide_eq_true c123)) rfl ?_
              refine Gn (wx rfl rfl rfl (decide_eq_true c123)) rfl ?_
              refine Gn (wx rfl rfl rfl (decide_eq_true c123)) rfl ?_
              refine Gn (wx rfl rfl rfl (decide_eq_true c123)) rfl ?_
              refine Y wn rfl (ypt (v := .bool true) (et rfl rfl) (decide_eq_true c123) rfl) ?_
              obtain rfl := someI gr121
              exact j30 _ _ ⟨e26_0, e26_9, e26_12, e26_13, e26_15, e26_16, e26_17, e26_19, rfl, hst⟩
            · refine Y (wg rfl rfl rfl (decide_eq_false c123)) rfl (ym (v := h26.v) (et rfl e26_13)) ?_
              refine Y (wg rfl rfl rfl (decide_eq_false c123)) rfl (ym (v := .int .i64 x88) (et rfl e26_19)) ?_
              obtain ⟨x124, gx124, gr121⟩ := bs gr121
              refine Y (wg rfl rfl rfl (decide_eq_false c123)) rfl (yIa SL_22 (et rfl rfl) (et rfl rfl) hst (rdO (mtR (mtR mhR))) gx124) ?_
              refine Y (wg rfl rfl rfl (decide_eq_false c123)) rfl (yI O_3 (et rfl rfl) hst (rdO (mtR (mtR mhR))) gx124) ?_
              refine Y (wg rfl rfl rfl (decide_eq_false c123)) rfl (ym (v := .int .i64 (r20.2.1.length : Int)) (et rfl e26_15)) ?_
              refine Y (wg rfl rfl rfl (decide_eq_false c123)) rfl (ygeq (et rfl rfl) (et rfl rfl)) ?_
              refine Y wn rfl (ypf (v := .bool (decide ((r20.2.1.length : Int) ≤ x124))) (et rfl rfl) (decide_eq_false c123) (et rfl rfl)) ?_
              obtain rfl := someI gr121
              exact j30 _ _ ⟨e26_0, e26_9, e26_12, e26_13, e26_15, e26_16, e26_17, e26_19, rfl, hst⟩
          clear hst
          rintro f w ⟨e122_0, e122_9, e122_12, e122_13, e122_15, e122_16, e122_17, e122_19, e122_112, hst⟩
          refine wpList_nil ?_
          refine k50 _ _ ?_
          rcases iteS hM26 with ⟨c125, hM26⟩ | ⟨c125, hM26⟩
          · refine condT (et rfl e122_112) c125 ?_
            refine seqQ fun Q51 k51 z51 => ?_
            refine wp_region_lit ?_
            refine Y wn rfl (ya (v := .bool false) rfl) ?_
            refine wpList_nil ?_
            refine k51 _ _ ?_
            refine wp_ret ?_
            refine z49 _ _ _ rfl ?_
            refine qb48 _ _ _ ?_
            refine z47 _ _ _ rfl ?_
            obtain rfl := someI hM26
            refine zz26 _ _ _ _ rfl rfl ?_
            exact je26_1 _ _ rfl ((hst.pk 5 [] rfl).facts (allT (allT (allT (allT (allT (allT allI))))))) (ho26 _ rfl)
          · refine condF (et rfl e122_112) (bfalse c125) ?_
            refine wp_skip ?_
            refine k49 _ _ ?_
            refine wp_region_lit ?_
            refine Y wn rfl (ym (v := h86.v) (et rfl e122_17)) ?_
            refine Y wn rfl (ym (v := h71.v) (et rfl e122_16)) ?_
            refine Y wn rfl (ym (v := h26.v) (et rfl e122_13)) ?_
            refine Y wn rfl (ym (v := .int .i64 x88) (et rfl e122_19)) ?_
            obtain ⟨x126, gx126, hM26⟩ := bs hM26
            refine Y wn rfl (yIa SL_22 (et rfl rfl) (et rfl rfl) hst (rdO (mtR (mtR mhR))) gx126) ?_
            refine Y wn rfl (yI O_3 (et rfl rfl) hst (rdO (mtR (mtR mhR))) gx126) ?_
            obtain ⟨x127, gx127, hM26⟩ := bs hM26
            refine Y wn rfl (yIa SL_22 (et rfl rfl) (et rfl rfl) hst (rdO (mtR (mtR (mtR mhR)))) gx127) ?_
            refine Y wn rfl (yI O_3 (et rfl rfl) hst (rdO (mtR (mtR (mtR mhR)))) gx127) ?_
            refine YH wn rfl (rLt (n := 1) (l := [x127]) hst SL_22 [.int .i64 x127] (bp1 (et rfl rfl)) rfl rfl (mks1 (cs := [.int .i64 x127]) rfl mkI mks0)) ?_
            clear hst
            intro h128 w hst
            obtain ⟨x130, gx130, hM26⟩ := bs hM26
            replace hst := hst.pk 6 [5, 0, 0, 0, 0, 0] rfl
            refine YH wn rfl (rAp hst SL_22 (et rfl rfl) (et rfl rfl) (rdO (mtR mhR)) gx130) ?_
            clear hst
            intro h129 w hst
            refine Y wn rfl (ya (v := h129.v) (et rfl rfl)) ?_
            refine wpList_nil ?_
            refine qb48 _ _ _ ?_
            refine k47 _ _ ?_
            refine wp_region_lit ?_
            refine Y wn rfl (ym (v := .int .i64 x88) (et rfl e122_19)) ?_
            refine Y wn rfl (yadd (et rfl rfl) rfl) ?_
            refine Y wn rfl (ya (v := .int .i64 (wa .i64 x88 1)) (et rfl rfl)) ?_
            refine wpList_nil ?_
            obtain rfl := someI hM26
            exact n26 _ _ _ rfl ⟨_, _, _, _, rfl, rfl, e122_0, e122_9, e122_12, e122_13, e122_15, e122_16, rfl, rfl, (hst.pk 6 [2, 2, 2, 2, 0] rfl)⟩
        · refine condF (et rfl rfl) (decide_eq_false c118) ?_
          refine wp_exit ?_
          refine z45 _ _ _ rfl ?_
          obtain rfl := someI hM26
          refine zz26 _ _ _ _ rfl rfl ?_
          exact je26_0 _ _ _ _ e26_9 e26_12 e26_16 e26_17 (hst.pk 5 [0, 0, 1, 1] rfl) (ho26 _ rfl)
      replace hst := hst.rowNh 3 (rI .i64)
      refine loopQ (fun s a w => ∃ (x60 : List Int) (x61 : Int) (f : Nat → Value) (h59 : Hdr), (x60, x61) = s ∧ a = fr 149 f ∧ f 0 = .int .i64 r12 ∧ f 3 = h7.v ∧ f 9 = .pointer (some ⟨b17, 0, none⟩) ∧ f 12 = .pointer (some ⟨b27, 0, none⟩) ∧ f 13 = h26.v ∧ f 15 = .int .i64 (r20.2.1.length : Int) ∧ f 16 = h59.v ∧ f 17 = hnil.v ∧ f 18 = .int .i64 x61 ∧ St w0 (imm (rS (rI .i64)) h14.v r13.1 :: imm (rI .i64) h15.v r13.2.1 :: imm (rS (rI .i64)) h16.v r13.2.2 :: imm (rS (rI .i64)) h21.v r20.1 :: imm (rI .i64) h23.v r20.2.1 :: imm (rS (rI .i64)) h24.v r20.2.2.1 :: ros) (box b17 29 [h14.v, h15.v, h16.v] :: box b27 29 [h21.v, h23.v, h24.v] :: row 3 (rI .i64) h26.v r20.2.2.2.1 :: row 3 (rI .i64) h59.v x60 :: rs) w) go23 ⟨_, _, _, _, rfl, rfl, e33_0, e33_3, e33_9, e33_12, e33_13, e33_15, rfl, rfl, rfl, (hst.pk 4 [1, 1, 1, 0] rfl)⟩ ?_
      clear hst
      rintro _ _ w r23_ ⟨x60, x61, f, h59, rfl, rfl, e23_0, e23_3, e23_9, e23_12, e23_13, e23_15, e23_16, e23_17, e23_18, hst⟩ hM23 ho23 Q100023 n23 zz23
      refine seqQ fun Q52 k52 z52 => ?_
      refine seqQ fun Q53 k53 z53 => ?_
      refine wp_region_lit ?_
      refine Y wn rfl (ym (v := .int .i64 x61) (et rfl e23_18)) ?_
      refine Y wn rfl (ym (v := .int .i64 (r20.2.1.length : Int)) (et rfl e23_15)) ?_
      refine Y wn rfl (ylss (et rfl rfl) (et rfl rfl)) ?_
      refine wpList_nil ?_
      refine k53 _ _ ?_
      rcases iteS hM23 with ⟨c131, hM23⟩ | ⟨c131, hM23⟩
      · refine condT (et rfl rfl) (decide_eq_true c131) ?_
        refine wp_skip ?_
        refine k52 _ _ ?_
        refine seqQ fun Q54 k54 z54 => ?_
        refine blockQ fun Q55 qb55 => ?_
        refine wp_region_lit ?_
        refine Y wn rfl (ym (v := h59.v) (et rfl e23_16)) ?_
        refine Y wn rfl (ym (v := h7.v) (et rfl e23_3)) ?_
        refine Y wn rfl (ym (v := .int .i64 x61) (et rfl e23_18)) ?_
        obtain ⟨r132, gr132, hM23⟩ := bs hM23
        refine Yc wn rfl (yCall FN_25 (a2 (et rfl rfl) (et rfl rfl))) (sparsemake_At_ok (hM := gr132) (hst := hst) (q1 := (mtF (mtF (mtF (mtF (mtF (mtF q3)))))))) ?_
        clear hst
        rintro _ w ⟨rfl, hst⟩
        refine ⟨_, rfl, ?_⟩
        obtain ⟨r133, gr133, hM23⟩ := bs hM23
        refine Yc wn rfl (yCall FN_8 (a2 (et rfl rfl) rfl)) (sparsekit_Place_ok (hM := gr133) (hst := hst) ) ?_
        clear hst
        rintro _ w ⟨rfl, hst⟩
        refine ⟨_, rfl, ?_⟩
        refine YH wn rfl (rLt (n := 1) (l := [r133]) hst SL_22 [.int .i64 r133] (bp1 (et rfl rfl)) rfl rfl (mks1 (cs := [.int .i64 r133]) rfl mkI mks0)) ?_
        clear hst
        intro h134 w hst
        obtain ⟨x136, gx136, hM23⟩ := bs hM23
        replace hst := hst.pk 5 [4, 0, 0, 0, 0] rfl
        refine YH wn rfl (rAp hst SL_22 (et rfl rfl) (et rfl rfl) (rdO (mtR mhR)) gx136) ?_
        clear hst
        intro h135 w hst
        refine Y wn rfl (ya (v := h135.v) (et rfl rfl)) ?_
        refine wpList_nil ?_
        refine qb55 _ _ _ ?_
        refine k54 _ _ ?_
        refine wp_region_lit ?_
        refine Y wn rfl (ym (v := .int .i64 x61) (et rfl e23_18)) ?_
        refine Y wn rfl (yadd (et rfl rfl) rfl) ?_
        refine Y wn rfl (ya (v := .int .i64 (wa .i64 x61 1)) (et rfl rfl)) ?_
        refine wpList_nil ?_
        obtain rfl := someI hM23
        exact n23 _ _ _ rfl ⟨_, _, _, _, rfl, rfl, e23_0, e23_3, e23_9, e23_12, e23_13, e23_15, rfl, e23_17, rfl, (hst.pk 5 [2, 2, 2, 0] rfl)⟩
      · refine condF (et rfl rfl) (decide_eq_false c131) ?_
        refine wp_exit ?_
        refine z52 _ _ _ rfl ?_
        obtain rfl := someI hM23
        refine zz23 _ _ _ _ rfl rfl ?_
        exact je23_0 _ _ _ _ e23_0 e23_9 e23_12 e23_13 e23_15 e23_16 e23_17 hst (ho23 _ rfl)
end Go.Proofs.Ythpeajepbffinaa
