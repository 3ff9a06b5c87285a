/- Walks: each function computes its model, printed. -/
import Derived.Test.YthpeajepbffinaaW0
namespace Go.Proofs.Ythpeajepbffinaa
open Go Sx M
set_option maxRecDepth 100000
set_option maxHeartbeats 4000000
set_option linter.unusedVariables false
attribute [local irreducible] wpList Code.wp Calls DR QR QS LA LS St
theorem slices_Concat_int_ok {w0 : World} {ros : List Fact} {rs : List Res} {w : World} {x1 : List (List Int)} {h2 : Hdr} {out : (List Int)} (hM : slices_Concat_int x1 = some out) (q1 : imm (rS (rI .i64)) h2.v x1 ∈ ros) (hst : St w0 ros (rs) w) :
    Calls Try.prog 70 #[h2.v] w (fun e w => ∃ (h100001 : Hdr), e = .returned (h100001.v) ∧ St w0 (ros) (row 3 (rI .i64) h100001.v out :: rs) w) := by
  refine enterQ Try.func70 rfl Try.ntmps70 rfl fun Q hQ => ?_
  refine seqQ fun Q1 k1 z1 => ?_
  refine wp_region_lit ?_
  refine Y wn rfl (ya (v := hnil.v) rfl) ?_
  refine wpList_nil ?_
  refine k1 _ _ ?_
  refine seqQ fun Q2 k2 z2 => ?_
  refine wp_region_lit ?_
  refine Y wn rfl (ya (v := .int .i64 0) rfl) ?_
  refine wpList_nil ?_
  refine k2 _ _ ?_
  refine seqQ fun Q3 k3 z3 => ?_
  refine seqQ fun Q4 k4 z4 => ?_
  refine wp_region_lit ?_
  refine Y wn rfl (ym (v := h2.v) (et rfl rfl)) ?_
  refine Y wn rfl (yLen SL_25 (et rfl rfl) hst (rdI q1)) ?_
  refine Y wn rfl (ym (v := .int .i64 0) rfl) ?_
  refine wpList_nil ?_
  refine k4 _ _ ?_
  refine blockQ fun Q5 qb5 => ?_
  obtain ⟨o3, go3, hM⟩ := bs hM
  have je3_0 : ∀ (x15 : Int) (f : Nat → Value) (w : World), f 0 = h2.v → f 3 = .int .i64 x15 → St w0 (ros) (rs) w → x15 = o3 → Q5 (.exit 0) (fr 36 f) w := by
    intro x15 f w eje3_0_0 eje3_0_3 hst ho
    subst ho
    refine qb5 _ _ _ ?_
    refine k3 _ _ ?_
    refine seqQ fun Q20 k20 z20 => ?_
    refine wp_region_lit ?_
    refine Y wn rfl (ym (v := .int .i64 x15) (et rfl eje3_0_3)) ?_
    obtain ⟨r16, gr16, hM⟩ := bs hM
    refine Yc wn rfl (yCall FN_86 (a2 rfl (et rfl rfl))) (slices_Grow_int_ok (hM := gr16) (hst := hst) ) ?_
    clear hst
    rintro _ w ⟨h17, rfl, hst⟩
    refine ⟨_, rfl, ?_⟩
    refine Y wn rfl (ya (v := h17.v) (et rfl rfl)) ?_
    refine wpList_nil ?_
    refine k20 _ _ ?_
    refine seqQ fun Q21 k21 z21 => ?_
    refine seqQ fun Q22 k22 z22 => ?_
    refine wp_region_lit ?_
    refine Y wn rfl (ym (v := h2.v) (et rfl eje3_0_0)) ?_
    refine Y wn rfl (yLen SL_25 (et rfl rfl) hst (rdI q1)) ?_
    refine Y wn rfl (ym (v := .int .i64 0) rfl) ?_
    refine wpList_nil ?_
    refine k22 _ _ ?_
    refine blockQ fun Q23 qb23 => ?_
    obtain ⟨o4, go4, hM⟩ := bs hM
    have je4_0 : ∀ (x35 : List Int) (h34 : Hdr) (f : Nat → Value) (w : World), f 6 = h34.v → St w0 (ros) (row 3 (rI .i64) h34.v x35 :: rs) w → x35 = o4 → Q23 (.exit 2) (fr 36 f) w := by
      intro x35 h34 f w eje4_0_6 hst ho
      subst ho
      refine qb23 _ _ _ ?_
      refine k21 _ _ ?_
      refine seqQ fun Q34 k34 z34 => ?_
      refine wp_region_lit ?_
      refine Y wn rfl (ym (v := h34.v) (et rfl eje4_0_6)) ?_
      refine Y wn rfl (ya (v := h34.v) (et rfl rfl)) ?_
      refine wpList_nil ?_
      refine k34 _ _ ?_
      refine wp_ret ?_
      obtain rfl := someI hM
      exact hQ _ _ _ (fin1r Try.results70 ⟨rfl, rfl⟩ ⟨_, rfl, hst⟩)
    refine loopQ (fun s a w => ∃ (x24 : List Int) (x25 : Int) (f : Nat → Value) (h23 : Hdr), (x24, x25) = s ∧ a = fr 36 f ∧ f 6 = h23.v ∧ f 25 = h2.v ∧ f 26 = .int .i64 (x1.length : Int) ∧ f 27 = .int .i64 x25 ∧ St w0 (ros) (row 3 (rI .i64) h23.v x24 :: rs) w) go4 ⟨_, _, _, _, rfl, rfl, rfl, rfl, rfl, rfl, hst⟩ ?_
    clear hst
    rintro _ _ w r4_ ⟨x24, x25, f, h23, rfl, rfl, e4_6, e4_25, e4_26, e4_27, hst⟩ hM4 ho4 Q100004 n4 zz4
    refine seqQ fun Q35 k35 z35 => ?_
    refine wp_region_lit ?_
    refine Y wn rfl (ylss (et rfl e4_27) (et rfl e4_26)) ?_
    refine wpList_nil ?_
    refine k35 _ _ ?_
    refine seqQ fun Q36 k36 z36 => ?_
    rcases iteS hM4 with ⟨c36, hM4⟩ | ⟨c36, hM4⟩
    · refine condT (et rfl rfl) (decide_eq_true c36) ?_
      refine wp_skip ?_
      refine k36 _ _ ?_
      refine seqQ fun Q37 k37 z37 => ?_
      refine blockQ fun Q38 qb38 => ?_
      refine seqQ fun Q39 k39 z39 => ?_
      refine wp_region_lit ?_
      obtain ⟨x37, gx37, hM4⟩ := bs hM4
      refine Y wn rfl (yIa SL_25 (et rfl e4_25) (et rfl e4_27) hst (rdI q1) gx37) ?_
      obtain ⟨h38, hst⟩ := iLs hst q1 gx37
      refine Y wn rfl (yCt O_22 (et rfl rfl) hst (mtF mhF) rfl) ?_
      refine Y wn rfl (ya (v := h38.v) (et rfl rfl)) ?_
      refine wpList_nil ?_
      refine k39 _ _ ?_
      refine wp_region_lit ?_
      refine Y wn rfl (ym (v := h23.v) (et rfl e4_6)) ?_
      refine Y wn rfl (ym (v := h38.v) (et rfl rfl)) ?_
      obtain ⟨x40, gx40, hM4⟩ := bs hM4
      refine YH wn rfl (rAp hst SL_22 (et rfl rfl) (et rfl rfl) (rdI mhF) gx40) ?_
      clear hst
      intro h39 w hst
      refine Y wn rfl (ya (v := h39.v) (et rfl rfl)) ?_
      refine wpList_nil ?_
      refine qb38 _ _ _ ?_
      refine k37 _ _ ?_
      refine wp_region_lit ?_
      refine Y wn rfl (yadd (et rfl e4_27) rfl) ?_
      refine Y wn rfl (ym (v := .int .i64 (wa .i64 x25 1)) (et rfl rfl)) ?_
      refine wpList_nil ?_
      obtain rfl := someI hM4
      exact n4 _ _ _ rfl ⟨_, _, _, _, rfl, rfl, rfl, e4_25, e4_26, rfl, (hst.facts (allT (allT allI)))⟩
    · refine condF (et rfl rfl) (decide_eq_false c36) ?_
      refine wp_exit ?_
      refine z36 _ _ _ rfl ?_
      obtain rfl := someI hM4
      refine zz4 _ _ _ _ rfl rfl ?_
      exact je4_0 _ _ _ _ e4_6 hst (ho4 _ rfl)
  refine loopQ (fun s a w => ∃ (x7 : Int) (x8 : Int) (f : Nat → Value), (x7, x8) = s ∧ a = fr 36 f ∧ f 0 = h2.v ∧ f 3 = .int .i64 x7 ∧ f 9 = h2.v ∧ f 10 = .int .i64 (x1.length : Int) ∧ f 11 = .int .i64 x8 ∧ St w0 (ros) (rs) w) go3 ⟨_, _, _, rfl, rfl, rfl, rfl, rfl, rfl, rfl, hst⟩ ?_
  clear hst
  rintro _ _ w r3_ ⟨x7, x8, f, rfl, rfl, e3_0, e3_3, e3_9, e3_10, e3_11, hst⟩ hM3 ho3 Q100003 n3 zz3
  refine seqQ fun Q40 k40 z40 => ?_
  refine wp_region_lit ?_
  refine Y wn rfl (ylss (et rfl e3_11) (et rfl e3_10)) ?_
  refine wpList_nil ?_
  refine k40 _ _ ?_
  refine seqQ fun Q41 k41 z41 => ?_
  rcases iteS hM3 with ⟨c41, hM3⟩ | ⟨c41, hM3⟩
  · refine condT (et rfl rfl) (decide_eq_true c41) ?_
    refine wp_skip ?_
    refine k41 _ _ ?_
    refine seqQ fun Q42 k42 z42 => ?_
    refine blockQ fun Q43 qb43 => ?_
    refine seqQ fun Q44 k44 z44 => ?_
    refine wp_region_lit ?_
    obtain ⟨x42, gx42, hM3⟩ := bs hM3
    refine Y wn rfl (yIa SL_25 (et rfl e3_9) (et rfl e3_11) hst (rdI q1) gx42) ?_
    obtain ⟨h43, hst⟩ := iLs hst q1 gx42
    refine Y wn rfl (yCt O_22 (et rfl rfl) hst (mtF mhF) rfl) ?_
    refine Y wn rfl (ya (v := h43.v) (et rfl rfl)) ?_
    refine wpList_nil ?_
    refine k44 _ _ ?_
    refine seqQ fun Q45 k45 z45 => ?_
    refine wp_region_lit ?_
    refine Y wn rfl (ym (v := .int .i64 x7) (et rfl e3_3)) ?_
    refine Y wn rfl (ym (v := h43.v) (et rfl rfl)) ?_
    refine Y wn rfl (yLen SL_22 (et rfl rfl) hst (rdI mhF)) ?_
    refine Y wn rfl (yadd (et rfl rfl) (et rfl rfl)) ?_
    refine Y wn rfl (ya (v := .int .i64 (wa .i64 x7 (x42.length : Int))) (et rfl rfl)) ?_
    refine wpList_nil ?_
    refine k45 _ _ ?_
    refine seqQ fun Q46 k46 z46 => ?_
    refine wp_region_lit ?_
    refine Y wn rfl (ym (v := .int .i64 (wa .i64 x7 (x42.length : Int))) (et rfl rfl)) ?_
    refine Y wn rfl (ylss (et rfl rfl) rfl) ?_
    refine wpList_nil ?_
    refine k46 _ _ ?_
    have j5 : ∀ (f : Nat → Value) (w : World), f 0 = h2.v → f 3 = .int .i64 (wa .i64 x7 (x42.length : Int)) → f 9 = h2.v → f 10 = .int .i64 (x1.length : Int) → f 11 = .int .i64 x8 → St w0 (ros) (rs) w → slices_Concat_int_j5 x7 x42 x8 = some r3_ → Q43 .normal (fr 36 f) w := by
      intro f w ej5_0 ej5_3 ej5_9 ej5_10 ej5_11 hst hM
      refine qb43 _ _ _ ?_
      refine k42 _ _ ?_
      refine wp_region_lit ?_
      refine Y wn rfl (yadd (et rfl ej5_11) rfl) ?_
      refine Y wn rfl (ym (v := .int .i64 (wa .i64 x8 1)) (et rfl rfl)) ?_
      refine wpList_nil ?_
      obtain rfl := someI hM
      exact n3 _ _ _ rfl ⟨_, _, _, rfl, rfl, ej5_0, ej5_3, ej5_9, ej5_10, rfl, hst⟩
    rcases iteS hM3 with ⟨c44, hM3⟩ | ⟨c44, hM3⟩
    · refine condT (et rfl rfl) (decide_eq_true c44) ?_
      cases hM3
    · refine condF (et rfl rfl) (decide_eq_false c44) ?_
      refine wp_skip ?_
      exact j5 _ _ e3_0 rfl e3_9 e3_10 e3_11 (hst.facts (allT (allT allI))) hM3
  · refine condF (et rfl rfl) (decide_eq_false c41) ?_
    refine wp_exit ?_
    refine z41 _ _ _ rfl ?_
    obtain rfl := someI hM3
    refine zz3 _ _ _ _ rfl rfl ?_
    exact je3_0 _ _ _ e3_0 e3_3 hst (ho3 _ rfl)

theorem graph_Components_ok {w0 : World} {ros : List Fact} {rs : List Res} {w : World} {x1 : List (List Int)} {h2 : Hdr} {out : (List (List Int))} (hM : graph_Components x1 = some out) (q1 : imm (rS (rI .i64)) h2.v x1 ∈ ros) (hst : St w0 ros (rs) w) :
    Calls Try.prog 69 #[.agg #[h2.v]] w (fun e w => ∃ (h100001 : Hdr), e = .returned (h100001.v) ∧ St w0 (ros) (row 22 (rS (rI .i64)) h100001.v out :: rs) w) := by
  refine enterQ Try.func69 rfl Try.ntmps69 rfl fun Q hQ => ?_
  refine seqQ fun Q1 k1 z1 => ?_
  refine wp_region_lit ?_
  refine YB wn rfl (r_box (vals := [h2.v]) hst (et rfl rfl) rfl) ?_
  clear hst
  intro b3 w hst
  refine Y wn rfl (ya (v := hnil.v) rfl) ?_
  refine wpList_nil ?_
  refine k1 _ _ ?_
  refine seqQ fun Q2 k2 z2 => ?_
  refine seqQ fun Q3 k3 z3 => ?_
  refine wp_region_lit ?_
  refine Y wn rfl (yLbs (us := [h2.v]) ST_27 (et rfl rfl) hst mhR rfl rfl) ?_
  obtain ⟨r4, gr4, hM⟩ := bs hM
  refine Yc wn rfl (yCall FN_30 (a1 (et rfl rfl))) (graph_Check_ok (hM := gr4) (hst := hst) (q1 := q1)) ?_
  clear hst
  rintro _ w ⟨rfl, hst⟩
  refine ⟨_, rfl, ?_⟩
  refine Y wn rfl (yneq (et rfl rfl) rfl) ?_
  refine wpList_nil ?_
  refine k3 _ _ ?_
  rcases iteS hM with ⟨c5, hM⟩ | ⟨c5, hM⟩
  · refine condF (et rfl rfl) (nF (decide_eq_true c5)) ?_
    refine wp_skip ?_
    refine k2 _ _ ?_
    refine seqQ fun Q4 k4 z4 => ?_
    refine wp_region_lit ?_
    refine Y wn rfl (yFb FL_27_0 (et rfl rfl)) ?_
    refine Y wn rfl (yLb (u := h2.v) O_25 (et rfl rfl) hst mhR rfl) ?_
    refine Y wn rfl (yLen SL_25 (et rfl rfl) hst (rdI q1)) ?_
    obtain ⟨x8, gx8, hM⟩ := bs hM
    refine YH wn rfl (rMk hst SL_67 (et rfl rfl) gx8) ?_
    clear hst
    intro h6 w hst
    refine Y wn rfl (ya (v := h6.v) (et rfl rfl)) ?_
    refine wpList_nil ?_
    refine k4 _ _ ?_
    refine seqQ fun Q5 k5 z5 => ?_
    refine wp_region_lit ?_
    refine Y wn rfl (ya (v := hnil.v) rfl) ?_
    refine wpList_nil ?_
    refine k5 _ _ ?_
    refine seqQ fun Q6 k6 z6 => ?_
    refine seqQ fun Q7 k7 z7 => ?_
    refine wp_region_lit ?_
    refine Y wn rfl (yFb FL_27_0 (et rfl rfl)) ?_
    refine Y wn rfl (yLb (u := h2.v) O_25 (et rfl rfl) hst (mtR mhR) rfl) ?_
    refine Y wn rfl (yLen SL_25 (et rfl rfl) hst (rdI q1)) ?_
    refine Y wn rfl (ym (v := .int .i64 0) rfl) ?_
    refine wpList_nil ?_
    refine k7 _ _ ?_
    refine blockQ fun Q8 qb8 => ?_
    obtain ⟨o9, go9, hM⟩ := bs hM
    have je9_0 : ∀ (x170 : List (List Int)) (h169 : Hdr) (f : Nat → Value) (w : World), f 4 = h169.v → St w0 (ros) (row 22 (rS (rI .i64)) h169.v x170 :: rs) w → x170 = o9 → Q8 (.exit 0) (fr 48 f) w := by
      intro x170 h169 f w eje9_0_4 hst ho
      subst ho
      refine qb8 _ _ _ ?_
      refine k6 _ _ ?_
      refine seqQ fun Q159 k159 z159 => ?_
      refine wp_region_lit ?_
      refine Y wn rfl (ym (v := h169.v) (et rfl eje9_0_4)) ?_
      refine Y wn rfl (ya (v := h169.v) (et rfl rfl)) ?_
      refine wpList_nil ?_
      refine k159 _ _ ?_
      refine wp_ret ?_
      obtain rfl := someI hM
      exact hQ _ _ _ (fin1r Try.results69 ⟨rfl, rfl⟩ ⟨_, rfl, hst⟩)
    replace hst := hst.rowNh 22 (rS (rI .i64))
    refine loopQ (fun s a w => ∃ (x85 : List Bool) (x87 : List (List Int)) (x88 : Int) (f : Nat → Value) (h86 : Hdr), (x85, x87, x88) = s ∧ a = fr 48 f ∧ f 1 = .pointer (some ⟨b3, 0, none⟩) ∧ f 3 = h6.v ∧ f 4 = h86.v ∧ f 18 = .int .i64 (x1.length : Int) ∧ f 19 = .int .i64 x88 ∧ St w0 (ros) (box b3 27 [h2.v] :: row 4 rB h6.v x85 :: row 22 (rS (rI .i64)) h86.v x87 :: rs) w) go9 ⟨_, _, _, _, _, rfl, rfl, rfl, rfl, rfl, rfl, rfl, (hst.pk 3 [2, 1, 0] rfl)⟩ ?_
    clear hst
    rintro _ _ w r9_ ⟨x85, x87, x88, f, h86, rfl, rfl, e9_1, e9_3, e9_4, e9_18, e9_19, hst⟩ hM9 ho9 Q100009 n9 zz9
    refine seqQ fun Q160 k160 z160 => ?_
    refine wp_region_lit ?_
    refine Y wn rfl (ylss (et rfl e9_19) (et rfl e9_18)) ?_
    refine wpList_nil ?_
    refine k160 _ _ ?_
    refine seqQ fun Q161 k161 z161 => ?_
    rcases iteS hM9 with ⟨c171, hM9⟩ | ⟨c171, hM9⟩
    · refine condT (et rfl rfl) (decide_eq_true c171) ?_
      refine wp_skip ?_
      refine k161 _ _ ?_
      refine seqQ fun Q162 k162 z162 => ?_
      have j12 : ∀ (x220 : List Bool) (x222 : List (List Int)) (h221 : Hdr) (f : Nat → Value) (w : World), f 1 = .pointer (some ⟨b3, 0, none⟩) → f 3 = h6.v → f 4 = h221.v → f 18 = .int .i64 (x1.length : Int) → f 19 = .int .i64 x88 → St w0 (ros) (box b3 27 [h2.v] :: row 4 rB h6.v x220 :: row 22 (rS (rI .i64)) h221.v x222 :: rs) w → graph_Components_j12 x88 x220 x222 = some r9_ → Q162 .normal (fr 48 f) w := by
        intro x220 x222 h221 f w ej12_1 ej12_3 ej12_4 ej12_18 ej12_19 hst hM
        refine k162 _ _ ?_
        refine wp_region_lit ?_
        refine Y wn rfl (yadd (et rfl ej12_19) rfl) ?_
        refine Y wn rfl (ym (v := .int .i64 (wa .i64 x88 1)) (et rfl rfl)) ?_
        refine wpList_nil ?_
        obtain rfl := someI hM
        exact n9 _ _ _ rfl ⟨_, _, _, _, _, rfl, rfl, ej12_1, ej12_3, ej12_4, ej12_18, rfl, hst⟩
      refine blockQ fun Q211 qb211 => ?_
      refine seqQ fun Q212 k212 z212 => ?_
      refine wp_region_lit ?_
      refine Y wn rfl (ym (v := .int .i64 x88) (et rfl e9_19)) ?_
      refine Y wn rfl (ya (v := .int .i64 x88) (et rfl rfl)) ?_
      refine wpList_nil ?_
      refine k212 _ _ ?_
      refine seqQ fun Q213 k213 z213 => ?_
      refine seqQ fun Q214 k214 z214 => ?_
      refine wp_region_lit ?_
      refine Y wn rfl (ym (v := h6.v) (et rfl e9_3)) ?_
      refine Y wn rfl (ym (v := .int .i64 x88) (et rfl rfl)) ?_
      obtain ⟨x223, gx223, hM9⟩ := bs hM9
      refine Y wn rfl (yIa SL_67 (et rfl rfl) (et rfl rfl) hst (rdO (mtR mhR)) gx223) ?_
      refine Y wn rfl (yB O_4 (et rfl rfl) hst (rdO (mtR mhR)) gx223) ?_
      refine wpList_nil ?_
      refine k214 _ _ ?_
      rcases iteS hM9 with ⟨c224, hM9⟩ | ⟨c224, hM9⟩
      · refine condT (et rfl rfl) c224 ?_
        refine wp_exit ?_
        refine z213 _ _ _ rfl ?_
        refine qb211 _ _ _ ?_
        exact j12 _ _ _ _ _ e9_1 e9_3 e9_4 e9_18 e9_19 hst hM9
      · refine condF (et rfl rfl) (bfalse c224) ?_
        refine wp_skip ?_
        refine k213 _ _ ?_
        refine seqQ fun Q215 k215 z215 => ?_
        refine wp_region_lit ?_
        refine Y wn rfl (yLbs (us := [h2.v]) ST_27 (et rfl e9_1) hst mhR rfl rfl) ?_
        refine Y wn rfl (ym (v := .int .i64 x88) (et rfl rfl)) ?_
        obtain ⟨r225, gr225, hM9⟩ := bs hM9
        refine Yc wn rfl (yCall FN_84 (a2 (et rfl rfl) (et rfl rfl))) (graph_levels_ok (hM := gr225) (hst := hst) (q1 := q1)) ?_
        clear hst
        rintro _ w ⟨h226, rfl, hst⟩
        refine ⟨_, rfl, ?_⟩
        obtain ⟨r227, gr227, hM9⟩ := bs hM9
        replace hst := hst.fz
        refine Yc wn rfl (yCall FN_70 (a1 (et rfl rfl))) (slices_Concat_int_ok (hM := gr227) (hst := hst) (q1 := mhF)) ?_
        clear hst
        rintro _ w ⟨h228, rfl, hst⟩
        refine ⟨_, rfl, ?_⟩
        refine Y wn rfl (ya (v := h228.v) (et rfl rfl)) ?_
        refine wpList_nil ?_
        refine k215 _ _ ?_
        refine seqQ fun Q216 k216 z216 => ?_
        refine wp_region_lit ?_
        refine Y wn rfl (ym (v := h228.v) (et rfl rfl)) ?_
        obtain ⟨r229, gr229, hM9⟩ := bs hM9
        refine Yc wn rfl (yCall FN_85 (a1 (et rfl rfl))) (sortI_ok (hM := gr229) (hst := hst) ) ?_
        clear hst
        rintro _ w ⟨rfl, hst⟩
        refine ⟨_, rfl, ?_⟩
        refine wpList_nil ?_
        refine k216 _ _ ?_
        refine seqQ fun Q217 k217 z217 => ?_
        refine seqQ fun Q218 k218 z218 => ?_
        refine wp_region_lit ?_
        refine Y wn rfl (ym (v := h228.v) (et rfl rfl)) ?_
        refine Y wn rfl (yLen SL_22 (et rfl rfl) hst (rdO mhR)) ?_
        refine Y wn rfl (ym (v := .int .i64 0) rfl) ?_
        refine wpList_nil ?_
        refine k218 _ _ ?_
        refine blockQ fun Q219 qb219 => ?_
        obtain ⟨o13, go13, hM9⟩ := bs hM9
        have je13_0 : ∀ (x240 : List Bool) (f : Nat → Value) (w : World), f 1 = .pointer (some ⟨b3, 0, none⟩) → f 3 = h6.v → f 4 = h86.v → f 6 = h228.v → f 18 = .int .i64 (x1.length : Int) → f 19 = .int .i64 x88 → St w0 (ros) (box b3 27 [h2.v] :: row 4 rB h6.v x240 :: row 22 (rS (rI .i64)) h86.v x87 :: row 3 (rI .i64) h228.v r229 :: rs) w → x240 = o13 → Q219 (.exit 2) (fr 48 f) w := by
          intro x240 f w eje13_0_1 eje13_0_3 eje13_0_4 eje13_0_6 eje13_0_18 eje13_0_19 hst ho
          subst ho
          refine qb219 _ _ _ ?_
          refine k217 _ _ ?_
          refine wp_region_lit ?_
          refine Y wn rfl (ym (v := h86.v) (et rfl eje13_0_4)) ?_
          refine Y wn rfl (ym (v := h228.v) (et rfl eje13_0_6)) ?_
          replace hst := hst.pk 4 [3, 0, 0, 0] rfl
          replace hst := hst.fz
          refine YH wn rfl (rLt (n := 1) (l := [r229]) hst SL_25 [h228.v] (bp1 (et rfl rfl)) rfl rfl (mks1 (cs := [h228.v]) rfl (mkS mhF) mks0)) ?_
          clear hst
          intro h241 w hst
          obtain ⟨x243, gx243, hM9⟩ := bs hM9
          replace hst := hst.pk 4 [3, 0, 0, 0] rfl
          refine YH wn rfl (rAp hst SL_25 (et rfl rfl) (et rfl rfl) (rdO (mtR mhR)) gx243) ?_
          clear hst
          intro h242 w hst
          refine Y wn rfl (ya (v := h242.v) (et rfl rfl)) ?_
          refine wpList_nil ?_
          refine qb211 _ _ _ ?_
          exact j12 _ _ _ _ _ eje13_0_1 eje13_0_3 rfl eje13_0_18 eje13_0_19 ((hst.pk 4 [2, 2, 0] rfl).facts (allT allI)) hM9
        refine loopQ (fun s a w => ∃ (x233 : List Bool) (x234 : Int) (f : Nat → Value), (x233, x234) = s ∧ a = fr 48 f ∧ f 1 = .pointer (some ⟨b3, 0, none⟩) ∧ f 3 = h6.v ∧ f 4 = h86.v ∧ f 6 = h228.v ∧ f 18 = .int .i64 (x1.length : Int) ∧ f 19 = .int .i64 x88 ∧ f 32 = h228.v ∧ f 33 = .int .i64 (r229.length : Int) ∧ f 34 = .int .i64 x234 ∧ St w0 (ros) (box b3 27 [h2.v] :: row 4 rB h6.v x233 :: row 22 (rS (rI .i64)) h86.v x87 :: row 3 (rI .i64) h228.v r229 :: rs) w) go13 ⟨_, _, _, rfl, rfl, e9_1, e9_3, e9_4, rfl, e9_18, e9_19, rfl, rfl, rfl, ((hst.pk 4 [1, 1, 1, 0] rfl).facts (allT allI))⟩ ?_
        clear hst
        rintro _ _ w r13_ ⟨x233, x234, f, rfl, rfl, e13_1, e13_3, e13_4, e13_6, e13_18, e13_19, e13_32, e13_33, e13_34, hst⟩ hM13 ho13 Q100013 n13 zz13
        refine seqQ fun Q230 k230 z230 => ?_
        refine wp_region_lit ?_
        refine Y wn rfl (ylss (et rfl e13_34) (et rfl e13_33)) ?_
        refine wpList_nil ?_
        refine k230 _ _ ?_
        refine seqQ fun Q231 k231 z231 => ?_
        rcases iteS hM13 with ⟨c244, hM13⟩ | ⟨c244, hM13⟩
        · refine condT (et rfl rfl) (decide_eq_true c244) ?_
          refine wp_skip ?_
          refine k231 _ _ ?_
          refine seqQ fun Q232 k232 z232 => ?_
          refine blockQ fun Q233 qb233 => ?_
          refine seqQ fun Q234 k234 z234 => ?_
          refine wp_region_lit ?_
          obtain ⟨x245, gx245, hM13⟩ := bs hM13
          refine Y wn rfl (yIa SL_22 (et rfl e13_32) (et rfl e13_34) hst (rdO (mtR (mtR (mtR mhR)))) gx245) ?_
          refine Y wn rfl (yI O_3 (et rfl rfl) hst (rdO (mtR (mtR (mtR mhR)))) gx245) ?_
          refine Y wn rfl (ya (v := .int .i64 x245) (et rfl rfl)) ?_
          refine wpList_nil ?_
          refine k234 _ _ ?_
          refine wp_region_lit ?_
          refine Y wn rfl (ym (v := h6.v) (et rfl e13_3)) ?_
          refine Y wn rfl (ym (v := .int .i64 x245) (et rfl rfl)) ?_
          obtain ⟨x246, gx246, hM13⟩ := bs hM13
          refine Y wn rfl (yIs SL_67 (et rfl rfl) (et rfl rfl) hst (rdO (mtR mhR)) gx246) ?_
          replace hst := hst.pk 2 [1, 0] rfl
          refine YT wn rfl (r_sti (cs := [.bool true]) hst O_4 rfl (et rfl rfl) rfl rfl mkB gx246) ?_
          clear hst
          intro w hst
          refine wpList_nil ?_
          refine qb233 _ _ _ ?_
          refine k232 _ _ ?_
          refine wp_region_lit ?_
          refine Y wn rfl (yadd (et rfl e13_34) rfl) ?_
          refine Y wn rfl (ym (v := .int .i64 (wa .i64 x234 1)) (et rfl rfl)) ?_
          refine wpList_nil ?_
          obtain rfl := someI hM13
          exact n13 _ _ _ rfl ⟨_, _, _, rfl, rfl, e13_1, e13_3, e13_4, e13_6, e13_18, e13_19, e13_32, e13_33, rfl, (hst.pk 4 [1, 0, 0, 0] rfl)⟩
        · refine condF (et rfl rfl) (decide_eq_false c244) ?_
          refine wp_exit ?_
          refine z231 _ _ _ rfl ?_
          obtain rfl := someI hM13
          refine zz13 _ _ _ _ rfl rfl ?_
          exact je13_0 _ _ _ e13_1 e13_3 e13_4 e13_6 e13_18 e13_19 hst (ho13 _ rfl)
    · refine condF (et rfl rfl) (decide_eq_false c171) ?_
      refine wp_exit ?_
      refine z161 _ _ _ rfl ?_
      obtain rfl := someI hM9
      refine zz9 _ _ _ _ rfl rfl ?_
      exact je9_0 _ _ _ _ e9_4 (hst.pk 3 [2] rfl) (ho9 _ rfl)
  · refine condT (et rfl rfl) (nT (decide_eq_false c5)) ?_
    refine seqQ fun Q235 k235 z235 => ?_
    refine wp_region_lit ?_
    refine Y wn rfl (ya (v := hnil.v) rfl) ?_
    refine wpList_nil ?_
    refine k235 _ _ ?_
    refine wp_ret ?_
    refine z2 _ _ _ rfl ?_
    obtain rfl := someI hM
    replace hst := hst.rowNh 22 (rS (rI .i64))
    exact hQ _ _ _ (fin1r Try.results69 ⟨rfl, rfl⟩ ⟨_, rfl, (hst.pk 2 [0] rfl)⟩)

theorem graph_vertex_ok {w0 : World} {ros : List Fact} {rs : List Res} {w : World} {x1 : List (List Int)} {x3 : Int} {h2 : Hdr} {out : Bool} (hM : graph_vertex x1 x3 = some out) (q1 : imm (rS (rI .i64)) h2.v x1 ∈ ros) (hst : St w0 ros (rs) w) :
    Calls Try.prog 87 #[.agg #[h2.v], .int .i64 x3] w (fun e w => e = .returned (.bool out) ∧ St w0 (ros) (rs) w) := by
  refine enterQ Try.func87 rfl Try.ntmps87 rfl fun Q hQ => ?_
  refine seqQ fun Q1 k1 z1 => ?_
  refine wp_region_lit ?_
  refine YB wn rfl (r_box (vals := [h2.v]) hst (et rfl rfl) rfl) ?_
  clear hst
  intro b4 w hst
  refine Y wn rfl (ya (v := .bool false) rfl) ?_
  refine wpList_nil ?_
  refine k1 _ _ ?_
  refine seqQ fun Q2 k2 z2 => ?_
  refine wp_region_lit ?_
  refine Y wn rfl (ym (v := .int .i64 x3) (et rfl rfl)) ?_
  refine Y wn rfl (ygeq (et rfl rfl) rfl) ?_
  refine Y wn rfl (ym (v := .bool (decide ((0 : Int) ≤ x3))) (et rfl rfl)) ?_
  refine joinW 6 (fun f w => f 13 = .bool ((decide ((0 : Int) ≤ x3)) && (decide (x3 < (x1.length : Int)))) ∧ St w0 (ros) (rs) w) (fun j1 => ?_) ?_
  · rcases Bool.eq_false_or_eq_true (decide ((0 : Int) ≤ x3)) with c6 | c6
    · refine Y (wg rfl rfl rfl c6) rfl (ym (v := .int .i64 x3) (et rfl rfl)) ?_
      refine Y (wg rfl rfl rfl c6) rfl (yFb FL_27_0 (et rfl rfl)) ?_
      refine Y (wg rfl rfl rfl c6) rfl (yLb (u := h2.v) O_25 (et rfl rfl) hst mhR rfl) ?_
      refine Y (wg rfl rfl rfl c6) rfl (yLen SL_25 (et rfl rfl) hst (rdI q1)) ?_
      refine Y (wg rfl rfl rfl c6) rfl (ylss (et rfl rfl) (et rfl rfl)) ?_
      refine Y wn rfl (ypt (v := .bool (decide (x3 < (x1.length : Int)))) (et rfl rfl) c6 (et rfl rfl)) ?_
      exact j1 _ _ ⟨(congrArg Value.bool (andT c6)), (hst.pk 1 [] rfl)⟩
    · refine Gn (wx rfl rfl rfl c6) rfl ?_
      refine Gn (wx rfl rfl rfl c6) rfl ?_
      refine Gn (wx rfl rfl rfl c6) rfl ?_
      refine Gn (wx rfl rfl rfl c6) rfl ?_
      refine Gn (wx rfl rfl rfl c6) rfl ?_
      refine Y wn rfl (ypf (v := .bool false) (et rfl rfl) c6 rfl) ?_
      exact j1 _ _ ⟨(congrArg Value.bool (andF c6)), (hst.pk 1 [] rfl)⟩
  clear hst
  rintro f w ⟨e5_13, hst⟩
  refine Y wn rfl (ya (v := .bool ((decide ((0 : Int) ≤ x3)) && (decide (x3 < (x1.length : Int))))) (et rfl e5_13)) ?_
  refine wpList_nil ?_
  refine k2 _ _ ?_
  refine wp_ret ?_
  obtain rfl := someI hM
  exact hQ _ _ _ (fin1r Try.results87 ⟨rfl, rfl⟩ ⟨rfl, hst⟩)

theorem graph_Peripheral_ok {w0 : World} {ros : List Fact} {rs : List Res} {w : World} {x1 : List (List Int)} {x3 : Int} {h2 : Hdr} {out : Int} (hM : graph_Peripheral x1 x3 = some out) (q1 : imm (rS (rI .i64)) h2.v x1 ∈ ros) (hst : St w0 ros (rs) w) :
    Calls Try.prog 72 #[.agg #[h2.v], .int .i64 x3] w (fun e w => e = .returned (.int .i64 out) ∧ St w0 (ros) (rs) w) := by
  refine enterQ Try.func72 rfl Try.ntmps72 rfl fun Q hQ => ?_
  refine seqQ fun Q1 k1 z1 => ?_
  refine wp_region_lit ?_
  refine YB wn rfl (r_box (vals := [h2.v]) hst (et rfl rfl) rfl) ?_
  clear hst
  intro b4 w hst
  refine Y wn rfl (ya (v := .int .i64 0) rfl) ?_
  refine wpList_nil ?_
  refine k1 _ _ ?_
  refine seqQ fun Q2 k2 z2 => ?_
  refine seqQ fun Q3 k3 z3 => ?_
  refine wp_region_lit ?_
  refine Y wn rfl (yLbs (us := [h2.v]) ST_27 (et rfl rfl) hst mhR rfl rfl) ?_
  obtain ⟨r5, gr5, hM⟩ := bs hM
  refine Yc wn rfl (yCall FN_30 (a1 (et rfl rfl))) (graph_Check_ok (hM := gr5) (hst := hst) (q1 := q1)) ?_
  clear hst
  rintro _ w ⟨rfl, hst⟩
  refine ⟨_, rfl, ?_⟩
  refine Y wn rfl (yneq (et rfl rfl) rfl) ?_
  refine Y wn rfl (ym (v := .bool (!(decide (r5 = 0)))) (et rfl rfl)) ?_
  obtain ⟨r7, gr7, hM⟩ := bs hM
  refine joinW 5 (fun f w => f 1 = .int .i64 x3 ∧ f 2 = .pointer (some ⟨b4, 0, none⟩) ∧ f 19 = .bool r7 ∧ St w0 (ros) (box b4 27 [h2.v] :: rs) w) (fun j1 => ?_) ?_
  · rcases iteS gr7 with ⟨c9, gr7⟩ | ⟨c9, gr7⟩
    · refine Y (wg rfl rfl rfl (nF (decide_eq_true c9))) rfl (yLbs (us := [h2.v]) ST_27 (et rfl rfl) hst mhR rfl rfl) ?_
      refine Y (wg rfl rfl rfl (nF (decide_eq_true c9))) rfl (ym (v := .int .i64 x3) (et rfl rfl)) ?_
      obtain ⟨r10, gr10, gr7⟩ := bs gr7
      refine Yc (wg rfl rfl rfl (nF (decide_eq_true c9))) rfl (yCall FN_87 (a2 (et rfl rfl) (et rfl rfl))) (graph_vertex_ok (hM := gr10) (hst := hst) (q1 := q1)) ?_
      clear hst
      rintro _ w ⟨rfl, hst⟩
      refine ⟨_, rfl, ?_⟩
      refine Y (wg rfl rfl rfl (nF (decide_eq_true c9))) rfl (ynot (et rfl rfl)) ?_
      refine Y wn rfl (ypf (v := .bool (!(r10))) (et rfl rfl) (nF (decide_eq_true c9)) (et rfl rfl)) ?_
      obtain rfl := someI gr7
      exact j1 _ _ ⟨rfl, rfl, rfl, hst⟩
    · refine Gn (wx rfl rfl rfl (nT (decide_eq_false c9))) rfl ?_
      refine Gn (wx rfl rfl rfl (nT (decide_eq_false c9))) rfl ?_
      refine Gn (wx rfl rfl rfl (nT (decide_eq_false c9))) rfl ?_
      refine Gn (wx rfl rfl rfl (nT (decide_eq_false c9))) rfl ?_
      refine Y wn rfl (ypt (v := .bool true) (et rfl rfl) (nT (decide_eq_false c9)) rfl) ?_
      obtain rfl := someI gr7
      exact j1 _ _ ⟨rfl, rfl, rfl, hst⟩
  clear hst
  rintro f w ⟨e8_1, e8_2, e8_19, hst⟩
  refine wpList_nil ?_
  refine k3 _ _ ?_
  rcases iteS hM with ⟨c11, hM⟩ | ⟨c11, hM⟩
  · refine condT (et rfl e8_19) c11 ?_
    refine seqQ fun Q4 k4 z4 => ?_
    refine wp_region_lit ?_
    refine Y wn rfl (ya (v := .int .i64 (-1)) rfl) ?_
    refine wpList_nil ?_
    refine k4 _ _ ?_
    refine wp_ret ?_
    refine z2 _ _ _ rfl ?_
    obtain rfl := someI hM
    exact hQ _ _ _ (fin1r Try.results72 ⟨rfl, rfl⟩ ⟨rfl, (hst.pk 1 [] rfl)⟩)
  · refine condF (et rfl e8_19) (bfalse c11) ?_
    refine wp_skip ?_
    refine k2 _ _ ?_
    refine seqQ fun Q5 k5 z5 => ?_
    refine wp_region_lit ?_
    refine Y wn rfl (yLbs (us := [h2.v]) ST_27 (et rfl e8_2) hst mhR rfl rfl) ?_
    refine Y wn rfl (ym (v := .int .i64 x3) (et rfl e8_1)) ?_
    obtain ⟨r12, gr12, hM⟩ := bs hM
    refine Yc wn rfl (yCall FN_84 (a2 (et rfl rfl) (et rfl rfl))) (graph_levels_ok (hM := gr12) (hst := hst) (q1 := q1)) ?_
    clear hst
    rintro _ w ⟨h13, rfl, hst⟩
    refine ⟨_, rfl, ?_⟩
    refine Y wn rfl (ya (v := h13.v) (et rfl rfl)) ?_
    refine wpList_nil ?_
    refine k5 _ _ ?_
    refine blockQ fun Q6 qb6 => ?_
    obtain ⟨o10, go10, hM⟩ := bs hM
    have je10_0 : ∀ (x90 : Int) (f : Nat → Value) (w : World), f 4 = .int .i64 x90 → St w0 (ros) (rs) w → x90 = o10 → Q6 .ret (fr 64 f) w := by
      intro x90 f w eje10_0_4 hst ho
      subst ho
      refine qb6 _ _ _ ?_
      obtain rfl := someI hM
      exact hQ _ _ _ (fin1r Try.results72 ⟨rfl, eje10_0_4⟩ ⟨rfl, hst⟩)
    refine loopQ (fun s a w => ∃ (x49 : Int) (x51 : List (List Int)) (f : Nat → Value) (h50 : Hdr), (x49, x51) = s ∧ a = fr 64 f ∧ f 1 = .int .i64 x49 ∧ f 2 = .pointer (some ⟨b4, 0, none⟩) ∧ f 5 = h50.v ∧ St w0 (ros) (box b4 27 [h2.v] :: row 22 (rS (rI .i64)) h50.v x51 :: rs) w) go10 ⟨_, _, _, _, rfl, rfl, e8_1, e8_2, rfl, (hst.pk 2 [1, 0] rfl)⟩ ?_
    clear hst
    rintro _ _ w r10_ ⟨x49, x51, f, h50, rfl, rfl, e10_1, e10_2, e10_5, hst⟩ hM10 ho10 Q100010 n10 zz10
    refine blockQ fun Q63 qb63 => ?_
    refine seqQ fun Q64 k64 z64 => ?_
    refine wp_region_lit ?_
    refine Y wn rfl (ym (v := h50.v) (et rfl e10_5)) ?_
    refine Y wn rfl (ym (v := h50.v) (et rfl e10_5)) ?_
    refine Y wn rfl (yLen SL_25 (et rfl rfl) hst (rdO (mtR mhR))) ?_
    refine Y wn rfl (ysub (et rfl rfl) rfl) ?_
    obtain ⟨x91, gx91, hM10⟩ := bs hM10
    refine Y wn rfl (yIa SL_25 (et rfl rfl) (et rfl rfl) hst (rdO (mtR mhR)) gx91) ?_
    obtain ⟨h92, ch92, hst⟩ := rLs hst (rdO (mtR mhR)) gx91
    refine Y wn rfl (yCe O_22 (et rfl rfl) ch92 rfl) ?_
    refine Y wn rfl (ya (v := h92.v) (et rfl rfl)) ?_
    refine wpList_nil ?_
    refine k64 _ _ ?_
    refine seqQ fun Q65 k65 z65 => ?_
    refine wp_region_lit ?_
    refine Y wn rfl (ym (v := h92.v) (et rfl rfl)) ?_
    obtain ⟨x93, gx93, hM10⟩ := bs hM10
    refine Y wn rfl (yIa SL_22 (et rfl rfl) rfl hst (rdI mhF) gx93) ?_
    refine Y wn rfl (yI O_3 (et rfl rfl) hst (rdI mhF) gx93) ?_
    refine Y wn rfl (ya (v := .int .i64 x93) (et rfl rfl)) ?_
    refine wpList_nil ?_
    refine k65 _ _ ?_
    refine seqQ fun Q66 k66 z66 => ?_
    refine seqQ fun Q67 k67 z67 => ?_
    refine wp_region_lit ?_
    refine Y wn rfl (ym (v := h92.v) (et rfl rfl)) ?_
    refine Y wn rfl (yLen SL_22 (et rfl rfl) hst (rdI mhF)) ?_
    refine Y wn rfl (ym (v := .int .i64 0) rfl) ?_
    refine wpList_nil ?_
    refine k67 _ _ ?_
    refine blockQ fun Q68 qb68 => ?_
    obtain ⟨o13, go13, hM10⟩ := bs hM10
    have je13_0 : ∀ (x114 : Int) (f : Nat → Value) (w : World), f 1 = .int .i64 x49 → f 2 = .pointer (some ⟨b4, 0, none⟩) → f 5 = h50.v → f 7 = .int .i64 x114 → St w0 (ros) (box b4 27 [h2.v] :: row 22 (rS (rI .i64)) h50.v x51 :: rs) w → x114 = o13 → Q68 (.exit 2) (fr 64 f) w := by
      intro x114 f w eje13_0_1 eje13_0_2 eje13_0_5 eje13_0_7 hst ho
      subst ho
      refine qb68 _ _ _ ?_
      refine k66 _ _ ?_
      refine seqQ fun Q81 k81 z81 => ?_
      refine wp_region_lit ?_
      refine Y wn rfl (yLbs (us := [h2.v]) ST_27 (et rfl eje13_0_2) hst mhR rfl rfl) ?_
      refine Y wn rfl (ym (v := .int .i64 x114) (et rfl eje13_0_7)) ?_
      obtain ⟨r115, gr115, hM10⟩ := bs hM10
      refine Yc wn rfl (yCall FN_84 (a2 (et rfl rfl) (et rfl rfl))) (graph_levels_ok (hM := gr115) (hst := hst) (q1 := q1)) ?_
      clear hst
      rintro _ w ⟨h116, rfl, hst⟩
      refine ⟨_, rfl, ?_⟩
      refine Y wn rfl (ya (v := h116.v) (et rfl rfl)) ?_
      refine wpList_nil ?_
      refine k81 _ _ ?_
      refine seqQ fun Q82 k82 z82 => ?_
      refine seqQ fun Q83 k83 z83 => ?_
      refine wp_region_lit ?_
      refine Y wn rfl (ym (v := h116.v) (et rfl rfl)) ?_
      refine Y wn rfl (yLen SL_25 (et rfl rfl) hst (rdO mhR)) ?_
      refine Y wn rfl (ym (v := h50.v) (et rfl eje13_0_5)) ?_
      refine Y wn rfl (yLen SL_25 (et rfl rfl) hst (rdO (mtR (mtR mhR)))) ?_
      refine Y wn rfl (yleq (et rfl rfl) (et rfl rfl)) ?_
      refine wpList_nil ?_
      refine k83 _ _ ?_
      rcases iteS hM10 with ⟨c117, hM10⟩ | ⟨c117, hM10⟩
      · refine condT (et rfl rfl) (decide_eq_true c117) ?_
        refine seqQ fun Q84 k84 z84 => ?_
        refine wp_region_lit ?_
        refine Y wn rfl (ym (v := .int .i64 x49) (et rfl eje13_0_1)) ?_
        refine Y wn rfl (ya (v := .int .i64 x49) (et rfl rfl)) ?_
        refine wpList_nil ?_
        refine k84 _ _ ?_
        refine wp_ret ?_
        refine z82 _ _ _ rfl ?_
        refine qb63 _ _ _ ?_
        obtain rfl := someI hM10
        refine zz10 _ _ _ _ rfl rfl ?_
        exact je10_0 _ _ _ rfl (hst.pk 3 [] rfl) (ho10 _ rfl)
      · refine condF (et rfl rfl) (decide_eq_false c117) ?_
        refine wp_skip ?_
        refine k82 _ _ ?_
        refine wp_region_lit ?_
        refine Y wn rfl (ym (v := .int .i64 x114) (et rfl eje13_0_7)) ?_
        refine Y wn rfl (ym (v := h116.v) (et rfl rfl)) ?_
        refine Y wn rfl (ya (v := .int .i64 x114) (et rfl rfl)) ?_
        refine Y wn rfl (ya (v := h116.v) (et rfl rfl)) ?_
        refine wpList_nil ?_
        refine qb63 _ _ _ ?_
        obtain rfl := someI hM10
        exact n10 _ _ _ rfl ⟨_, _, _, _, rfl, rfl, rfl, eje13_0_2, rfl, (hst.pk 3 [1, 0] rfl)⟩
    refine loopQ (fun s a w => ∃ (x102 : Int) (x103 : Int) (f : Nat → Value), (x102, x103) = s ∧ a = fr 64 f ∧ f 1 = .int .i64 x49 ∧ f 2 = .pointer (some ⟨b4, 0, none⟩) ∧ f 5 = h50.v ∧ f 7 = .int .i64 x102 ∧ f 32 = h92.v ∧ f 33 = .int .i64 (x91.length : Int) ∧ f 34 = .int .i64 x103 ∧ St w0 (imm (rI .i64) h92.v x91 :: ros) (box b4 27 [h2.v] :: row 22 (rS (rI .i64)) h50.v x51 :: rs) w) go13 ⟨_, _, _, rfl, rfl, e10_1, e10_2, e10_5, rfl, rfl, rfl, rfl, hst⟩ ?_
    clear hst
    rintro _ _ w r13_ ⟨x102, x103, f, rfl, rfl, e13_1, e13_2, e13_5, e13_7, e13_32, e13_33, e13_34, hst⟩ hM13 ho13 Q100013 n13 zz13
    refine seqQ fun Q85 k85 z85 => ?_
    refine wp_region_lit ?_
    refine Y wn rfl (ylss (et rfl e13_34) (et rfl e13_33)) ?_
    refine wpList_nil ?_
    refine k85 _ _ ?_
    refine seqQ fun Q86 k86 z86 => ?_
    rcases iteS hM13 with ⟨c118, hM13⟩ | ⟨c118, hM13⟩
    · refine condT (et rfl rfl) (decide_eq_true c118) ?_
      refine wp_skip ?_
      refine k86 _ _ ?_
      refine seqQ fun Q87 k87 z87 => ?_
      refine blockQ fun Q88 qb88 => ?_
      refine seqQ fun Q89 k89 z89 => ?_
      refine wp_region_lit ?_
      obtain ⟨x119, gx119, hM13⟩ := bs hM13
      refine Y wn rfl (yIa SL_22 (et rfl e13_32) (et rfl e13_34) hst (rdI mhF) gx119) ?_
      refine Y wn rfl (yI O_3 (et rfl rfl) hst (rdI mhF) gx119) ?_
      refine Y wn rfl (ya (v := .int .i64 x119) (et rfl rfl)) ?_
      refine wpList_nil ?_
      refine k89 _ _ ?_
      refine seqQ fun Q90 k90 z90 => ?_
      obtain ⟨x120, gx120, hM13⟩ := bs hM13
      obtain ⟨x122, gx122, hM13⟩ := bs hM13
      refine wp_drawR [0, 1, 0, 7, 15, 31, 0, 64, 0, 448, 960, 1984, 4095] [] 0 folM (by kernel_rfl) (by kernel_rfl) (by kernel_rfl) ?_
      replace hst := hst.drew
      refine DRz (l1 := [0, 1, 2, 3, 4, 5, 6, 7, 8, 9, 10, 11, 12]) (l2 := []) (by kernel_rfl) (by kernel_rfl) ?_
      refine Ry rfl rfl wn (yFb FL_27_0 (et rfl e13_2)) ?_
      refine Ry rfl rfl wn (yLb (u := h2.v) O_25 (et rfl rfl) hst mhR rfl) ?_
      refine Ry rfl rfl wn (ym (v := .int .i64 x119) (et rfl rfl)) ?_
      refine Ry rfl rfl wn (yIa SL_25 (et rfl rfl) (et rfl rfl) hst (rdI (mtF q1)) gx120) ?_
      obtain ⟨h121, hst⟩ := iLs hst (mtF q1) gx120
      refine Ry rfl rfl wn (yCt O_22 (et rfl rfl) hst (mtF mhF) rfl) ?_
      refine Ry rfl rfl wn (yLen SL_22 (et rfl rfl) hst (rdI mhF)) ?_
      refine Ry rfl rfl wn (yFb FL_27_0 (et rfl e13_2)) ?_
      refine Ry rfl rfl wn (yLb (u := h2.v) O_25 (et rfl rfl) hst mhR rfl) ?_
      refine Ry rfl rfl wn (ym (v := .int .i64 x102) (et rfl e13_7)) ?_
      refine Ry rfl rfl wn (yIa SL_25 (et rfl rfl) (et rfl rfl) hst (rdI (mtF (mtF (mtF q1)))) gx122) ?_
      obtain ⟨h123, hst⟩ := iLs hst (mtF (mtF (mtF q1))) gx122
      refine Ry rfl rfl wn (yCt O_22 (et rfl rfl) hst (mtF mhF) rfl) ?_
      refine Ry rfl rfl wn (yLen SL_22 (et rfl rfl) hst (rdI mhF)) ?_
      refine Ry rfl rfl wn (ylss (et rfl rfl) (et rfl rfl)) ?_
      refine Rn QSn ?_
      refine k90 _ _ ?_
      have j14 : ∀ (x124 : Int) (f : Nat → Value) (w : World), f 1 = .int .i64 x49 → f 2 = .pointer (some ⟨b4, 0, none⟩) → f 5 = h50.v → f 7 = .int .i64 x124 → f 32 = h92.v → f 33 = .int .i64 (x91.length : Int) → f 34 = .int .i64 x103 → St w0 (imm (rI .i64) h92.v x91 :: ros) (box b4 27 [h2.v] :: row 22 (rS (rI .i64)) h50.v x51 :: rs) w → graph_Peripheral_j14 x103 x124 = some r13_ → Q88 .normal (fr 64 f) w := by
        intro x124 f w ej14_1 ej14_2 ej14_5 ej14_7 ej14_32 ej14_33 ej14_34 hst hM
        refine qb88 _ _ _ ?_
        refine k87 _ _ ?_
        refine wp_region_lit ?_
        refine Y wn rfl (yadd (et rfl ej14_34) rfl) ?_
        refine Y wn rfl (ym (v := .int .i64 (wa .i64 x103 1)) (et rfl rfl)) ?_
        refine wpList_nil ?_
        obtain rfl := someI hM
        exact n13 _ _ _ rfl ⟨_, _, _, rfl, rfl, ej14_1, ej14_2, ej14_5, ej14_7, ej14_32, ej14_33, rfl, hst⟩
      rcases iteS hM13 with ⟨c125, hM13⟩ | ⟨c125, hM13⟩
      · refine condT (et rfl rfl) (decide_eq_true c125) ?_
        refine wp_region_lit ?_
        refine Y wn rfl (ym (v := .int .i64 x119) (et rfl rfl)) ?_
        refine Y wn rfl (ya (v := .int .i64 x119) (et rfl rfl)) ?_
        refine wpList_nil ?_
        exact j14 _ _ _ e13_1 e13_2 e13_5 rfl e13_32 e13_33 e13_34 (hst.facts (allC (mtF (mtF (mtF (mtF mhF)))) (allT (allT (allT (allT (allT allI))))))) hM13
      · refine condF (et rfl rfl) (decide_eq_false c125) ?_
        refine wp_skip ?_
        exact j14 _ _ _ e13_1 e13_2 e13_5 e13_7 e13_32 e13_33 e13_34 (hst.facts (allC (mtF (mtF (mtF (mtF mhF)))) (allT (allT (allT (allT (allT allI))))))) hM13
    · refine condF (et rfl rfl) (decide_eq_false c118) ?_
      refine wp_exit ?_
      refine z86 _ _ _ rfl ?_
      obtain rfl := someI hM13
      refine zz13 _ _ _ _ rfl rfl ?_
      exact je13_0 _ _ _ e13_1 e13_2 e13_5 e13_7 (hst.facts (allT allI)) (ho13 _ rfl)

theorem graph_Levels_ok {w0 : World} {ros : List Fact} {rs : List Res} {w : World} {x1 : List (List Int)} {x3 : Int} {h2 : Hdr} {out : (List (List Int))} (hM : graph_Levels x1 x3 = some out) (q1 : imm (rS (rI .i64)) h2.v x1 ∈ ros) (hst : St w0 ros (rs) w) :
    Calls Try.prog 71 #[.agg #[h2.v], .int .i64 x3] w (fun e w => ∃ (h100001 : Hdr), e = .returned (h100001.v) ∧ St w0 (ros) (row 22 (rS (rI .i64)) h100001.v out :: rs) w) := by
  refine enterQ Try.func71 rfl Try.ntmps71 rfl fun Q hQ => ?_
  refine seqQ fun Q1 k1 z1 => ?_
  refine wp_region_lit ?_
  refine YB wn rfl (r_box (vals := [h2.v]) hst (et rfl rfl) rfl) ?_
  clear hst
  intro b4 w hst
  refine Y wn rfl (ya (v := hnil.v) rfl) ?_
  refine wpList_nil ?_
  refine k1 _ _ ?_
  refine seqQ fun Q2 k2 z2 => ?_
  refine seqQ fun Q3 k3 z3 => ?_
  refine wp_region_lit ?_
  refine Y wn rfl (yLbs (us := [h2.v]) ST_27 (et rfl rfl) hst mhR rfl rfl) ?_
  obtain ⟨r5, gr5, hM⟩ := bs hM
  refine Yc wn rfl (yCall FN_30 (a1 (et rfl rfl))) (graph_Check_ok (hM := gr5) (hst := hst) (q1 := q1)) ?_
  clear hst
  rintro _ w ⟨rfl, hst⟩
  refine ⟨_, rfl, ?_⟩
  refine Y wn rfl (yneq (et rfl rfl) rfl) ?_
  refine Y wn rfl (ym (v := .bool (!(decide (r5 = 0)))) (et rfl rfl)) ?_
  obtain ⟨r7, gr7, hM⟩ := bs hM
  refine joinW 5 (fun f w => f 1 = .int .i64 x3 ∧ f 2 = .pointer (some ⟨b4, 0, none⟩) ∧ f 13 = .bool r7 ∧ St w0 (ros) (box b4 27 [h2.v] :: rs) w) (fun j1 => ?_) ?_
  · rcases iteS gr7 with ⟨c9, gr7⟩ | ⟨c9, gr7⟩
    · refine Y (wg rfl rfl rfl (nF (decide_eq_true c9))) rfl (yLbs (us := [h2.v]) ST_27 (et rfl rfl) hst mhR rfl rfl) ?_
      refine Y (wg rfl rfl rfl (nF (decide_eq_true c9))) rfl (ym (v := .int .i64 x3) (et rfl rfl)) ?_
      obtain ⟨r10, gr10, gr7⟩ := bs gr7
      refine Yc (wg rfl rfl rfl (nF (decide_eq_true c9))) rfl (yCall FN_87 (a2 (et rfl rfl) (et rfl rfl))) (graph_vertex_ok (hM := gr10) (hst := hst) (q1 := q1)) ?_
      clear hst
      rintro _ w ⟨rfl, hst⟩
      refine ⟨_, rfl, ?_⟩
      refine Y (wg rfl rfl rfl (nF (decide_eq_true c9))) rfl (ynot (et rfl rfl)) ?_
      refine Y wn rfl (ypf (v := .bool (!(r10))) (et rfl rfl) (nF (decide_eq_true c9)) (et rfl rfl)) ?_
      obtain rfl := someI gr7
      exact j1 _ _ ⟨rfl, rfl, rfl, hst⟩
    · refine Gn (wx rfl rfl rfl (nT (decide_eq_false c9))) rfl ?_
      refine Gn (wx rfl rfl rfl (nT (decide_eq_false c9))) rfl ?_
      refine Gn (wx rfl rfl rfl (nT (decide_eq_false c9))) rfl ?_
      refine Gn (wx rfl rfl rfl (nT (decide_eq_false c9))) rfl ?_
      refine Y wn rfl (ypt (v := .bool true) (et rfl rfl) (nT (decide_eq_false c9)) rfl) ?_
      obtain rfl := someI gr7
      exact j1 _ _ ⟨rfl, rfl, rfl, hst⟩
  clear hst
  rintro f w ⟨e8_1, e8_2, e8_13, hst⟩
  refine wpList_nil ?_
  refine k3 _ _ ?_
  rcases iteS hM with ⟨c11, hM⟩ | ⟨c11, hM⟩
  · refine condT (et rfl e8_13) c11 ?_
    refine seqQ fun Q4 k4 z4 => ?_
    refine wp_region_lit ?_
    refine Y wn rfl (ya (v := hnil.v) rfl) ?_
    refine wpList_nil ?_
    refine k4 _ _ ?_
    refine wp_ret ?_
    refine z2 _ _ _ rfl ?_
    obtain rfl := someI hM
    replace hst := hst.rowNh 22 (rS (rI .i64))
    exact hQ _ _ _ (fin1r Try.results71 ⟨rfl, rfl⟩ ⟨_, rfl, (hst.pk 2 [0] rfl)⟩)
  · refine condF (et rfl e8_13) (bfalse c11) ?_
    refine wp_skip ?_
    refine k2 _ _ ?_
    refine seqQ fun Q5 k5 z5 => ?_
    refine wp_region_lit ?_
    refine Y wn rfl (yLbs (us := [h2.v]) ST_27 (et rfl e8_2) hst mhR rfl rfl) ?_
    refine Y wn rfl (ym (v := .int .i64 x3) (et rfl e8_1)) ?_
    obtain ⟨r12, gr12, hM⟩ := bs hM
    refine Yc wn rfl (yCall FN_84 (a2 (et rfl rfl) (et rfl rfl))) (graph_levels_ok (hM := gr12) (hst := hst) (q1 := q1)) ?_
    clear hst
    rintro _ w ⟨h13, rfl, hst⟩
    refine ⟨_, rfl, ?_⟩
    refine Y wn rfl (ya (v := h13.v) (et rfl rfl)) ?_
    refine wpList_nil ?_
    refine k5 _ _ ?_
    refine wp_ret ?_
    obtain rfl := someI hM
    exact hQ _ _ _ (fin1r Try.results71 ⟨rfl, rfl⟩ ⟨_, rfl, (hst.pk 2 [0] rfl)⟩)

theorem dissect_grown_ok {w0 : World} {ros : List Fact} {rs : List Res} {w : World} {x1 : List (List Int)} {x3 : List Int} {x5 : List (List Int)} {h2 : Hdr} {h4 : Hdr} {h6 : Hdr} {out : (List Int)} (hM : dissect_grown x1 x3 x5 = some out) (q1 : imm (rS (rI .i64)) h2.v x1 ∈ ros) (q2 : imm (rI .i64) h4.v x3 ∈ ros) (q3 : imm (rS (rI .i64)) h6.v x5 ∈ ros) (hst : St w0 ros (rs) w) :
    Calls Try.prog 51 #[.agg #[h2.v, h4.v, h6.v]] w (fun e w => ∃ (h100001 : Hdr), e = .returned (h100001.v) ∧ St w0 (ros) (row 3 (rI .i64) h100001.v out :: rs) w) := by
  refine enterQ Try.func51 rfl Try.ntmps51 rfl fun Q hQ => ?_
  refine seqQ fun Q1 k1 z1 => ?_
  refine wp_region_lit ?_
  refine YB wn rfl (r_box (vals := [h2.v, h4.v, h6.v]) hst (et rfl rfl) rfl) ?_
  clear hst
  intro b7 w hst
  refine Y wn rfl (ya (v := hnil.v) rfl) ?_
  refine wpList_nil ?_
  refine k1 _ _ ?_
  refine seqQ fun Q2 k2 z2 => ?_
  refine wp_region_lit ?_
  refine YH wn rfl (rLt (n := 1) (l := [1]) hst SL_22 [.int .i64 1] (bp1 rfl) rfl rfl (mks1 (cs := [.int .i64 1]) rfl mkI mks0)) ?_
  clear hst
  intro h8 w hst
  refine Y wn rfl (yFb FL_29_1 (et rfl rfl)) ?_
  refine Y wn rfl (yLb (u := h4.v) O_22 (et rfl rfl) hst (mtR mhR) rfl) ?_
  refine Y wn rfl (yLen SL_22 (et rfl rfl) hst (rdI q2)) ?_
  obtain ⟨r9, gr9, hM⟩ := bs hM
  replace hst := hst.fz
  refine Yc wn rfl (yCall FN_46 (a2 (et rfl rfl) (et rfl rfl))) (slices_Repeat_int_ok (hM := gr9) (hst := hst) (q1 := mhF)) ?_
  clear hst
  rintro _ w ⟨h10, rfl, hst⟩
  refine ⟨_, rfl, ?_⟩
  refine Y wn rfl (ya (v := h10.v) (et rfl rfl)) ?_
  refine wpList_nil ?_
  refine k2 _ _ ?_
  refine seqQ fun Q3 k3 z3 => ?_
  refine wp_region_lit ?_
  refine Y wn rfl (yFb FL_29_1 (et rfl rfl)) ?_
  refine Y wn rfl (yLb (u := h4.v) O_22 (et rfl rfl) hst (mtR mhR) rfl) ?_
  obtain ⟨r11, gr11, hM⟩ := bs hM
  refine Yc wn rfl (yCall FN_68 (a1 (et rfl rfl))) (dissect_total_ok (hM := gr11) (hst := hst) (q1 := (mtF q2))) ?_
  clear hst
  rintro _ w ⟨rfl, hst⟩
  refine ⟨_, rfl, ?_⟩
  refine Y wn rfl (ya (v := .int .i64 r11) (et rfl rfl)) ?_
  refine Y wn rfl (ya (v := .int .i64 0) rfl) ?_
  refine wpList_nil ?_
  refine k3 _ _ ?_
  refine seqQ fun Q4 k4 z4 => ?_
  refine seqQ fun Q5 k5 z5 => ?_
  refine wp_region_lit ?_
  refine Y wn rfl (yFb FL_29_0 (et rfl rfl)) ?_
  refine Y wn rfl (yLbs (us := [h2.v]) ST_27 (et rfl rfl) hst (mtR mhR) rfl rfl) ?_
  obtain ⟨r12, gr12, hM⟩ := bs hM
  refine Yc wn rfl (yCall FN_69 (a1 (et rfl rfl))) (graph_Components_ok (hM := gr12) (hst := hst) (q1 := (mtF q1))) ?_
  clear hst
  rintro _ w ⟨h13, rfl, hst⟩
  refine ⟨_, rfl, ?_⟩
  refine Y wn rfl (yLen SL_25 (et rfl rfl) hst (rdO mhR)) ?_
  refine Y wn rfl (ym (v := .int .i64 0) rfl) ?_
  refine wpList_nil ?_
  refine k5 _ _ ?_
  refine blockQ fun Q6 qb6 => ?_
  obtain ⟨o3, go3, hM⟩ := bs hM
  have je3_0 : ∀ (x86 : List Int) (f : Nat → Value) (w : World), f 3 = h10.v → St w0 (ros) (row 3 (rI .i64) h10.v x86 :: rs) w → .inl x86 = o3 → Q6 (.exit 0) (fr 59 f) w := by
    intro x86 f w eje3_0_3 hst ho
    subst ho
    refine qb6 _ _ _ ?_
    refine k4 _ _ ?_
    refine seqQ fun Q75 k75 z75 => ?_
    refine wp_region_lit ?_
    refine Y wn rfl (ym (v := h10.v) (et rfl eje3_0_3)) ?_
    refine Y wn rfl (ya (v := h10.v) (et rfl rfl)) ?_
    refine wpList_nil ?_
    refine k75 _ _ ?_
    refine wp_ret ?_
    obtain rfl := someI hM
    exact hQ _ _ _ (fin1r Try.results51 ⟨rfl, rfl⟩ ⟨_, rfl, hst⟩)
  have je3_1 : ∀ (x87 : List Int) (f : Nat → Value) (w : World), f 2 = h10.v → St w0 (ros) (row 3 (rI .i64) h10.v x87 :: rs) w → .inr x87 = o3 → Q6 .ret (fr 59 f) w := by
    intro x87 f w eje3_1_2 hst ho
    subst ho
    refine qb6 _ _ _ ?_
    refine z4 _ _ _ rfl ?_
    obtain rfl := someI hM
    exact hQ _ _ _ (fin1r Try.results51 ⟨rfl, eje3_1_2⟩ ⟨_, rfl, hst⟩)
  refine loopQ (fun s a w => ∃ (x47 : List Int) (x48 : Int) (x49 : Int) (f : Nat → Value), (x47, x48, x49) = s ∧ a = fr 59 f ∧ f 1 = .pointer (some ⟨b7, 0, none⟩) ∧ f 3 = h10.v ∧ f 4 = .int .i64 r11 ∧ f 5 = .int .i64 x48 ∧ f 20 = h13.v ∧ f 21 = .int .i64 (r12.length : Int) ∧ f 22 = .int .i64 x49 ∧ St w0 (ros) (box b7 29 [h2.v, h4.v, h6.v] :: row 3 (rI .i64) h10.v x47 :: row 22 (rS (rI .i64)) h13.v r12 :: rs) w) go3 ⟨_, _, _, _, rfl, rfl, rfl, rfl, rfl, rfl, rfl, rfl, rfl, ((hst.pk 3 [2, 1, 0] rfl).facts (allT allI))⟩ ?_
  clear hst
  rintro _ _ w r3_ ⟨x47, x48, x49, f, rfl, rfl, e3_1, e3_3, e3_4, e3_5, e3_20, e3_21, e3_22, hst⟩ hM3 ho3 Q100003 n3 zz3
  refine seqQ fun Q76 k76 z76 => ?_
  refine wp_region_lit ?_
  refine Y wn rfl (ylss (et rfl e3_22) (et rfl e3_21)) ?_
  refine wpList_nil ?_
  refine k76 _ _ ?_
  refine seqQ fun Q77 k77 z77 => ?_
  rcases iteS hM3 with ⟨c88, hM3⟩ | ⟨c88, hM3⟩
  · refine condT (et rfl rfl) (decide_eq_true c88) ?_
    refine wp_skip ?_
    refine k77 _ _ ?_
    refine seqQ fun Q78 k78 z78 => ?_
    refine blockQ fun Q79 qb79 => ?_
    refine seqQ fun Q80 k80 z80 => ?_
    refine wp_region_lit ?_
    obtain ⟨x89, gx89, hM3⟩ := bs hM3
    refine Y wn rfl (yIa SL_25 (et rfl e3_20) (et rfl e3_22) hst (rdO (mtR (mtR mhR))) gx89) ?_
    obtain ⟨h90, ch90, hst⟩ := rLs hst (rdO (mtR (mtR mhR))) gx89
    refine Y wn rfl (yCe O_22 (et rfl rfl) ch90 rfl) ?_
    refine Y wn rfl (ya (v := h90.v) (et rfl rfl)) ?_
    refine wpList_nil ?_
    refine k80 _ _ ?_
    refine seqQ fun Q81 k81 z81 => ?_
    obtain ⟨x91, gx91, hM3⟩ := bs hM3
    obtain ⟨r92, gr92, hM3⟩ := bs hM3
    obtain ⟨r93, gr93, hM3⟩ := bs hM3
    obtain ⟨r95, gr95, hM3⟩ := bs hM3
    refine wp_drawR [0, 1, 0, 4, 0, 16, 48, 124, 255, 511, 1023, 0] [7, 8, 9] 3 folM (by kernel_rfl) (by kernel_rfl) (by kernel_rfl) ?_
    replace hst := hst.drew
    refine DRn (l1 := [0, 1, 2, 3, 4, 5, 6, 11]) (l2 := []) (lc := [7]) (by kernel_rfl) (by kernel_rfl) (by kernel_rfl) ?_
    refine Ry rfl rfl wn (yFb FL_29_0 (et rfl e3_1)) ?_
    refine Ry rfl rfl wn (yLbs (us := [h2.v]) ST_27 (et rfl rfl) hst mhR rfl rfl) ?_
    refine Ry rfl rfl wn (yFb FL_29_0 (et rfl e3_1)) ?_
    refine Ry rfl rfl wn (yLbs (us := [h2.v]) ST_27 (et rfl rfl) hst mhR rfl rfl) ?_
    refine Ry rfl rfl wn (ym (v := h90.v) (et rfl rfl)) ?_
    refine Ry rfl rfl wn (yIa SL_22 (et rfl rfl) rfl hst (rdI mhF) gx91) ?_
    refine Ry rfl rfl wn (yI O_3 (et rfl rfl) hst (rdI mhF) gx91) ?_
    refine Ry rfl rfl wn (ym (v := .int .i64 0) rfl) ?_
    refine Rn QSn ?_
    refine Lc rfl ?_ LAn
    refine Lk wn (yCall FN_72 (a2 (et rfl rfl) (et rfl rfl))) (graph_Peripheral_ok (hM := gr92) (hst := hst) (q1 := (mtF q1))) ?_
    clear hst
    rintro _ w ⟨rfl, hst⟩
    refine ⟨_, rfl, ?_⟩
    refine DRn (l1 := []) (l2 := [0, 1, 11]) (lc := [8]) (by kernel_rfl) (by kernel_rfl) (by kernel_rfl) ?_
    refine Rn (Sy rfl rfl wn (yFb FL_29_0 (et rfl e3_1)) rfl (Sy rfl rfl wn (yLbs (us := [h2.v]) ST_27 (et rfl rfl) hst mhR rfl rfl) rfl (Sy rfl rfl wn (ym (v := .int .i64 0) rfl) rfl QSn))) ?_
    refine Lc rfl ?_ LAn
    refine Lk wn (yCall FN_71 (a2 (et rfl rfl) (et rfl rfl))) (graph_Levels_ok (hM := gr93) (hst := hst) (q1 := (mtF q1))) ?_
    clear hst
    rintro _ w ⟨h94, rfl, hst⟩
    refine ⟨_, rfl, ?_⟩
    refine DRn (l1 := []) (l2 := [11]) (lc := [9]) (by kernel_rfl) (by kernel_rfl) (by kernel_rfl) ?_
    refine Rn (Sy rfl rfl wn (ym (v := .int .i64 0) rfl) rfl QSn) ?_
    refine Lc rfl ?_ LAn
    replace hst := hst.fz
    refine Lk wn (yCall FN_70 (a1 (et rfl rfl))) (slices_Concat_int_ok (hM := gr95) (hst := hst) (q1 := mhF)) ?_
    clear hst
    rintro _ w ⟨h96, rfl, hst⟩
    refine ⟨_, rfl, ?_⟩
    refine DRz (l1 := [10]) (l2 := [11]) (by kernel_rfl) (by kernel_rfl) ?_
    refine Ry rfl rfl wn (yLen SL_22 (et rfl rfl) hst (rdO mhR)) ?_
    refine Rn (Sy rfl rfl wn (ym (v := .int .i64 0) rfl) rfl QSn) ?_
    refine k81 _ _ ?_
    refine blockQ fun Q82 qb82 => ?_
    obtain ⟨o4, go4, hM3⟩ := bs hM3
    have je4_0 : ∀ (x113 : List Int) (x114 : Int) (f : Nat → Value) (w : World), f 1 = .pointer (some ⟨b7, 0, none⟩) → f 3 = h10.v → f 4 = .int .i64 r11 → f 5 = .int .i64 x114 → f 20 = h13.v → f 21 = .int .i64 (r12.length : Int) → f 22 = .int .i64 x49 → St w0 (ros) (box b7 29 [h2.v, h4.v, h6.v] :: row 3 (rI .i64) h10.v x113 :: row 22 (rS (rI .i64)) h13.v r12 :: rs) w → .inl (x113, x114) = o4 → Q82 (.exit 2) (fr 59 f) w := by
      intro x113 x114 f w eje4_0_1 eje4_0_3 eje4_0_4 eje4_0_5 eje4_0_20 eje4_0_21 eje4_0_22 hst ho
      subst ho
      refine qb82 _ _ _ ?_
      refine qb79 _ _ _ ?_
      refine k78 _ _ ?_
      refine wp_region_lit ?_
      refine Y wn rfl (yadd (et rfl eje4_0_22) rfl) ?_
      refine Y wn rfl (ym (v := .int .i64 (wa .i64 x49 1)) (et rfl rfl)) ?_
      refine wpList_nil ?_
      obtain rfl := someI hM3
      exact n3 _ _ _ rfl ⟨_, _, _, _, rfl, rfl, eje4_0_1, eje4_0_3, eje4_0_4, eje4_0_5, eje4_0_20, eje4_0_21, rfl, hst⟩
    have je4_1 : ∀ (x115 : List Int) (f : Nat → Value) (w : World), f 2 = h10.v → St w0 (ros) (row 3 (rI .i64) h10.v x115 :: rs) w → .inr x115 = o4 → Q82 .ret (fr 59 f) w := by
      intro x115 f w eje4_1_2 hst ho
      subst ho
      refine qb82 _ _ _ ?_
      refine qb79 _ _ _ ?_
      refine z78 _ _ _ rfl ?_
      obtain rfl := someI hM3
      refine zz3 _ _ _ _ rfl rfl ?_
      exact je3_1 _ _ _ eje4_1_2 hst (ho3 _ rfl)
    refine loopQ (fun s a w => ∃ (x102 : List Int) (x103 : Int) (x104 : Int) (f : Nat → Value), (x102, x103, x104) = s ∧ a = fr 59 f ∧ f 1 = .pointer (some ⟨b7, 0, none⟩) ∧ f 3 = h10.v ∧ f 4 = .int .i64 r11 ∧ f 5 = .int .i64 x103 ∧ f 20 = h13.v ∧ f 21 = .int .i64 (r12.length : Int) ∧ f 22 = .int .i64 x49 ∧ f 35 = h96.v ∧ f 36 = .int .i64 (r95.length : Int) ∧ f 37 = .int .i64 x104 ∧ St w0 (ros) (box b7 29 [h2.v, h4.v, h6.v] :: row 3 (rI .i64) h10.v x102 :: row 22 (rS (rI .i64)) h13.v r12 :: row 3 (rI .i64) h96.v r95 :: rs) w) go4 ⟨_, _, _, _, rfl, rfl, e3_1, e3_3, e3_4, e3_5, e3_20, e3_21, e3_22, rfl, rfl, rfl, ((hst.pk 4 [1, 1, 1, 0] rfl).facts (allT (allT allI)))⟩ ?_
    clear hst
    rintro _ _ w r4_ ⟨x102, x103, x104, f, rfl, rfl, e4_1, e4_3, e4_4, e4_5, e4_20, e4_21, e4_22, e4_35, e4_36, e4_37, hst⟩ hM4 ho4 Q100004 n4 zz4
    refine seqQ fun Q101 k101 z101 => ?_
    refine wp_region_lit ?_
    refine Y wn rfl (ylss (et rfl e4_37) (et rfl e4_36)) ?_
    refine wpList_nil ?_
    refine k101 _ _ ?_
    refine seqQ fun Q102 k102 z102 => ?_
    rcases iteS hM4 with ⟨c116, hM4⟩ | ⟨c116, hM4⟩
    · refine condT (et rfl rfl) (decide_eq_true c116) ?_
      refine wp_skip ?_
      refine k102 _ _ ?_
      refine seqQ fun Q103 k103 z103 => ?_
      refine blockQ fun Q104 qb104 => ?_
      refine seqQ fun Q105 k105 z105 => ?_
      refine wp_region_lit ?_
      obtain ⟨x117, gx117, hM4⟩ := bs hM4
      refine Y wn rfl (yIa SL_22 (et rfl e4_35) (et rfl e4_37) hst (rdO (mtR (mtR (mtR mhR)))) gx117) ?_
      refine Y wn rfl (yI O_3 (et rfl rfl) hst (rdO (mtR (mtR (mtR mhR)))) gx117) ?_
      refine Y wn rfl (ya (v := .int .i64 x117) (et rfl rfl)) ?_
      refine wpList_nil ?_
      refine k105 _ _ ?_
      refine seqQ fun Q106 k106 z106 => ?_
      refine seqQ fun Q107 k107 z107 => ?_
      refine wp_region_lit ?_
      refine Y wn rfl (ym (v := .int .i64 x103) (et rfl e4_5)) ?_
      refine Y wn rfl (ymul rfl (et rfl rfl)) ?_
      refine Y wn rfl (ym (v := .int .i64 r11) (et rfl e4_4)) ?_
      refine Y wn rfl (ygeq (et rfl rfl) (et rfl rfl)) ?_
      refine wpList_nil ?_
      refine k107 _ _ ?_
      rcases iteS hM4 with ⟨c118, hM4⟩ | ⟨c118, hM4⟩
      · refine condT (et rfl rfl) (decide_eq_true c118) ?_
        refine seqQ fun Q108 k108 z108 => ?_
        refine wp_region_lit ?_
        refine Y wn rfl (ym (v := h10.v) (et rfl e4_3)) ?_
        refine Y wn rfl (ya (v := h10.v) (et rfl rfl)) ?_
        refine wpList_nil ?_
        refine k108 _ _ ?_
        refine wp_ret ?_
        refine z106 _ _ _ rfl ?_
        refine qb104 _ _ _ ?_
        refine z103 _ _ _ rfl ?_
        obtain rfl := someI hM4
        refine zz4 _ _ _ _ rfl rfl ?_
        exact je4_1 _ _ _ rfl (hst.pk 4 [1] rfl) (ho4 _ rfl)
      · refine condF (et rfl rfl) (decide_eq_false c118) ?_
        refine wp_skip ?_
        refine k106 _ _ ?_
        refine seqQ fun Q109 k109 z109 => ?_
        refine wp_region_lit ?_
        refine Y wn rfl (ym (v := h10.v) (et rfl e4_3)) ?_
        refine Y wn rfl (ym (v := .int .i64 x117) (et rfl rfl)) ?_
        obtain ⟨x119, gx119, hM4⟩ := bs hM4
        refine Y wn rfl (yIs SL_22 (et rfl rfl) (et rfl rfl) hst (rdO (mtR mhR)) gx119) ?_
        replace hst := hst.pk 2 [1, 0] rfl
        refine YT wn rfl (r_sti (cs := [.int .i64 0]) hst O_3 rfl (et rfl rfl) rfl rfl mkI gx119) ?_
        clear hst
        intro w hst
        refine wpList_nil ?_
        refine k109 _ _ ?_
        refine wp_region_lit ?_
        refine Y wn rfl (ym (v := .int .i64 x103) (et rfl e4_5)) ?_
        refine Y wn rfl (yFb FL_29_1 (et rfl e4_1)) ?_
        refine Y wn rfl (yLb (u := h4.v) O_22 (et rfl rfl) hst (mtR mhR) rfl) ?_
        refine Y wn rfl (ym (v := .int .i64 x117) (et rfl rfl)) ?_
        obtain ⟨x120, gx120, hM4⟩ := bs hM4
        refine Y wn rfl (yIa SL_22 (et rfl rfl) (et rfl rfl) hst (rdI q2) gx120) ?_
        refine Y wn rfl (yI O_3 (et rfl rfl) hst (rdI q2) gx120) ?_
        refine Y wn rfl (yadd (et rfl rfl) (et rfl rfl)) ?_
        refine Y wn rfl (ya (v := .int .i64 (wa .i64 x103 x120)) (et rfl rfl)) ?_
        refine wpList_nil ?_
        refine qb104 _ _ _ ?_
        refine k103 _ _ ?_
        refine wp_region_lit ?_
        refine Y wn rfl (yadd (et rfl e4_37) rfl) ?_
        refine Y wn rfl (ym (v := .int .i64 (wa .i64 x104 1)) (et rfl rfl)) ?_
        refine wpList_nil ?_
        obtain rfl := someI hM4
        exact n4 _ _ _ rfl ⟨_, _, _, _, rfl, rfl, e4_1, e4_3, e4_4, rfl, e4_20, e4_21, e4_22, e4_35, e4_36, rfl, (hst.pk 4 [1, 0, 0, 0] rfl)⟩
    · refine condF (et rfl rfl) (decide_eq_false c116) ?_
      refine wp_exit ?_
      refine z102 _ _ _ rfl ?_
      obtain rfl := someI hM4
      refine zz4 _ _ _ _ rfl rfl ?_
      exact je4_0 _ _ _ _ e4_1 e4_3 e4_4 e4_5 e4_20 e4_21 e4_22 (hst.pk 4 [0, 0, 0] rfl) (ho4 _ rfl)
  · refine condF (et rfl rfl) (decide_eq_false c88) ?_
    refine wp_exit ?_
    refine z77 _ _ _ rfl ?_
    obtain rfl := someI hM3
    refine zz3 _ _ _ _ rfl rfl ?_
    exact je3_0 _ _ _ e3_3 (hst.pk 3 [1] rfl) (ho3 _ rfl)

theorem dissect_match_ok {w0 : World} {ros : List Fact} {rs : List Res} {w : World} {x1 : List (List Int)} {x3 : List Int} {x5 : List (List Int)} {h2 : Hdr} {h4 : Hdr} {h6 : Hdr} {out : (List Int)} (hM : dissect_match x1 x3 x5 = some out) (q1 : imm (rS (rI .i64)) h2.v x1 ∈ ros) (q2 : imm (rI .i64) h4.v x3 ∈ ros) (q3 : imm (rS (rI .i64)) h6.v x5 ∈ ros) (hst : St w0 ros (rs) w) :
    Calls Try.prog 28 #[.agg #[h2.v, h4.v, h6.v]] w (fun e w => ∃ (h100001 : Hdr), e = .returned (h100001.v) ∧ St w0 (ros) (row 3 (rI .i64) h100001.v out :: rs) w) := by
  refine enterQ Try.func28 rfl Try.ntmps28 rfl fun Q hQ => ?_
  refine seqQ fun Q1 k1 z1 => ?_
  refine wp_region_lit ?_
  refine YB wn rfl (r_box (vals := [h2.v, h4.v, h6.v]) hst (et rfl rfl) rfl) ?_
  clear hst
  intro b7 w hst
  refine Y wn rfl (ya (v := hnil.v) rfl) ?_
  refine wpList_nil ?_
  refine k1 _ _ ?_
  refine seqQ fun Q2 k2 z2 => ?_
  refine wp_region_lit ?_
  refine YH wn rfl (rLt (n := 1) (l := [(-1)]) hst SL_22 [.int .i64 (-1)] (bp1 rfl) rfl rfl (mks1 (cs := [.int .i64 (-1)]) rfl mkI mks0)) ?_
  clear hst
  intro h8 w hst
  refine Y wn rfl (yFb FL_29_1 (et rfl rfl)) ?_
  refine Y wn rfl (yLb (u := h4.v) O_22 (et rfl rfl) hst (mtR mhR) rfl) ?_
  refine Y wn rfl (yLen SL_22 (et rfl rfl) hst (rdI q2)) ?_
  obtain ⟨r9, gr9, hM⟩ := bs hM
  replace hst := hst.fz
  refine Yc wn rfl (yCall FN_46 (a2 (et rfl rfl) (et rfl rfl))) (slices_Repeat_int_ok (hM := gr9) (hst := hst) (q1 := mhF)) ?_
  clear hst
  rintro _ w ⟨h10, rfl, hst⟩
  refine ⟨_, rfl, ?_⟩
  refine Y wn rfl (ya (v := h10.v) (et rfl rfl)) ?_
  refine wpList_nil ?_
  refine k2 _ _ ?_
  refine seqQ fun Q3 k3 z3 => ?_
  refine seqQ fun Q4 k4 z4 => ?_
  refine wp_region_lit ?_
  refine Y wn rfl (yFb FL_29_0 (et rfl rfl)) ?_
  refine Y wn rfl (yFb FL_27_0 (et rfl rfl)) ?_
  refine Y wn rfl (yLb (u := h2.v) O_25 (et rfl rfl) hst (mtR mhR) rfl) ?_
  refine Y wn rfl (yLen SL_25 (et rfl rfl) hst (rdI (mtF q1))) ?_
  refine Y wn rfl (ym (v := .int .i64 0) rfl) ?_
  refine wpList_nil ?_
  refine k4 _ _ ?_
  refine blockQ fun Q5 qb5 => ?_
  obtain ⟨o45, go45, hM⟩ := bs hM
  have je45_0 : ∀ (x475 : List Int) (f : Nat → Value) (w : World), f 3 = h10.v → St w0 (ros) (row 3 (rI .i64) h10.v x475 :: rs) w → x475 = o45 → Q5 (.exit 0) (fr 74 f) w := by
    intro x475 f w eje45_0_3 hst ho
    subst ho
    refine qb5 _ _ _ ?_
    refine k3 _ _ ?_
    refine seqQ fun Q168 k168 z168 => ?_
    refine wp_region_lit ?_
    refine Y wn rfl (ym (v := h10.v) (et rfl eje45_0_3)) ?_
    refine Y wn rfl (ya (v := h10.v) (et rfl rfl)) ?_
    refine wpList_nil ?_
    refine k168 _ _ ?_
    refine wp_ret ?_
    obtain rfl := someI hM
    exact hQ _ _ _ (fin1r Try.results28 ⟨rfl, rfl⟩ ⟨_, rfl, hst⟩)
  refine loopQ (fun s a w => ∃ (x241 : List Int) (x242 : Int) (f : Nat → Value), (x241, x242) = s ∧ a = fr 74 f ∧ f 1 = .pointer (some ⟨b7, 0, none⟩) ∧ f 3 = h10.v ∧ f 17 = h2.v ∧ f 18 = .int .i64 (x1.length : Int) ∧ f 19 = .int .i64 x242 ∧ St w0 (ros) (box b7 29 [h2.v, h4.v, h6.v] :: row 3 (rI .i64) h10.v x241 :: rs) w) go45 ⟨_, _, _, rfl, rfl, rfl, rfl, rfl, rfl, rfl, ((hst.pk 2 [1, 0] rfl).facts (allT allI))⟩ ?_
  clear hst
  rintro _ _ w r45_ ⟨x241, x242, f, rfl, rfl, e45_1, e45_3, e45_17, e45_18, e45_19, hst⟩ hM45 ho45 Q100045 n45 zz45
  refine seqQ fun Q169 k169 z169 => ?_
  refine wp_region_lit ?_
  refine Y wn rfl (ylss (et rfl e45_19) (et rfl e45_18)) ?_
  refine wpList_nil ?_
  refine k169 _ _ ?_
  refine seqQ fun Q170 k170 z170 => ?_
  rcases iteS hM45 with ⟨c476, hM45⟩ | ⟨c476, hM45⟩
  · refine condT (et rfl rfl) (decide_eq_true c476) ?_
    refine wp_skip ?_
    refine k170 _ _ ?_
    refine seqQ fun Q171 k171 z171 => ?_
    have j60 : ∀ (x629 : List Int) (f : Nat → Value) (w : World), f 1 = .pointer (some ⟨b7, 0, none⟩) → f 3 = h10.v → f 17 = h2.v → f 18 = .int .i64 (x1.length : Int) → f 19 = .int .i64 x242 → St w0 (ros) (box b7 29 [h2.v, h4.v, h6.v] :: row 3 (rI .i64) h10.v x629 :: rs) w → dissect_match_j60 x242 x629 = some r45_ → Q171 .normal (fr 74 f) w := by
      intro x629 f w ej60_1 ej60_3 ej60_17 ej60_18 ej60_19 hst hM
      refine k171 _ _ ?_
      refine wp_region_lit ?_
      refine Y wn rfl (yadd (et rfl ej60_19) rfl) ?_
      refine Y wn rfl (ym (v := .int .i64 (wa .i64 x242 1)) (et rfl rfl)) ?_
      refine wpList_nil ?_
      obtain rfl := someI hM
      exact n45 _ _ _ rfl ⟨_, _, _, rfl, rfl, ej60_1, ej60_3, ej60_17, ej60_18, rfl, hst⟩
    refine blockQ fun Q224 qb224 => ?_
    refine seqQ fun Q225 k225 z225 => ?_
    refine wp_region_lit ?_
    refine Y wn rfl (ym (v := .int .i64 x242) (et rfl e45_19)) ?_
    obtain ⟨x630, gx630, hM45⟩ := bs hM45
    refine Y wn rfl (yIa SL_25 (et rfl e45_17) (et rfl e45_19) hst (rdI q1) gx630) ?_
    obtain ⟨h631, hst⟩ := iLs hst q1 gx630
    refine Y wn rfl (yCt O_22 (et rfl rfl) hst (mtF mhF) rfl) ?_
    refine Y wn rfl (ya (v := .int .i64 x242) (et rfl rfl)) ?_
    refine Y wn rfl (ya (v := h631.v) (et rfl rfl)) ?_
    refine wpList_nil ?_
    refine k225 _ _ ?_
    refine seqQ fun Q226 k226 z226 => ?_
    refine seqQ fun Q227 k227 z227 => ?_
    refine wp_region_lit ?_
    refine Y wn rfl (ym (v := h10.v) (et rfl e45_3)) ?_
    refine Y wn rfl (ym (v := .int .i64 x242) (et rfl rfl)) ?_
    obtain ⟨x632, gx632, hM45⟩ := bs hM45
    refine Y wn rfl (yIa SL_22 (et rfl rfl) (et rfl rfl) hst (rdO (mtR mhR)) gx632) ?_
    refine Y wn rfl (yI O_3 (et rfl rfl) hst (rdO (mtR mhR)) gx632) ?_
    refine Y wn rfl (yneq (et rfl rfl) rfl) ?_
    refine wpList_nil ?_
    refine k227 _ _ ?_
    rcases iteS hM45 with ⟨c633, hM45⟩ | ⟨c633, hM45⟩
    · refine condF (et rfl rfl) (nF (decide_eq_true c633)) ?_
      refine wp_skip ?_
      refine k226 _ _ ?_
      refine seqQ fun Q228 k228 z228 => ?_
      refine wp_region_lit ?_
      refine Y wn rfl (ym (v := .int .i64 x242) (et rfl rfl)) ?_
      refine Y wn rfl (ya (v := .int .i64 x242) (et rfl rfl)) ?_
      refine Y wn rfl (ya (v := .int .i64 0) rfl) ?_
      refine wpList_nil ?_
      refine k228 _ _ ?_
      refine seqQ fun Q229 k229 z229 => ?_
      refine seqQ fun Q230 k230 z230 => ?_
      refine wp_region_lit ?_
      refine Y wn rfl (ym (v := h631.v) (et rfl rfl)) ?_
      refine Y wn rfl (yLen SL_22 (et rfl rfl) hst (rdI mhF)) ?_
      refine Y wn rfl (ym (v := .int .i64 0) rfl) ?_
      refine wpList_nil ?_
      refine k230 _ _ ?_
      refine blockQ fun Q231 qb231 => ?_
      obtain ⟨o65, go65, hM45⟩ := bs hM45
      have je65_0 : ∀ (x682 : Int) (f : Nat → Value) (w : World), f 1 = .pointer (some ⟨b7, 0, none⟩) → f 3 = h10.v → f 4 = .int .i64 x242 → f 6 = .int .i64 x682 → f 17 = h2.v → f 18 = .int .i64 (x1.length : Int) → f 19 = .int .i64 x242 → St w0 (ros) (box b7 29 [h2.v, h4.v, h6.v] :: row 3 (rI .i64) h10.v x241 :: rs) w → x682 = o65 → Q231 (.exit 2) (fr 74 f) w := by
        intro x682 f w eje65_0_1 eje65_0_3 eje65_0_4 eje65_0_6 eje65_0_17 eje65_0_18 eje65_0_19 hst ho
        subst ho
        refine qb231 _ _ _ ?_
        refine k229 _ _ ?_
        refine wp_region_lit ?_
        refine Y wn rfl (ym (v := h10.v) (et rfl eje65_0_3)) ?_
        refine Y wn rfl (ym (v := .int .i64 x242) (et rfl eje65_0_4)) ?_
        refine Y wn rfl (ym (v := h10.v) (et rfl eje65_0_3)) ?_
        refine Y wn rfl (ym (v := .int .i64 x682) (et rfl eje65_0_6)) ?_
        refine Y wn rfl (ym (v := .int .i64 x682) (et rfl eje65_0_6)) ?_
        refine Y wn rfl (ym (v := .int .i64 x242) (et rfl eje65_0_4)) ?_
        obtain ⟨x683, gx683, hM45⟩ := bs hM45
        refine Y wn rfl (yIs SL_22 (et rfl rfl) (et rfl rfl) hst (rdO (mtR mhR)) gx683) ?_
        replace hst := hst.pk 2 [1, 0] rfl
        refine YT wn rfl (r_sti (cs := [.int .i64 x682]) hst O_3 rfl (et rfl rfl) (et rfl rfl) rfl mkI gx683) ?_
        clear hst
        intro w hst
        obtain ⟨x684, gx684, hM45⟩ := bs hM45
        refine Y wn rfl (yIs SL_22 (et rfl rfl) (et rfl rfl) hst (rdO mhR) gx684) ?_
        refine YT wn rfl (r_sti (cs := [.int .i64 x242]) hst O_3 rfl (et rfl rfl) (et rfl rfl) rfl mkI gx684) ?_
        clear hst
        intro w hst
        refine wpList_nil ?_
        refine qb224 _ _ _ ?_
        exact j60 _ _ _ eje65_0_1 eje65_0_3 eje65_0_17 eje65_0_18 eje65_0_19 (hst.pk 2 [1, 0] rfl) hM45
      refine loopQ (fun s a w => ∃ (x655 : Int) (x656 : Int) (x657 : Int) (f : Nat → Value), (x655, x656, x657) = s ∧ a = fr 74 f ∧ f 1 = .pointer (some ⟨b7, 0, none⟩) ∧ f 3 = h10.v ∧ f 4 = .int .i64 x242 ∧ f 6 = .int .i64 x655 ∧ f 7 = .int .i64 x656 ∧ f 17 = h2.v ∧ f 18 = .int .i64 (x1.length : Int) ∧ f 19 = .int .i64 x242 ∧ f 30 = h631.v ∧ f 31 = .int .i64 (x630.length : Int) ∧ f 32 = .int .i64 x657 ∧ St w0 (imm (rI .i64) h631.v x630 :: ros) (box b7 29 [h2.v, h4.v, h6.v] :: row 3 (rI .i64) h10.v x241 :: rs) w) go65 ⟨_, _, _, _, rfl, rfl, e45_1, e45_3, rfl, rfl, rfl, e45_17, e45_18, e45_19, rfl, rfl, rfl, (hst.facts (allC mhF (allT (allT allI))))⟩ ?_
      clear hst
      rintro _ _ w r65_ ⟨x655, x656, x657, f, rfl, rfl, e65_1, e65_3, e65_4, e65_6, e65_7, e65_17, e65_18, e65_19, e65_30, e65_31, e65_32, hst⟩ hM65 ho65 Q100065 n65 zz65
      refine seqQ fun Q244 k244 z244 => ?_
      refine wp_region_lit ?_
      refine Y wn rfl (ylss (et rfl e65_32) (et rfl e65_31)) ?_
      refine wpList_nil ?_
      refine k244 _ _ ?_
      refine seqQ fun Q245 k245 z245 => ?_
      rcases iteS hM65 with ⟨c685, hM65⟩ | ⟨c685, hM65⟩
      · refine condT (et rfl rfl) (decide_eq_true c685) ?_
        refine wp_skip ?_
        refine k245 _ _ ?_
        refine seqQ fun Q246 k246 z246 => ?_
        refine blockQ fun Q247 qb247 => ?_
        refine seqQ fun Q248 k248 z248 => ?_
        refine wp_region_lit ?_
        refine Y wn rfl (ym (v := .int .i64 x657) (et rfl e65_32)) ?_
        obtain ⟨x686, gx686, hM65⟩ := bs hM65
        refine Y wn rfl (yIa SL_22 (et rfl e65_30) (et rfl e65_32) hst (rdI mhF) gx686) ?_
        refine Y wn rfl (yI O_3 (et rfl rfl) hst (rdI mhF) gx686) ?_
        refine Y wn rfl (ya (v := .int .i64 x657) (et rfl rfl)) ?_
        refine Y wn rfl (ya (v := .int .i64 x686) (et rfl rfl)) ?_
        refine wpList_nil ?_
        refine k248 _ _ ?_
        refine seqQ fun Q249 k249 z249 => ?_
        refine wp_region_lit ?_
        refine Y wn rfl (ym (v := h10.v) (et rfl e65_3)) ?_
        refine Y wn rfl (ym (v := .int .i64 x686) (et rfl rfl)) ?_
        obtain ⟨x687, gx687, hM65⟩ := bs hM65
        refine Y wn rfl (yIa SL_22 (et rfl rfl) (et rfl rfl) hst (rdO (mtR mhR)) gx687) ?_
        refine Y wn rfl (yI O_3 (et rfl rfl) hst (rdO (mtR mhR)) gx687) ?_
        refine Y wn rfl (yeql (et rfl rfl) rfl) ?_
        refine Y wn rfl (ym (v := .bool (decide (x687 = (-1)))) (et rfl rfl)) ?_
        obtain ⟨r691, gr691, hM65⟩ := bs hM65
        refine joinW 11 (fun f w => f 1 = .pointer (some ⟨b7, 0, none⟩) ∧ f 3 = h10.v ∧ f 4 = .int .i64 x242 ∧ f 6 = .int .i64 x655 ∧ f 7 = .int .i64 x656 ∧ f 8 = .int .i64 x657 ∧ f 9 = .int .i64 x686 ∧ f 17 = h2.v ∧ f 18 = .int .i64 (x1.length : Int) ∧ f 19 = .int .i64 x242 ∧ f 30 = h631.v ∧ f 31 = .int .i64 (x630.length : Int) ∧ f 32 = .int .i64 x657 ∧ f 53 = .bool r691 ∧ St w0 (imm (rI .i64) h631.v x630 :: ros) (box b7 29 [h2.v, h4.v, h6.v] :: row 3 (rI .i64) h10.v x241 :: rs) w) (fun j66 => ?_) ?_
        · rcases iteS gr691 with ⟨c693, gr691⟩ | ⟨c693, gr691⟩
          · refine Y (wg rfl rfl rfl (decide_eq_true c693)) rfl (yFb FL_29_2 (et rfl e65_1)) ?_
            refine Y (wg rfl rfl rfl (decide_eq_true c693)) rfl (yLb (u := h6.v) O_25 (et rfl rfl) hst mhR rfl) ?_
            refine Y (wg rfl rfl rfl (decide_eq_true c693)) rfl (ym (v := .int .i64 x242) (et rfl e65_4)) ?_
            obtain ⟨x694, gx694, gr691⟩ := bs gr691
            refine Y (wg rfl rfl rfl (decide_eq_true c693)) rfl (yIa SL_25 (et rfl rfl) (et rfl rfl) hst (rdI (mtF q3)) gx694) ?_
            obtain ⟨h695, hst⟩ := iLs hst (mtF q3) gx694
            refine Y (wg rfl rfl rfl (decide_eq_true c693)) rfl (yCt O_22 (et rfl rfl) hst (mtF mhF) rfl) ?_
            refine Y (wg rfl rfl rfl (decide_eq_true c693)) rfl (ym (v := .int .i64 x657) (et rfl rfl)) ?_
            obtain ⟨x696, gx696, gr691⟩ := bs gr691
            refine Y (wg rfl rfl rfl (decide_eq_true c693)) rfl (yIa SL_22 (et rfl rfl) (et rfl rfl) hst (rdI mhF) gx696) ?_
            refine Y (wg rfl rfl rfl (decide_eq_true c693)) rfl (yI O_3 (et rfl rfl) hst (rdI mhF) gx696) ?_
            refine Y (wg rfl rfl rfl (decide_eq_true c693)) rfl (ym (v := .int .i64 x656) (et rfl e65_7)) ?_
            refine Y (wg rfl rfl rfl (decide_eq_true c693)) rfl (ygtr (et rfl rfl) (et rfl rfl)) ?_
            refine Y wn rfl (ypt (v := .bool (decide (x656 < x696))) (et rfl rfl) (decide_eq_true c693) (et rfl rfl)) ?_
            obtain rfl := someI gr691
            exact j66 _ _ ⟨e65_1, e65_3, e65_4, e65_6, e65_7, rfl, rfl, e65_17, e65_18, e65_19, e65_30, e65_31, e65_32, rfl, (hst.facts (allC (mtF (mtF mhF)) (allT (allT (allT allI)))))⟩
          · refine Gn (wx rfl rfl rfl (decide_eq_false c693)) rfl ?_
            refine Gn (wx rfl rfl rfl (decide_eq_false c693)) rfl ?_
            refine Gn (wx rfl rfl rfl (decide_eq_false c693)) rfl ?_
            refine Gn (wx rfl rfl rfl (decide_eq_false c693)) rfl ?_
            refine Gn (wx rfl rfl rfl (decide_eq_false c693)) rfl ?_
            refine Gn (wx rfl rfl rfl (decide_eq_false c693)) rfl ?_
            refine Gn (wx rfl rfl rfl (decide_eq_false c693)) rfl ?_
            refine Gn (wx rfl rfl rfl (decide_eq_false c693)) rfl ?_
            refine Gn (wx rfl rfl rfl (decide_eq_false c693)) rfl ?_
            refine Gn (wx rfl rfl rfl (decide_eq_false c693)) rfl ?_
            refine Y wn rfl (ypf (v := .bool false) (et rfl rfl) (decide_eq_false c693) rfl) ?_
            obtain rfl := someI gr691
            exact j66 _ _ ⟨e65_1, e65_3, e65_4, e65_6, e65_7, rfl, rfl, e65_17, e65_18, e65_19, e65_30, e65_31, e65_32, rfl, hst⟩
        clear hst
        rintro f w ⟨e692_1, e692_3, e692_4, e692_6, e692_7, e692_8, e692_9, e692_17, e692_18, e692_19, e692_30, e692_31, e692_32, e692_53, hst⟩
        refine wpList_nil ?_
        refine k249 _ _ ?_
        have j67 : ∀ (x700 : Int) (x701 : Int) (f : Nat → Value) (w : World), f 1 = .pointer (some ⟨b7, 0, none⟩) → f 3 = h10.v → f 4 = .int .i64 x242 → f 6 = .int .i64 x700 → f 7 = .int .i64 x701 → f 17 = h2.v → f 18 = .int .i64 (x1.length : Int) → f 19 = .int .i64 x242 → f 30 = h631.v → f 31 = .int .i64 (x630.length : Int) → f 32 = .int .i64 x657 → St w0 (imm (rI .i64) h631.v x630 :: ros) (box b7 29 [h2.v, h4.v, h6.v] :: row 3 (rI .i64) h10.v x241 :: rs) w → dissect_match_j67 x657 x700 x701 = some r65_ → Q247 .normal (fr 74 f) w := by
          intro x700 x701 f w ej67_1 ej67_3 ej67_4 ej67_6 ej67_7 ej67_17 ej67_18 ej67_19 ej67_30 ej67_31 ej67_32 hst hM
          refine qb247 _ _ _ ?_
          refine k246 _ _ ?_
          refine wp_region_lit ?_
          refine Y wn rfl (yadd (et rfl ej67_32) rfl) ?_
          refine Y wn rfl (ym (v := .int .i64 (wa .i64 x657 1)) (et rfl rfl)) ?_
          refine wpList_nil ?_
          obtain rfl := someI hM
          exact n65 _ _ _ rfl ⟨_, _, _, _, rfl, rfl, ej67_1, ej67_3, ej67_4, ej67_6, ej67_7, ej67_17, ej67_18, ej67_19, ej67_30, ej67_31, rfl, hst⟩
        rcases iteS hM65 with ⟨c702, hM65⟩ | ⟨c702, hM65⟩
        · refine condT (et rfl e692_53) c702 ?_
          obtain ⟨x703, gx703, hM65⟩ := bs hM65
          obtain ⟨x705, gx705, hM65⟩ := bs hM65
          refine wp_drawR [0, 0, 2, 0, 14, 30, 0, 126, 254, 1, 1023] [9, 10] 2 folM (by kernel_rfl) (by kernel_rfl) (by kernel_rfl) ?_
          replace hst := hst.drew
          refine DRn (l1 := [0, 1, 2, 3, 4, 5, 6, 7, 8]) (l2 := []) (lc := [9]) (by kernel_rfl) (by kernel_rfl) (by kernel_rfl) ?_
          refine Ry rfl rfl wn (ym (v := .int .i64 x686) (et rfl e692_9)) ?_
          refine Ry rfl rfl wn (yFb FL_29_2 (et rfl e692_1)) ?_
          refine Ry rfl rfl wn (yLb (u := h6.v) O_25 (et rfl rfl) hst mhR rfl) ?_
          refine Ry rfl rfl wn (ym (v := .int .i64 x242) (et rfl e692_4)) ?_
          refine Ry rfl rfl wn (yIa SL_25 (et rfl rfl) (et rfl rfl) hst (rdI (mtF q3)) gx703) ?_
          obtain ⟨h704, hst⟩ := iLs hst (mtF q3) gx703
          refine Ry rfl rfl wn (yCt O_22 (et rfl rfl) hst (mtF mhF) rfl) ?_
          refine Ry rfl rfl wn (ym (v := .int .i64 x657) (et rfl e692_8)) ?_
          refine Ry rfl rfl wn (yIa SL_22 (et rfl rfl) (et rfl rfl) hst (rdI mhF) gx705) ?_
          refine Ry rfl rfl wn (yI O_3 (et rfl rfl) hst (rdI mhF) gx705) ?_
          refine Rn QSn ?_
          refine Lc rfl ?_ LAn
          refine Ly wn (ya (v := .int .i64 x686) (et rfl rfl)) ?_
          refine DRn (l1 := []) (l2 := [1, 2, 3, 4, 5, 6, 7, 8]) (lc := [10]) (by kernel_rfl) (by kernel_rfl) (by kernel_rfl) ?_
          refine Rn (Sy rfl rfl wn (yFb FL_29_2 (et rfl e692_1)) rfl (Sy rfl rfl wn (yLb (u := h6.v) O_25 (et rfl rfl) hst mhR rfl) rfl (Sy rfl rfl wn (ym (v := .int .i64 x242) (et rfl e692_4)) rfl (Sy rfl rfl wn (yIa SL_25 (et rfl rfl) (et rfl rfl) hst (rdI (mtF (mtF (mtF q3)))) gx703) rfl (Sy rfl rfl wn (yCt O_22 (et rfl rfl) hst (mtF mhF) rfl) rfl (Sy rfl rfl wn (ym (v := .int .i64 x657) (et rfl e692_8)) rfl (Sy rfl rfl wn (yIa SL_22 (et rfl rfl) (et rfl rfl) hst (rdI mhF) gx705) rfl (Sy rfl rfl wn (yI O_3 (et rfl rfl) hst (rdI mhF) gx705) rfl QSn)))))))) ?_
          refine Lc rfl ?_ LAn
          refine Ly wn (ya (v := .int .i64 x705) (et rfl rfl)) ?_
          refine DRz (l1 := []) (l2 := []) (by kernel_rfl) (by kernel_rfl) ?_
          refine Rn QSn ?_
          exact j67 _ _ _ _ e692_1 e692_3 e692_4 rfl rfl e692_17 e692_18 e692_19 e692_30 e692_31 e692_32 (hst.facts (allC (mtF (mtF mhF)) (allT (allT (allT allI))))) hM65
        · refine condF (et rfl e692_53) (bfalse c702) ?_
          refine wp_skip ?_
          exact j67 _ _ _ _ e692_1 e692_3 e692_4 e692_6 e692_7 e692_17 e692_18 e692_19 e692_30 e692_31 e692_32 hst hM65
      · refine condF (et rfl rfl) (decide_eq_false c685) ?_
        refine wp_exit ?_
        refine z245 _ _ _ rfl ?_
        obtain rfl := someI hM65
        refine zz65 _ _ _ _ rfl rfl ?_
        exact je65_0 _ _ _ e65_1 e65_3 e65_4 e65_6 e65_17 e65_18 e65_19 (hst.facts (allT allI)) (ho65 _ rfl)
    · refine condT (et rfl rfl) (nT (decide_eq_false c633)) ?_
      refine wp_exit ?_
      refine z226 _ _ _ rfl ?_
      refine qb224 _ _ _ ?_
      exact j60 _ _ _ e45_1 e45_3 e45_17 e45_18 e45_19 (hst.facts (allT (allT allI))) hM45
  · refine condF (et rfl rfl) (decide_eq_false c476) ?_
    refine wp_exit ?_
    refine z170 _ _ _ rfl ?_
    obtain rfl := someI hM45
    refine zz45 _ _ _ _ rfl rfl ?_
    exact je45_0 _ _ _ e45_3 (hst.pk 2 [1] rfl) (ho45 _ rfl)

theorem dissect_weights_1_ok {w0 : World} {ros : List Fact} {rs : List Res} {w : World} {x1 : Int} {out : Bool} (hM : dissect_weights_1 x1 = some out) (hst : St w0 ros (rs) w) :
    Calls Try.prog 63 #[.int .i64 x1] w (fun e w => e = .returned (.bool out) ∧ St w0 (ros) (rs) w) := by
  refine enterQ Try.func63 rfl Try.ntmps63 rfl fun Q hQ => ?_
  refine seqQ fun Q1 k1 z1 => ?_
  refine wp_region_lit ?_
  refine Y wn rfl (ya (v := .bool false) rfl) ?_
  refine wpList_nil ?_
  refine k1 _ _ ?_
  refine seqQ fun Q2 k2 z2 => ?_
  refine wp_region_lit ?_
  refine Y wn rfl (ym (v := .int .i64 x1) (et rfl rfl)) ?_
  refine Y wn rfl (ylss (et rfl rfl) rfl) ?_
  refine Y wn rfl (ym (v := .bool (decide (x1 < 1))) (et rfl rfl)) ?_
  refine joinW 3 (fun f w => f 8 = .bool ((decide (x1 < 1)) || (decide ((1099511627776 : Int) < x1))) ∧ St w0 (ros) (rs) w) (fun j1 => ?_) ?_
  · rcases Bool.eq_false_or_eq_true (decide (x1 < 1)) with c3 | c3
    · refine Gn (wx rfl rfl rfl c3) rfl ?_
      refine Gn (wx rfl rfl rfl c3) rfl ?_
      refine Y wn rfl (ypt (v := .bool true) (et rfl rfl) c3 rfl) ?_
      exact j1 _ _ ⟨(congrArg Value.bool (orT c3)), hst⟩
    · refine Y (wg rfl rfl rfl c3) rfl (ym (v := .int .i64 x1) (et rfl rfl)) ?_
      refine Y (wg rfl rfl rfl c3) rfl (ygtr (et rfl rfl) rfl) ?_
      refine Y wn rfl (ypf (v := .bool (decide ((1099511627776 : Int) < x1))) (et rfl rfl) c3 (et rfl rfl)) ?_
      exact j1 _ _ ⟨(congrArg Value.bool (orF c3)), hst⟩
  clear hst
  rintro f w ⟨e2_8, hst⟩
  refine Y wn rfl (ya (v := .bool ((decide (x1 < 1)) || (decide ((1099511627776 : Int) < x1)))) (et rfl e2_8)) ?_
  refine wpList_nil ?_
  refine k2 _ _ ?_
  refine wp_ret ?_
  obtain rfl := someI hM
  exact hQ _ _ _ (fin1r Try.results63 ⟨rfl, rfl⟩ ⟨rfl, hst⟩)

theorem slices_IndexFunc_int_ok {w0 : World} {ros : List Fact} {rs : List Res} {w : World} {x1 : List Int} {h2 : Hdr} {out : Int} (hM : slices_IndexFunc_int x1 = some out) (q1 : imm (rI .i64) h2.v x1 ∈ ros) (hst : St w0 ros (rs) w) :
    Calls Try.prog 61 #[h2.v, .func (.func 63) #[] #[]] w (fun e w => e = .returned (.int .i64 out) ∧ St w0 (ros) (rs) w) := by
  refine enterQ Try.func61 rfl Try.ntmps61 rfl fun Q hQ => ?_
  refine seqQ fun Q1 k1 z1 => ?_
  refine wp_region_lit ?_
  refine Y wn rfl (ya (v := .int .i64 0) rfl) ?_
  refine wpList_nil ?_
  refine k1 _ _ ?_
  refine seqQ fun Q2 k2 z2 => ?_
  refine seqQ fun Q3 k3 z3 => ?_
  refine wp_region_lit ?_
  refine Y wn rfl (ym (v := h2.v) (et rfl rfl)) ?_
  refine Y wn rfl (yLen SL_22 (et rfl rfl) hst (rdI q1)) ?_
  refine Y wn rfl (ym (v := .int .i64 0) rfl) ?_
  refine wpList_nil ?_
  refine k3 _ _ ?_
  refine blockQ fun Q4 qb4 => ?_
  obtain ⟨o1, go1, hM⟩ := bs hM
  have je1_0 : ∀ (f : Nat → Value) (w : World), St w0 (ros) (rs) w → .inl () = o1 → Q4 (.exit 0) (fr 19 f) w := by
    intro f w hst ho
    subst ho
    refine qb4 _ _ _ ?_
    refine k2 _ _ ?_
    refine seqQ fun Q19 k19 z19 => ?_
    refine wp_region_lit ?_
    refine Y wn rfl (ya (v := .int .i64 (-1)) rfl) ?_
    refine wpList_nil ?_
    refine k19 _ _ ?_
    refine wp_ret ?_
    obtain rfl := someI hM
    exact hQ _ _ _ (fin1r Try.results61 ⟨rfl, rfl⟩ ⟨rfl, hst⟩)
  have je1_1 : ∀ (x13 : Int) (f : Nat → Value) (w : World), f 4 = .int .i64 x13 → St w0 (ros) (rs) w → .inr x13 = o1 → Q4 .ret (fr 19 f) w := by
    intro x13 f w eje1_1_4 hst ho
    subst ho
    refine qb4 _ _ _ ?_
    refine z2 _ _ _ rfl ?_
    obtain rfl := someI hM
    exact hQ _ _ _ (fin1r Try.results61 ⟨rfl, eje1_1_4⟩ ⟨rfl, hst⟩)
  refine loopQ (fun s a w => ∃ (x7 : Int) (f : Nat → Value), x7 = s ∧ a = fr 19 f ∧ f 0 = h2.v ∧ f 1 = .func (.func 63) #[] #[] ∧ f 7 = .int .i64 (x1.length : Int) ∧ f 8 = .int .i64 x7 ∧ St w0 (ros) (rs) w) go1 ⟨_, _, rfl, rfl, rfl, rfl, rfl, rfl, hst⟩ ?_
  clear hst
  rintro _ _ w r1_ ⟨x7, f, rfl, rfl, e1_0, e1_1, e1_7, e1_8, hst⟩ hM1 ho1 Q100001 n1 zz1
  refine seqQ fun Q20 k20 z20 => ?_
  refine wp_region_lit ?_
  refine Y wn rfl (ylss (et rfl e1_8) (et rfl e1_7)) ?_
  refine wpList_nil ?_
  refine k20 _ _ ?_
  refine seqQ fun Q21 k21 z21 => ?_
  rcases iteS hM1 with ⟨c14, hM1⟩ | ⟨c14, hM1⟩
  · refine condT (et rfl rfl) (decide_eq_true c14) ?_
    refine wp_skip ?_
    refine k21 _ _ ?_
    refine seqQ fun Q22 k22 z22 => ?_
    refine blockQ fun Q23 qb23 => ?_
    refine seqQ fun Q24 k24 z24 => ?_
    refine wp_region_lit ?_
    refine Y wn rfl (ym (v := .int .i64 x7) (et rfl e1_8)) ?_
    refine Y wn rfl (ya (v := .int .i64 x7) (et rfl rfl)) ?_
    refine wpList_nil ?_
    refine k24 _ _ ?_
    refine seqQ fun Q25 k25 z25 => ?_
    refine wp_region_lit ?_
    refine Y wn rfl (ym (v := .func (.func 63) #[] #[]) (et rfl e1_1)) ?_
    refine Y wn rfl (ym (v := h2.v) (et rfl e1_0)) ?_
    refine Y wn rfl (ym (v := .int .i64 x7) (et rfl rfl)) ?_
    obtain ⟨x15, gx15, hM1⟩ := bs hM1
    refine Y wn rfl (yIa SL_22 (et rfl rfl) (et rfl rfl) hst (rdI q1) gx15) ?_
    refine Y wn rfl (yI O_3 (et rfl rfl) hst (rdI q1) gx15) ?_
    obtain ⟨r16, gr16, hM1⟩ := bs hM1
    refine Yc wn rfl (yCallw FN_63 (et rfl rfl) (a1 (et rfl rfl))) (dissect_weights_1_ok (hM := gr16) (hst := hst) ) ?_
    clear hst
    rintro _ w ⟨rfl, hst⟩
    refine ⟨_, rfl, ?_⟩
    refine wpList_nil ?_
    refine k25 _ _ ?_
    rcases iteS hM1 with ⟨c17, hM1⟩ | ⟨c17, hM1⟩
    · refine condT (et rfl rfl) c17 ?_
      refine seqQ fun Q26 k26 z26 => ?_
      refine wp_region_lit ?_
      refine Y wn rfl (ym (v := .int .i64 x7) (et rfl rfl)) ?_
      refine Y wn rfl (ya (v := .int .i64 x7) (et rfl rfl)) ?_
      refine wpList_nil ?_
      refine k26 _ _ ?_
      refine wp_ret ?_
      refine qb23 _ _ _ ?_
      refine z22 _ _ _ rfl ?_
      obtain rfl := someI hM1
      refine zz1 _ _ _ _ rfl rfl ?_
      exact je1_1 _ _ _ rfl hst (ho1 _ rfl)
    · refine condF (et rfl rfl) (bfalse c17) ?_
      refine wp_skip ?_
      refine qb23 _ _ _ ?_
      refine k22 _ _ ?_
      refine wp_region_lit ?_
      refine Y wn rfl (yadd (et rfl e1_8) rfl) ?_
      refine Y wn rfl (ym (v := .int .i64 (wa .i64 x7 1)) (et rfl rfl)) ?_
      refine wpList_nil ?_
      obtain rfl := someI hM1
      exact n1 _ _ _ rfl ⟨_, _, rfl, rfl, e1_0, e1_1, e1_7, rfl, hst⟩
  · refine condF (et rfl rfl) (decide_eq_false c14) ?_
    refine wp_exit ?_
    refine z21 _ _ _ rfl ?_
    obtain rfl := someI hM1
    refine zz1 _ _ _ _ rfl rfl ?_
    exact je1_0 _ _ hst (ho1 _ rfl)

theorem slices_ContainsFunc_int_ok {w0 : World} {ros : List Fact} {rs : List Res} {w : World} {x1 : List Int} {h2 : Hdr} {out : Bool} (hM : slices_ContainsFunc_int x1 = some out) (q1 : imm (rI .i64) h2.v x1 ∈ ros) (hst : St w0 ros (rs) w) :
    Calls Try.prog 35 #[h2.v, .func (.func 63) #[] #[]] w (fun e w => e = .returned (.bool out) ∧ St w0 (ros) (rs) w) := by
  refine enterQ Try.func35 rfl Try.ntmps35 rfl fun Q hQ => ?_
  refine seqQ fun Q1 k1 z1 => ?_
  refine wp_region_lit ?_
  refine Y wn rfl (ya (v := .bool false) rfl) ?_
  refine wpList_nil ?_
  refine k1 _ _ ?_
  refine seqQ fun Q2 k2 z2 => ?_
  refine wp_region_lit ?_
  refine Y wn rfl (ym (v := h2.v) (et rfl rfl)) ?_
  refine Y wn rfl (ym (v := .func (.func 63) #[] #[]) (et rfl rfl)) ?_
  obtain ⟨r3, gr3, hM⟩ := bs hM
  refine Yc wn rfl (yCall FN_61 (a2 (et rfl rfl) (et rfl rfl))) (slices_IndexFunc_int_ok (hM := gr3) (hst := hst) (q1 := q1)) ?_
  clear hst
  rintro _ w ⟨rfl, hst⟩
  refine ⟨_, rfl, ?_⟩
  refine Y wn rfl (ygeq (et rfl rfl) rfl) ?_
  refine Y wn rfl (ya (v := .bool (decide ((0 : Int) ≤ r3))) (et rfl rfl)) ?_
  refine wpList_nil ?_
  refine k2 _ _ ?_
  refine wp_ret ?_
  obtain rfl := someI hM
  exact hQ _ _ _ (fin1r Try.results35 ⟨rfl, rfl⟩ ⟨rfl, hst⟩)

theorem dissect_weights_ok {w0 : World} {ros : List Fact} {rs : List Res} {w : World} {x1 : List Int} {h2 : Hdr} {out : Bool} (hM : dissect_weights x1 = some out) (q1 : imm (rI .i64) h2.v x1 ∈ ros) (hst : St w0 ros (rs) w) :
    Calls Try.prog 42 #[h2.v] w (fun e w => e = .returned (.bool out) ∧ St w0 (ros) (rs) w) := by
  refine enterQ Try.func42 rfl Try.ntmps42 rfl fun Q hQ => ?_
  refine seqQ fun Q1 k1 z1 => ?_
  refine wp_region_lit ?_
  refine Y wn rfl (ya (v := .bool false) rfl) ?_
  refine wpList_nil ?_
  refine k1 _ _ ?_
  refine seqQ fun Q2 k2 z2 => ?_
  refine wp_region_lit ?_
  refine Y wn rfl (ym (v := h2.v) (et rfl rfl)) ?_
  obtain ⟨r3, gr3, hM⟩ := bs hM
  refine Yc wn rfl (yCall FN_35 (a2 (et rfl rfl) rfl)) (slices_ContainsFunc_int_ok (hM := gr3) (hst := hst) (q1 := q1)) ?_
  clear hst
  rintro _ w ⟨rfl, hst⟩
  refine ⟨_, rfl, ?_⟩
  refine Y wn rfl (ynot (et rfl rfl)) ?_
  refine Y wn rfl (ya (v := .bool (!(r3))) (et rfl rfl)) ?_
  refine wpList_nil ?_
  refine k2 _ _ ?_
  refine wp_ret ?_
  obtain rfl := someI hM
  exact hQ _ _ _ (fin1r Try.results42 ⟨rfl, rfl⟩ ⟨rfl, hst⟩)

theorem dissect_coarsen_ok {w0 : World} {ros : List Fact} {rs : List Res} {w : World} {x1 : List (List Int)} {x3 : List Int} {x5 : List (List Int)} {x7 : List Int} {h2 : Hdr} {h4 : Hdr} {h6 : Hdr} {h8 : Hdr} {out : (List (List Int)) × (List Int) × (List (List Int)) × (List Int) × Bool} (hM : dissect_coarsen x1 x3 x5 x7 = some out) (q1 : imm (rS (rI .i64)) h2.v x1 ∈ ros) (q2 : imm (rI .i64) h4.v x3 ∈ ros) (q3 : imm (rS (rI .i64)) h6.v x5 ∈ ros) (q4 : imm (rI .i64) h8.v x7 ∈ ros) (hst : St w0 ros (rs) w) :
    Calls Try.prog 41 #[.agg #[h2.v, h4.v, h6.v], h8.v] w (fun e w => ∃ (h100001 : Hdr) (y100002 : List Hdr) (h100004 : Hdr) (h100006 : Hdr) (y100007 : List Hdr) (h100009 : Hdr), e = .returned (.tuple #[.agg #[h100001.v, h100004.v, h100006.v], h100009.v, .bool out.2.2.2.2]) ∧ St w0 (imm (rI .i64) h100004.v out.2.1 :: ros) (row 22 rH h100001.v y100002 :: fam 3 (rI .i64) y100002 out.1 :: row 22 rH h100006.v y100007 :: fam 3 (rI .i64) y100007 out.2.2.1 :: row 3 (rI .i64) h100009.v out.2.2.2.1 :: rs) w) := by
  refine enterQ Try.func41 rfl Try.ntmps41 rfl fun Q hQ => ?_
  refine seqQ fun Q1 k1 z1 => ?_
  refine wp_region_lit ?_
  refine YB wn rfl (r_box (vals := [h2.v, h4.v, h6.v]) hst (et rfl rfl) rfl) ?_
  clear hst
  intro b9 w hst
  refine YB wn rfl (rAl hst ZT_29) ?_
  clear hst
  intro b10 w hst
  refine Y wn rfl (ya (v := hnil.v) rfl) ?_
  refine Y wn rfl (ya (v := .bool false) rfl) ?_
  refine wpList_nil ?_
  refine k1 _ _ ?_
  refine seqQ fun Q2 k2 z2 => ?_
  refine wp_region_lit ?_
  refine Y wn rfl (ym (v := h8.v) (et rfl rfl)) ?_
  refine Y wn rfl (yLen SL_22 (et rfl rfl) hst (rdI q4)) ?_
  obtain ⟨x13, gx13, hM⟩ := bs hM
  refine YH wn rfl (rMk hst SL_22 (et rfl rfl) gx13) ?_
  clear hst
  intro h11 w hst
  refine Y wn rfl (ya (v := h11.v) (et rfl rfl)) ?_
  refine wpList_nil ?_
  refine k2 _ _ ?_
  refine seqQ fun Q3 k3 z3 => ?_
  refine seqQ fun Q4 k4 z4 => ?_
  refine wp_region_lit ?_
  refine Y wn rfl (ym (v := h8.v) (et rfl rfl)) ?_
  refine Y wn rfl (yLen SL_22 (et rfl rfl) hst (rdI q4)) ?_
  refine Y wn rfl (ym (v := .int .i64 0) rfl) ?_
  refine wpList_nil ?_
  refine k4 _ _ ?_
  refine blockQ fun Q5 qb5 => ?_
  obtain ⟨o3, go3, hM⟩ := bs hM
  have je3_0 : ∀ (x109 : List Int) (x110 : List Int) (h108 : Hdr) (f : Nat → Value) (w : World), f 2 = .pointer (some ⟨b9, 0, none⟩) → f 4 = .pointer (some ⟨b10, 0, none⟩) → f 5 = h11.v → St w0 (ros) (box b9 29 [h2.v, h4.v, h6.v] :: row 3 (rI .i64) h108.v x109 :: box b10 29 [hnil.v, h108.v, hnil.v] :: row 3 (rI .i64) h11.v x110 :: rs) w → (x109, x110) = o3 → Q5 (.exit 0) (fr 200 f) w := by
    intro x109 x110 h108 f w eje3_0_2 eje3_0_4 eje3_0_5 hst ho
    subst ho
    refine qb5 _ _ _ ?_
    refine k3 _ _ ?_
    refine seqQ fun Q54 k54 z54 => ?_
    refine wp_region_lit ?_
    refine Y wn rfl (yFb FL_29_1 (et rfl eje3_0_4)) ?_
    refine Y wn rfl (yLb (u := h108.v) O_22 (et rfl rfl) hst (mtR (mtR mhR)) rfl) ?_
    refine Y wn rfl (yLen SL_22 (et rfl rfl) hst (rdO (mtR mhR))) ?_
    refine Y wn rfl (ya (v := .int .i64 (x109.length : Int)) (et rfl rfl)) ?_
    refine wpList_nil ?_
    refine k54 _ _ ?_
    refine seqQ fun Q55 k55 z55 => ?_
    refine wp_region_lit ?_
    refine Y wn rfl (ym (v := .int .i64 (x109.length : Int)) (et rfl rfl)) ?_
    obtain ⟨x113, gx113, hM⟩ := bs hM
    obtain ⟨m112, em112, gm112⟩ := mkL_rep gx113 hnil
    refine YH wn rfl (rMk hst SLH_25 (et rfl rfl) gm112) ?_
    clear hst
    intro h111 w hst
    replace hst := (hst.fReps 3 (rI .i64) m112).pk 2 [1, 0] rfl
    rw [← em112] at hst
    refine Y wn rfl (ya (v := h111.v) (et rfl rfl)) ?_
    refine wpList_nil ?_
    refine k55 _ _ ?_
    refine seqQ fun Q56 k56 z56 => ?_
    refine seqQ fun Q57 k57 z57 => ?_
    refine wp_region_lit ?_
    refine Y wn rfl (ym (v := h111.v) (et rfl rfl)) ?_
    refine Y wn rfl (yLenF SLH_25 (et rfl rfl) hst (rdO mhR) (mtR mhR)) ?_
    refine Y wn rfl (ym (v := .int .i64 0) rfl) ?_
    refine wpList_nil ?_
    refine k57 _ _ ?_
    refine blockQ fun Q58 qb58 => ?_
    obtain ⟨o4, go4, hM⟩ := bs hM
    have je4_0 : ∀ (x133 : List (List Int)) (y132 : List Hdr) (f : Nat → Value) (w : World), f 2 = .pointer (some ⟨b9, 0, none⟩) → f 4 = .pointer (some ⟨b10, 0, none⟩) → f 5 = h11.v → f 9 = .int .i64 (x109.length : Int) → f 10 = h111.v → St w0 (ros) (box b9 29 [h2.v, h4.v, h6.v] :: row 3 (rI .i64) h108.v x109 :: box b10 29 [hnil.v, h108.v, hnil.v] :: row 3 (rI .i64) h11.v x110 :: row 22 rH h111.v y132 :: fam 3 (rI .i64) y132 x133 :: rs) w → x133 = o4 → Q58 (.exit 2) (fr 200 f) w := by
      intro x133 y132 f w eje4_0_2 eje4_0_4 eje4_0_5 eje4_0_9 eje4_0_10 hst ho
      subst ho
      refine qb58 _ _ _ ?_
      refine k56 _ _ ?_
      refine seqQ fun Q69 k69 z69 => ?_
      refine seqQ fun Q70 k70 z70 => ?_
      refine wp_region_lit ?_
      refine Y wn rfl (yFb FL_29_0 (et rfl eje4_0_2)) ?_
      refine Y wn rfl (yFb FL_27_0 (et rfl rfl)) ?_
      refine Y wn rfl (yLb (u := h2.v) O_25 (et rfl rfl) hst mhR rfl) ?_
      refine Y wn rfl (yLen SL_25 (et rfl rfl) hst (rdI q1)) ?_
      refine Y wn rfl (ym (v := .int .i64 0) rfl) ?_
      refine wpList_nil ?_
      refine k70 _ _ ?_
      refine blockQ fun Q71 qb71 => ?_
      obtain ⟨o7, go7, hM⟩ := bs hM
      have je7_0 : ∀ (x226 : List (List Int)) (f : Nat → Value) (w : World), f 4 = .pointer (some ⟨b10, 0, none⟩) → f 5 = h11.v → f 9 = .int .i64 (x109.length : Int) → f 10 = h111.v → St w0 (ros) (row 3 (rI .i64) h108.v x109 :: box b10 29 [hnil.v, h108.v, hnil.v] :: row 3 (rI .i64) h11.v x110 :: row 22 rH h111.v y132 :: fam 3 (rI .i64) y132 x226 :: rs) w → x226 = o7 → Q71 (.exit 4) (fr 200 f) w := by
        intro x226 f w eje7_0_4 eje7_0_5 eje7_0_9 eje7_0_10 hst ho
        subst ho
        refine qb71 _ _ _ ?_
        refine k69 _ _ ?_
        refine seqQ fun Q116 k116 z116 => ?_
        obtain ⟨x229, gx229, hM⟩ := bs hM
        obtain ⟨x232, gx232, hM⟩ := bs hM
        refine joinN (n := 200) (fun f w => ∃ (h233 : Hdr) (y234 : List Hdr) (h235 : Hdr) (y236 : List Hdr), f 4 = .pointer (some ⟨b10, 0, none⟩) ∧ f 5 = h11.v ∧ f 10 = h111.v ∧ St w0 (ros) (row 22 rH h233.v y234 :: fam 3 (rI .i64) y234 x229 :: row 3 (rI .i64) h108.v x109 :: row 22 rH h235.v y236 :: fam 3 (rI .i64) y236 x232 :: box b10 29 [h233.v, h108.v, h235.v] :: row 3 (rI .i64) h11.v x110 :: row 22 rH h111.v y132 :: fam 3 (rI .i64) y132 x226 :: rs) w) (fun j8 => ?_) ?_
        · refine wp_drawR [0, 1, 0, 4, 3, 19, 51, 127, 255] [1, 3, 6, 8] 4 folM (by kernel_rfl) (by kernel_rfl) (by kernel_rfl) ?_
          replace hst := hst.drew
          refine DRn (l1 := [0, 2]) (l2 := []) (lc := [1, 3]) (by kernel_rfl) (by kernel_rfl) (by kernel_rfl) ?_
          refine Ry rfl rfl wn (ym (v := .int .i64 (x109.length : Int)) (et rfl eje7_0_9)) ?_
          refine Ry rfl rfl wn (ym (v := .int .i64 (x109.length : Int)) (et rfl eje7_0_9)) ?_
          refine Rn QSn ?_
          refine Lc rfl ?_ (Lc rfl ?_ LAn)
          · obtain ⟨m228, em228, gm228⟩ := mkL_rep gx229 hnil
            refine LH wn (rMk hst SLH_25 (et rfl rfl) gm228) ?_
            clear hst
            intro h227 w hst
            replace hst := (hst.fReps 3 (rI .i64) m228).pk 2 [1, 0] rfl
            rw [← em228] at hst
            refine DRn (l1 := [4, 5]) (l2 := [2]) (lc := [3, 6]) (by kernel_rfl) (by kernel_rfl) (by kernel_rfl) ?_
            refine Ry rfl rfl wn (yFb FL_29_0 (et rfl eje7_0_4)) ?_
            refine Ry rfl rfl wn (yFb FL_27_0 (et rfl rfl)) ?_
            refine Rn (Sy rfl rfl wn (ym (v := .int .i64 (x109.length : Int)) (et rfl eje7_0_9)) rfl QSn) ?_
            refine Lc rfl ?_ (Lc rfl ?_ LAn)
            · obtain ⟨m231, em231, gm231⟩ := mkL_rep gx232 hnil
              refine LH wn (rMk hst SLH_25 (et rfl rfl) gm231) ?_
              clear hst
              intro h230 w hst
              replace hst := (hst.fReps 3 (rI .i64) m231).pk 2 [1, 0] rfl
              rw [← em231] at hst
              refine DRn (l1 := []) (l2 := [4, 5]) (lc := [6]) (by kernel_rfl) (by kernel_rfl) (by kernel_rfl) ?_
              refine Rn (Sy rfl rfl wn (yFb FL_29_0 (et rfl eje7_0_4)) rfl (Sy rfl rfl wn (yFb FL_27_0 (et rfl rfl)) rfl QSn)) ?_
              refine Lc rfl ?_ LAn
              replace hst := hst.pk 6 [5, 0, 0, 0, 0, 0] rfl
              refine LT wn (r_stb1 (vals' := [h227.v, h108.v, hnil.v]) hst O_25 (et rfl rfl) (et rfl rfl) rfl rfl rfl rfl) ?_
              clear hst
              intro w hst
              refine DRn (l1 := [7]) (l2 := []) (lc := [8]) (by kernel_rfl) (by kernel_rfl) (by kernel_rfl) ?_
              refine Ry rfl rfl wn (yFb FL_29_2 (et rfl eje7_0_4)) ?_
              refine Rn QSn ?_
              refine Lc rfl ?_ LAn
              refine LT wn (r_stb1 (vals' := [h227.v, h108.v, h230.v]) hst O_25 (et rfl rfl) (et rfl rfl) rfl rfl rfl rfl) ?_
              clear hst
              intro w hst
              refine DRz (l1 := []) (l2 := []) (by kernel_rfl) (by kernel_rfl) ?_
              refine Rn QSn ?_
              exact j8 _ _ ⟨_, _, _, _, eje7_0_4, eje7_0_5, eje7_0_10, (hst.pk 9 [3, 3, 3, 1, 1, 0, 0, 0, 0] rfl)⟩
            · replace hst := hst.pk 4 [3, 0, 0, 0] rfl
              refine LT wn (r_stb1 (vals' := [h227.v, h108.v, hnil.v]) hst O_25 (et rfl rfl) (et rfl rfl) rfl rfl rfl rfl) ?_
              clear hst
              intro w hst
              refine DRn (l1 := []) (l2 := [2]) (lc := [3]) (by kernel_rfl) (by kernel_rfl) (by kernel_rfl) ?_
              refine Rn (Sy rfl rfl wn (ym (v := .int .i64 (x109.length : Int)) (et rfl eje7_0_9)) rfl QSn) ?_
              refine Lc rfl ?_ LAn
              obtain ⟨m231, em231, gm231⟩ := mkL_rep gx232 hnil
              refine LH wn (rMk hst SLH_25 (et rfl rfl) gm231) ?_
              clear hst
              intro h230 w hst
              replace hst := (hst.fReps 3 (rI .i64) m231).pk 2 [1, 0] rfl
              rw [← em231] at hst
              refine DRn (l1 := [7]) (l2 := []) (lc := [8]) (by kernel_rfl) (by kernel_rfl) (by kernel_rfl) ?_
              refine Ry rfl rfl wn (yFb FL_29_2 (et rfl eje7_0_4)) ?_
              refine Rn QSn ?_
              refine Lc rfl ?_ LAn
              replace hst := hst.pk 3 [2, 0, 0] rfl
              refine LT wn (r_stb1 (vals' := [h227.v, h108.v, h230.v]) hst O_25 (et rfl rfl) (et rfl rfl) rfl rfl rfl rfl) ?_
              clear hst
              intro w hst
              refine DRz (l1 := []) (l2 := []) (by kernel_rfl) (by kernel_rfl) ?_
              refine Rn QSn ?_
              exact j8 _ _ ⟨_, _, _, _, eje7_0_4, eje7_0_5, eje7_0_10, (hst.pk 9 [3, 3, 3, 1, 1, 0, 0, 0, 0] rfl)⟩
          · obtain ⟨m231, em231, gm231⟩ := mkL_rep gx232 hnil
            refine LH wn (rMk hst SLH_25 (et rfl rfl) gm231) ?_
            clear hst
            intro h230 w hst
            replace hst := (hst.fReps 3 (rI .i64) m231).pk 2 [1, 0] rfl
            rw [← em231] at hst
            refine DRn (l1 := []) (l2 := [0]) (lc := [1]) (by kernel_rfl) (by kernel_rfl) (by kernel_rfl) ?_
            refine Rn (Sy rfl rfl wn (ym (v := .int .i64 (x109.length : Int)) (et rfl eje7_0_9)) rfl QSn) ?_
            refine Lc rfl ?_ LAn
            obtain ⟨m228, em228, gm228⟩ := mkL_rep gx229 hnil
            refine LH wn (rMk hst SLH_25 (et rfl rfl) gm228) ?_
            clear hst
            intro h227 w hst
            replace hst := (hst.fReps 3 (rI .i64) m228).pk 2 [1, 0] rfl
            rw [← em228] at hst
            refine DRn (l1 := [4, 5]) (l2 := []) (lc := [6]) (by kernel_rfl) (by kernel_rfl) (by kernel_rfl) ?_
            refine Ry rfl rfl wn (yFb FL_29_0 (et rfl eje7_0_4)) ?_
            refine Ry rfl rfl wn (yFb FL_27_0 (et rfl rfl)) ?_
            refine Rn QSn ?_
            refine Lc rfl ?_ LAn
            replace hst := hst.pk 6 [5, 0, 0, 0, 0, 0] rfl
            refine LT wn (r_stb1 (vals' := [h227.v, h108.v, hnil.v]) hst O_25 (et rfl rfl) (et rfl rfl) rfl rfl rfl rfl) ?_
            clear hst
            intro w hst
            refine DRn (l1 := [7]) (l2 := []) (lc := [8]) (by kernel_rfl) (by kernel_rfl) (by kernel_rfl) ?_
            refine Ry rfl rfl wn (yFb FL_29_2 (et rfl eje7_0_4)) ?_
            refine Rn QSn ?_
            refine Lc rfl ?_ LAn
            refine LT wn (r_stb1 (vals' := [h227.v, h108.v, h230.v]) hst O_25 (et rfl rfl) (et rfl rfl) rfl rfl rfl rfl) ?_
            clear hst
            intro w hst
            refine DRz (l1 := []) (l2 := []) (by kernel_rfl) (by kernel_rfl) ?_
            refine Rn QSn ?_
            exact j8 _ _ ⟨_, _, _, _, eje7_0_4, eje7_0_5, eje7_0_10, (hst.pk 9 [1, 1, 3, 1, 1, 0, 0, 0, 0] rfl)⟩
        clear hst
        rintro f w ⟨h233, y234, h235, y236, e237_4, e237_5, e237_10, hst⟩
        refine k116 _ _ ?_
        refine seqQ fun Q117 k117 z117 => ?_
        refine seqQ fun Q118 k118 z118 => ?_
        refine wp_region_lit ?_
        refine Y wn rfl (ym (v := h111.v) (et rfl e237_10)) ?_
        refine Y wn rfl (yLenF SLH_25 (et rfl rfl) hst (rdO (mtR (mtR (mtR (mtR (mtR (mtR (mtR mhR)))))))) (mtR (mtR (mtR (mtR (mtR (mtR (mtR (mtR mhR))))))))) ?_
        refine Y wn rfl (ym (v := .int .i64 0) rfl) ?_
        refine wpList_nil ?_
        refine k118 _ _ ?_
        refine blockQ fun Q119 qb119 => ?_
        replace hst := hst.pk 9 [7, 7, 0, 0, 0, 0, 0, 0, 0] rfl
        replace hst := hst.ffz
        obtain ⟨o35, go35, hM⟩ := bs hM
        have je35_0 : ∀ (x549 : List (List Int)) (x551 : List (List Int)) (y548 : List Hdr) (y550 : List Hdr) (f : Nat → Value) (w : World), f 4 = .pointer (some ⟨b10, 0, none⟩) → f 5 = h11.v → St w0 (ros) (row 22 rH h233.v y548 :: fam 3 (rI .i64) y548 x549 :: row 3 (rI .i64) h108.v x109 :: row 22 rH h235.v y550 :: fam 3 (rI .i64) y550 x551 :: box b10 29 [h233.v, h108.v, h235.v] :: row 3 (rI .i64) h11.v x110 :: rs) w → .inl (x549, x551) = o35 → Q119 (.exit 8) (fr 200 f) w := by
          intro x549 x551 y548 y550 f w eje35_0_4 eje35_0_5 hst ho
          subst ho
          refine qb119 _ _ _ ?_
          refine k117 _ _ ?_
          refine seqQ fun Q176 k176 z176 => ?_
          refine seqQ fun Q177 k177 z177 => ?_
          refine wp_region_lit ?_
          refine Y wn rfl (yFb FL_29_1 (et rfl eje35_0_4)) ?_
          refine Y wn rfl (yLb (u := h108.v) O_22 (et rfl rfl) hst (mtR (mtR (mtR (mtR (mtR mhR))))) rfl) ?_
          obtain ⟨r552, gr552, hM⟩ := bs hM
          replace hst := hst.pk 3 [2, 0, 0] rfl
          replace hst := hst.fz
          refine Yc wn rfl (yCall FN_42 (a1 (et rfl rfl))) (dissect_weights_ok (hM := gr552) (hst := hst) (q1 := mhF)) ?_
          clear hst
          rintro _ w ⟨rfl, hst⟩
          refine ⟨_, rfl, ?_⟩
          refine Y wn rfl (ynot (et rfl rfl)) ?_
          refine wpList_nil ?_
          refine k177 _ _ ?_
          rcases iteS hM with ⟨c553, hM⟩ | ⟨c553, hM⟩
          · refine condF (et rfl rfl) (nF c553) ?_
            refine wp_skip ?_
            refine k176 _ _ ?_
            refine seqQ fun Q178 k178 z178 => ?_
            refine wp_region_lit ?_
            refine Y wn rfl (yLbs (us := [h233.v, h108.v, h235.v]) ST_29 (et rfl eje35_0_4) hst (mtR (mtR (mtR (mtR mhR)))) rfl rfl) ?_
            refine Y wn rfl (ym (v := h11.v) (et rfl eje35_0_5)) ?_
            replace hst := hst.pk 5 [4, 0, 0, 0, 0] rfl
            refine YT wn rfl (r_stbn (vals' := [h233.v, h108.v, h235.v]) (us := [h233.v, h108.v, h235.v]) hst ST_29 (et rfl eje35_0_4) (et rfl rfl) rfl rfl (one_of rfl) rfl) ?_
            clear hst
            intro w hst
            refine Y wn rfl (ya (v := h11.v) (et rfl rfl)) ?_
            refine Y wn rfl (ya (v := .bool true) rfl) ?_
            refine wpList_nil ?_
            refine k178 _ _ ?_
            refine wp_ret ?_
            obtain rfl := someI hM
            exact hQ _ _ _ (fin3r Try.results41 (rcs2 rfl eje35_0_4 hst mhR ST_29 rfl) ⟨rfl, rfl⟩ ⟨rfl, rfl⟩ ⟨_, _, _, _, _, _, rfl, (hst.pk 6 [1, 1, 1, 1, 1] rfl)⟩)
          · refine condT (et rfl rfl) (nT (bfalse c553)) ?_
            refine seqQ fun Q179 k179 z179 => ?_
            refine wp_region_lit ?_
            refine Y wn rfl (ybuild (us := [hnil.v, hnil.v, hnil.v]) [] SO_29 bp0 rfl) ?_
            replace hst := hst.pk 5 [4, 0, 0, 0, 0] rfl
            refine YT wn rfl (r_stbn (vals' := [hnil.v, hnil.v, hnil.v]) (us := [hnil.v, hnil.v, hnil.v]) hst ST_29 (et rfl eje35_0_4) (et rfl rfl) rfl rfl (one_of rfl) rfl) ?_
            clear hst
            intro w hst
            refine Y wn rfl (ya (v := hnil.v) rfl) ?_
            refine Y wn rfl (ya (v := .bool false) rfl) ?_
            refine wpList_nil ?_
            refine k179 _ _ ?_
            refine wp_ret ?_
            refine z176 _ _ _ rfl ?_
            obtain rfl := someI hM
            replace hst := ((hst.rowNh 22 rH).fNew 3 (rI .i64)).pk 2 [1, 0] rfl
            replace hst := hst.immNh (rI .i64)
            replace hst := ((hst.rowNh 22 rH).fNew 3 (rI .i64)).pk 2 [1, 0] rfl
            replace hst := hst.rowNh 3 (rI .i64)
            exact hQ _ _ _ (fin3r Try.results41 (rcs2 rfl eje35_0_4 hst (mtR (mtR (mtR (mtR (mtR mhR))))) ST_29 rfl) ⟨rfl, rfl⟩ ⟨rfl, rfl⟩ ⟨_, _, _, _, _, _, rfl, ((hst.pk 11 [3, 3, 1, 1, 0] rfl).facts (allC mhF (allT (allT allI))))⟩)
        have je35_1 : ∀ (f : Nat → Value) (w : World), f 4 = .pointer (some ⟨b10, 0, none⟩) → f 5 = hnil.v → f 6 = .bool false → St w0 (ros) (box b10 29 [hnil.v, hnil.v, hnil.v] :: rs) w → .inr () = o35 → Q119 .ret (fr 200 f) w := by
          intro f w eje35_1_4 eje35_1_5 eje35_1_6 hst ho
          subst ho
          refine qb119 _ _ _ ?_
          refine z117 _ _ _ rfl ?_
          obtain rfl := someI hM
          replace hst := ((hst.rowNh 22 rH).fNew 3 (rI .i64)).pk 2 [1, 0] rfl
          replace hst := hst.immNh (rI .i64)
          replace hst := ((hst.rowNh 22 rH).fNew 3 (rI .i64)).pk 2 [1, 0] rfl
          replace hst := hst.rowNh 3 (rI .i64)
          exact hQ _ _ _ (fin3r Try.results41 (rcs2 rfl eje35_1_4 hst (mtR (mtR (mtR (mtR (mtR mhR))))) ST_29 rfl) ⟨rfl, eje35_1_5⟩ ⟨rfl, eje35_1_6⟩ ⟨_, _, _, _, _, _, rfl, (hst.pk 6 [3, 3, 1, 1, 0] rfl)⟩)
        refine loopQ (fun s a w => ∃ (x389 : List (List Int)) (x391 : List (List Int)) (x392 : Int) (f : Nat → Value) (y388 : List Hdr) (y390 : List Hdr), (x389, x391, x392) = s ∧ a = fr 200 f ∧ f 4 = .pointer (some ⟨b10, 0, none⟩) ∧ f 5 = h11.v ∧ f 136 = h111.v ∧ f 137 = .int .i64 (x226.length : Int) ∧ f 138 = .int .i64 x392 ∧ St w0 (imm (rS (rI .i64)) h111.v x226 :: ros) (row 22 rH h233.v y388 :: fam 3 (rI .i64) y388 x389 :: row 3 (rI .i64) h108.v x109 :: row 22 rH h235.v y390 :: fam 3 (rI .i64) y390 x391 :: box b10 29 [h233.v, h108.v, h235.v] :: row 3 (rI .i64) h11.v x110 :: rs) w) go35 ⟨_, _, _, _, _, _, rfl, rfl, e237_4, e237_5, rfl, rfl, rfl, hst⟩ ?_
        clear hst
        rintro _ _ w r35_ ⟨x389, x391, x392, f, y388, y390, rfl, rfl, e35_4, e35_5, e35_136, e35_137, e35_138, hst⟩ hM35 ho35 Q100035 n35 zz35
        refine seqQ fun Q180 k180 z180 => ?_
        refine wp_region_lit ?_
        refine Y wn rfl (ylss (et rfl e35_138) (et rfl e35_137)) ?_
        refine wpList_nil ?_
        refine k180 _ _ ?_
        refine seqQ fun Q181 k181 z181 => ?_
        rcases iteS hM35 with ⟨c554, hM35⟩ | ⟨c554, hM35⟩
        · refine condT (et rfl rfl) (decide_eq_true c554) ?_
          refine wp_skip ?_
          refine k181 _ _ ?_
          refine seqQ fun Q182 k182 z182 => ?_
          refine blockQ fun Q183 qb183 => ?_
          refine seqQ fun Q184 k184 z184 => ?_
          refine wp_region_lit ?_
          refine Y wn rfl (ym (v := .int .i64 x392) (et rfl e35_138)) ?_
          obtain ⟨x555, gx555, hM35⟩ := bs hM35
          refine Y wn rfl (yIa SL_25 (et rfl e35_136) (et rfl e35_138) hst (rdI mhF) gx555) ?_
          obtain ⟨h556, hst⟩ := iLs hst mhF gx555
          refine Y wn rfl (yCt O_22 (et rfl rfl) hst (mtF mhF) rfl) ?_
          refine Y wn rfl (ya (v := .int .i64 x392) (et rfl rfl)) ?_
          refine Y wn rfl (ya (v := h556.v) (et rfl rfl)) ?_
          refine wpList_nil ?_
          refine k184 _ _ ?_
          refine seqQ fun Q185 k185 z185 => ?_
          refine seqQ fun Q186 k186 z186 => ?_
          refine wp_region_lit ?_
          refine Y wn rfl (ym (v := h556.v) (et rfl rfl)) ?_
          refine Y wn rfl (yLen SL_22 (et rfl rfl) hst (rdI mhF)) ?_
          refine Y wn rfl (ym (v := .int .i64 0) rfl) ?_
          refine wpList_nil ?_
          refine k186 _ _ ?_
          refine blockQ fun Q187 qb187 => ?_
          obtain ⟨o44, go44, hM35⟩ := bs hM35
          have je44_0 : ∀ (x654 : List (List Int)) (x656 : List (List Int)) (y653 : List Hdr) (y655 : List Hdr) (f : Nat → Value) (w : World), f 4 = .pointer (some ⟨b10, 0, none⟩) → f 5 = h11.v → f 16 = .int .i64 x392 → f 136 = h111.v → f 137 = .int .i64 (x226.length : Int) → f 138 = .int .i64 x392 → St w0 (imm (rS (rI .i64)) h111.v x226 :: ros) (row 22 rH h233.v y653 :: fam 3 (rI .i64) y653 x654 :: row 3 (rI .i64) h108.v x109 :: row 22 rH h235.v y655 :: fam 3 (rI .i64) y655 x656 :: box b10 29 [h233.v, h108.v, h235.v] :: row 3 (rI .i64) h11.v x110 :: rs) w → (x654, x656) = o44 → Q187 (.exit 10) (fr 200 f) w := by
            intro x654 x656 y653 y655 f w eje44_0_4 eje44_0_5 eje44_0_16 eje44_0_136 eje44_0_137 eje44_0_138 hst ho
            subst ho
            refine qb187 _ _ _ ?_
            refine k185 _ _ ?_
            refine seqQ fun Q200 k200 z200 => ?_
            refine wp_region_lit ?_
            refine Y wn rfl (yFb FL_29_2 (et rfl eje44_0_4)) ?_
            refine Y wn rfl (yLb (u := h235.v) O_25 (et rfl rfl) hst (mtR (mtR (mtR (mtR (mtR mhR))))) rfl) ?_
            refine Y wn rfl (ym (v := .int .i64 x392) (et rfl eje44_0_16)) ?_
            obtain ⟨x657, gx657, hM35⟩ := bs hM35
            obtain ⟨h658, gh658⟩ := hst.famI (mtR (mtR (mtR (mtR mhR)))) gx657
            refine Y wn rfl (yIa SLH_25 (et rfl rfl) (et rfl rfl) hst (rdO (mtR (mtR (mtR mhR)))) gh658) ?_
            refine Y wn rfl (yF1 O_22 (et rfl rfl) hst (rdO (mtR (mtR (mtR mhR)))) gh658 rfl) ?_
            obtain ⟨r659, gr659, hM35⟩ := bs hM35
            have hgu := hst.guest1 (rdF (mtR (mtR (mtR (mtR mhR)))) gh658 gx657)
            refine Yc wn rfl (yCall FN_42 (a1 (et rfl rfl))) (dissect_weights_ok (hM := gr659) (hst := hgu) (q1 := mhF)) ?_
            clear hgu
            rintro _ w ⟨rfl, hgu⟩
            replace hst := hst.back hgu
            clear hgu
            refine ⟨_, rfl, ?_⟩
            refine Y wn rfl (ynot (et rfl rfl)) ?_
            refine wpList_nil ?_
            refine k200 _ _ ?_
            rcases iteS hM35 with ⟨c660, hM35⟩ | ⟨c660, hM35⟩
            · refine condF (et rfl rfl) (nF c660) ?_
              refine wp_skip ?_
              refine qb183 _ _ _ ?_
              refine k182 _ _ ?_
              refine wp_region_lit ?_
              refine Y wn rfl (yadd (et rfl eje44_0_138) rfl) ?_
              refine Y wn rfl (ym (v := .int .i64 (wa .i64 x392 1)) (et rfl rfl)) ?_
              refine wpList_nil ?_
              obtain rfl := someI hM35
              exact n35 _ _ _ rfl ⟨_, _, _, _, _, _, rfl, rfl, eje44_0_4, eje44_0_5, eje44_0_136, eje44_0_137, rfl, hst⟩
            · refine condT (et rfl rfl) (nT (bfalse c660)) ?_
              refine seqQ fun Q201 k201 z201 => ?_
              refine wp_region_lit ?_
              refine Y wn rfl (ybuild (us := [hnil.v, hnil.v, hnil.v]) [] SO_29 bp0 rfl) ?_
              replace hst := hst.pk 6 [5, 0, 0, 0, 0, 0] rfl
              refine YT wn rfl (r_stbn (vals' := [hnil.v, hnil.v, hnil.v]) (us := [hnil.v, hnil.v, hnil.v]) hst ST_29 (et rfl eje44_0_4) (et rfl rfl) rfl rfl (one_of rfl) rfl) ?_
              clear hst
              intro w hst
              refine Y wn rfl (ya (v := hnil.v) rfl) ?_
              refine Y wn rfl (ya (v := .bool false) rfl) ?_
              refine wpList_nil ?_
              refine k201 _ _ ?_
              refine wp_ret ?_
              refine qb183 _ _ _ ?_
              refine z182 _ _ _ rfl ?_
              obtain rfl := someI hM35
              refine zz35 _ _ _ _ rfl rfl ?_
              exact je35_1 _ _ eje44_0_4 rfl rfl ((hst.pk 7 [0] rfl).facts (allT allI)) (ho35 _ rfl)
          refine loopQ (fun s a w => ∃ (x601 : List (List Int)) (x603 : List (List Int)) (x604 : Int) (f : Nat → Value) (y600 : List Hdr) (y602 : List Hdr), (x601, x603, x604) = s ∧ a = fr 200 f ∧ f 4 = .pointer (some ⟨b10, 0, none⟩) ∧ f 5 = h11.v ∧ f 16 = .int .i64 x392 ∧ f 136 = h111.v ∧ f 137 = .int .i64 (x226.length : Int) ∧ f 138 = .int .i64 x392 ∧ f 143 = h556.v ∧ f 144 = .int .i64 (x555.length : Int) ∧ f 145 = .int .i64 x604 ∧ St w0 (imm (rS (rI .i64)) h111.v x226 :: imm (rI .i64) h556.v x555 :: ros) (row 22 rH h233.v y600 :: fam 3 (rI .i64) y600 x601 :: row 3 (rI .i64) h108.v x109 :: row 22 rH h235.v y602 :: fam 3 (rI .i64) y602 x603 :: box b10 29 [h233.v, h108.v, h235.v] :: row 3 (rI .i64) h11.v x110 :: rs) w) go44 ⟨_, _, _, _, _, _, rfl, rfl, e35_4, e35_5, rfl, e35_136, e35_137, e35_138, rfl, rfl, rfl, (hst.facts (allC (mtF (mtF mhF)) (allC mhF (allT (allT (allT allI))))))⟩ ?_
          clear hst
          rintro _ _ w r44_ ⟨x601, x603, x604, f, y600, y602, rfl, rfl, e44_4, e44_5, e44_16, e44_136, e44_137, e44_138, e44_143, e44_144, e44_145, hst⟩ hM44 ho44 Q100044 n44 zz44
          refine seqQ fun Q202 k202 z202 => ?_
          refine wp_region_lit ?_
          refine Y wn rfl (ylss (et rfl e44_145) (et rfl e44_144)) ?_
          refine wpList_nil ?_
          refine k202 _ _ ?_
          refine seqQ fun Q203 k203 z203 => ?_
          rcases iteS hM44 with ⟨c661, hM44⟩ | ⟨c661, hM44⟩
          · refine condT (et rfl rfl) (decide_eq_true c661) ?_
            refine wp_skip ?_
            refine k203 _ _ ?_
            refine seqQ fun Q204 k204 z204 => ?_
            refine blockQ fun Q205 qb205 => ?_
            refine seqQ fun Q206 k206 z206 => ?_
            refine wp_region_lit ?_
            refine Y wn rfl (ym (v := .int .i64 x604) (et rfl e44_145)) ?_
            obtain ⟨x662, gx662, hM44⟩ := bs hM44
            refine Y wn rfl (yIa SL_22 (et rfl e44_143) (et rfl e44_145) hst (rdI (mtF mhF)) gx662) ?_
            refine Y wn rfl (yI O_3 (et rfl rfl) hst (rdI (mtF mhF)) gx662) ?_
            refine Y wn rfl (ya (v := .int .i64 x604) (et rfl rfl)) ?_
            refine Y wn rfl (ya (v := .int .i64 x662) (et rfl rfl)) ?_
            refine wpList_nil ?_
            refine k206 _ _ ?_
            refine seqQ fun Q207 k207 z207 => ?_
            refine wp_region_lit ?_
            refine Y wn rfl (ym (v := .int .i64 x392) (et rfl e44_16)) ?_
            refine Y wn rfl (ym (v := .int .i64 x604) (et rfl rfl)) ?_
            refine Y wn rfl (yneq (et rfl rfl) (et rfl rfl)) ?_
            refine Y wn rfl (ym (v := .bool (!(decide (x392 = x604)))) (et rfl rfl)) ?_
            refine joinW 3 (fun f w => f 4 = .pointer (some ⟨b10, 0, none⟩) ∧ f 5 = h11.v ∧ f 16 = .int .i64 x392 ∧ f 18 = .int .i64 x604 ∧ f 19 = .int .i64 x662 ∧ f 136 = h111.v ∧ f 137 = .int .i64 (x226.length : Int) ∧ f 138 = .int .i64 x392 ∧ f 143 = h556.v ∧ f 144 = .int .i64 (x555.length : Int) ∧ f 145 = .int .i64 x604 ∧ f 156 = .bool ((!(decide (x392 = x604))) && (decide ((0 : Int) < x662))) ∧ St w0 (imm (rS (rI .i64)) h111.v x226 :: imm (rI .i64) h556.v x555 :: ros) (row 22 rH h233.v y600 :: fam 3 (rI .i64) y600 x601 :: row 3 (rI .i64) h108.v x109 :: row 22 rH h235.v y602 :: fam 3 (rI .i64) y602 x603 :: box b10 29 [h233.v, h108.v, h235.v] :: row 3 (rI .i64) h11.v x110 :: rs) w) (fun j45 => ?_) ?_
            · rcases Bool.eq_false_or_eq_true (!(decide (x392 = x604))) with c664 | c664
              · refine Y (wg rfl rfl rfl c664) rfl (ym (v := .int .i64 x662) (et rfl rfl)) ?_
                refine Y (wg rfl rfl rfl c664) rfl (ygtr (et rfl rfl) rfl) ?_
                refine Y wn rfl (ypt (v := .bool (decide ((0 : Int) < x662))) (et rfl rfl) c664 (et rfl rfl)) ?_
                exact j45 _ _ ⟨e44_4, e44_5, e44_16, rfl, rfl, e44_136, e44_137, e44_138, e44_143, e44_144, e44_145, (congrArg Value.bool (andT c664)), hst⟩
              · refine Gn (wx rfl rfl rfl c664) rfl ?_
                refine Gn (wx rfl rfl rfl c664) rfl ?_
                refine Y wn rfl (ypf (v := .bool false) (et rfl rfl) c664 rfl) ?_
                exact j45 _ _ ⟨e44_4, e44_5, e44_16, rfl, rfl, e44_136, e44_137, e44_138, e44_143, e44_144, e44_145, (congrArg Value.bool (andF c664)), hst⟩
            clear hst
            rintro f w ⟨e663_4, e663_5, e663_16, e663_18, e663_19, e663_136, e663_137, e663_138, e663_143, e663_144, e663_145, e663_156, hst⟩
            refine wpList_nil ?_
            refine k207 _ _ ?_
            have j47 : ∀ (x683 : List (List Int)) (x685 : List (List Int)) (y682 : List Hdr) (y684 : List Hdr) (f : Nat → Value) (w : World), f 4 = .pointer (some ⟨b10, 0, none⟩) → f 5 = h11.v → f 16 = .int .i64 x392 → f 136 = h111.v → f 137 = .int .i64 (x226.length : Int) → f 138 = .int .i64 x392 → f 143 = h556.v → f 144 = .int .i64 (x555.length : Int) → f 145 = .int .i64 x604 → St w0 (imm (rS (rI .i64)) h111.v x226 :: imm (rI .i64) h556.v x555 :: ros) (row 22 rH h233.v y682 :: fam 3 (rI .i64) y682 x683 :: row 3 (rI .i64) h108.v x109 :: row 22 rH h235.v y684 :: fam 3 (rI .i64) y684 x685 :: box b10 29 [h233.v, h108.v, h235.v] :: row 3 (rI .i64) h11.v x110 :: rs) w → dissect_coarsen_j47 x604 x683 x685 = some r44_ → Q205 .normal (fr 200 f) w := by
              intro x683 x685 y682 y684 f w ej47_4 ej47_5 ej47_16 ej47_136 ej47_137 ej47_138 ej47_143 ej47_144 ej47_145 hst hM
              refine qb205 _ _ _ ?_
              refine k204 _ _ ?_
              refine wp_region_lit ?_
              refine Y wn rfl (yadd (et rfl ej47_145) rfl) ?_
              refine Y wn rfl (ym (v := .int .i64 (wa .i64 x604 1)) (et rfl rfl)) ?_
              refine wpList_nil ?_
              obtain rfl := someI hM
              exact n44 _ _ _ rfl ⟨_, _, _, _, _, _, rfl, rfl, ej47_4, ej47_5, ej47_16, ej47_136, ej47_137, ej47_138, ej47_143, ej47_144, rfl, hst⟩
            rcases iteS hM44 with ⟨c686, hM44⟩ | ⟨c686, hM44⟩
            · refine condT (et rfl e663_156) c686 ?_
              obtain ⟨x687, gx687, hM44⟩ := bs hM44
              obtain ⟨x691, gx691, hM44⟩ := bs hM44
              obtain ⟨x692, gx692, hM44⟩ := bs hM44
              obtain ⟨x696, gx696, hM44⟩ := bs hM44
              obtain ⟨x697, gx697, hM44⟩ := bs hM44
              obtain ⟨x699, gx699, hM44⟩ := bs hM44
              refine joinN (n := 200) (fun f w => ∃ (y701 : List Hdr) (y702 : List Hdr), f 4 = .pointer (some ⟨b10, 0, none⟩) ∧ f 5 = h11.v ∧ f 16 = .int .i64 x392 ∧ f 136 = h111.v ∧ f 137 = .int .i64 (x226.length : Int) ∧ f 138 = .int .i64 x392 ∧ f 143 = h556.v ∧ f 144 = .int .i64 (x555.length : Int) ∧ f 145 = .int .i64 x604 ∧ St w0 (imm (rS (rI .i64)) h111.v x226 :: imm (rI .i64) h556.v x555 :: ros) (row 22 rH h233.v y701 :: fam 3 (rI .i64) y701 x697 :: row 3 (rI .i64) h108.v x109 :: row 22 rH h235.v y702 :: fam 3 (rI .i64) y702 x699 :: box b10 29 [h233.v, h108.v, h235.v] :: row 3 (rI .i64) h11.v x110 :: rs) w) (fun j48 => ?_) ?_
              · refine wp_drawR [0, 1, 3, 0, 0, 16, 0, 0, 128, 384, 0, 1920, 3968, 0, 8192, 32640, 0, 65536, 0, 458752, 983040, 0, 2097152, 8388480, 16777103, 33554319, 67108863, 134217727] [14, 15, 22, 23, 25, 27] 6 folM (by kernel_rfl) (by kernel_rfl) (by kernel_rfl) ?_
                replace hst := hst.drew
                refine DRn (l1 := [0, 1, 2, 3, 4, 5, 6, 7, 8, 9, 10, 11, 12, 13, 16, 17, 18, 19, 20, 21]) (l2 := []) (lc := [14, 22]) (by kernel_rfl) (by kernel_rfl) (by kernel_rfl) ?_
                refine Ry rfl rfl wn (yFb FL_29_0 (et rfl e663_4)) ?_
                refine Ry rfl rfl wn (yFb FL_27_0 (et rfl rfl)) ?_
                refine Ry rfl rfl wn (yLb (u := h233.v) O_25 (et rfl rfl) hst (mtR (mtR (mtR (mtR (mtR mhR))))) rfl) ?_
                refine Ry rfl rfl wn (ym (v := .int .i64 x392) (et rfl e663_16)) ?_
                refine Ry rfl rfl wn (yFb FL_29_2 (et rfl e663_4)) ?_
                refine Ry rfl rfl wn (yLb (u := h235.v) O_25 (et rfl rfl) hst (mtR (mtR (mtR (mtR (mtR mhR))))) rfl) ?_
                refine Ry rfl rfl wn (ym (v := .int .i64 x392) (et rfl e663_16)) ?_
                refine Ry rfl rfl wn (yFb FL_29_0 (et rfl e663_4)) ?_
                refine Ry rfl rfl wn (yFb FL_27_0 (et rfl rfl)) ?_
                refine Ry rfl rfl wn (yLb (u := h233.v) O_25 (et rfl rfl) hst (mtR (mtR (mtR (mtR (mtR mhR))))) rfl) ?_
                refine Ry rfl rfl wn (ym (v := .int .i64 x392) (et rfl e663_16)) ?_
                obtain ⟨h688, gh688⟩ := hst.famI (mtR mhR) gx687
                refine Ry rfl rfl wn (yIa SLH_25 (et rfl rfl) (et rfl rfl) hst (rdO mhR) gh688) ?_
                refine Ry rfl rfl wn (yF1 O_22 (et rfl rfl) hst (rdO mhR) gh688 rfl) ?_
                refine Ry rfl rfl wn (ym (v := .int .i64 x604) (et rfl e663_18)) ?_
                refine Ry rfl rfl wn (yFb FL_29_2 (et rfl e663_4)) ?_
                refine Ry rfl rfl wn (yLb (u := h235.v) O_25 (et rfl rfl) hst (mtR (mtR (mtR (mtR (mtR mhR))))) rfl) ?_
                refine Ry rfl rfl wn (ym (v := .int .i64 x392) (et rfl e663_16)) ?_
                obtain ⟨h693, gh693⟩ := hst.famI (mtR (mtR (mtR (mtR mhR)))) gx692
                refine Ry rfl rfl wn (yIa SLH_25 (et rfl rfl) (et rfl rfl) hst (rdO (mtR (mtR (mtR mhR)))) gh693) ?_
                refine Ry rfl rfl wn (yF1 O_22 (et rfl rfl) hst (rdO (mtR (mtR (mtR mhR)))) gh693 rfl) ?_
                refine Ry rfl rfl wn (ym (v := .int .i64 x662) (et rfl e663_19)) ?_
                refine Rn QSn ?_
                refine Lc rfl ?_ (Lc rfl ?_ LAn)
                · refine LH wn (rLt (n := 1) (l := [x604]) hst SL_22 [.int .i64 x604] (bp1 (et rfl rfl)) rfl rfl (mks1 (cs := [.int .i64 x604]) rfl mkI mks0)) ?_
                  clear hst
                  intro h689 w hst
                  refine DRn (l1 := []) (l2 := [0, 1, 2, 3, 4, 5, 6, 7, 8, 9, 10, 11, 12, 16, 17, 18, 19, 20, 21]) (lc := [15, 22]) (by kernel_rfl) (by kernel_rfl) (by kernel_rfl) ?_
                  refine Rn (Sy rfl rfl wn (yFb FL_29_0 (et rfl e663_4)) rfl (Sy rfl rfl wn (yFb FL_27_0 (et rfl rfl)) rfl (Sy rfl rfl wn (yLb (u := h233.v) O_25 (et rfl rfl) hst (mtR (mtR (mtR (mtR (mtR (mtR mhR)))))) rfl) rfl (Sy rfl rfl wn (ym (v := .int .i64 x392) (et rfl e663_16)) rfl (Sy rfl rfl wn (yFb FL_29_2 (et rfl e663_4)) rfl (Sy rfl rfl wn (yLb (u := h235.v) O_25 (et rfl rfl) hst (mtR (mtR (mtR (mtR (mtR (mtR mhR)))))) rfl) rfl (Sy rfl rfl wn (ym (v := .int .i64 x392) (et rfl e663_16)) rfl (Sy rfl rfl wn (yFb FL_29_0 (et rfl e663_4)) rfl (Sy rfl rfl wn (yFb FL_27_0 (et rfl rfl)) rfl (Sy rfl rfl wn (yLb (u := h233.v) O_25 (et rfl rfl) hst (mtR (mtR (mtR (mtR (mtR (mtR mhR)))))) rfl) rfl (Sy rfl rfl wn (ym (v := .int .i64 x392) (et rfl e663_16)) rfl (Sy rfl rfl wn (yIa SLH_25 (et rfl rfl) (et rfl rfl) hst (rdO (mtR mhR)) gh688) rfl (Sy rfl rfl wn (yF1 O_22 (et rfl rfl) hst (rdO (mtR mhR)) gh688 rfl) rfl (Sy rfl rfl wn (yFb FL_29_2 (et rfl e663_4)) rfl (Sy rfl rfl wn (yLb (u := h235.v) O_25 (et rfl rfl) hst (mtR (mtR (mtR (mtR (mtR (mtR mhR)))))) rfl) rfl (Sy rfl rfl wn (ym (v := .int .i64 x392) (et rfl e663_16)) rfl (Sy rfl rfl wn (yIa SLH_25 (et rfl rfl) (et rfl rfl) hst (rdO (mtR (mtR (mtR (mtR mhR))))) gh693) rfl (Sy rfl rfl wn (yF1 O_22 (et rfl rfl) hst (rdO (mtR (mtR (mtR (mtR mhR))))) gh693 rfl) rfl (Sy rfl rfl wn (ym (v := .int .i64 x662) (et rfl e663_19)) rfl QSn))))))))))))))))))) ?_
                  refine Lc rfl ?_ (Lc rfl ?_ LAn)
                  · replace hst := hst.pk 3 [2, 0, 0] rfl
                    replace hst := hst.foc gh688 gx687
                    refine LH wn (rAp hst SL_22 (et rfl rfl) (et rfl rfl) (rdO (mtR (mtR mhR))) gx691) ?_
                    clear hst
                    intro h690 w hst
                    refine DRn (l1 := []) (l2 := [0, 1, 2, 3, 4, 5, 6, 16, 17, 18, 19, 20, 21]) (lc := [22]) (by kernel_rfl) (by kernel_rfl) (by kernel_rfl) ?_
                    refine Rn (Sy rfl rfl wn (yFb FL_29_0 (et rfl e663_4)) rfl (Sy rfl rfl wn (yFb FL_27_0 (et rfl rfl)) rfl (Sy rfl rfl wn (yLb (u := h233.v) O_25 (et rfl rfl) hst (mtR (mtR (mtR (mtR (mtR (mtR (mtR mhR))))))) rfl) rfl (Sy rfl rfl wn (ym (v := .int .i64 x392) (et rfl e663_16)) rfl (Sy rfl rfl wn (yFb FL_29_2 (et rfl e663_4)) rfl (Sy rfl rfl wn (yLb (u := h235.v) O_25 (et rfl rfl) hst (mtR (mtR (mtR (mtR (mtR (mtR (mtR mhR))))))) rfl) rfl (Sy rfl rfl wn (ym (v := .int .i64 x392) (et rfl e663_16)) rfl (Sy rfl rfl wn (yFb FL_29_2 (et rfl e663_4)) rfl (Sy rfl rfl wn (yLb (u := h235.v) O_25 (et rfl rfl) hst (mtR (mtR (mtR (mtR (mtR (mtR (mtR mhR))))))) rfl) rfl (Sy rfl rfl wn (ym (v := .int .i64 x392) (et rfl e663_16)) rfl (Sy rfl rfl wn (yIa SLH_25 (et rfl rfl) (et rfl rfl) hst (rdO (mtR (mtR (mtR (mtR (mtR mhR)))))) gh693) rfl (Sy rfl rfl wn (yF1 O_22 (et rfl rfl) hst (rdO (mtR (mtR (mtR (mtR (mtR mhR)))))) gh693 rfl) rfl (Sy rfl rfl wn (ym (v := .int .i64 x662) (et rfl e663_19)) rfl QSn))))))))))))) ?_
                    refine Lc rfl ?_ LAn
                    refine LH wn (rLt (n := 1) (l := [x662]) hst SL_22 [.int .i64 x662] (bp1 (et rfl rfl)) rfl rfl (mks1 (cs := [.int .i64 x662]) rfl mkI mks0)) ?_
                    clear hst
                    intro h694 w hst
                    refine DRn (l1 := []) (l2 := [0, 1, 2, 3, 4, 5, 6, 16, 17, 18, 19, 20]) (lc := [23]) (by kernel_rfl) (by kernel_rfl) (by kernel_rfl) ?_
                    refine Rn (Sy rfl rfl wn (yFb FL_29_0 (et rfl e663_4)) rfl (Sy rfl rfl wn (yFb FL_27_0 (et rfl rfl)) rfl (Sy rfl rfl wn (yLb (u := h233.v) O_25 (et rfl rfl) hst (mtR (mtR (mtR (mtR (mtR (mtR (mtR (mtR mhR)))))))) rfl) rfl (Sy rfl rfl wn (ym (v := .int .i64 x392) (et rfl e663_16)) rfl (Sy rfl rfl wn (yFb FL_29_2 (et rfl e663_4)) rfl (Sy rfl rfl wn (yLb (u := h235.v) O_25 (et rfl rfl) hst (mtR (mtR (mtR (mtR (mtR (mtR (mtR (mtR mhR)))))))) rfl) rfl (Sy rfl rfl wn (ym (v := .int .i64 x392) (et rfl e663_16)) rfl (Sy rfl rfl wn (yFb FL_29_2 (et rfl e663_4)) rfl (Sy rfl rfl wn (yLb (u := h235.v) O_25 (et rfl rfl) hst (mtR (mtR (mtR (mtR (mtR (mtR (mtR (mtR mhR)))))))) rfl) rfl (Sy rfl rfl wn (ym (v := .int .i64 x392) (et rfl e663_16)) rfl (Sy rfl rfl wn (yIa SLH_25 (et rfl rfl) (et rfl rfl) hst (rdO (mtR (mtR (mtR (mtR (mtR (mtR mhR))))))) gh693) rfl (Sy rfl rfl wn (yF1 O_22 (et rfl rfl) hst (rdO (mtR (mtR (mtR (mtR (mtR (mtR mhR))))))) gh693 rfl) rfl QSn)))))))))))) ?_
                    refine Lc rfl ?_ LAn
                    replace hst := hst.pk 8 [7, 0, 0, 0, 0, 0, 0, 0] rfl
                    replace hst := hst.foc gh693 gx692
                    refine LH wn (rAp hst SL_22 (et rfl rfl) (et rfl rfl) (rdO (mtR (mtR mhR))) gx696) ?_
                    clear hst
                    intro h695 w hst
                    refine DRn (l1 := [24]) (l2 := [0, 1, 2, 3, 4, 5, 6]) (lc := [25]) (by kernel_rfl) (by kernel_rfl) (by kernel_rfl) ?_
                    obtain ⟨y698, gy698⟩ := setI_len (u := h690) gx697 (hst.famLx (mtR (mtR (mtR (mtR mhR)))))
                    refine Ry rfl rfl wn (yIs SLH_25 (et rfl rfl) (et rfl rfl) hst (rdO (mtR (mtR (mtR (mtR (mtR (mtR mhR))))))) gy698) ?_
                    refine Rn (Sy rfl rfl wn (yFb FL_29_0 (et rfl e663_4)) rfl (Sy rfl rfl wn (yFb FL_27_0 (et rfl rfl)) rfl (Sy rfl rfl wn (yLb (u := h233.v) O_25 (et rfl rfl) hst (mtR (mtR (mtR (mtR (mtR (mtR (mtR (mtR (mtR mhR))))))))) rfl) rfl (Sy rfl rfl wn (ym (v := .int .i64 x392) (et rfl e663_16)) rfl (Sy rfl rfl wn (yFb FL_29_2 (et rfl e663_4)) rfl (Sy rfl rfl wn (yLb (u := h235.v) O_25 (et rfl rfl) hst (mtR (mtR (mtR (mtR (mtR (mtR (mtR (mtR (mtR mhR))))))))) rfl) rfl (Sy rfl rfl wn (ym (v := .int .i64 x392) (et rfl e663_16)) rfl QSn))))))) ?_
                    refine Lc rfl ?_ LAn
                    replace hst := hst.pk 7 [6, 0, 0, 0, 0, 0, 0] rfl
                    refine LT wn (r_sti (cs := [h690.v]) hst O_22 rfl (et rfl rfl) (et rfl rfl) rfl (mkF rfl) gy698) ?_
                    clear hst
                    intro w hst
                    replace hst := hst.pk 6 [4, 4, 0, 0, 0, 0] rfl
                    replace hst := hst.unfS gh688 gy698 gx697
                    refine DRn (l1 := [26]) (l2 := [4, 5, 6]) (lc := [27]) (by kernel_rfl) (by kernel_rfl) (by kernel_rfl) ?_
                    obtain ⟨y700, gy700⟩ := setI_len (u := h695) gx699 (hst.famLx (mtR (mtR (mtR mhR))))
                    refine Ry rfl rfl wn (yIs SLH_25 (et rfl rfl) (et rfl rfl) hst (rdO (mtR (mtR (mtR (mtR (mtR (mtR (mtR mhR)))))))) gy700) ?_
                    refine Rn (Sy rfl rfl wn (yFb FL_29_2 (et rfl e663_4)) rfl (Sy rfl rfl wn (yLb (u := h235.v) O_25 (et rfl rfl) hst (mtR (mtR (mtR (mtR (mtR (mtR (mtR (mtR mhR)))))))) rfl) rfl (Sy rfl rfl wn (ym (v := .int .i64 x392) (et rfl e663_16)) rfl QSn))) ?_
                    refine Lc rfl ?_ LAn
                    replace hst := hst.pk 8 [7, 0, 0, 0, 0, 0, 0, 0] rfl
                    refine LT wn (r_sti (cs := [h695.v]) hst O_22 rfl (et rfl rfl) (et rfl rfl) rfl (mkF rfl) gy700) ?_
                    clear hst
                    intro w hst
                    replace hst := hst.pk 5 [3, 3, 0, 0, 0] rfl
                    replace hst := hst.unfS gh693 gy700 gx699
                    refine DRz (l1 := []) (l2 := []) (by kernel_rfl) (by kernel_rfl) ?_
                    refine Rn QSn ?_
                    exact j48 _ _ ⟨_, _, e663_4, e663_5, e663_16, e663_136, e663_137, e663_138, e663_143, e663_144, e663_145, (hst.pk 9 [3, 2, 4, 1, 0, 2, 2] rfl)⟩
                  · refine LH wn (rLt (n := 1) (l := [x662]) hst SL_22 [.int .i64 x662] (bp1 (et rfl rfl)) rfl rfl (mks1 (cs := [.int .i64 x662]) rfl mkI mks0)) ?_
                    clear hst
                    intro h694 w hst
                    refine DRn (l1 := []) (l2 := [0, 1, 2, 3, 4, 5, 6, 7, 8, 9, 10, 11, 12, 16, 17, 18, 19, 20]) (lc := [15]) (by kernel_rfl) (by kernel_rfl) (by kernel_rfl) ?_
                    refine Rn (Sy rfl rfl wn (yFb FL_29_0 (et rfl e663_4)) rfl (Sy rfl rfl wn (yFb FL_27_0 (et rfl rfl)) rfl (Sy rfl rfl wn (yLb (u := h233.v) O_25 (et rfl rfl) hst (mtR (mtR (mtR (mtR (mtR (mtR (mtR mhR))))))) rfl) rfl (Sy rfl rfl wn (ym (v := .int .i64 x392) (et rfl e663_16)) rfl (Sy rfl rfl wn (yFb FL_29_2 (et rfl e663_4)) rfl (Sy rfl rfl wn (yLb (u := h235.v) O_25 (et rfl rfl) hst (mtR (mtR (mtR (mtR (mtR (mtR (mtR mhR))))))) rfl) rfl (Sy rfl rfl wn (ym (v := .int .i64 x392) (et rfl e663_16)) rfl (Sy rfl rfl wn (yFb FL_29_0 (et rfl e663_4)) rfl (Sy rfl rfl wn (yFb FL_27_0 (et rfl rfl)) rfl (Sy rfl rfl wn (yLb (u := h233.v) O_25 (et rfl rfl) hst (mtR (mtR (mtR (mtR (mtR (mtR (mtR mhR))))))) rfl) rfl (Sy rfl rfl wn (ym (v := .int .i64 x392) (et rfl e663_16)) rfl (Sy rfl rfl wn (yIa SLH_25 (et rfl rfl) (et rfl rfl) hst (rdO (mtR (mtR mhR))) gh688) rfl (Sy rfl rfl wn (yF1 O_22 (et rfl rfl) hst (rdO (mtR (mtR mhR))) gh688 rfl) rfl (Sy rfl rfl wn (yFb FL_29_2 (et rfl e663_4)) rfl (Sy rfl rfl wn (yLb (u := h235.v) O_25 (et rfl rfl) hst (mtR (mtR (mtR (mtR (mtR (mtR (mtR mhR))))))) rfl) rfl (Sy rfl rfl wn (ym (v := .int .i64 x392) (et rfl e663_16)) rfl (Sy rfl rfl wn (yIa SLH_25 (et rfl rfl) (et rfl rfl) hst (rdO (mtR (mtR (mtR (mtR (mtR mhR)))))) gh693) rfl (Sy rfl rfl wn (yF1 O_22 (et rfl rfl) hst (rdO (mtR (mtR (mtR (mtR (mtR mhR)))))) gh693 rfl) rfl QSn)))))))))))))))))) ?_
                    refine Lc rfl ?_ LAn
                    replace hst := hst.pk 4 [3, 0, 0, 0] rfl
                    replace hst := hst.foc gh688 gx687
                    refine LH wn (rAp hst SL_22 (et rfl rfl) (et rfl rfl) (rdO (mtR (mtR (mtR mhR)))) gx691) ?_
                    clear hst
                    intro h690 w hst
                    refine DRn (l1 := []) (l2 := [0, 1, 2, 3, 4, 5, 6, 16, 17, 18, 19, 20]) (lc := [23]) (by kernel_rfl) (by kernel_rfl) (by kernel_rfl) ?_
                    refine Rn (Sy rfl rfl wn (yFb FL_29_0 (et rfl e663_4)) rfl (Sy rfl rfl wn (yFb FL_27_0 (et rfl rfl)) rfl (Sy rfl rfl wn (yLb (u := h233.v) O_25 (et rfl rfl) hst (mtR (mtR (mtR (mtR (mtR (mtR (mtR (mtR mhR)))))))) rfl) rfl (Sy rfl rfl wn (ym (v := .int .i64 x392) (et rfl e663_16)) rfl (Sy rfl rfl wn (yFb FL_29_2 (et rfl e663_4)) rfl (Sy rfl rfl wn (yLb (u := h235.v) O_25 (et rfl rfl) hst (mtR (mtR (mtR (mtR (mtR (mtR (mtR (mtR mhR)))))))) rfl) rfl (Sy rfl rfl wn (ym (v := .int .i64 x392) (et rfl e663_16)) rfl (Sy rfl rfl wn (yFb FL_29_2 (et rfl e663_4)) rfl (Sy rfl rfl wn (yLb (u := h235.v) O_25 (et rfl rfl) hst (mtR (mtR (mtR (mtR (mtR (mtR (mtR (mtR mhR)))))))) rfl) rfl (Sy rfl rfl wn (ym (v := .int .i64 x392) (et rfl e663_16)) rfl (Sy rfl rfl wn (yIa SLH_25 (et rfl rfl) (et rfl rfl) hst (rdO (mtR (mtR (mtR (mtR (mtR (mtR mhR))))))) gh693) rfl (Sy rfl rfl wn (yF1 O_22 (et rfl rfl) hst (rdO (mtR (mtR (mtR (mtR (mtR (mtR mhR))))))) gh693 rfl) rfl QSn)))))))))))) ?_
                    refine Lc rfl ?_ LAn
                    replace hst := hst.pk 8 [7, 0, 0, 0, 0, 0, 0, 0] rfl
                    replace hst := hst.foc gh693 gx692
                    refine LH wn (rAp hst SL_22 (et rfl rfl) (et rfl rfl) (rdO (mtR (mtR (mtR (mtR mhR))))) gx696) ?_
                    clear hst
                    intro h695 w hst
                    refine DRn (l1 := [24]) (l2 := [0, 1, 2, 3, 4, 5, 6]) (lc := [25]) (by kernel_rfl) (by kernel_rfl) (by kernel_rfl) ?_
                    obtain ⟨y698, gy698⟩ := setI_len (u := h690) gx697 (hst.famLx (mtR (mtR (mtR mhR))))
                    refine Ry rfl rfl wn (yIs SLH_25 (et rfl rfl) (et rfl rfl) hst (rdO (mtR (mtR (mtR (mtR (mtR (mtR mhR))))))) gy698) ?_
                    refine Rn (Sy rfl rfl wn (yFb FL_29_0 (et rfl e663_4)) rfl (Sy rfl rfl wn (yFb FL_27_0 (et rfl rfl)) rfl (Sy rfl rfl wn (yLb (u := h233.v) O_25 (et rfl rfl) hst (mtR (mtR (mtR (mtR (mtR (mtR (mtR (mtR (mtR mhR))))))))) rfl) rfl (Sy rfl rfl wn (ym (v := .int .i64 x392) (et rfl e663_16)) rfl (Sy rfl rfl wn (yFb FL_29_2 (et rfl e663_4)) rfl (Sy rfl rfl wn (yLb (u := h235.v) O_25 (et rfl rfl) hst (mtR (mtR (mtR (mtR (mtR (mtR (mtR (mtR (mtR mhR))))))))) rfl) rfl (Sy rfl rfl wn (ym (v := .int .i64 x392) (et rfl e663_16)) rfl QSn))))))) ?_
                    refine Lc rfl ?_ LAn
                    replace hst := hst.pk 7 [6, 0, 0, 0, 0, 0, 0] rfl
                    refine LT wn (r_sti (cs := [h690.v]) hst O_22 rfl (et rfl rfl) (et rfl rfl) rfl (mkF rfl) gy698) ?_
                    clear hst
                    intro w hst
                    replace hst := hst.pk 5 [3, 3, 0, 0, 0] rfl
                    replace hst := hst.unfS gh688 gy698 gx697
                    refine DRn (l1 := [26]) (l2 := [4, 5, 6]) (lc := [27]) (by kernel_rfl) (by kernel_rfl) (by kernel_rfl) ?_
                    obtain ⟨y700, gy700⟩ := setI_len (u := h695) gx699 (hst.famLx (mtR (mtR (mtR mhR))))
                    refine Ry rfl rfl wn (yIs SLH_25 (et rfl rfl) (et rfl rfl) hst (rdO (mtR (mtR (mtR (mtR (mtR (mtR (mtR mhR)))))))) gy700) ?_
                    refine Rn (Sy rfl rfl wn (yFb FL_29_2 (et rfl e663_4)) rfl (Sy rfl rfl wn (yLb (u := h235.v) O_25 (et rfl rfl) hst (mtR (mtR (mtR (mtR (mtR (mtR (mtR (mtR mhR)))))))) rfl) rfl (Sy rfl rfl wn (ym (v := .int .i64 x392) (et rfl e663_16)) rfl QSn))) ?_
                    refine Lc rfl ?_ LAn
                    replace hst := hst.pk 8 [7, 0, 0, 0, 0, 0, 0, 0] rfl
                    refine LT wn (r_sti (cs := [h695.v]) hst O_22 rfl (et rfl rfl) (et rfl rfl) rfl (mkF rfl) gy700) ?_
                    clear hst
                    intro w hst
                    replace hst := hst.pk 5 [3, 3, 0, 0, 0] rfl
                    replace hst := hst.unfS gh693 gy700 gx699
                    refine DRz (l1 := []) (l2 := []) (by kernel_rfl) (by kernel_rfl) ?_
                    refine Rn QSn ?_
                    exact j48 _ _ ⟨_, _, e663_4, e663_5, e663_16, e663_136, e663_137, e663_138, e663_143, e663_144, e663_145, (hst.pk 9 [3, 2, 4, 1, 0, 2, 2] rfl)⟩
                · refine LH wn (rLt (n := 1) (l := [x662]) hst SL_22 [.int .i64 x662] (bp1 (et rfl rfl)) rfl rfl (mks1 (cs := [.int .i64 x662]) rfl mkI mks0)) ?_
                  clear hst
                  intro h694 w hst
                  refine DRn (l1 := []) (l2 := [0, 1, 2, 3, 4, 5, 6, 7, 8, 9, 10, 11, 12, 13, 16, 17, 18, 19, 20]) (lc := [14]) (by kernel_rfl) (by kernel_rfl) (by kernel_rfl) ?_
                  refine Rn (Sy rfl rfl wn (yFb FL_29_0 (et rfl e663_4)) rfl (Sy rfl rfl wn (yFb FL_27_0 (et rfl rfl)) rfl (Sy rfl rfl wn (yLb (u := h233.v) O_25 (et rfl rfl) hst (mtR (mtR (mtR (mtR (mtR (mtR mhR)))))) rfl) rfl (Sy rfl rfl wn (ym (v := .int .i64 x392) (et rfl e663_16)) rfl (Sy rfl rfl wn (yFb FL_29_2 (et rfl e663_4)) rfl (Sy rfl rfl wn (yLb (u := h235.v) O_25 (et rfl rfl) hst (mtR (mtR (mtR (mtR (mtR (mtR mhR)))))) rfl) rfl (Sy rfl rfl wn (ym (v := .int .i64 x392) (et rfl e663_16)) rfl (Sy rfl rfl wn (yFb FL_29_0 (et rfl e663_4)) rfl (Sy rfl rfl wn (yFb FL_27_0 (et rfl rfl)) rfl (Sy rfl rfl wn (yLb (u := h233.v) O_25 (et rfl rfl) hst (mtR (mtR (mtR (mtR (mtR (mtR mhR)))))) rfl) rfl (Sy rfl rfl wn (ym (v := .int .i64 x392) (et rfl e663_16)) rfl (Sy rfl rfl wn (yIa SLH_25 (et rfl rfl) (et rfl rfl) hst (rdO (mtR mhR)) gh688) rfl (Sy rfl rfl wn (yF1 O_22 (et rfl rfl) hst (rdO (mtR mhR)) gh688 rfl) rfl (Sy rfl rfl wn (ym (v := .int .i64 x604) (et rfl e663_18)) rfl (Sy rfl rfl wn (yFb FL_29_2 (et rfl e663_4)) rfl (Sy rfl rfl wn (yLb (u := h235.v) O_25 (et rfl rfl) hst (mtR (mtR (mtR (mtR (mtR (mtR mhR)))))) rfl) rfl (Sy rfl rfl wn (ym (v := .int .i64 x392) (et rfl e663_16)) rfl (Sy rfl rfl wn (yIa SLH_25 (et rfl rfl) (et rfl rfl) hst (rdO (mtR (mtR (mtR (mtR mhR))))) gh693) rfl (Sy rfl rfl wn (yF1 O_22 (et rfl rfl) hst (rdO (mtR (mtR (mtR (mtR mhR))))) gh693 rfl) rfl QSn))))))))))))))))))) ?_
                  refine Lc rfl ?_ LAn
                  refine LH wn (rLt (n := 1) (l := [x604]) hst SL_22 [.int .i64 x604] (bp1 (et rfl rfl)) rfl rfl (mks1 (cs := [.int .i64 x604]) rfl mkI mks0)) ?_
                  clear hst
                  intro h689 w hst
                  refine DRn (l1 := []) (l2 := [0, 1, 2, 3, 4, 5, 6, 7, 8, 9, 10, 11, 12, 16, 17, 18, 19, 20]) (lc := [15]) (by kernel_rfl) (by kernel_rfl) (by kernel_rfl) ?_
                  refine Rn (Sy rfl rfl wn (yFb FL_29_0 (et rfl e663_4)) rfl (Sy rfl rfl wn (yFb FL_27_0 (et rfl rfl)) rfl (Sy rfl rfl wn (yLb (u := h233.v) O_25 (et rfl rfl) hst (mtR (mtR (mtR (mtR (mtR (mtR (mtR mhR))))))) rfl) rfl (Sy rfl rfl wn (ym (v := .int .i64 x392) (et rfl e663_16)) rfl (Sy rfl rfl wn (yFb FL_29_2 (et rfl e663_4)) rfl (Sy rfl rfl wn (yLb (u := h235.v) O_25 (et rfl rfl) hst (mtR (mtR (mtR (mtR (mtR (mtR (mtR mhR))))))) rfl) rfl (Sy rfl rfl wn (ym (v := .int .i64 x392) (et rfl e663_16)) rfl (Sy rfl rfl wn (yFb FL_29_0 (et rfl e663_4)) rfl (Sy rfl rfl wn (yFb FL_27_0 (et rfl rfl)) rfl (Sy rfl rfl wn (yLb (u := h233.v) O_25 (et rfl rfl) hst (mtR (mtR (mtR (mtR (mtR (mtR (mtR mhR))))))) rfl) rfl (Sy rfl rfl wn (ym (v := .int .i64 x392) (et rfl e663_16)) rfl (Sy rfl rfl wn (yIa SLH_25 (et rfl rfl) (et rfl rfl) hst (rdO (mtR (mtR mhR))) gh688) rfl (Sy rfl rfl wn (yF1 O_22 (et rfl rfl) hst (rdO (mtR (mtR mhR))) gh688 rfl) rfl (Sy rfl rfl wn (yFb FL_29_2 (et rfl e663_4)) rfl (Sy rfl rfl wn (yLb (u := h235.v) O_25 (et rfl rfl) hst (mtR (mtR (mtR (mtR (mtR (mtR (mtR mhR))))))) rfl) rfl (Sy rfl rfl wn (ym (v := .int .i64 x392) (et rfl e663_16)) rfl (Sy rfl rfl wn (yIa SLH_25 (et rfl rfl) (et rfl rfl) hst (rdO (mtR (mtR (mtR (mtR (mtR mhR)))))) gh693) rfl (Sy rfl rfl wn (yF1 O_22 (et rfl rfl) hst (rdO (mtR (mtR (mtR (mtR (mtR mhR)))))) gh693 rfl) rfl QSn)))))))))))))))))) ?_
                  refine Lc rfl ?_ LAn
                  replace hst := hst.pk 4 [3, 0, 0, 0] rfl
                  replace hst := hst.foc gh688 gx687
                  refine LH wn (rAp hst SL_22 (et rfl rfl) (et rfl rfl) (rdO (mtR (mtR mhR))) gx691) ?_
                  clear hst
                  intro h690 w hst
                  refine DRn (l1 := []) (l2 := [0, 1, 2, 3, 4, 5, 6, 16, 17, 18, 19, 20]) (lc := [23]) (by kernel_rfl) (by kernel_rfl) (by kernel_rfl) ?_
                  refine Rn (Sy rfl rfl wn (yFb FL_29_0 (et rfl e663_4)) rfl (Sy rfl rfl wn (yFb FL_27_0 (et rfl rfl)) rfl (Sy rfl rfl wn (yLb (u := h233.v) O_25 (et rfl rfl) hst (mtR (mtR (mtR (mtR (mtR (mtR (mtR (mtR mhR)))))))) rfl) rfl (Sy rfl rfl wn (ym (v := .int .i64 x392) (et rfl e663_16)) rfl (Sy rfl rfl wn (yFb FL_29_2 (et rfl e663_4)) rfl (Sy rfl rfl wn (yLb (u := h235.v) O_25 (et rfl rfl) hst (mtR (mtR (mtR (mtR (mtR (mtR (mtR (mtR mhR)))))))) rfl) rfl (Sy rfl rfl wn (ym (v := .int .i64 x392) (et rfl e663_16)) rfl (Sy rfl rfl wn (yFb FL_29_2 (et rfl e663_4)) rfl (Sy rfl rfl wn (yLb (u := h235.v) O_25 (et rfl rfl) hst (mtR (mtR (mtR (mtR (mtR (mtR (mtR (mtR mhR)))))))) rfl) rfl (Sy rfl rfl wn (ym (v := .int .i64 x392) (et rfl e663_16)) rfl (Sy rfl rfl wn (yIa SLH_25 (et rfl rfl) (et rfl rfl) hst (rdO (mtR (mtR (mtR (mtR (mtR (mtR mhR))))))) gh693) rfl (Sy rfl rfl wn (yF1 O_22 (et rfl rfl) hst (rdO (mtR (mtR (mtR (mtR (mtR (mtR mhR))))))) gh693 rfl) rfl QSn)))))))))))) ?_
                  refine Lc rfl ?_ LAn
                  replace hst := hst.pk 8 [7, 0, 0, 0, 0, 0, 0, 0] rfl
                  replace hst := hst.foc gh693 gx692
                  refine LH wn (rAp hst SL_22 (et rfl rfl) (et rfl rfl) (rdO (mtR (mtR (mtR (mtR (mtR mhR)))))) gx696) ?_
                  clear hst
                  intro h695 w hst
                  refine DRn (l1 := [24]) (l2 := [0, 1, 2, 3, 4, 5, 6]) (lc := [25]) (by kernel_rfl) (by kernel_rfl) (by kernel_rfl) ?_
                  obtain ⟨y698, gy698⟩ := setI_len (u := h690) gx697 (hst.famLx (mtR (mtR (mtR mhR))))
                  refine Ry rfl rfl wn (yIs SLH_25 (et rfl rfl) (et rfl rfl) hst (rdO (mtR (mtR (mtR (mtR (mtR (mtR mhR))))))) gy698) ?_
                  refine Rn (Sy rfl rfl wn (yFb FL_29_0 (et rfl e663_4)) rfl (Sy rfl rfl wn (yFb FL_27_0 (et rfl rfl)) rfl (Sy rfl rfl wn (yLb (u := h233.v) O_25 (et rfl rfl) hst (mtR (mtR (mtR (mtR (mtR (mtR (mtR (mtR (mtR mhR))))))))) rfl) rfl (Sy rfl rfl wn (ym (v := .int .i64 x392) (et rfl e663_16)) rfl (Sy rfl rfl wn (yFb FL_29_2 (et rfl e663_4)) rfl (Sy rfl rfl wn (yLb (u := h235.v) O_25 (et rfl rfl) hst (mtR (mtR (mtR (mtR (mtR (mtR (mtR (mtR (mtR mhR))))))))) rfl) rfl (Sy rfl rfl wn (ym (v := .int .i64 x392) (et rfl e663_16)) rfl QSn))))))) ?_
                  refine Lc rfl ?_ LAn
                  replace hst := hst.pk 7 [6, 0, 0, 0, 0, 0, 0] rfl
                  refine LT wn (r_sti (cs := [h690.v]) hst O_22 rfl (et rfl rfl) (et rfl rfl) rfl (mkF rfl) gy698) ?_
                  clear hst
                  intro w hst
                  replace hst := hst.pk 5 [3, 3, 0, 0, 0] rfl
                  replace hst := hst.unfS gh688 gy698 gx697
                  refine DRn (l1 := [26]) (l2 := [4, 5, 6]) (lc := [27]) (by kernel_rfl) (by kernel_rfl) (by kernel_rfl) ?_
                  obtain ⟨y700, gy700⟩ := setI_len (u := h695) gx699 (hst.famLx (mtR (mtR (mtR mhR))))
                  refine Ry rfl rfl wn (yIs SLH_25 (et rfl rfl) (et rfl rfl) hst (rdO (mtR (mtR (mtR (mtR (mtR (mtR (mtR mhR)))))))) gy700) ?_
                  refine Rn (Sy rfl rfl wn (yFb FL_29_2 (et rfl e663_4)) rfl (Sy rfl rfl wn (yLb (u := h235.v) O_25 (et rfl rfl) hst (mtR (mtR (mtR (mtR (mtR (mtR (mtR (mtR mhR)))))))) rfl) rfl (Sy rfl rfl wn (ym (v := .int .i64 x392) (et rfl e663_16)) rfl QSn))) ?_
                  refine Lc rfl ?_ LAn
                  replace hst := hst.pk 8 [7, 0, 0, 0, 0, 0, 0, 0] rfl
                  refine LT wn (r_sti (cs := [h695.v]) hst O_22 rfl (et rfl rfl) (et rfl rfl) rfl (mkF rfl) gy700) ?_
                  clear hst
                  intro w hst
                  replace hst := hst.pk 5 [3, 3, 0, 0, 0] rfl
                  replace hst := hst.unfS gh693 gy700 gx699
                  refine DRz (l1 := []) (l2 := []) (by kernel_rfl) (by kernel_rfl) ?_
                  refine Rn QSn ?_
                  exact j48 _ _ ⟨_, _, e663_4, e663_5, e663_16, e663_136, e663_137, e663_138, e663_143, e663_144, e663_145, (hst.pk 9 [3, 2, 4, 1, 0, 2, 2] rfl)⟩
              clear hst
              rintro f w ⟨y701, y702, e703_4, e703_5, e703_16, e703_136, e703_137, e703_138, e703_143, e703_144, e703_145, hst⟩
              exact j47 _ _ _ _ _ _ e703_4 e703_5 e703_16 e703_136 e703_137 e703_138 e703_143 e703_144 e703_145 hst hM44
            · refine condF (et rfl e663_156) (bfalse c686) ?_
              refine wp_skip ?_
              exact j47 _ _ _ _ _ _ e663_4 e663_5 e663_16 e663_136 e663_137 e663_138 e663_143 e663_144 e663_145 hst hM44
          · refine condF (et rfl rfl) (decide_eq_false c661) ?_
            refine wp_exit ?_
            refine z203 _ _ _ rfl ?_
            obtain rfl := someI hM44
            refine zz44 _ _ _ _ rfl rfl ?_
            exact je44_0 _ _ _ _ _ _ e44_4 e44_5 e44_16 e44_136 e44_137 e44_138 (hst.facts (allC mhF (allT (allT allI)))) (ho44 _ rfl)
        · refine condF (et rfl rfl) (decide_eq_false c554) ?_
          refine wp_exit ?_
          refine z181 _ _ _ rfl ?_
          obtain rfl := someI hM35
          refine zz35 _ _ _ _ rfl rfl ?_
          exact je35_0 _ _ _ _ _ _ e35_4 e35_5 (hst.facts (allT allI)) (ho35 _ rfl)
      refine loopQ (fun s a w => ∃ (x178 : List (List Int)) (x179 : Int) (f : Nat → Value), (x178, x179) = s ∧ a = fr 200 f ∧ f 2 = .pointer (some ⟨b9, 0, none⟩) ∧ f 4 = .pointer (some ⟨b10, 0, none⟩) ∧ f 5 = h11.v ∧ f 9 = .int .i64 (x109.length : Int) ∧ f 10 = h111.v ∧ f 90 = h2.v ∧ f 91 = .int .i64 (x1.length : Int) ∧ f 92 = .int .i64 x179 ∧ St w0 (ros) (box b9 29 [h2.v, h4.v, h6.v] :: row 3 (rI .i64) h108.v x109 :: box b10 29 [hnil.v, h108.v, hnil.v] :: row 3 (rI .i64) h11.v x110 :: row 22 rH h111.v y132 :: fam 3 (rI .i64) y132 x178 :: rs) w) go7 ⟨_, _, _, rfl, rfl, eje4_0_2, eje4_0_4, eje4_0_5, eje4_0_9, eje4_0_10, rfl, rfl, rfl, hst⟩ ?_
      clear hst
      rintro _ _ w r7_ ⟨x178, x179, f, rfl, rfl, e7_2, e7_4, e7_5, e7_9, e7_10, e7_90, e7_91, e7_92, hst⟩ hM7 ho7 Q100007 n7 zz7
      refine seqQ fun Q208 k208 z208 => ?_
      refine wp_region_lit ?_
      refine Y wn rfl (ylss (et rfl e7_92) (et rfl e7_91)) ?_
      refine wpList_nil ?_
      refine k208 _ _ ?_
      refine seqQ fun Q209 k209 z209 => ?_
      rcases iteS hM7 with ⟨c704, hM7⟩ | ⟨c704, hM7⟩
      · refine condT (et rfl rfl) (decide_eq_true c704) ?_
        refine wp_skip ?_
        refine k209 _ _ ?_
        refine seqQ fun Q210 k210 z210 => ?_
        refine blockQ fun Q211 qb211 => ?_
        refine seqQ fun Q212 k212 z212 => ?_
        refine wp_region_lit ?_
        refine Y wn rfl (ym (v := .int .i64 x179) (et rfl e7_92)) ?_
        obtain ⟨x705, gx705, hM7⟩ := bs hM7
        refine Y wn rfl (yIa SL_25 (et rfl e7_90) (et rfl e7_92) hst (rdI q1) gx705) ?_
        obtain ⟨h706, hst⟩ := iLs hst q1 gx705
        refine Y wn rfl (yCt O_22 (et rfl rfl) hst (mtF mhF) rfl) ?_
        refine Y wn rfl (ya (v := .int .i64 x179) (et rfl rfl)) ?_
        refine Y wn rfl (ya (v := h706.v) (et rfl rfl)) ?_
        refine wpList_nil ?_
        refine k212 _ _ ?_
        refine seqQ fun Q213 k213 z213 => ?_
        refine wp_region_lit ?_
        refine Y wn rfl (ym (v := h706.v) (et rfl rfl)) ?_
        refine Y wn rfl (yLen SL_22 (et rfl rfl) hst (rdI mhF)) ?_
        refine Y wn rfl (ym (v := .int .i64 0) rfl) ?_
        refine wpList_nil ?_
        refine k213 _ _ ?_
        refine blockQ fun Q214 qb214 => ?_
        obtain ⟨o49, go49, hM7⟩ := bs hM7
        have je49_0 : ∀ (x735 : List (List Int)) (f : Nat → Value) (w : World), f 2 = .pointer (some ⟨b9, 0, none⟩) → f 4 = .pointer (some ⟨b10, 0, none⟩) → f 5 = h11.v → f 9 = .int .i64 (x109.length : Int) → f 10 = h111.v → f 90 = h2.v → f 91 = .int .i64 (x1.length : Int) → f 92 = .int .i64 x179 → St w0 (ros) (box b9 29 [h2.v, h4.v, h6.v] :: row 3 (rI .i64) h108.v x109 :: box b10 29 [hnil.v, h108.v, hnil.v] :: row 3 (rI .i64) h11.v x110 :: row 22 rH h111.v y132 :: fam 3 (rI .i64) y132 x735 :: rs) w → x735 = o49 → Q214 (.exit 6) (fr 200 f) w := by
          intro x735 f w eje49_0_2 eje49_0_4 eje49_0_5 eje49_0_9 eje49_0_10 eje49_0_90 eje49_0_91 eje49_0_92 hst ho
          subst ho
          refine qb214 _ _ _ ?_
          refine qb211 _ _ _ ?_
          refine k210 _ _ ?_
          refine wp_region_lit ?_
          refine Y wn rfl (yadd (et rfl eje49_0_92) rfl) ?_
          refine Y wn rfl (ym (v := .int .i64 (wa .i64 x179 1)) (et rfl rfl)) ?_
          refine wpList_nil ?_
          obtain rfl := someI hM7
          exact n7 _ _ _ rfl ⟨_, _, _, rfl, rfl, eje49_0_2, eje49_0_4, eje49_0_5, eje49_0_9, eje49_0_10, eje49_0_90, eje49_0_91, rfl, hst⟩
        refine loopQ (fun s a w => ∃ (x719 : List (List Int)) (x720 : Int) (f : Nat → Value), (x719, x720) = s ∧ a = fr 200 f ∧ f 2 = .pointer (some ⟨b9, 0, none⟩) ∧ f 4 = .pointer (some ⟨b10, 0, none⟩) ∧ f 5 = h11.v ∧ f 9 = .int .i64 (x109.length : Int) ∧ f 10 = h111.v ∧ f 12 = .int .i64 x179 ∧ f 90 = h2.v ∧ f 91 = .int .i64 (x1.length : Int) ∧ f 92 = .int .i64 x179 ∧ f 97 = h706.v ∧ f 98 = .int .i64 (x705.length : Int) ∧ f 99 = .int .i64 x720 ∧ St w0 (imm (rI .i64) h706.v x705 :: ros) (box b9 29 [h2.v, h4.v, h6.v] :: row 3 (rI .i64) h108.v x109 :: box b10 29 [hnil.v, h108.v, hnil.v] :: row 3 (rI .i64) h11.v x110 :: row 22 rH h111.v y132 :: fam 3 (rI .i64) y132 x719 :: rs) w) go49 ⟨_, _, _, rfl, rfl, e7_2, e7_4, e7_5, e7_9, e7_10, rfl, e7_90, e7_91, e7_92, rfl, rfl, rfl, (hst.facts (allC mhF (allT (allT allI))))⟩ ?_
        clear hst
        rintro _ _ w r49_ ⟨x719, x720, f, rfl, rfl, e49_2, e49_4, e49_5, e49_9, e49_10, e49_12, e49_90, e49_91, e49_92, e49_97, e49_98, e49_99, hst⟩ hM49 ho49 Q100049 n49 zz49
        refine seqQ fun Q225 k225 z225 => ?_
        refine wp_region_lit ?_
        refine Y wn rfl (ylss (et rfl e49_99) (et rfl e49_98)) ?_
        refine wpList_nil ?_
        refine k225 _ _ ?_
        refine seqQ fun Q226 k226 z226 => ?_
        rcases iteS hM49 with ⟨c736, hM49⟩ | ⟨c736, hM49⟩
        · refine condT (et rfl rfl) (decide_eq_true c736) ?_
          refine wp_skip ?_
          refine k226 _ _ ?_
          refine seqQ fun Q227 k227 z227 => ?_
          refine blockQ fun Q228 qb228 => ?_
          refine seqQ fun Q229 k229 z229 => ?_
          refine wp_region_lit ?_
          refine Y wn rfl (ym (v := .int .i64 x720) (et rfl e49_99)) ?_
          obtain ⟨x737, gx737, hM49⟩ := bs hM49
          refine Y wn rfl (yIa SL_22 (et rfl e49_97) (et rfl e49_99) hst (rdI mhF) gx737) ?_
          refine Y wn rfl (yI O_3 (et rfl rfl) hst (rdI mhF) gx737) ?_
          refine Y wn rfl (ya (v := .int .i64 x720) (et rfl rfl)) ?_
          refine Y wn rfl (ya (v := .int .i64 x737) (et rfl rfl)) ?_
          refine wpList_nil ?_
          refine k229 _ _ ?_
          obtain ⟨x738, gx738, hM49⟩ := bs hM49
          obtain ⟨x739, gx739, hM49⟩ := bs hM49
          obtain ⟨x741, gx741, hM49⟩ := bs hM49
          obtain ⟨x742, gx742, hM49⟩ := bs hM49
          obtain ⟨x743, gx743, hM49⟩ := bs hM49
          obtain ⟨x745, gx745, hM49⟩ := bs hM49
          obtain ⟨x746, gx746, hM49⟩ := bs hM49
          obtain ⟨x747, gx747, hM49⟩ := bs hM49
          refine wp_drawR [0, 0, 0, 6, 14, 31, 63, 0, 0, 384, 896, 2047, 4095, 0, 8192, 0, 57344, 122880, 0, 516096, 1040384, 2097151, 4194303, 8388607] [23] 1 folM (by kernel_rfl) (by kernel_rfl) (by kernel_rfl) ?_
          replace hst := hst.drew
          refine DRn (l1 := [0, 1, 2, 3, 4, 5, 6, 7, 8, 9, 10, 11, 12, 13, 14, 15, 16, 17, 18, 19, 20, 21, 22]) (l2 := []) (lc := [23]) (by kernel_rfl) (by kernel_rfl) (by kernel_rfl) ?_
          refine Ry rfl rfl wn (ym (v := h111.v) (et rfl e49_10)) ?_
          refine Ry rfl rfl wn (ym (v := h11.v) (et rfl e49_5)) ?_
          refine Ry rfl rfl wn (ym (v := .int .i64 x179) (et rfl e49_12)) ?_
          refine Ry rfl rfl wn (yIa SL_22 (et rfl rfl) (et rfl rfl) hst (rdO (mtR (mtR (mtR mhR)))) gx738) ?_
          refine Ry rfl rfl wn (yI O_3 (et rfl rfl) hst (rdO (mtR (mtR (mtR mhR)))) gx738) ?_
          obtain ⟨h740, gh740⟩ := hst.famI (mtR (mtR (mtR (mtR (mtR mhR))))) gx739
          refine Ry rfl rfl wn (yIa SLH_25 (et rfl rfl) (et rfl rfl) hst (rdO (mtR (mtR (mtR (mtR mhR))))) gh740) ?_
          refine Ry rfl rfl wn (yF1 O_22 (et rfl rfl) hst (rdO (mtR (mtR (mtR (mtR mhR))))) gh740 rfl) ?_
          refine Ry rfl rfl wn (ym (v := h11.v) (et rfl e49_5)) ?_
          refine Ry rfl rfl wn (ym (v := .int .i64 x737) (et rfl rfl)) ?_
          refine Ry rfl rfl wn (yIa SL_22 (et rfl rfl) (et rfl rfl) hst (rdO (mtR (mtR (mtR mhR)))) gx741) ?_
          refine Ry rfl rfl wn (yI O_3 (et rfl rfl) hst (rdO (mtR (mtR (mtR mhR)))) gx741) ?_
          refine Ry rfl rfl wn (yIa SL_22 (et rfl rfl) (et rfl rfl) hst (rdF (mtR (mtR (mtR (mtR (mtR mhR))))) gh740 gx739) gx742) ?_
          refine Ry rfl rfl wn (yI O_3 (et rfl rfl) hst (rdF (mtR (mtR (mtR (mtR (mtR mhR))))) gh740 gx739) gx742) ?_
          refine Ry rfl rfl wn (yFb FL_29_2 (et rfl e49_2)) ?_
          refine Ry rfl rfl wn (yLb (u := h6.v) O_25 (et rfl rfl) hst mhR rfl) ?_
          refine Ry rfl rfl wn (ym (v := .int .i64 x179) (et rfl e49_12)) ?_
          refine Ry rfl rfl wn (yIa SL_25 (et rfl rfl) (et rfl rfl) hst (rdI (mtF q3)) gx743) ?_
          obtain ⟨h744, hst⟩ := iLs hst (mtF q3) gx743
          refine Ry rfl rfl wn (yCt O_22 (et rfl rfl) hst (mtF mhF) rfl) ?_
          refine Ry rfl rfl wn (ym (v := .int .i64 x720) (et rfl rfl)) ?_
          refine Ry rfl rfl wn (yIa SL_22 (et rfl rfl) (et rfl rfl) hst (rdI mhF) gx745) ?_
          refine Ry rfl rfl wn (yI O_3 (et rfl rfl) hst (rdI mhF) gx745) ?_
          refine Ry rfl rfl wn (yadd (et rfl rfl) (et rfl rfl)) ?_
          refine Ry rfl rfl wn (yIs SL_22 (et rfl rfl) (et rfl rfl) hst (rdF (mtR (mtR (mtR (mtR (mtR mhR))))) gh740 gx739) gx746) ?_
          refine Rn QSn ?_
          refine Lc rfl ?_ LAn
          replace hst := hst.pk 6 [5, 0, 0, 0, 0, 0] rfl
          refine LT wn (r_sti (cs := [.int .i64 (wa .i64 x742 x745)]) (hst.foc gh740 gx739) O_3 rfl (et rfl rfl) (et rfl rfl) rfl mkI gx746) ?_
          clear hst
          intro w hst
          replace hst := hst.unfoc' gh740 gx747
          refine DRz (l1 := []) (l2 := []) (by kernel_rfl) (by kernel_rfl) ?_
          refine Rn QSn ?_
          refine qb228 _ _ _ ?_
          refine k227 _ _ ?_
          refine wp_region_lit ?_
          refine Y wn rfl (yadd (et rfl e49_99) rfl) ?_
          refine Y wn rfl (ym (v := .int .i64 (wa .i64 x720 1)) (et rfl rfl)) ?_
          refine wpList_nil ?_
          obtain rfl := someI hM49
          exact n49 _ _ _ rfl ⟨_, _, _, rfl, rfl, e49_2, e49_4, e49_5, e49_9, e49_10, e49_12, e49_90, e49_91, e49_92, e49_97, e49_98, rfl, ((hst.pk 6 [1, 1, 1, 1, 1, 0] rfl).facts (allC (mtF (mtF mhF)) (allT (allT (allT allI)))))⟩
        · refine condF (et rfl rfl) (decide_eq_false c736) ?_
          refine wp_exit ?_
          refine z226 _ _ _ rfl ?_
          obtain rfl := someI hM49
          refine zz49 _ _ _ _ rfl rfl ?_
          exact je49_0 _ _ _ e49_2 e49_4 e49_5 e49_9 e49_10 e49_90 e49_91 e49_92 (hst.facts (allT allI)) (ho49 _ rfl)
      · refine condF (et rfl rfl) (decide_eq_false c704) ?_
        refine wp_exit ?_
        refine z209 _ _ _ rfl ?_
        obtain rfl := someI hM7
        refine zz7 _ _ _ _ rfl rfl ?_
        exact je7_0 _ _ _ e7_4 e7_5 e7_9 e7_10 (hst.pk 6 [1, 1, 1, 1, 1] rfl) (ho7 _ rfl)
    refine loopQ (fun s a w => ∃ (x121 : List (List Int)) (x122 : Int) (f : Nat → Value) (y120 : List Hdr), (x121, x122) = s ∧ a = fr 200 f ∧ f 2 = .pointer (some ⟨b9, 0, none⟩) ∧ f 4 = .pointer (some ⟨b10, 0, none⟩) ∧ f 5 = h11.v ∧ f 9 = .int .i64 (x109.length : Int) ∧ f 10 = h111.v ∧ f 78 = .int .i64 (x113.length : Int) ∧ f 79 = .int .i64 x122 ∧ St w0 (ros) (box b9 29 [h2.v, h4.v, h6.v] :: row 3 (rI .i64) h108.v x109 :: box b10 29 [hnil.v, h108.v, hnil.v] :: row 3 (rI .i64) h11.v x110 :: row 22 rH h111.v y120 :: fam 3 (rI .i64) y120 x121 :: rs) w) go4 ⟨_, _, _, _, rfl, rfl, eje3_0_2, eje3_0_4, eje3_0_5, rfl, rfl, rfl, rfl, (hst.pk 6 [2, 2, 2, 2, 0, 0] rfl)⟩ ?_
    clear hst
    rintro _ _ w r4_ ⟨x121, x122, f, y120, rfl, rfl, e4_2, e4_4, e4_5, e4_9, e4_10, e4_78, e4_79, hst⟩ hM4 ho4 Q100004 n4 zz4
    refine seqQ fun Q230 k230 z230 => ?_
    refine wp_region_lit ?_
    refine Y wn rfl (ylss (et rfl e4_79) (et rfl e4_78)) ?_
    refine wpList_nil ?_
    refine k230 _ _ ?_
    refine seqQ fun Q231 k231 z231 => ?_
    rcases iteS hM4 with ⟨c748, hM4⟩ | ⟨c748, hM4⟩
    · refine condT (et rfl rfl) (decide_eq_true c748) ?_
      refine wp_skip ?_
      refine k231 _ _ ?_
      refine seqQ fun Q232 k232 z232 => ?_
      refine blockQ fun Q233 qb233 => ?_
      refine seqQ fun Q234 k234 z234 => ?_
      refine wp_region_lit ?_
      refine Y wn rfl (ym (v := .int .i64 x122) (et rfl e4_79)) ?_
      refine Y wn rfl (ya (v := .int .i64 x122) (et rfl rfl)) ?_
      refine wpList_nil ?_
      refine k234 _ _ ?_
      refine wp_region_lit ?_
      refine Y wn rfl (ym (v := h111.v) (et rfl e4_10)) ?_
      refine Y wn rfl (ym (v := .int .i64 x122) (et rfl rfl)) ?_
      refine Y wn rfl (ym (v := .int .i64 (x109.length : Int)) (et rfl e4_9)) ?_
      obtain ⟨x751, gx751, hM4⟩ := bs hM4
      refine YH wn rfl (rMk hst SL_22 (et rfl rfl) gx751) ?_
      clear hst
      intro h749 w hst
      obtain ⟨x752, gx752, hM4⟩ := bs hM4
      obtain ⟨y753, gy753⟩ := setI_len (u := h749) gx752 (hst.famL (mtR (mtR (mtR (mtR (mtR (mtR mhR)))))))
      refine Y wn rfl (yIs SLH_25 (et rfl rfl) (et rfl rfl) hst (rdO (mtR (mtR (mtR (mtR (mtR mhR)))))) gy753) ?_
      replace hst := hst.pk 6 [5, 0, 0, 0, 0, 0] rfl
      refine YT wn rfl (r_sti (cs := [h749.v]) hst O_22 rfl (et rfl rfl) (et rfl rfl) rfl (mkF rfl) gy753) ?_
      clear hst
      intro w hst
      replace hst := hst.pk 7 [1, 5, 0, 0, 0, 0, 0] rfl
      replace hst := hst.fput gy753 gx752
      refine wpList_nil ?_
      refine qb233 _ _ _ ?_
      refine k232 _ _ ?_
      refine wp_region_lit ?_
      refine Y wn rfl (yadd (et rfl e4_79) rfl) ?_
      refine Y wn rfl (ym (v := .int .i64 (wa .i64 x122 1)) (et rfl rfl)) ?_
      refine wpList_nil ?_
      obtain rfl := someI hM4
      exact n4 _ _ _ rfl ⟨_, _, _, _, rfl, rfl, e4_2, e4_4, e4_5, e4_9, e4_10, e4_78, rfl, (hst.pk 6 [2, 2, 2, 2, 1, 0] rfl)⟩
    · refine condF (et rfl rfl) (decide_eq_false c748) ?_
      refine wp_exit ?_
      refine z231 _ _ _ rfl ?_
      obtain rfl := someI hM4
      refine zz4 _ _ _ _ rfl rfl ?_
      exact je4_0 _ _ _ _ e4_2 e4_4 e4_5 e4_9 e4_10 hst (ho4 _ rfl)
  replace hst := hst.rowNh 3 (rI .i64)
  refine loopQ (fun s a w => ∃ (x58 : List Int) (x59 : List Int) (x60 : Int) (f : Nat → Value) (h57 : Hdr), (x58, x59, x60) = s ∧ a = fr 200 f ∧ f 2 = .pointer (some ⟨b9, 0, none⟩) ∧ f 4 = .pointer (some ⟨b10, 0, none⟩) ∧ f 5 = h11.v ∧ f 23 = h8.v ∧ f 24 = .int .i64 (x7.length : Int) ∧ f 25 = .int .i64 x60 ∧ St w0 (ros) (box b9 29 [h2.v, h4.v, h6.v] :: row 3 (rI .i64) h57.v x58 :: box b10 29 [hnil.v, h57.v, hnil.v] :: row 3 (rI .i64) h11.v x59 :: rs) w) go3 ⟨_, _, _, _, _, rfl, rfl, rfl, rfl, rfl, rfl, rfl, rfl, (hst.pk 4 [3, 0, 1, 0] rfl)⟩ ?_
  clear hst
  rintro _ _ w r3_ ⟨x58, x59, x60, f, h57, rfl, rfl, e3_2, e3_4, e3_5, e3_23, e3_24, e3_25, hst⟩ hM3 ho3 Q100003 n3 zz3
  refine seqQ fun Q235 k235 z235 => ?_
  refine wp_region_lit ?_
  refine Y wn rfl (ylss (et rfl e3_25) (et rfl e3_24)) ?_
  refine wpList_nil ?_
  refine k235 _ _ ?_
  refine seqQ fun Q236 k236 z236 => ?_
  rcases iteS hM3 with ⟨c754, hM3⟩ | ⟨c754, hM3⟩
  · refine condT (et rfl rfl) (decide_eq_true c754) ?_
    refine wp_skip ?_
    refine k236 _ _ ?_
    refine seqQ fun Q237 k237 z237 => ?_
    have j50 : ∀ (x782 : List Int) (x783 : List Int) (h781 : Hdr) (f : Nat → Value) (w : World), f 2 = .pointer (some ⟨b9, 0, none⟩) → f 4 = .pointer (some ⟨b10, 0, none⟩) → f 5 = h11.v → f 23 = h8.v → f 24 = .int .i64 (x7.length : Int) → f 25 = .int .i64 x60 → St w0 (ros) (box b9 29 [h2.v, h4.v, h6.v] :: row 3 (rI .i64) h781.v x782 :: box b10 29 [hnil.v, h781.v, hnil.v] :: row 3 (rI .i64) h11.v x783 :: rs) w → dissect_coarsen_j50 x60 x782 x783 = some r3_ → Q237 .normal (fr 200 f) w := by
      intro x782 x783 h781 f w ej50_2 ej50_4 ej50_5 ej50_23 ej50_24 ej50_25 hst hM
      refine k237 _ _ ?_
      refine wp_region_lit ?_
      refine Y wn rfl (yadd (et rfl ej50_25) rfl) ?_
      refine Y wn rfl (ym (v := .int .i64 (wa .i64 x60 1)) (et rfl rfl)) ?_
      refine wpList_nil ?_
      obtain rfl := someI hM
      exact n3 _ _ _ rfl ⟨_, _, _, _, _, rfl, rfl, ej50_2, ej50_4, ej50_5, ej50_23, ej50_24, rfl, hst⟩
    refine blockQ fun Q252 qb252 => ?_
    refine seqQ fun Q253 k253 z253 => ?_
    refine wp_region_lit ?_
    refine Y wn rfl (ym (v := .int .i64 x60) (et rfl e3_25)) ?_
    obtain ⟨x784, gx784, hM3⟩ := bs hM3
    refine Y wn rfl (yIa SL_22 (et rfl e3_23) (et rfl e3_25) hst (rdI q4) gx784) ?_
    refine Y wn rfl (yI O_3 (et rfl rfl) hst (rdI q4) gx784) ?_
    refine Y wn rfl (ya (v := .int .i64 x60) (et rfl rfl)) ?_
    refine Y wn rfl (ya (v := .int .i64 x784) (et rfl rfl)) ?_
    refine wpList_nil ?_
    refine k253 _ _ ?_
    refine seqQ fun Q254 k254 z254 => ?_
    refine seqQ fun Q255 k255 z255 => ?_
    refine wp_region_lit ?_
    refine Y wn rfl (ym (v := .int .i64 x784) (et rfl rfl)) ?_
    refine Y wn rfl (ym (v := .int .i64 x60) (et rfl rfl)) ?_
    refine Y wn rfl (ylss (et rfl rfl) (et rfl rfl)) ?_
    refine wpList_nil ?_
    refine k255 _ _ ?_
    rcases iteS hM3 with ⟨c785, hM3⟩ | ⟨c785, hM3⟩
    · refine condT (et rfl rfl) (decide_eq_true c785) ?_
      refine seqQ fun Q256 k256 z256 => ?_
      refine wp_region_lit ?_
      refine Y wn rfl (ym (v := h11.v) (et rfl e3_5)) ?_
      refine Y wn rfl (ym (v := .int .i64 x60) (et rfl rfl)) ?_
      refine Y wn rfl (ym (v := h11.v) (et rfl e3_5)) ?_
      refine Y wn rfl (ym (v := .int .i64 x784) (et rfl rfl)) ?_
      obtain ⟨x786, gx786, hM3⟩ := bs hM3
      refine Y wn rfl (yIa SL_22 (et rfl rfl) (et rfl rfl) hst (rdO (mtR (mtR (mtR mhR)))) gx786) ?_
      refine Y wn rfl (yI O_3 (et rfl rfl) hst (rdO (mtR (mtR (mtR mhR)))) gx786) ?_
      obtain ⟨x787, gx787, hM3⟩ := bs hM3
      refine Y wn rfl (yIs SL_22 (et rfl rfl) (et rfl rfl) hst (rdO (mtR (mtR (mtR mhR)))) gx787) ?_
      replace hst := hst.pk 4 [3, 0, 0, 0] rfl
      refine YT wn rfl (r_sti (cs := [.int .i64 x786]) hst O_3 rfl (et rfl rfl) (et rfl rfl) rfl mkI gx787) ?_
      clear hst
      intro w hst
      refine wpList_nil ?_
      refine k256 _ _ ?_
      refine seqQ fun Q257 k257 z257 => ?_
      obtain ⟨x788, gx788, hM3⟩ := bs hM3
      obtain ⟨x789, gx789, hM3⟩ := bs hM3
      obtain ⟨x790, gx790, hM3⟩ := bs hM3
      obtain ⟨x791, gx791, hM3⟩ := bs hM3
      refine wp_drawR [0, 1, 0, 0, 12, 28, 63, 127, 0, 256, 0, 1792, 3840, 8191, 16383, 32767] [15] 1 folM (by kernel_rfl) (by kernel_rfl) (by kernel_rfl) ?_
      replace hst := hst.drew
      refine DRn (l1 := [0, 1, 2, 3, 4, 5, 6, 7, 8, 9, 10, 11, 12, 13, 14]) (l2 := []) (lc := [15]) (by kernel_rfl) (by kernel_rfl) (by kernel_rfl) ?_
      refine Ry rfl rfl wn (yFb FL_29_1 (et rfl e3_4)) ?_
      refine Ry rfl rfl wn (yLb (u := h57.v) O_22 (et rfl rfl) hst (mtR (mtR (mtR mhR))) rfl) ?_
      refine Ry rfl rfl wn (ym (v := h11.v) (et rfl e3_5)) ?_
      refine Ry rfl rfl wn (ym (v := .int .i64 x60) (et rfl rfl)) ?_
      refine Ry rfl rfl wn (yIa SL_22 (et rfl rfl) (et rfl rfl) hst (rdO mhR) gx788) ?_
      refine Ry rfl rfl wn (yI O_3 (et rfl rfl) hst (rdO mhR) gx788) ?_
      refine Ry rfl rfl wn (yIa SL_22 (et rfl rfl) (et rfl rfl) hst (rdO (mtR (mtR mhR))) gx789) ?_
      refine Ry rfl rfl wn (yI O_3 (et rfl rfl) hst (rdO (mtR (mtR mhR))) gx789) ?_
      refine Ry rfl rfl wn (yFb FL_29_1 (et rfl e3_2)) ?_
      refine Ry rfl rfl wn (yLb (u := h4.v) O_22 (et rfl rfl) hst (mtR mhR) rfl) ?_
      refine Ry rfl rfl wn (ym (v := .int .i64 x60) (et rfl rfl)) ?_
      refine Ry rfl rfl wn (yIa SL_22 (et rfl rfl) (et rfl rfl) hst (rdI q2) gx790) ?_
      refine Ry rfl rfl wn (yI O_3 (et rfl rfl) hst (rdI q2) gx790) ?_
      refine Ry rfl rfl wn (yadd (et rfl rfl) (et rfl rfl)) ?_
      refine Ry rfl rfl wn (yIs SL_22 (et rfl rfl) (et rfl rfl) hst (rdO (mtR (mtR mhR))) gx791) ?_
      refine Rn QSn ?_
      refine Lc rfl ?_ LAn
      replace hst := hst.pk 3 [2, 0, 0] rfl
      refine LT wn (r_sti (cs := [.int .i64 (wa .i64 x789 x790)]) hst O_3 rfl (et rfl rfl) (et rfl rfl) rfl mkI gx791) ?_
      clear hst
      intro w hst
      refine DRz (l1 := []) (l2 := []) (by kernel_rfl) (by kernel_rfl) ?_
      refine Rn QSn ?_
      refine k257 _ _ ?_
      refine wp_exit ?_
      refine z254 _ _ _ rfl ?_
      refine qb252 _ _ _ ?_
      exact j50 _ _ _ _ _ e3_2 e3_4 e3_5 e3_23 e3_24 e3_25 (hst.pk 4 [2, 0, 1, 0] rfl) hM3
    · refine condF (et rfl rfl) (decide_eq_false c785) ?_
      refine wp_skip ?_
      refine k254 _ _ ?_
      refine seqQ fun Q258 k258 z258 => ?_
      refine wp_region_lit ?_
      refine Y wn rfl (ym (v := h11.v) (et rfl e3_5)) ?_
      refine Y wn rfl (ym (v := .int .i64 x60) (et rfl rfl)) ?_
      refine Y wn rfl (yFb FL_29_1 (et rfl e3_4)) ?_
      refine Y wn rfl (yLb (u := h57.v) O_22 (et rfl rfl) hst (mtR (mtR mhR)) rfl) ?_
      refine Y wn rfl (yLen SL_22 (et rfl rfl) hst (rdO (mtR mhR))) ?_
      obtain ⟨x792, gx792, hM3⟩ := bs hM3
      refine Y wn rfl (yIs SL_22 (et rfl rfl) (et rfl rfl) hst (rdO (mtR (mtR (mtR mhR)))) gx792) ?_
      replace hst := hst.pk 4 [3, 0, 0, 0] rfl
      refine YT wn rfl (r_sti (cs := [.int .i64 (x58.length : Int)]) hst O_3 rfl (et rfl rfl) (et rfl rfl) rfl mkI gx792) ?_
      clear hst
      intro w hst
      refine wpList_nil ?_
      refine k258 _ _ ?_
      obtain ⟨x793, gx793, hM3⟩ := bs hM3
      obtain ⟨x796, gx796, hM3⟩ := bs hM3
      refine wp_drawR [0, 1, 0, 4, 0, 28, 60, 124, 255, 511, 1023] [7, 8, 10] 3 folM (by kernel_rfl) (by kernel_rfl) (by kernel_rfl) ?_
      replace hst := hst.drew
      refine DRn (l1 := [0, 1, 2, 3, 4, 5, 6]) (l2 := []) (lc := [7]) (by kernel_rfl) (by kernel_rfl) (by kernel_rfl) ?_
      refine Ry rfl rfl wn (yFb FL_29_1 (et rfl e3_4)) ?_
      refine Ry rfl rfl wn (yLb (u := h57.v) O_22 (et rfl rfl) hst (mtR (mtR (mtR mhR))) rfl) ?_
      refine Ry rfl rfl wn (yFb FL_29_1 (et rfl e3_2)) ?_
      refine Ry rfl rfl wn (yLb (u := h4.v) O_22 (et rfl rfl) hst (mtR mhR) rfl) ?_
      refine Ry rfl rfl wn (ym (v := .int .i64 x60) (et rfl rfl)) ?_
      refine Ry rfl rfl wn (yIa SL_22 (et rfl rfl) (et rfl rfl) hst (rdI q2) gx793) ?_
      refine Ry rfl rfl wn (yI O_3 (et rfl rfl) hst (rdI q2) gx793) ?_
      refine Rn QSn ?_
      refine Lc rfl ?_ LAn
      refine LH wn (rLt (n := 1) (l := [x793]) hst SL_22 [.int .i64 x793] (bp1 (et rfl rfl)) rfl rfl (mks1 (cs := [.int .i64 x793]) rfl mkI mks0)) ?_
      clear hst
      intro h794 w hst
      refine DRn (l1 := []) (l2 := [0, 1]) (lc := [8]) (by kernel_rfl) (by kernel_rfl) (by kernel_rfl) ?_
      refine Rn (Sy rfl rfl wn (yFb FL_29_1 (et rfl e3_4)) rfl (Sy rfl rfl wn (yLb (u := h57.v) O_22 (et rfl rfl) hst (mtR (mtR (mtR (mtR mhR)))) rfl) rfl QSn)) ?_
      refine Lc rfl ?_ LAn
      replace hst := hst.pk 4 [3, 0, 0, 0] rfl
      refine LH wn (rAp hst SL_22 (et rfl rfl) (et rfl rfl) (rdO (mtR mhR)) gx796) ?_
      clear hst
      intro h795 w hst
      refine DRn (l1 := [9]) (l2 := []) (lc := [10]) (by kernel_rfl) (by kernel_rfl) (by kernel_rfl) ?_
      refine Ry rfl rfl wn (yFb FL_29_1 (et rfl e3_4)) ?_
      refine Rn QSn ?_
      refine Lc rfl ?_ LAn
      replace hst := hst.pk 5 [4, 0, 0, 0, 0] rfl
      refine LT wn (r_stb1 (vals' := [hnil.v, h795.v, hnil.v]) hst O_22 (et rfl rfl) (et rfl rfl) rfl rfl rfl rfl) ?_
      clear hst
      intro w hst
      refine DRz (l1 := []) (l2 := []) (by kernel_rfl) (by kernel_rfl) ?_
      refine Rn QSn ?_
      refine qb252 _ _ _ ?_
      exact j50 _ _ _ _ _ e3_2 e3_4 e3_5 e3_23 e3_24 e3_25 (hst.pk 5 [4, 1, 0, 1] rfl) hM3
  · refine condF (et rfl rfl) (decide_eq_false c754) ?_
    refine wp_exit ?_
    refine z236 _ _ _ rfl ?_
    obtain rfl := someI hM3
    refine zz3 _ _ _ _ rfl rfl ?_
    exact je3_0 _ _ _ _ _ e3_2 e3_4 e3_5 hst (ho3 _ rfl)

theorem dissect_refine_ok {w0 : World} {ros : List Fact} {rs : List Res} {w : World} {x1 : List (List Int)} {x3 : List Int} {x5 : List (List Int)} {x7 : List Int} {h2 : Hdr} {h4 : Hdr} {h6 : Hdr} {h8 : Hdr} {out : (List Int)} (hM : dissect_refine x1 x3 x5 x7 = some out) (q1 : imm (rS (rI .i64)) h2.v x1 ∈ ros) (q2 : imm (rI .i64) h4.v x3 ∈ ros) (q3 : imm (rS (rI .i64)) h6.v x5 ∈ ros) (hst : St w0 ros (row 3 (rI .i64) h8.v x7 :: rs) w) :
    Calls Try.prog 52 #[.agg #[h2.v, h4.v, h6.v], h8.v] w (fun e w => e = .returned (.tuple #[]) ∧ St w0 (ros) (row 3 (rI .i64) h8.v out :: rs) w) := by
  refine enterQ Try.func52 rfl Try.ntmps52 rfl fun Q hQ => ?_
  refine seqQ fun Q1 k1 z1 => ?_
  refine wp_region_lit ?_
  refine YB wn rfl (r_box (vals := [h2.v, h4.v, h6.v]) hst (et rfl rfl) rfl) ?_
  clear hst
  intro b9 w hst
  refine wpList_nil ?_
  refine k1 _ _ ?_
  refine seqQ fun Q2 k2 z2 => ?_
  refine wp_region_lit ?_
  refine YB wn rfl (rAl hst ZT_111) ?_
  clear hst
  intro b10 w hst
  replace hst : St w0 (ros) (row 111 (rI .i64) (arrH b10 2).v [0, 0] :: box b9 29 [h2.v, h4.v, h6.v] :: row 3 (rI .i64) h8.v x7 :: rs) w := hst.boxRow rfl rfl rfl
  refine wpList_nil ?_
  refine k2 _ _ ?_
  refine seqQ fun Q3 k3 z3 => ?_
  refine seqQ fun Q4 k4 z4 => ?_
  refine wp_region_lit ?_
  refine Y wn rfl (ym (v := h8.v) (et rfl rfl)) ?_
  refine Y wn rfl (yLen SL_22 (et rfl rfl) hst (rdO (mtR (mtR mhR)))) ?_
  refine Y wn rfl (ym (v := .int .i64 0) rfl) ?_
  refine wpList_nil ?_
  refine k4 _ _ ?_
  refine blockQ fun Q5 qb5 => ?_
  obtain ⟨o1, go1, hM⟩ := bs hM
  have je1_0 : ∀ (x25 : List Int) (f : Nat → Value) (w : World), f 1 = h8.v → f 2 = .pointer (some ⟨b9, 0, none⟩) → f 4 = .pointer (arrH b10 2).a → St w0 (ros) (row 3 (rI .i64) h8.v x7 :: box b9 29 [h2.v, h4.v, h6.v] :: row 111 (rI .i64) (arrH b10 2).v x25 :: rs) w → x25 = o1 → Q5 (.exit 0) (fr 133 f) w := by
    intro x25 f w eje1_0_1 eje1_0_2 eje1_0_4 hst ho
    subst ho
    refine qb5 _ _ _ ?_
    refine k3 _ _ ?_
    refine seqQ fun Q16 k16 z16 => ?_
    refine wp_region_lit ?_
    obtain ⟨x26, gx26, hM⟩ := bs hM
    refine Y wn rfl (yIaA AR_111 (et rfl eje1_0_4) rfl hst (rdO (mtR (mtR mhR))) rfl gx26) ?_
    refine Y wn rfl (yI O_3 (et rfl rfl) hst (rdO (mtR (mtR mhR))) gx26) ?_
    obtain ⟨x27, gx27, hM⟩ := bs hM
    refine Y wn rfl (yIaA AR_111 (et rfl eje1_0_4) rfl hst (rdO (mtR (mtR mhR))) rfl gx27) ?_
    refine Y wn rfl (yI O_3 (et rfl rfl) hst (rdO (mtR (mtR mhR))) gx27) ?_
    refine Y wn rfl (yadd (et rfl rfl) (et rfl rfl)) ?_
    refine Y wn rfl (ya (v := .int .i64 (wa .i64 x26 x27)) (et rfl rfl)) ?_
    refine wpList_nil ?_
    refine k16 _ _ ?_
    refine seqQ fun Q17 k17 z17 => ?_
    refine wp_region_lit ?_
    refine Y wn rfl (ym (v := .int .i64 0) rfl) ?_
    refine wpList_nil ?_
    refine k17 _ _ ?_
    refine blockQ fun Q18 qb18 => ?_
    obtain ⟨o52, go52, hM⟩ := bs hM
    have je52_0 : ∀ (x558 : List Int) (f : Nat → Value) (w : World), St w0 (ros) (row 3 (rI .i64) h8.v x558 :: rs) w → .inl x558 = o52 → Q18 (.exit 2) (fr 133 f) w := by
      intro x558 f w hst ho
      subst ho
      refine qb18 _ _ _ ?_
      obtain rfl := someI hM
      exact hQ _ _ _ (fin0n Try.results52 ⟨rfl, hst⟩)
    have je52_1 : ∀ (x559 : List Int) (f : Nat → Value) (w : World), St w0 (ros) (row 3 (rI .i64) h8.v x559 :: rs) w → .inr x559 = o52 → Q18 .ret (fr 133 f) w := by
      intro x559 f w hst ho
      subst ho
      refine qb18 _ _ _ ?_
      obtain rfl := someI hM
      exact hQ _ _ _ (fin0r Try.results52 ⟨rfl, hst⟩)
    refine loopQ (fun s a w => ∃ (x290 : List Int) (x291 : List Int) (x292 : Int) (f : Nat → Value), (x290, x291, x292) = s ∧ a = fr 133 f ∧ f 1 = h8.v ∧ f 2 = .pointer (some ⟨b9, 0, none⟩) ∧ f 4 = .pointer (arrH b10 2).a ∧ f 7 = .int .i64 (wa .i64 x26 x27) ∧ f 37 = .int .i64 x292 ∧ St w0 (ros) (row 3 (rI .i64) h8.v x290 :: box b9 29 [h2.v, h4.v, h6.v] :: row 111 (rI .i64) (arrH b10 2).v x291 :: rs) w) go52 ⟨_, _, _, _, rfl, rfl, eje1_0_1, eje1_0_2, eje1_0_4, rfl, rfl, hst⟩ ?_
    clear hst
    rintro _ _ w r52_ ⟨x290, x291, x292, f, rfl, rfl, e52_1, e52_2, e52_4, e52_7, e52_37, hst⟩ hM52 ho52 Q100052 n52 zz52
    refine seqQ fun Q229 k229 z229 => ?_
    refine wp_region_lit ?_
    refine Y wn rfl (ylss (et rfl e52_37) rfl) ?_
    refine wpList_nil ?_
    refine k229 _ _ ?_
    refine seqQ fun Q230 k230 z230 => ?_
    rcases iteS hM52 with ⟨c560, hM52⟩ | ⟨c560, hM52⟩
    · refine condT (et rfl rfl) (decide_eq_true c560) ?_
      refine wp_skip ?_
      refine k230 _ _ ?_
      refine seqQ fun Q231 k231 z231 => ?_
      refine blockQ fun Q232 qb232 => ?_
      refine seqQ fun Q233 k233 z233 => ?_
      refine wp_region_lit ?_
      refine Y wn rfl (ya (v := .bool false) rfl) ?_
      refine wpList_nil ?_
      refine k233 _ _ ?_
      refine seqQ fun Q234 k234 z234 => ?_
      refine seqQ fun Q235 k235 z235 => ?_
      refine wp_region_lit ?_
      refine Y wn rfl (ym (v := h8.v) (et rfl e52_1)) ?_
      refine Y wn rfl (yLen SL_22 (et rfl rfl) hst (rdO mhR)) ?_
      refine Y wn rfl (ym (v := .int .i64 0) rfl) ?_
      refine wpList_nil ?_
      refine k235 _ _ ?_
      refine blockQ fun Q236 qb236 => ?_
      obtain ⟨o69, go69, hM52⟩ := bs hM52
      have je69_0 : ∀ (x735 : List Int) (x736 : List Int) (x737 : Bool) (f : Nat → Value) (w : World), f 1 = h8.v → f 2 = .pointer (some ⟨b9, 0, none⟩) → f 4 = .pointer (arrH b10 2).a → f 7 = .int .i64 (wa .i64 x26 x27) → f 8 = .bool x737 → f 37 = .int .i64 x292 → St w0 (ros) (row 3 (rI .i64) h8.v x735 :: box b9 29 [h2.v, h4.v, h6.v] :: row 111 (rI .i64) (arrH b10 2).v x736 :: rs) w → (x735, x736, x737) = o69 → Q236 (.exit 4) (fr 133 f) w := by
        intro x735 x736 x737 f w eje69_0_1 eje69_0_2 eje69_0_4 eje69_0_7 eje69_0_8 eje69_0_37 hst ho
        subst ho
        refine qb236 _ _ _ ?_
        refine k234 _ _ ?_
        refine seqQ fun Q301 k301 z301 => ?_
        refine wp_region_lit ?_
        refine Y wn rfl (ym (v := .bool x737) (et rfl eje69_0_8)) ?_
        refine Y wn rfl (ynot (et rfl rfl)) ?_
        refine wpList_nil ?_
        refine k301 _ _ ?_
        rcases iteS hM52 with ⟨c738, hM52⟩ | ⟨c738, hM52⟩
        · refine condF (et rfl rfl) (nF c738) ?_
          refine wp_skip ?_
          refine qb232 _ _ _ ?_
          refine k231 _ _ ?_
          refine wp_region_lit ?_
          refine Y wn rfl (yadd (et rfl eje69_0_37) rfl) ?_
          refine Y wn rfl (ym (v := .int .i64 (wa .i64 x292 1)) (et rfl rfl)) ?_
          refine wpList_nil ?_
          obtain rfl := someI hM52
          exact n52 _ _ _ rfl ⟨_, _, _, _, rfl, rfl, eje69_0_1, eje69_0_2, eje69_0_4, eje69_0_7, rfl, hst⟩
        · refine condT (et rfl rfl) (nT (bfalse c738)) ?_
          refine wp_ret ?_
          refine qb232 _ _ _ ?_
          refine z231 _ _ _ rfl ?_
          obtain rfl := someI hM52
          refine zz52 _ _ _ _ rfl rfl ?_
          exact je52_1 _ _ _ (hst.pk 3 [0] rfl) (ho52 _ rfl)
      refine loopQ (fun s a w => ∃ (x644 : List Int) (x645 : List Int) (x646 : Bool) (x647 : Int) (f : Nat → Value), (x644, x645, x646, x647) = s ∧ a = fr 133 f ∧ f 1 = h8.v ∧ f 2 = .pointer (some ⟨b9, 0, none⟩) ∧ f 4 = .pointer (arrH b10 2).a ∧ f 7 = .int .i64 (wa .i64 x26 x27) ∧ f 8 = .bool x646 ∧ f 37 = .int .i64 x292 ∧ f 39 = h8.v ∧ f 40 = .int .i64 (x290.length : Int) ∧ f 41 = .int .i64 x647 ∧ St w0 (ros) (row 3 (rI .i64) h8.v x644 :: box b9 29 [h2.v, h4.v, h6.v] :: row 111 (rI .i64) (arrH b10 2).v x645 :: rs) w) go69 ⟨_, _, _, _, _, rfl, rfl, e52_1, e52_2, e52_4, e52_7, rfl, e52_37, rfl, rfl, rfl, hst⟩ ?_
      clear hst
      rintro _ _ w r69_ ⟨x644, x645, x646, x647, f, rfl, rfl, e69_1, e69_2, e69_4, e69_7, e69_8, e69_37, e69_39, e69_40, e69_41, hst⟩ hM69 ho69 Q100069 n69 zz69
      refine seqQ fun Q302 k302 z302 => ?_
      refine wp_region_lit ?_
      refine Y wn rfl (ylss (et rfl e69_41) (et rfl e69_40)) ?_
      refine wpList_nil ?_
      refine k302 _ _ ?_
      refine seqQ fun Q303 k303 z303 => ?_
      rcases iteS hM69 with ⟨c739, hM69⟩ | ⟨c739, hM69⟩
      · refine condT (et rfl rfl) (decide_eq_true c739) ?_
        refine wp_skip ?_
        refine k303 _ _ ?_
        refine seqQ fun Q304 k304 z304 => ?_
        refine blockQ fun Q305 qb305 => ?_
        refine seqQ fun Q306 k306 z306 => ?_
        refine wp_region_lit ?_
        refine Y wn rfl (ym (v := .int .i64 x647) (et rfl e69_41)) ?_
        obtain ⟨x740, gx740, hM69⟩ := bs hM69
        refine Y wn rfl (yIa SL_22 (et rfl e69_39) (et rfl e69_41) hst (rdO mhR) gx740) ?_
        refine Y wn rfl (yI O_3 (et rfl rfl) hst (rdO mhR) gx740) ?_
        refine Y wn rfl (ya (v := .int .i64 x647) (et rfl rfl)) ?_
        refine Y wn rfl (ya (v := .int .i64 x740) (et rfl rfl)) ?_
        refine wpList_nil ?_
        refine k306 _ _ ?_
        refine seqQ fun Q307 k307 z307 => ?_
        refine wp_region_lit ?_
        refine Y wn rfl (ya (v := .int .i64 0) rfl) ?_
        refine wpList_nil ?_
        refine k307 _ _ ?_
        refine seqQ fun Q308 k308 z308 => ?_
        refine seqQ fun Q309 k309 z309 => ?_
        refine wp_region_lit ?_
        refine Y wn rfl (yFb FL_29_0 (et rfl e69_2)) ?_
        refine Y wn rfl (yFb FL_27_0 (et rfl rfl)) ?_
        refine Y wn rfl (yLb (u := h2.v) O_25 (et rfl rfl) hst (mtR mhR) rfl) ?_
        refine Y wn rfl (ym (v := .int .i64 x647) (et rfl rfl)) ?_
        obtain ⟨x741, gx741, hM69⟩ := bs hM69
        refine Y wn rfl (yIa SL_25 (et rfl rfl) (et rfl rfl) hst (rdI q1) gx741) ?_
        obtain ⟨h742, hst⟩ := iLs hst q1 gx741
        refine Y wn rfl (yCt O_22 (et rfl rfl) hst (mtF mhF) rfl) ?_
        refine Y wn rfl (yLen SL_22 (et rfl rfl) hst (rdI mhF)) ?_
        refine Y wn rfl (ym (v := .int .i64 0) rfl) ?_
        refine wpList_nil ?_
        refine k309 _ _ ?_
        refine blockQ fun Q310 qb310 => ?_
        obtain ⟨o72, go72, hM69⟩ := bs hM69
        have je72_0 : ∀ (x781 : Int) (f : Nat → Value) (w : World), f 1 = h8.v → f 2 = .pointer (some ⟨b9, 0, none⟩) → f 4 = .pointer (arrH b10 2).a → f 7 = .int .i64 (wa .i64 x26 x27) → f 8 = .bool x646 → f 9 = .int .i64 x647 → f 10 = .int .i64 x740 → f 11 = .int .i64 x781 → f 37 = .int .i64 x292 → f 39 = h8.v → f 40 = .int .i64 (x290.length : Int) → f 41 = .int .i64 x647 → St w0 (ros) (row 3 (rI .i64) h8.v x644 :: box b9 29 [h2.v, h4.v, h6.v] :: row 111 (rI .i64) (arrH b10 2).v x645 :: rs) w → x781 = o72 → Q310 (.exit 6) (fr 133 f) w := by
          intro x781 f w eje72_0_1 eje72_0_2 eje72_0_4 eje72_0_7 eje72_0_8 eje72_0_9 eje72_0_10 eje72_0_11 eje72_0_37 eje72_0_39 eje72_0_40 eje72_0_41 hst ho
          subst ho
          refine qb310 _ _ _ ?_
          refine k308 _ _ ?_
          refine seqQ fun Q323 k323 z323 => ?_
          obtain ⟨r782, gr782, hM69⟩ := bs hM69
          refine joinN (n := 133) (fun f w => f 1 = h8.v ∧ f 2 = .pointer (some ⟨b9, 0, none⟩) ∧ f 4 = .pointer (arrH b10 2).a ∧ f 7 = .int .i64 (wa .i64 x26 x27) ∧ f 8 = .bool x646 ∧ f 9 = .int .i64 x647 ∧ f 10 = .int .i64 x740 ∧ f 37 = .int .i64 x292 ∧ f 39 = h8.v ∧ f 40 = .int .i64 (x290.length : Int) ∧ f 41 = .int .i64 x647 ∧ f 102 = .bool r782 ∧ St w0 (ros) (row 3 (rI .i64) h8.v x644 :: box b9 29 [h2.v, h4.v, h6.v] :: row 111 (rI .i64) (arrH b10 2).v x645 :: rs) w) (fun j73 => ?_) ?_
          · rcases iteS gr782 with ⟨c784, gr782⟩ | ⟨c784, gr782⟩
            · obtain ⟨x785, gx785, gr782⟩ := bs gr782
              obtain ⟨x786, gx786, gr782⟩ := bs gr782
              have hr74 := someI gr782
              refine wp_drawR [0, 1, 3, 7, 15, 31, 63, 7, 135, 7, 903, 1927, 4095, 8191, 7, 16391, 65535, 131071] [] 0 folM (by kernel_rfl) (by kernel_rfl) (by kernel_rfl) ?_
              replace hst := hst.drew
              refine DRz (l1 := [0, 1, 2, 3, 4, 5, 6, 7, 8, 9, 10, 11, 12, 13, 14, 15, 16, 17]) (l2 := []) (by kernel_rfl) (by kernel_rfl) ?_
              refine Ry rfl rfl wn (ym (v := .int .i64 x781) (et rfl eje72_0_11)) ?_
              refine Ry rfl rfl wn (ygtr (et rfl rfl) rfl) ?_
              refine Ry rfl rfl wn (ym (v := .bool (decide ((0 : Int) < x781))) (et rfl rfl)) ?_
              refine Ry rfl rfl (wg rfl rfl rfl (decide_eq_true c784)) (ym (v := .int .i64 x740) (et rfl eje72_0_10)) ?_
              refine Ry rfl rfl (wg rfl rfl rfl (decide_eq_true c784)) (ysub rfl (et rfl rfl)) ?_
              refine Ry rfl rfl (wg rfl rfl rfl (decide_eq_true c784)) (yIaA AR_111 (et rfl eje72_0_4) (et rfl rfl) hst (rdO (mtR (mtR mhR))) rfl gx785) ?_
              refine Ry rfl rfl (wg rfl rfl rfl (decide_eq_true c784)) (yI O_3 (et rfl rfl) hst (rdO (mtR (mtR mhR))) gx785) ?_
              refine Ry rfl rfl (wg rfl rfl rfl (decide_eq_true c784)) (yFb FL_29_1 (et rfl eje72_0_2)) ?_
              refine Ry rfl rfl (wg rfl rfl rfl (decide_eq_true c784)) (yLb (u := h4.v) O_22 (et rfl rfl) hst (mtR mhR) rfl) ?_
              refine Ry rfl rfl (wg rfl rfl rfl (decide_eq_true c784)) (ym (v := .int .i64 x647) (et rfl eje72_0_9)) ?_
              refine Ry rfl rfl (wg rfl rfl rfl (decide_eq_true c784)) (yIa SL_22 (et rfl rfl) (et rfl rfl) hst (rdI q2) gx786) ?_
              refine Ry rfl rfl (wg rfl rfl rfl (decide_eq_true c784)) (yI O_3 (et rfl rfl) hst (rdI q2) gx786) ?_
              refine Ry rfl rfl (wg rfl rfl rfl (decide_eq_true c784)) (yadd (et rfl rfl) (et rfl rfl)) ?_
              refine Ry rfl rfl (wg rfl rfl rfl (decide_eq_true c784)) (ymul rfl (et rfl rfl)) ?_
              refine Ry rfl rfl (wg rfl rfl rfl (decide_eq_true c784)) (ym (v := .int .i64 (wa .i64 x26 x27)) (et rfl eje72_0_7)) ?_
              refine Ry rfl rfl (wg rfl rfl rfl (decide_eq_true c784)) (ymul rfl (et rfl rfl)) ?_
              refine Ry rfl rfl (wg rfl rfl rfl (decide_eq_true c784)) (yleq (et rfl rfl) (et rfl rfl)) ?_
              refine Ry rfl rfl wn (ypt (v := .bool r782) (et rfl rfl) (decide_eq_true c784) (eqv hr74 (et rfl rfl))) ?_
              refine Rn QSn ?_
              exact j73 _ _ ⟨eje72_0_1, eje72_0_2, eje72_0_4, eje72_0_7, eje72_0_8, eje72_0_9, eje72_0_10, eje72_0_37, eje72_0_39, eje72_0_40, eje72_0_41, rfl, hst⟩
            · have hr75 := someI gr782
              refine wp_drawR [0, 1, 3, 7, 15, 31, 63, 7, 135, 7, 903, 1927, 4095, 8191, 7, 16391, 65535, 131071] [] 0 folM (by kernel_rfl) (by kernel_rfl) (by kernel_rfl) ?_
              replace hst := hst.drew
              refine DRz (l1 := [0, 1, 2, 3, 4, 5, 6, 7, 8, 9, 10, 11, 12, 13, 14, 15, 16, 17]) (l2 := []) (by kernel_rfl) (by kernel_rfl) ?_
              refine Ry rfl rfl wn (ym (v := .int .i64 x781) (et rfl eje72_0_11)) ?_
              refine Ry rfl rfl wn (ygtr (et rfl rfl) rfl) ?_
              refine Ry rfl rfl wn (ym (v := .bool (decide ((0 : Int) < x781))) (et rfl rfl)) ?_
              refine Rx rfl rfl (wx rfl rfl rfl (decide_eq_false c784)) ?_
              refine Rx rfl rfl (wx rfl rfl rfl (decide_eq_false c784)) ?_
              refine Rx rfl rfl (wx rfl rfl rfl (decide_eq_false c784)) ?_
              refine Rx rfl rfl (wx rfl rfl rfl (decide_eq_false c784)) ?_
              refine Rx rfl rfl (wx rfl rfl rfl (decide_eq_false c784)) ?_
              refine Rx rfl rfl (wx rfl rfl rfl (decide_eq_false c784)) ?_
              refine Rx rfl rfl (wx rfl rfl rfl (decide_eq_false c784)) ?_
              refine Rx rfl rfl (wx rfl rfl rfl (decide_eq_false c784)) ?_
              refine Rx rfl rfl (wx rfl rfl rfl (decide_eq_false c784)) ?_
              refine Rx rfl rfl (wx rfl rfl rfl (decide_eq_false c784)) ?_
              refine Rx rfl rfl (wx rfl rfl rfl (decide_eq_false c784)) ?_
              refine Rx rfl rfl (wx rfl rfl rfl (decide_eq_false c784)) ?_
              refine Rx rfl rfl (wx rfl rfl rfl (decide_eq_false c784)) ?_
              refine Rx rfl rfl (wx rfl rfl rfl (decide_eq_false c784)) ?_
              refine Ry rfl rfl wn (ypf (v := .bool r782) (et rfl rfl) (decide_eq_false c784) (eqv hr75 rfl)) ?_
              refine Rn QSn ?_
              exact j73 _ _ ⟨eje72_0_1, eje72_0_2, eje72_0_4, eje72_0_7, eje72_0_8, eje72_0_9, eje72_0_10, eje72_0_37, eje72_0_39, eje72_0_40, eje72_0_41, rfl, hst⟩
          clear hst
          rintro f w ⟨e783_1, e783_2, e783_4, e783_7, e783_8, e783_9, e783_10, e783_37, e783_39, e783_40, e783_41, e783_102, hst⟩
          refine k323 _ _ ?_
          have j76 : ∀ (x794 : List Int) (x795 : List Int) (x796 : Bool) (f : Nat → Value) (w : World), f 1 = h8.v → f 2 = .pointer (some ⟨b9, 0, none⟩) → f 4 = .pointer (arrH b10 2).a → f 7 = .int .i64 (wa .i64 x26 x27) → f 8 = .bool x796 → f 37 = .int .i64 x292 → f 39 = h8.v → f 40 = .int .i64 (x290.length : Int) → f 41 = .int .i64 x647 → St w0 (ros) (row 3 (rI .i64) h8.v x794 :: box b9 29 [h2.v, h4.v, h6.v] :: row 111 (rI .i64) (arrH b10 2).v x795 :: rs) w → dissect_refine_j76 x647 x794 x795 x796 = some r69_ → Q305 .normal (fr 133 f) w := by
            intro x794 x795 x796 f w ej76_1 ej76_2 ej76_4 ej76_7 ej76_8 ej76_37 ej76_39 ej76_40 ej76_41 hst hM
            refine qb305 _ _ _ ?_
            refine k304 _ _ ?_
            refine wp_region_lit ?_
            refine Y wn rfl (yadd (et rfl ej76_41) rfl) ?_
            refine Y wn rfl (ym (v := .int .i64 (wa .i64 x647 1)) (et rfl rfl)) ?_
            refine wpList_nil ?_
            obtain rfl := someI hM
            exact n69 _ _ _ rfl ⟨_, _, _, _, _, rfl, rfl, ej76_1, ej76_2, ej76_4, ej76_7, ej76_8, ej76_37, ej76_39, ej76_40, rfl, hst⟩
          rcases iteS hM69 with ⟨c797, hM69⟩ | ⟨c797, hM69⟩
          · refine condT (et rfl e783_102) c797 ?_
            refine seqQ fun Q326 k326 z326 => ?_
            refine wp_region_lit ?_
            refine Y wn rfl (ym (v := h8.v) (et rfl e783_1)) ?_
            refine Y wn rfl (ym (v := .int .i64 x647) (et rfl e783_9)) ?_
            refine Y wn rfl (ym (v := .int .i64 x740) (et rfl e783_10)) ?_
            refine Y wn rfl (ysub rfl (et rfl rfl)) ?_
            obtain ⟨x798, gx798, hM69⟩ := bs hM69
            refine Y wn rfl (yIs SL_22 (et rfl rfl) (et rfl rfl) hst (rdO mhR) gx798) ?_
            refine YT wn rfl (r_sti (cs := [.int .i64 (ws .i64 1 x740)]) hst O_3 rfl (et rfl rfl) (et rfl rfl) rfl mkI gx798) ?_
            clear hst
            intro w hst
            refine Y wn rfl (ya (v := .bool true) rfl) ?_
            refine wpList_nil ?_
            refine k326 _ _ ?_
            refine seqQ fun Q327 k327 z327 => ?_
            obtain ⟨x799, gx799, hM69⟩ := bs hM69
            obtain ⟨x800, gx800, hM69⟩ := bs hM69
            obtain ⟨x801, gx801, hM69⟩ := bs hM69
            refine wp_drawR [0, 1, 3, 0, 8, 0, 56, 120, 255, 511, 1023] [10] 1 folM (by kernel_rfl) (by kernel_rfl) (by kernel_rfl) ?_
            replace hst := hst.drew
            refine DRn (l1 := [0, 1, 2, 3, 4, 5, 6, 7, 8, 9]) (l2 := []) (lc := [10]) (by kernel_rfl) (by kernel_rfl) (by kernel_rfl) ?_
            refine Ry rfl rfl wn (ym (v := .int .i64 x740) (et rfl e783_10)) ?_
            refine Ry rfl rfl wn (yIaA AR_111 (et rfl e783_4) (et rfl rfl) hst (rdO (mtR (mtR mhR))) rfl gx799) ?_
            refine Ry rfl rfl wn (yI O_3 (et rfl rfl) hst (rdO (mtR (mtR mhR))) gx799) ?_
            refine Ry rfl rfl wn (yFb FL_29_1 (et rfl e783_2)) ?_
            refine Ry rfl rfl wn (yLb (u := h4.v) O_22 (et rfl rfl) hst (mtR mhR) rfl) ?_
            refine Ry rfl rfl wn (ym (v := .int .i64 x647) (et rfl e783_9)) ?_
            refine Ry rfl rfl wn (yIa SL_22 (et rfl rfl) (et rfl rfl) hst (rdI q2) gx800) ?_
            refine Ry rfl rfl wn (yI O_3 (et rfl rfl) hst (rdI q2) gx800) ?_
            refine Ry rfl rfl wn (ysub (et rfl rfl) (et rfl rfl)) ?_
            refine Ry rfl rfl wn (yIsA AR_111 (et rfl e783_4) (et rfl rfl) hst (rdO (mtR (mtR mhR))) rfl gx801) ?_
            refine Rn QSn ?_
            refine Lc rfl ?_ LAn
            replace hst := hst.pk 3 [2, 0, 0] rfl
            refine LT wn (r_sti (cs := [.int .i64 (ws .i64 x799 x800)]) hst O_3 rfl (et rfl rfl) (et rfl rfl) rfl mkI gx801) ?_
            clear hst
            intro w hst
            refine DRz (l1 := []) (l2 := []) (by kernel_rfl) (by kernel_rfl) ?_
            refine Rn QSn ?_
            refine k327 _ _ ?_
            obtain ⟨x802, gx802, hM69⟩ := bs hM69
            obtain ⟨x803, gx803, hM69⟩ := bs hM69
            obtain ⟨x804, gx804, hM69⟩ := bs hM69
            refine wp_drawR [0, 1, 3, 7, 0, 16, 0, 112, 240, 511, 1023, 2047] [11] 1 folM (by kernel_rfl) (by kernel_rfl) (by kernel_rfl) ?_
            replace hst := hst.drew
            refine DRn (l1 := [0, 1, 2, 3, 4, 5, 6, 7, 8, 9, 10]) (l2 := []) (lc := [11]) (by kernel_rfl) (by kernel_rfl) (by kernel_rfl) ?_
            refine Ry rfl rfl wn (ym (v := .int .i64 x740) (et rfl e783_10)) ?_
            refine Ry rfl rfl wn (ysub rfl (et rfl rfl)) ?_
            refine Ry rfl rfl wn (yIaA AR_111 (et rfl e783_4) (et rfl rfl) hst (rdO mhR) rfl gx802) ?_
            refine Ry rfl rfl wn (yI O_3 (et rfl rfl) hst (rdO mhR) gx802) ?_
            refine Ry rfl rfl wn (yFb FL_29_1 (et rfl e783_2)) ?_
            refine Ry rfl rfl wn (yLb (u := h4.v) O_22 (et rfl rfl) hst (mtR (mtR mhR)) rfl) ?_
            refine Ry rfl rfl wn (ym (v := .int .i64 x647) (et rfl e783_9)) ?_
            refine Ry rfl rfl wn (yIa SL_22 (et rfl rfl) (et rfl rfl) hst (rdI q2) gx803) ?_
            refine Ry rfl rfl wn (yI O_3 (et rfl rfl) hst (rdI q2) gx803) ?_
            refine Ry rfl rfl wn (yadd (et rfl rfl) (et rfl rfl)) ?_
            refine Ry rfl rfl wn (yIsA AR_111 (et rfl e783_4) (et rfl rfl) hst (rdO mhR) rfl gx804) ?_
            refine Rn QSn ?_
            refine Lc rfl ?_ LAn
            refine LT wn (r_sti (cs := [.int .i64 (wa .i64 x802 x803)]) hst O_3 rfl (et rfl rfl) (et rfl rfl) rfl mkI gx804) ?_
            clear hst
            intro w hst
            refine DRz (l1 := []) (l2 := []) (by kernel_rfl) (by kernel_rfl) ?_
            refine Rn QSn ?_
            exact j76 _ _ _ _ _ e783_1 e783_2 e783_4 e783_7 rfl e783_37 e783_39 e783_40 e783_41 (hst.pk 3 [1, 1, 0] rfl) hM69
          · refine condF (et rfl e783_102) (bfalse c797) ?_
            refine wp_skip ?_
            exact j76 _ _ _ _ _ e783_1 e783_2 e783_4 e783_7 e783_8 e783_37 e783_39 e783_40 e783_41 hst hM69
        refine loopQ (fun s a w => ∃ (x760 : Int) (x761 : Int) (f : Nat → Value), (x760, x761) = s ∧ a = fr 133 f ∧ f 1 = h8.v ∧ f 2 = .pointer (some ⟨b9, 0, none⟩) ∧ f 4 = .pointer (arrH b10 2).a ∧ f 7 = .int .i64 (wa .i64 x26 x27) ∧ f 8 = .bool x646 ∧ f 9 = .int .i64 x647 ∧ f 10 = .int .i64 x740 ∧ f 11 = .int .i64 x760 ∧ f 37 = .int .i64 x292 ∧ f 39 = h8.v ∧ f 40 = .int .i64 (x290.length : Int) ∧ f 41 = .int .i64 x647 ∧ f 51 = h742.v ∧ f 52 = .int .i64 (x741.length : Int) ∧ f 53 = .int .i64 x761 ∧ St w0 (imm (rI .i64) h742.v x741 :: ros) (row 3 (rI .i64) h8.v x644 :: box b9 29 [h2.v, h4.v, h6.v] :: row 111 (rI .i64) (arrH b10 2).v x645 :: rs) w) go72 ⟨_, _, _, rfl, rfl, e69_1, e69_2, e69_4, e69_7, e69_8, rfl, rfl, rfl, e69_37, e69_39, e69_40, e69_41, rfl, rfl, rfl, (hst.facts (allC mhF (allT (allT allI))))⟩ ?_
        clear hst
        rintro _ _ w r72_ ⟨x760, x761, f, rfl, rfl, e72_1, e72_2, e72_4, e72_7, e72_8, e72_9, e72_10, e72_11, e72_37, e72_39, e72_40, e72_41, e72_51, e72_52, e72_53, hst⟩ hM72 ho72 Q100072 n72 zz72
        refine seqQ fun Q328 k328 z328 => ?_
        refine wp_region_lit ?_
        refine Y wn rfl (ylss (et rfl e72_53) (et rfl e72_52)) ?_
        refine wpList_nil ?_
        refine k328 _ _ ?_
        refine seqQ fun Q329 k329 z329 => ?_
        rcases iteS hM72 with ⟨c805, hM72⟩ | ⟨c805, hM72⟩
        · refine condT (et rfl rfl) (decide_eq_true c805) ?_
          refine wp_skip ?_
          refine k329 _ _ ?_
          refine seqQ fun Q330 k330 z330 => ?_
          refine blockQ fun Q331 qb331 => ?_
          refine seqQ fun Q332 k332 z332 => ?_
          refine wp_region_lit ?_
          refine Y wn rfl (ym (v := .int .i64 x761) (et rfl e72_53)) ?_
          obtain ⟨x806, gx806, hM72⟩ := bs hM72
          refine Y wn rfl (yIa SL_22 (et rfl e72_51) (et rfl e72_53) hst (rdI mhF) gx806) ?_
          refine Y wn rfl (yI O_3 (et rfl rfl) hst (rdI mhF) gx806) ?_
          refine Y wn rfl (ya (v := .int .i64 x761) (et rfl rfl)) ?_
          refine Y wn rfl (ya (v := .int .i64 x806) (et rfl rfl)) ?_
          refine wpList_nil ?_
          refine k332 _ _ ?_
          refine seqQ fun Q333 k333 z333 => ?_
          refine wp_region_lit ?_
          refine Y wn rfl (ym (v := h8.v) (et rfl e72_1)) ?_
          refine Y wn rfl (ym (v := .int .i64 x806) (et rfl rfl)) ?_
          obtain ⟨x807, gx807, hM72⟩ := bs hM72
          refine Y wn rfl (yIa SL_22 (et rfl rfl) (et rfl rfl) hst (rdO mhR) gx807) ?_
          refine Y wn rfl (yI O_3 (et rfl rfl) hst (rdO mhR) gx807) ?_
          refine Y wn rfl (ym (v := .int .i64 x740) (et rfl e72_10)) ?_
          refine Y wn rfl (yneq (et rfl rfl) (et rfl rfl)) ?_
          refine wpList_nil ?_
          refine k333 _ _ ?_
          have j77 : ∀ (x814 : Int) (f : Nat → Value) (w : World), f 1 = h8.v → f 2 = .pointer (some ⟨b9, 0, none⟩) → f 4 = .pointer (arrH b10 2).a → f 7 = .int .i64 (wa .i64 x26 x27) → f 8 = .bool x646 → f 9 = .int .i64 x647 → f 10 = .int .i64 x740 → f 11 = .int .i64 x814 → f 37 = .int .i64 x292 → f 39 = h8.v → f 40 = .int .i64 (x290.length : Int) → f 41 = .int .i64 x647 → f 51 = h742.v → f 52 = .int .i64 (x741.length : Int) → f 53 = .int .i64 x761 → St w0 (imm (rI .i64) h742.v x741 :: ros) (row 3 (rI .i64) h8.v x644 :: box b9 29 [h2.v, h4.v, h6.v] :: row 111 (rI .i64) (arrH b10 2).v x645 :: rs) w → dissect_refine_j77 x761 x814 = some r72_ → Q331 .normal (fr 133 f) w := by
            intro x814 f w ej77_1 ej77_2 ej77_4 ej77_7 ej77_8 ej77_9 ej77_10 ej77_11 ej77_37 ej77_39 ej77_40 ej77_41 ej77_51 ej77_52 ej77_53 hst hM
            refine qb331 _ _ _ ?_
            refine k330 _ _ ?_
            refine wp_region_lit ?_
            refine Y wn rfl (yadd (et rfl ej77_53) rfl) ?_
            refine Y wn rfl (ym (v := .int .i64 (wa .i64 x761 1)) (et rfl rfl)) ?_
            refine wpList_nil ?_
            obtain rfl := someI hM
            exact n72 _ _ _ rfl ⟨_, _, _, rfl, rfl, ej77_1, ej77_2, ej77_4, ej77_7, ej77_8, ej77_9, ej77_10, ej77_11, ej77_37, ej77_39, ej77_40, ej77_41, ej77_51, ej77_52, rfl, hst⟩
          rcases iteS hM72 with ⟨c815, hM72⟩ | ⟨c815, hM72⟩
          · refine condF (et rfl rfl) (nF (decide_eq_true c815)) ?_
            refine wp_region_lit ?_
            refine Y wn rfl (ym (v := .int .i64 x760) (et rfl e72_11)) ?_
            refine Y wn rfl (yFb FL_29_2 (et rfl e72_2)) ?_
            refine Y wn rfl (yLb (u := h6.v) O_25 (et rfl rfl) hst (mtR mhR) rfl) ?_
            refine Y wn rfl (ym (v := .int .i64 x647) (et rfl e72_9)) ?_
            obtain ⟨x816, gx816, hM72⟩ := bs hM72
            refine Y wn rfl (yIa SL_25 (et rfl rfl) (et rfl rfl) hst (rdI (mtF q3)) gx816) ?_
            obtain ⟨h817, hst⟩ := iLs hst (mtF q3) gx816
            refine Y wn rfl (yCt O_22 (et rfl rfl) hst (mtF mhF) rfl) ?_
            refine Y wn rfl (ym (v := .int .i64 x761) (et rfl rfl)) ?_
            obtain ⟨x818, gx818, hM72⟩ := bs hM72
            refine Y wn rfl (yIa SL_22 (et rfl rfl) (et rfl rfl) hst (rdI mhF) gx818) ?_
            refine Y wn rfl (yI O_3 (et rfl rfl) hst (rdI mhF) gx818) ?_
            refine Y wn rfl (ysub (et rfl rfl) (et rfl rfl)) ?_
            refine Y wn rfl (ya (v := .int .i64 (ws .i64 x760 x818)) (et rfl rfl)) ?_
            refine wpList_nil ?_
            exact j77 _ _ _ e72_1 e72_2 e72_4 e72_7 e72_8 e72_9 e72_10 rfl e72_37 e72_39 e72_40 e72_41 e72_51 e72_52 e72_53 (hst.facts (allC (mtF (mtF mhF)) (allT (allT (allT allI))))) hM72
          · refine condT (et rfl rfl) (nT (decide_eq_false c815)) ?_
            refine wp_region_lit ?_
            refine Y wn rfl (ym (v := .int .i64 x760) (et rfl e72_11)) ?_
            refine Y wn rfl (yFb FL_29_2 (et rfl e72_2)) ?_
            refine Y wn rfl (yLb (u := h6.v) O_25 (et rfl rfl) hst (mtR mhR) rfl) ?_
            refine Y wn rfl (ym (v := .int .i64 x647) (et rfl e72_9)) ?_
            obtain ⟨x819, gx819, hM72⟩ := bs hM72
            refine Y wn rfl (yIa SL_25 (et rfl rfl) (et rfl rfl) hst (rdI (mtF q3)) gx819) ?_
            obtain ⟨h820, hst⟩ := iLs hst (mtF q3) gx819
            refine Y wn rfl (yCt O_22 (et rfl rfl) hst (mtF mhF) rfl) ?_
            refine Y wn rfl (ym (v := .int .i64 x761) (et rfl rfl)) ?_
            obtain ⟨x821, gx821, hM72⟩ := bs hM72
            refine Y wn rfl (yIa SL_22 (et rfl rfl) (et rfl rfl) hst (rdI mhF) gx821) ?_
            refine Y wn rfl (yI O_3 (et rfl rfl) hst (rdI mhF) gx821) ?_
            refine Y wn rfl (yadd (et rfl rfl) (et rfl rfl)) ?_
            refine Y wn rfl (ya (v := .int .i64 (wa .i64 x760 x821)) (et rfl rfl)) ?_
            refine wpList_nil ?_
            exact j77 _ _ _ e72_1 e72_2 e72_4 e72_7 e72_8 e72_9 e72_10 rfl e72_37 e72_39 e72_40 e72_41 e72_51 e72_52 e72_53 (hst.facts (allC (mtF (mtF mhF)) (allT (allT (allT allI))))) hM72
        · refine condF (et rfl rfl) (decide_eq_false c805) ?_
          refine wp_exit ?_
          refine z329 _ _ _ rfl ?_
          obtain rfl := someI hM72
          refine zz72 _ _ _ _ rfl rfl ?_
          exact je72_0 _ _ _ e72_1 e72_2 e72_4 e72_7 e72_8 e72_9 e72_10 e72_11 e72_37 e72_39 e72_40 e72_41 (hst.facts (allT allI)) (ho72 _ rfl)
      · refine condF (et rfl rfl) (decide_eq_false c739) ?_
        refine wp_exit ?_
        refine z303 _ _ _ rfl ?_
        obtain rfl := someI hM69
        refine zz69 _ _ _ _ rfl rfl ?_
        exact je69_0 _ _ _ _ _ e69_1 e69_2 e69_4 e69_7 e69_8 e69_37 hst (ho69 _ rfl)
    · refine condF (et rfl rfl) (decide_eq_false c560) ?_
      refine wp_exit ?_
      refine z230 _ _ _ rfl ?_
      obtain rfl := someI hM52
      refine zz52 _ _ _ _ rfl rfl ?_
      exact je52_0 _ _ _ (hst.pk 3 [0] rfl) (ho52 _ rfl)
  refine loopQ (fun s a w => ∃ (x16 : List Int) (x17 : Int) (f : Nat → Value), (x16, x17) = s ∧ a = fr 133 f ∧ f 1 = h8.v ∧ f 2 = .pointer (some ⟨b9, 0, none⟩) ∧ f 4 = .pointer (arrH b10 2).a ∧ f 14 = h8.v ∧ f 15 = .int .i64 (x7.length : Int) ∧ f 16 = .int .i64 x17 ∧ St w0 (ros) (row 3 (rI .i64) h8.v x7 :: box b9 29 [h2.v, h4.v, h6.v] :: row 111 (rI .i64) (arrH b10 2).v x16 :: rs) w) go1 ⟨_, _, _, rfl, rfl, rfl, rfl, rfl, rfl, rfl, rfl, (hst.pk 3 [2, 1, 0] rfl)⟩ ?_
  clear hst
  rintro _ _ w r1_ ⟨x16, x17, f, rfl, rfl, e1_1, e1_2, e1_4, e1_14, e1_15, e1_16, hst⟩ hM1 ho1 Q100001 n1 zz1
  refine seqQ fun Q334 k334 z334 => ?_
  refine wp_region_lit ?_
  refine Y wn rfl (ylss (et rfl e1_16) (et rfl e1_15)) ?_
  refine wpList_nil ?_
  refine k334 _ _ ?_
  refine seqQ fun Q335 k335 z335 => ?_
  rcases iteS hM1 with ⟨c822, hM1⟩ | ⟨c822, hM1⟩
  · refine condT (et rfl rfl) (decide_eq_true c822) ?_
    refine wp_skip ?_
    refine k335 _ _ ?_
    refine seqQ fun Q336 k336 z336 => ?_
    refine blockQ fun Q337 qb337 => ?_
    refine seqQ fun Q338 k338 z338 => ?_
    refine wp_region_lit ?_
    refine Y wn rfl (ym (v := .int .i64 x17) (et rfl e1_16)) ?_
    obtain ⟨x823, gx823, hM1⟩ := bs hM1
    refine Y wn rfl (yIa SL_22 (et rfl e1_14) (et rfl e1_16) hst (rdO mhR) gx823) ?_
    refine Y wn rfl (yI O_3 (et rfl rfl) hst (rdO mhR) gx823) ?_
    refine Y wn rfl (ya (v := .int .i64 x17) (et rfl rfl)) ?_
    refine Y wn rfl (ya (v := .int .i64 x823) (et rfl rfl)) ?_
    refine wpList_nil ?_
    refine k338 _ _ ?_
    obtain ⟨x824, gx824, hM1⟩ := bs hM1
    obtain ⟨x825, gx825, hM1⟩ := bs hM1
    obtain ⟨x826, gx826, hM1⟩ := bs hM1
    refine wp_drawR [0, 1, 3, 0, 8, 0, 56, 120, 255, 511, 1023] [10] 1 folM (by kernel_rfl) (by kernel_rfl) (by kernel_rfl) ?_
    replace hst := hst.drew
    refine DRn (l1 := [0, 1, 2, 3, 4, 5, 6, 7, 8, 9]) (l2 := []) (lc := [10]) (by kernel_rfl) (by kernel_rfl) (by kernel_rfl) ?_
    refine Ry rfl rfl wn (ym (v := .int .i64 x823) (et rfl rfl)) ?_
    refine Ry rfl rfl wn (yIaA AR_111 (et rfl e1_4) (et rfl rfl) hst (rdO (mtR (mtR mhR))) rfl gx824) ?_
    refine Ry rfl rfl wn (yI O_3 (et rfl rfl) hst (rdO (mtR (mtR mhR))) gx824) ?_
    refine Ry rfl rfl wn (yFb FL_29_1 (et rfl e1_2)) ?_
    refine Ry rfl rfl wn (yLb (u := h4.v) O_22 (et rfl rfl) hst (mtR mhR) rfl) ?_
    refine Ry rfl rfl wn (ym (v := .int .i64 x17) (et rfl rfl)) ?_
    refine Ry rfl rfl wn (yIa SL_22 (et rfl rfl) (et rfl rfl) hst (rdI q2) gx825) ?_
    refine Ry rfl rfl wn (yI O_3 (et rfl rfl) hst (rdI q2) gx825) ?_
    refine Ry rfl rfl wn (yadd (et rfl rfl) (et rfl rfl)) ?_
    refine Ry rfl rfl wn (yIsA AR_111 (et rfl e1_4) (et rfl rfl) hst (rdO (mtR (mtR mhR))) rfl gx826) ?_
    refine Rn QSn ?_
    refine Lc rfl ?_ LAn
    replace hst := hst.pk 3 [2, 0, 0] rfl
    refine LT wn (r_sti (cs := [.int .i64 (wa .i64 x824 x825)]) hst O_3 rfl (et rfl rfl) (et rfl rfl) rfl mkI gx826) ?_
    clear hst
    intro w hst
    refine DRz (l1 := []) (l2 := []) (by kernel_rfl) (by kernel_rfl) ?_
    refine Rn QSn ?_
    refine qb337 _ _ _ ?_
    refine k336 _ _ ?_
    refine wp_region_lit ?_
    refine Y wn rfl (yadd (et rfl e1_16) rfl) ?_
    refine Y wn rfl (ym (v := .int .i64 (wa .i64 x17 1)) (et rfl rfl)) ?_
    refine wpList_nil ?_
    obtain rfl := someI hM1
    exact n1 _ _ _ rfl ⟨_, _, _, rfl, rfl, e1_1, e1_2, e1_4, e1_14, e1_15, rfl, (hst.pk 3 [1, 1, 0] rfl)⟩
  · refine condF (et rfl rfl) (decide_eq_false c822) ?_
    refine wp_exit ?_
    refine z335 _ _ _ rfl ?_
    obtain rfl := someI hM1
    refine zz1 _ _ _ _ rfl rfl ?_
    exact je1_0 _ _ _ e1_1 e1_2 e1_4 hst (ho1 _ rfl)

theorem dissect_bisect_step {rec : (List (List Int)) → (List Int) → (List (List Int)) → Option ((List Int) × Bool)} (hrec : ∀ {w0 : World} {ros : List Fact} {rs : List Res} {w : World} {x1 : List (List Int)} {x3 : List Int} {x5 : List (List Int)} {h2 : Hdr} {h4 : Hdr} {h6 : Hdr} {out : (List Int) × Bool} (hM : rec x1 x3 x5 = some out) (q1 : imm (rS (rI .i64)) h2.v x1 ∈ ros) (q2 : imm (rI .i64) h4.v x3 ∈ ros) (q3 : imm (rS (rI .i64)) h6.v x5 ∈ ros) (hst : St w0 ros (rs) w), Calls Try.prog 32 #[.agg #[h2.v, h4.v, h6.v]] w (fun e w => ∃ (h100001 : Hdr), e = .returned (.tuple #[h100001.v, .bool out.2]) ∧ St w0 (ros) (row 3 (rI .i64) h100001.v out.1 :: rs) w)) {w0 : World} {ros : List Fact} {rs : List Res} {w : World} {x1 : List (List Int)} {x3 : List Int} {x5 : List (List Int)} {h2 : Hdr} {h4 : Hdr} {h6 : Hdr} {out : (List Int) × Bool} (hM : dissect_bisect_body rec x1 x3 x5 = some out) (q1 : imm (rS (rI .i64)) h2.v x1 ∈ ros) (q2 : imm (rI .i64) h4.v x3 ∈ ros) (q3 : imm (rS (rI .i64)) h6.v x5 ∈ ros) (hst : St w0 ros (rs) w) :
    Calls Try.prog 32 #[.agg #[h2.v, h4.v, h6.v]] w (fun e w => ∃ (h100001 : Hdr), e = .returned (.tuple #[h100001.v, .bool out.2]) ∧ St w0 (ros) (row 3 (rI .i64) h100001.v out.1 :: rs) w) := by
  refine enterQ Try.func32 rfl Try.ntmps32 rfl fun Q hQ => ?_
  refine seqQ fun Q1 k1 z1 => ?_
  refine wp_region_lit ?_
  refine YB wn rfl (r_box (vals := [h2.v, h4.v, h6.v]) hst (et rfl rfl) rfl) ?_
  clear hst
  intro b7 w hst
  refine Y wn rfl (ya (v := hnil.v) rfl) ?_
  refine Y wn rfl (ya (v := .bool false) rfl) ?_
  refine wpList_nil ?_
  refine k1 _ _ ?_
  refine seqQ fun Q2 k2 z2 => ?_
  refine wp_region_lit ?_
  refine Y wn rfl (yLbs (us := [h2.v, h4.v, h6.v]) ST_29 (et rfl rfl) hst mhR rfl rfl) ?_
  obtain ⟨r8, gr8, hM⟩ := bs hM
  refine Yc wn rfl (yCall FN_51 (a1 (et rfl rfl))) (dissect_grown_ok (hM := gr8) (hst := hst) (q1 := q1) (q2 := q2) (q3 := q3)) ?_
  clear hst
  rintro _ w ⟨h9, rfl, hst⟩
  refine ⟨_, rfl, ?_⟩
  refine Y wn rfl (ya (v := h9.v) (et rfl rfl)) ?_
  refine wpList_nil ?_
  refine k2 _ _ ?_
  refine seqQ fun Q3 k3 z3 => ?_
  refine seqQ fun Q4 k4 z4 => ?_
  refine wp_region_lit ?_
  refine Y wn rfl (yFb FL_29_1 (et rfl rfl)) ?_
  refine Y wn rfl (yLb (u := h4.v) O_22 (et rfl rfl) hst (mtR mhR) rfl) ?_
  refine Y wn rfl (yLen SL_22 (et rfl rfl) hst (rdI q2)) ?_
  refine Y wn rfl (ygtr (et rfl rfl) rfl) ?_
  refine wpList_nil ?_
  refine k4 _ _ ?_
  have j5 : ∀ (x71 : List Int) (f : Nat → Value) (w : World), f 1 = .pointer (some ⟨b7, 0, none⟩) → f 4 = h9.v → St w0 (ros) (box b7 29 [h2.v, h4.v, h6.v] :: row 3 (rI .i64) h9.v x71 :: rs) w → dissect_bisect_j5 x1 x3 x5 x71 = some out → Q3 .normal (fr 61 f) w := by
    intro x71 f w ej5_1 ej5_4 hst hM
    refine k3 _ _ ?_
    refine seqQ fun Q52 k52 z52 => ?_
    refine wp_region_lit ?_
    refine Y wn rfl (yLbs (us := [h2.v, h4.v, h6.v]) ST_29 (et rfl ej5_1) hst mhR rfl rfl) ?_
    refine Y wn rfl (ym (v := h9.v) (et rfl ej5_4)) ?_
    obtain ⟨r72, gr72, hM⟩ := bs hM
    replace hst := hst.pk 2 [1, 0] rfl
    refine Yc wn rfl (yCall FN_52 (a2 (et rfl rfl) (et rfl rfl))) (dissect_refine_ok (hM := gr72) (hst := hst) (q1 := q1) (q2 := q2) (q3 := q3)) ?_
    clear hst
    rintro _ w ⟨rfl, hst⟩
    refine ⟨_, rfl, ?_⟩
    refine wpList_nil ?_
    refine k52 _ _ ?_
    refine seqQ fun Q53 k53 z53 => ?_
    refine wp_region_lit ?_
    refine Y wn rfl (ym (v := h9.v) (et rfl ej5_4)) ?_
    refine Y wn rfl (ya (v := h9.v) (et rfl rfl)) ?_
    refine Y wn rfl (ya (v := .bool true) rfl) ?_
    refine wpList_nil ?_
    refine k53 _ _ ?_
    refine wp_ret ?_
    obtain rfl := someI hM
    exact hQ _ _ _ (fin2r Try.results32 ⟨rfl, rfl⟩ ⟨rfl, rfl⟩ ⟨_, rfl, (hst.pk 2 [0] rfl)⟩)
  rcases iteS hM with ⟨c73, hM⟩ | ⟨c73, hM⟩
  · refine condT (et rfl rfl) (decide_eq_true c73) ?_
    refine seqQ fun Q54 k54 z54 => ?_
    obtain ⟨r74, gr74, hM⟩ := bs hM
    obtain ⟨r76, gr76, hM⟩ := bs hM
    refine joinN (n := 61) (fun f w => ∃ (b84 : Nat) (h85 : Hdr) (y86 : List Hdr) (h87 : Hdr) (h88 : Hdr) (y89 : List Hdr) (h90 : Hdr), f 1 = .pointer (some ⟨b7, 0, none⟩) ∧ f 4 = h9.v ∧ f 5 = .pointer (some ⟨b84, 0, none⟩) ∧ f 6 = h90.v ∧ f 7 = .bool r76.2.2.2.2 ∧ St w0 (imm (rI .i64) h87.v r76.2.1 :: ros) (box b7 29 [h2.v, h4.v, h6.v] :: row 3 (rI .i64) h9.v r8 :: row 22 rH h85.v y86 :: fam 3 (rI .i64) y86 r76.1 :: row 22 rH h88.v y89 :: fam 3 (rI .i64) y89 r76.2.2.1 :: box b84 29 [h85.v, h87.v, h88.v] :: row 3 (rI .i64) h90.v r76.2.2.2.1 :: rs) w) (fun j6 => ?_) ?_
    · refine wp_drawR [0, 0, 2, 7, 15, 31, 31, 31, 0, 319, 895, 2047] [2, 3, 8, 9, 10, 11] 6 folM (by kernel_rfl) (by kernel_rfl) (by kernel_rfl) ?_
      replace hst := hst.drew
      refine DRn (l1 := [0, 1]) (l2 := []) (lc := [2, 8]) (by kernel_rfl) (by kernel_rfl) (by kernel_rfl) ?_
      refine Ry rfl rfl wn (yLbs (us := [h2.v, h4.v, h6.v]) ST_29 (et rfl rfl) hst (mtR mhR) rfl rfl) ?_
      refine Ry rfl rfl wn (yLbs (us := [h2.v, h4.v, h6.v]) ST_29 (et rfl rfl) hst (mtR mhR) rfl rfl) ?_
      refine Rn QSn ?_
      refine Lc rfl ?_ (Lc rfl ?_ LAn)
      · refine Lk wn (yCall FN_28 (a1 (et rfl rfl))) (dissect_match_ok (hM := gr74) (hst := hst) (q1 := q1) (q2 := q2) (q3 := q3)) ?_
        clear hst
        rintro _ w ⟨h75, rfl, hst⟩
        refine ⟨_, rfl, ?_⟩
        refine DRn (l1 := []) (l2 := [0]) (lc := [3, 8]) (by kernel_rfl) (by kernel_rfl) (by kernel_rfl) ?_
        refine Rn (Sy rfl rfl wn (yLbs (us := [h2.v, h4.v, h6.v]) ST_29 (et rfl rfl) hst (mtR (mtR mhR)) rfl rfl) rfl QSn) ?_
        refine Lc rfl ?_ (Lc rfl ?_ LAn)
        · replace hst := hst.fz
          refine Lk wn (yCall FN_41 (a2 (et rfl rfl) (et rfl rfl))) (dissect_coarsen_ok (hM := gr76) (hst := hst) (q1 := (mtF q1)) (q2 := (mtF q2)) (q3 := (mtF q3)) (q4 := mhF)) ?_
          clear hst
          rintro _ w ⟨h77, y78, h79, h80, y81, h82, rfl, hst⟩
          refine ⟨_, rfl, ?_⟩
          refine DRn (l1 := [4, 5, 6, 7]) (l2 := []) (lc := [8]) (by kernel_rfl) (by kernel_rfl) (by kernel_rfl) ?_
          refine Ry rfl rfl wn (ym (v := .tuple #[.agg #[h77.v, h79.v, h80.v], h82.v, .bool r76.2.2.2.2]) (et rfl rfl)) ?_
          refine Ry rfl rfl wn (yx (v := .agg #[h77.v, h79.v, h80.v]) (et rfl rfl) rfl) ?_
          refine Ry rfl rfl wn (yx (v := h82.v) (et rfl rfl) rfl) ?_
          refine Ry rfl rfl wn (yx (v := .bool r76.2.2.2.2) (et rfl rfl) rfl) ?_
          refine Rn QSn ?_
          refine Lc rfl ?_ LAn
          refine LB wn (rAl hst ZT_29) ?_
          clear hst
          intro b83 w hst
          refine DRn (l1 := []) (l2 := [4, 5, 6, 7]) (lc := [9]) (by kernel_rfl) (by kernel_rfl) (by kernel_rfl) ?_
          refine Rn (Sy rfl rfl wn (ym (v := .tuple #[.agg #[h77.v, h79.v, h80.v], h82.v, .bool r76.2.2.2.2]) (et rfl rfl)) rfl (Sy rfl rfl wn (yx (v := .agg #[h77.v, h79.v, h80.v]) (et rfl rfl) rfl) rfl (Sy rfl rfl wn (yx (v := h82.v) (et rfl rfl) rfl) rfl (Sy rfl rfl wn (yx (v := .bool r76.2.2.2.2) (et rfl rfl) rfl) rfl QSn)))) ?_
          refine Lc rfl ?_ LAn
          refine LT wn (r_stbn (vals' := [h77.v, h79.v, h80.v]) (us := [h77.v, h79.v, h80.v]) hst ST_29 (et rfl rfl) (et rfl rfl) rfl rfl (one_of rfl) rfl) ?_
          clear hst
          intro w hst
          refine DRn (l1 := []) (l2 := [6, 7]) (lc := [10]) (by kernel_rfl) (by kernel_rfl) (by kernel_rfl) ?_
          refine Rn (Sy rfl rfl wn (yx (v := h82.v) (et rfl rfl) rfl) rfl (Sy rfl rfl wn (yx (v := .bool r76.2.2.2.2) (et rfl rfl) rfl) rfl QSn)) ?_
          refine Lc rfl ?_ LAn
          refine Ly wn (ya (v := h82.v) (et rfl rfl)) ?_
          refine DRn (l1 := []) (l2 := [7]) (lc := [11]) (by kernel_rfl) (by kernel_rfl) (by kernel_rfl) ?_
          refine Rn (Sy rfl rfl wn (yx (v := .bool r76.2.2.2.2) (et rfl rfl) rfl) rfl QSn) ?_
          refine Lc rfl ?_ LAn
          refine Ly wn (ya (v := .bool r76.2.2.2.2) (et rfl rfl)) ?_
          refine DRz (l1 := []) (l2 := []) (by kernel_rfl) (by kernel_rfl) ?_
          refine Rn QSn ?_
          exact j6 _ _ ⟨_, _, _, _, _, _, _, rfl, rfl, rfl, rfl, rfl, ((hst.pk 8 [7, 6, 1, 1, 1, 1, 0, 0] rfl).facts (allC mhF (allT (allT allI))))⟩
        · refine LB wn (rAl hst ZT_29) ?_
          clear hst
          intro b83 w hst
          refine DRn (l1 := []) (l2 := [0]) (lc := [3]) (by kernel_rfl) (by kernel_rfl) (by kernel_rfl) ?_
          refine Rn (Sy rfl rfl wn (yLbs (us := [h2.v, h4.v, h6.v]) ST_29 (et rfl rfl) hst (mtR (mtR (mtR mhR))) rfl rfl) rfl QSn) ?_
          refine Lc rfl ?_ LAn
          replace hst := hst.pk 2 [1, 0] rfl
          replace hst := hst.fz
          refine Lk wn (yCall FN_41 (a2 (et rfl rfl) (et rfl rfl))) (dissect_coarsen_ok (hM := gr76) (hst := hst) (q1 := (mtF q1)) (q2 := (mtF q2)) (q3 := (mtF q3)) (q4 := mhF)) ?_
          clear hst
          rintro _ w ⟨h77, y78, h79, h80, y81, h82, rfl, hst⟩
          refine ⟨_, rfl, ?_⟩
          refine DRn (l1 := [4, 5, 6, 7]) (l2 := []) (lc := [9]) (by kernel_rfl) (by kernel_rfl) (by kernel_rfl) ?_
          refine Ry rfl rfl wn (ym (v := .tuple #[.agg #[h77.v, h79.v, h80.v], h82.v, .bool r76.2.2.2.2]) (et rfl rfl)) ?_
          refine Ry rfl rfl wn (yx (v := .agg #[h77.v, h79.v, h80.v]) (et rfl rfl) rfl) ?_
          refine Ry rfl rfl wn (yx (v := h82.v) (et rfl rfl) rfl) ?_
          refine Ry rfl rfl wn (yx (v := .bool r76.2.2.2.2) (et rfl rfl) rfl) ?_
          refine Rn QSn ?_
          refine Lc rfl ?_ LAn
          replace hst := hst.pk 6 [5, 0, 0, 0, 0, 0] rfl
          refine LT wn (r_stbn (vals' := [h77.v, h79.v, h80.v]) (us := [h77.v, h79.v, h80.v]) hst ST_29 (et rfl rfl) (et rfl rfl) rfl rfl (one_of rfl) rfl) ?_
          clear hst
          intro w hst
          refine DRn (l1 := []) (l2 := [6, 7]) (lc := [10]) (by kernel_rfl) (by kernel_rfl) (by kernel_rfl) ?_
          refine Rn (Sy rfl rfl wn (yx (v := h82.v) (et rfl rfl) rfl) rfl (Sy rfl rfl wn (yx (v := .bool r76.2.2.2.2) (et rfl rfl) rfl) rfl QSn)) ?_
          refine Lc rfl ?_ LAn
          refine Ly wn (ya (v := h82.v) (et rfl rfl)) ?_
          refine DRn (l1 := []) (l2 := [7]) (lc := [11]) (by kernel_rfl) (by kernel_rfl) (by kernel_rfl) ?_
          refine Rn (Sy rfl rfl wn (yx (v := .bool r76.2.2.2.2) (et rfl rfl) rfl) rfl QSn) ?_
          refine Lc rfl ?_ LAn
          refine Ly wn (ya (v := .bool r76.2.2.2.2) (et rfl rfl)) ?_
          refine DRz (l1 := []) (l2 := []) (by kernel_rfl) (by kernel_rfl) ?_
          refine Rn QSn ?_
          exact j6 _ _ ⟨_, _, _, _, _, _, _, rfl, rfl, rfl, rfl, rfl, ((hst.pk 8 [7, 6, 1, 1, 1, 1, 0, 0] rfl).facts (allC mhF (allT (allT allI))))⟩
      · refine LB wn (rAl hst ZT_29) ?_
        clear hst
        intro b83 w hst
        refine DRn (l1 := []) (l2 := [0, 1]) (lc := [2]) (by kernel_rfl) (by kernel_rfl) (by kernel_rfl) ?_
        refine Rn (Sy rfl rfl wn (yLbs (us := [h2.v, h4.v, h6.v]) ST_29 (et rfl rfl) hst (mtR (mtR mhR)) rfl rfl) rfl (Sy rfl rfl wn (yLbs (us := [h2.v, h4.v, h6.v]) ST_29 (et rfl rfl) hst (mtR (mtR mhR)) rfl rfl) rfl QSn)) ?_
        refine Lc rfl ?_ LAn
        refine Lk wn (yCall FN_28 (a1 (et rfl rfl))) (dissect_match_ok (hM := gr74) (hst := hst) (q1 := q1) (q2 := q2) (q3 := q3)) ?_
        clear hst
        rintro _ w ⟨h75, rfl, hst⟩
        refine ⟨_, rfl, ?_⟩
        refine DRn (l1 := []) (l2 := [0]) (lc := [3]) (by kernel_rfl) (by kernel_rfl) (by kernel_rfl) ?_
        refine Rn (Sy rfl rfl wn (yLbs (us := [h2.v, h4.v, h6.v]) ST_29 (et rfl rfl) hst (mtR (mtR (mtR mhR))) rfl rfl) rfl QSn) ?_
        refine Lc rfl ?_ LAn
        replace hst := hst.fz
        refine Lk wn (yCall FN_41 (a2 (et rfl rfl) (et rfl rfl))) (dissect_coarsen_ok (hM := gr76) (hst := hst) (q1 := (mtF q1)) (q2 := (mtF q2)) (q3 := (mtF q3)) (q4 := mhF)) ?_
        clear hst
        rintro _ w ⟨h77, y78, h79, h80, y81, h82, rfl, hst⟩
        refine ⟨_, rfl, ?_⟩
        refine DRn (l1 := [4, 5, 6, 7]) (l2 := []) (lc := [9]) (by kernel_rfl) (by kernel_rfl) (by kernel_rfl) ?_
        refine Ry rfl rfl wn (ym (v := .tuple #[.agg #[h77.v, h79.v, h80.v], h82.v, .bool r76.2.2.2.2]) (et rfl rfl)) ?_
        refine Ry rfl rfl wn (yx (v := .agg #[h77.v, h79.v, h80.v]) (et rfl rfl) rfl) ?_
        refine Ry rfl rfl wn (yx (v := h82.v) (et rfl rfl) rfl) ?_
        refine Ry rfl rfl wn (yx (v := .bool r76.2.2.2.2) (et rfl rfl) rfl) ?_
        refine Rn QSn ?_
        refine Lc rfl ?_ LAn
        replace hst := hst.pk 6 [5, 0, 0, 0, 0, 0] rfl
        refine LT wn (r_stbn (vals' := [h77.v, h79.v, h80.v]) (us := [h77.v, h79.v, h80.v]) hst ST_29 (et rfl rfl) (et rfl rfl) rfl rfl (one_of rfl) rfl) ?_
        clear hst
        intro w hst
        refine DRn (l1 := []) (l2 := [6, 7]) (lc := [10]) (by kernel_rfl) (by kernel_rfl) (by kernel_rfl) ?_
        refine Rn (Sy rfl rfl wn (yx (v := h82.v) (et rfl rfl) rfl) rfl (Sy rfl rfl wn (yx (v := .bool r76.2.2.2.2) (et rfl rfl) rfl) rfl QSn)) ?_
        refine Lc rfl ?_ LAn
        refine Ly wn (ya (v := h82.v) (et rfl rfl)) ?_
        refine DRn (l1 := []) (l2 := [7]) (lc := [11]) (by kernel_rfl) (by kernel_rfl) (by kernel_rfl) ?_
        refine Rn (Sy rfl rfl wn (yx (v := .bool r76.2.2.2.2) (et rfl rfl) rfl) rfl QSn) ?_
        refine Lc rfl ?_ LAn
        refine Ly wn (ya (v := .bool r76.2.2.2.2) (et rfl rfl)) ?_
        refine DRz (l1 := []) (l2 := []) (by kernel_rfl) (by kernel_rfl) ?_
        refine Rn QSn ?_
        exact j6 _ _ ⟨_, _, _, _, _, _, _, rfl, rfl, rfl, rfl, rfl, ((hst.pk 8 [7, 6, 1, 1, 1, 1, 0, 0] rfl).facts (allC mhF (allT (allT allI))))⟩
    clear hst
    rintro f w ⟨b84, h85, y86, h87, h88, y89, h90, e91_1, e91_4, e91_5, e91_6, e91_7, hst⟩
    refine k54 _ _ ?_
    refine seqQ fun Q55 k55 z55 => ?_
    refine seqQ fun Q56 k56 z56 => ?_
    refine wp_region_lit ?_
    refine Y wn rfl (ym (v := .bool r76.2.2.2.2) (et rfl e91_7)) ?_
    refine Y wn rfl (ynot (et rfl rfl)) ?_
    refine wpList_nil ?_
    refine k56 _ _ ?_
    rcases iteS hM with ⟨c92, hM⟩ | ⟨c92, hM⟩
    · refine condF (et rfl rfl) (nF c92) ?_
      refine wp_skip ?_
      refine k55 _ _ ?_
      refine seqQ fun Q57 k57 z57 => ?_
      refine wp_region_lit ?_
      refine Y wn rfl (yFb FL_29_1 (et rfl e91_5)) ?_
      refine Y wn rfl (yLb (u := h87.v) O_22 (et rfl rfl) hst (mtR (mtR (mtR (mtR (mtR (mtR mhR)))))) rfl) ?_
      refine Y wn rfl (yLen SL_22 (et rfl rfl) hst (rdI mhF)) ?_
      refine Y wn rfl (yFb FL_29_1 (et rfl e91_1)) ?_
      refine Y wn rfl (yLb (u := h4.v) O_22 (et rfl rfl) hst mhR rfl) ?_
      refine Y wn rfl (yLen SL_22 (et rfl rfl) hst (rdI (mtF q2))) ?_
      refine Y wn rfl (ylss (et rfl rfl) (et rfl rfl)) ?_
      refine wpList_nil ?_
      refine k57 _ _ ?_
      have j8 : ∀ (x113 : List Int) (f : Nat → Value) (w : World), f 1 = .pointer (some ⟨b7, 0, none⟩) → f 4 = h9.v → St w0 (ros) (box b7 29 [h2.v, h4.v, h6.v] :: row 3 (rI .i64) h9.v x113 :: rs) w → dissect_bisect_j8 x1 x3 x5 x113 = some out → Q3 .normal (fr 61 f) w := by
        intro x113 f w ej8_1 ej8_4 hst hM
        exact j5 _ _ _ ej8_1 ej8_4 hst hM
      rcases iteS hM with ⟨c114, hM⟩ | ⟨c114, hM⟩
      · refine condT (et rfl rfl) (decide_eq_true c114) ?_
        refine seqQ fun Q79 k79 z79 => ?_
        refine wp_region_lit ?_
        refine Y wn rfl (yLbs (us := [h85.v, h87.v, h88.v]) ST_29 (et rfl e91_5) hst (mtR (mtR (mtR (mtR (mtR (mtR mhR)))))) rfl rfl) ?_
        obtain ⟨r115, gr115, hM⟩ := bs hM
        replace hst := hst.pk 4 [2, 2, 0, 0] rfl
        replace hst := hst.ffz
        replace hst := hst.pk 4 [2, 2, 0, 0] rfl
        replace hst := hst.ffz
        refine Yc wn rfl (yCall FN_32 (a1 (et rfl rfl))) (hrec (hM := gr115) (hst := hst) (q1 := (mtF mhF)) (q2 := (mtF (mtF mhF))) (q3 := mhF)) ?_
        clear hst
        rintro _ w ⟨h116, rfl, hst⟩
        refine ⟨_, rfl, ?_⟩
        refine Y wn rfl (ym (v := .tuple #[h116.v, .bool r115.2]) (et rfl rfl)) ?_
        refine Y wn rfl (yx (v := h116.v) (et rfl rfl) rfl) ?_
        refine Y wn rfl (yx (v := .bool r115.2) (et rfl rfl) rfl) ?_
        refine Y wn rfl (ya (v := h116.v) (et rfl rfl)) ?_
        refine Y wn rfl (ya (v := .bool r115.2) (et rfl rfl)) ?_
        refine wpList_nil ?_
        refine k79 _ _ ?_
        refine seqQ fun Q80 k80 z80 => ?_
        refine seqQ fun Q81 k81 z81 => ?_
        refine wp_region_lit ?_
        refine Y wn rfl (ym (v := .bool r115.2) (et rfl rfl)) ?_
        refine Y wn rfl (ynot (et rfl rfl)) ?_
        refine wpList_nil ?_
        refine k81 _ _ ?_
        rcases iteS hM with ⟨c117, hM⟩ | ⟨c117, hM⟩
        · refine condF (et rfl rfl) (nF c117) ?_
          refine wp_skip ?_
          refine k80 _ _ ?_
          refine seqQ fun Q82 k82 z82 => ?_
          refine wp_region_lit ?_
          refine Y wn rfl (ym (v := h90.v) (et rfl e91_6)) ?_
          refine Y wn rfl (yLen SL_22 (et rfl rfl) hst (rdO (mtR (mtR (mtR (mtR mhR)))))) ?_
          refine Y wn rfl (ym (v := .int .i64 0) rfl) ?_
          refine wpList_nil ?_
          refine k82 _ _ ?_
          refine blockQ fun Q83 qb83 => ?_
          obtain ⟨o9, go9, hM⟩ := bs hM
          have je9_0 : ∀ (x130 : List Int) (f : Nat → Value) (w : World), f 1 = .pointer (some ⟨b7, 0, none⟩) → f 4 = h9.v → St w0 (ros) (box b7 29 [h2.v, h4.v, h6.v] :: row 3 (rI .i64) h9.v x130 :: rs) w → x130 = o9 → Q83 (.exit 0) (fr 61 f) w := by
            intro x130 f w eje9_0_1 eje9_0_4 hst ho
            subst ho
            refine qb83 _ _ _ ?_
            exact j8 _ _ _ eje9_0_1 eje9_0_4 hst hM
          refine loopQ (fun s a w => ∃ (x122 : List Int) (x123 : Int) (f : Nat → Value), (x122, x123) = s ∧ a = fr 61 f ∧ f 1 = .pointer (some ⟨b7, 0, none⟩) ∧ f 4 = h9.v ∧ f 8 = h116.v ∧ f 42 = h90.v ∧ f 43 = .int .i64 (r76.2.2.2.1.length : Int) ∧ f 44 = .int .i64 x123 ∧ St w0 (ros) (box b7 29 [h2.v, h4.v, h6.v] :: row 3 (rI .i64) h9.v x122 :: row 3 (rI .i64) h116.v r115.1 :: row 3 (rI .i64) h90.v r76.2.2.2.1 :: rs) w) go9 ⟨_, _, _, rfl, rfl, e91_1, e91_4, rfl, rfl, rfl, rfl, ((hst.pk 5 [1, 1, 0, 1] rfl).facts (allT (allT (allT allI))))⟩ ?_
          clear hst
          rintro _ _ w r9_ ⟨x122, x123, f, rfl, rfl, e9_1, e9_4, e9_8, e9_42, e9_43, e9_44, hst⟩ hM9 ho9 Q100009 n9 zz9
          refine seqQ fun Q94 k94 z94 => ?_
          refine wp_region_lit ?_
          refine Y wn rfl (ylss (et rfl e9_44) (et rfl e9_43)) ?_
          refine wpList_nil ?_
          refine k94 _ _ ?_
          refine seqQ fun Q95 k95 z95 => ?_
          rcases iteS hM9 with ⟨c131, hM9⟩ | ⟨c131, hM9⟩
          · refine condT (et rfl rfl) (decide_eq_true c131) ?_
            refine wp_skip ?_
            refine k95 _ _ ?_
            refine seqQ fun Q96 k96 z96 => ?_
            refine blockQ fun Q97 qb97 => ?_
            refine seqQ fun Q98 k98 z98 => ?_
            refine wp_region_lit ?_
            refine Y wn rfl (ym (v := .int .i64 x123) (et rfl e9_44)) ?_
            obtain ⟨x132, gx132, hM9⟩ := bs hM9
            refine Y wn rfl (yIa SL_22 (et rfl e9_42) (et rfl e9_44) hst (rdO (mtR (mtR (mtR mhR)))) gx132) ?_
            refine Y wn rfl (yI O_3 (et rfl rfl) hst (rdO (mtR (mtR (mtR mhR)))) gx132) ?_
            refine Y wn rfl (ya (v := .int .i64 x123) (et rfl rfl)) ?_
            refine Y wn rfl (ya (v := .int .i64 x132) (et rfl rfl)) ?_
            refine wpList_nil ?_
            refine k98 _ _ ?_
            refine wp_region_lit ?_
            refine Y wn rfl (ym (v := h9.v) (et rfl e9_4)) ?_
            refine Y wn rfl (ym (v := .int .i64 x123) (et rfl rfl)) ?_
            refine Y wn rfl (ym (v := h116.v) (et rfl e9_8)) ?_
            refine Y wn rfl (ym (v := .int .i64 x132) (et rfl rfl)) ?_
            obtain ⟨x133, gx133, hM9⟩ := bs hM9
            refine Y wn rfl (yIa SL_22 (et rfl rfl) (et rfl rfl) hst (rdO (mtR (mtR mhR))) gx133) ?_
            refine Y wn rfl (yI O_3 (et rfl rfl) hst (rdO (mtR (mtR mhR))) gx133) ?_
            obtain ⟨x134, gx134, hM9⟩ := bs hM9
            refine Y wn rfl (yIs SL_22 (et rfl rfl) (et rfl rfl) hst (rdO (mtR mhR)) gx134) ?_
            replace hst := hst.pk 2 [1, 0] rfl
            refine YT wn rfl (r_sti (cs := [.int .i64 x133]) hst O_3 rfl (et rfl rfl) (et rfl rfl) rfl mkI gx134) ?_
            clear hst
            intro w hst
            refine wpList_nil ?_
            refine qb97 _ _ _ ?_
            refine k96 _ _ ?_
            refine wp_region_lit ?_
            refine Y wn rfl (yadd (et rfl e9_44) rfl) ?_
            refine Y wn rfl (ym (v := .int .i64 (wa .i64 x123 1)) (et rfl rfl)) ?_
            refine wpList_nil ?_
            obtain rfl := someI hM9
            exact n9 _ _ _ rfl ⟨_, _, _, rfl, rfl, e9_1, e9_4, e9_8, e9_42, e9_43, rfl, (hst.pk 4 [1, 0, 0, 0] rfl)⟩
          · refine condF (et rfl rfl) (decide_eq_false c131) ?_
            refine wp_exit ?_
            refine z95 _ _ _ rfl ?_
            obtain rfl := someI hM9
            refine zz9 _ _ _ _ rfl rfl ?_
            exact je9_0 _ _ _ e9_1 e9_4 (hst.pk 4 [0, 0] rfl) (ho9 _ rfl)
        · refine condT (et rfl rfl) (nT (bfalse c117)) ?_
          refine seqQ fun Q99 k99 z99 => ?_
          refine wp_region_lit ?_
          refine Y wn rfl (ya (v := hnil.v) rfl) ?_
          refine Y wn rfl (ya (v := .bool false) rfl) ?_
          refine wpList_nil ?_
          refine k99 _ _ ?_
          refine wp_ret ?_
          refine z80 _ _ _ rfl ?_
          refine z3 _ _ _ rfl ?_
          obtain rfl := someI hM
          replace hst := hst.rowNh 3 (rI .i64)
          exact hQ _ _ _ (fin2r Try.results32 ⟨rfl, rfl⟩ ⟨rfl, rfl⟩ ⟨_, rfl, ((hst.pk 6 [0] rfl).facts (allT (allT (allT allI))))⟩)
      · refine condF (et rfl rfl) (decide_eq_false c114) ?_
        refine wp_skip ?_
        exact j8 _ _ _ e91_1 e91_4 ((hst.pk 8 [0, 0] rfl).facts (allT allI)) hM
    · refine condT (et rfl rfl) (nT (bfalse c92)) ?_
      refine seqQ fun Q100 k100 z100 => ?_
      refine wp_region_lit ?_
      refine Y wn rfl (ya (v := hnil.v) rfl) ?_
      refine Y wn rfl (ya (v := .bool false) rfl) ?_
      refine wpList_nil ?_
      refine k100 _ _ ?_
      refine wp_ret ?_
      refine z55 _ _ _ rfl ?_
      refine z3 _ _ _ rfl ?_
      obtain rfl := someI hM
      replace hst := hst.rowNh 3 (rI .i64)
      exact hQ _ _ _ (fin2r Try.results32 ⟨rfl, rfl⟩ ⟨rfl, rfl⟩ ⟨_, rfl, ((hst.pk 9 [0] rfl).facts (allT allI))⟩)
  · refine condF (et rfl rfl) (decide_eq_false c73) ?_
    refine wp_skip ?_
    exact j5 _ _ _ rfl rfl (hst.pk 2 [1, 0] rfl) hM
theorem dissect_bisect_ok_n (n : Nat) : ∀ {w0 : World} {ros : List Fact} {rs : List Res} {w : World} {x1 : List (List Int)} {x3 : List Int} {x5 : List (List Int)} {h2 : Hdr} {h4 : Hdr} {h6 : Hdr} {out : (List Int) × Bool} (hM : dissect_bisect n x1 x3 x5 = some out) (q1 : imm (rS (rI .i64)) h2.v x1 ∈ ros) (q2 : imm (rI .i64) h4.v x3 ∈ ros) (q3 : imm (rS (rI .i64)) h6.v x5 ∈ ros) (hst : St w0 ros (rs) w),
    Calls Try.prog 32 #[.agg #[h2.v, h4.v, h6.v]] w (fun e w => ∃ (h100001 : Hdr), e = .returned (.tuple #[h100001.v, .bool out.2]) ∧ St w0 (ros) (row 3 (rI .i64) h100001.v out.1 :: rs) w) := by
  induction n with
  | zero => intro _ _ _ _ _ _ _ _ _ _ out hM; cases hM
  | succ n ih => exact fun hM q1 q2 q3 hst => dissect_bisect_step (rec := dissect_bisect n) ih (hM := hM) (q1 := q1) (q2 := q2) (q3 := q3) (hst := hst)
theorem dissect_bisect_ok {w0 : World} {ros : List Fact} {rs : List Res} {w : World} {x1 : List (List Int)} {x3 : List Int} {x5 : List (List Int)} {h2 : Hdr} {h4 : Hdr} {h6 : Hdr} {out : (List Int) × Bool} (hM : dissect_bisect FUEL x1 x3 x5 = some out) (q1 : imm (rS (rI .i64)) h2.v x1 ∈ ros) (q2 : imm (rI .i64) h4.v x3 ∈ ros) (q3 : imm (rS (rI .i64)) h6.v x5 ∈ ros) (hst : St w0 ros (rs) w) :
    Calls Try.prog 32 #[.agg #[h2.v, h4.v, h6.v]] w (fun e w => ∃ (h100001 : Hdr), e = .returned (.tuple #[h100001.v, .bool out.2]) ∧ St w0 (ros) (row 3 (rI .i64) h100001.v out.1 :: rs) w) := dissect_bisect_ok_n FUEL (hM := hM) (q1 := q1) (q2 := q2) (q3 := q3) (hst := hst)
end Go.Proofs.Ythpeajepbffinaa
