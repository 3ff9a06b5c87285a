/- Walks: each function computes its model, printed. -/
import Derived.Test.YthpeajepbffinaaW1
namespace Go.Proofs.Ythpeajepbffinaa
open Go Sx M
set_option maxRecDepth 100000
set_option maxHeartbeats 4000000
set_option linter.unusedVariables false
attribute [local irreducible] wpList Code.wp Calls DR QR QS LA LS St
theorem dissect_border_1_ok {w0 : World} {ros : List Fact} {rs : List Res} {w : World} {x1 : Int} {x3 : List Int} {x6 : Int} {b2 : Nat} {h4 : Hdr} {b5 : Nat} {out : Bool} (hM : dissect_border_1 x1 x3 x6 = some out) (q1 : imm (rI .i64) h4.v x3 ∈ ros) (hst : St w0 ros (box b2 22 [h4.v] :: box b5 3 [.int .i64 x6] :: rs) w) :
    Calls Try.prog 81 #[.int .i64 x1, .pointer (some ⟨b2, 0, none⟩), .pointer (some ⟨b5, 0, none⟩)] w (fun e w => e = .returned (.bool out) ∧ St w0 (ros) (box b2 22 [h4.v] :: box b5 3 [.int .i64 x6] :: rs) w) := by
  refine enterQ Try.func81 rfl Try.ntmps81 rfl fun Q hQ => ?_
  refine seqQ fun Q1 k1 z1 => ?_
  refine wp_region_lit ?_
  refine Y wn rfl (ya (v := .bool false) rfl) ?_
  refine wpList_nil ?_
  refine k1 _ _ ?_
  refine seqQ fun Q2 k2 z2 => ?_
  obtain ⟨x7, gx7, hM⟩ := bs hM
  refine wp_drawR [0, 0, 3, 7, 0, 31, 63] [6] 1 folM (by kernel_rfl) (by kernel_rfl) (by kernel_rfl) ?_
  replace hst := hst.drew
  refine DRn (l1 := [0, 1, 2, 3, 4, 5]) (l2 := []) (lc := [6]) (by kernel_rfl) (by kernel_rfl) (by kernel_rfl) ?_
  refine Ry rfl rfl wn (yLb (u := h4.v) O_22 (et rfl rfl) hst mhR rfl) ?_
  refine Ry rfl rfl wn (ym (v := .int .i64 x1) (et rfl rfl)) ?_
  refine Ry rfl rfl wn (yIa SL_22 (et rfl rfl) (et rfl rfl) hst (rdI q1) gx7) ?_
  refine Ry rfl rfl wn (yI O_3 (et rfl rfl) hst (rdI q1) gx7) ?_
  refine Ry rfl rfl wn (yLb (u := .int .i64 x6) O_3 (et rfl rfl) hst (mtR mhR) rfl) ?_
  refine Ry rfl rfl wn (yneq (et rfl rfl) (et rfl rfl)) ?_
  refine Rn QSn ?_
  refine Lc rfl ?_ LAn
  refine Ly wn (ya (v := .bool (!(decide (x7 = x6)))) (et rfl rfl)) ?_
  refine DRz (l1 := []) (l2 := []) (by kernel_rfl) (by kernel_rfl) ?_
  refine Rn QSn ?_
  refine k2 _ _ ?_
  refine wp_ret ?_
  obtain rfl := someI hM
  exact hQ _ _ _ (fin1r Try.results81 ⟨rfl, rfl⟩ ⟨rfl, hst⟩)

theorem slices_IndexFunc_int_v2_ok {w0 : World} {ros : List Fact} {rs : List Res} {w : World} {x1 : List Int} {x4 : List Int} {x7 : Int} {h2 : Hdr} {b3 : Nat} {h5 : Hdr} {b6 : Nat} {out : Int} (hM : slices_IndexFunc_int_v2 x1 x4 x7 = some out) (q1 : imm (rI .i64) h2.v x1 ∈ ros) (q2 : imm (rI .i64) h5.v x4 ∈ ros) (hst : St w0 ros (box b3 22 [h5.v] :: box b6 3 [.int .i64 x7] :: rs) w) :
    Calls Try.prog 61 #[h2.v, .func (.func 81) #[] #[.pointer (some ⟨b3, 0, none⟩), .pointer (some ⟨b6, 0, none⟩)]] w (fun e w => e = .returned (.int .i64 out) ∧ St w0 (ros) (box b3 22 [h5.v] :: box b6 3 [.int .i64 x7] :: rs) w) := by
  refine enterQ Try.func61 rfl Try.ntmps61 rfl fun Q hQ => ?_
  refine seqQ fun Q1 k1 z1 => ?_
  refine wp_region_lit ?_
  refine Y wn rfl (ya (v := .int .i64 0) rfl) ?_
  refine wpList_nil ?_
  refine k1 _ _ ?_
  refine seqQ fun Q2 k2 z2 => ?_
  refine seqQ fun Q3 k3 z3 => ?_
  refine wp_region_lit ?_
  refine Y wn rfl (ym (v := h2.v) (et rfl rfl)) ?_
  refine Y wn rfl (yLen SL_22 (et rfl rfl) hst (rdI q1)) ?_
  refine Y wn rfl (ym (v := .int .i64 0) rfl) ?_
  refine wpList_nil ?_
  refine k3 _ _ ?_
  refine blockQ fun Q4 qb4 => ?_
  obtain ⟨o1, go1, hM⟩ := bs hM
  have je1_0 : ∀ (f : Nat → Value) (w : World), St w0 (ros) (box b3 22 [h5.v] :: box b6 3 [.int .i64 x7] :: rs) w → .inl () = o1 → Q4 (.exit 0) (fr 19 f) w := by
    intro f w hst ho
    subst ho
    refine qb4 _ _ _ ?_
    refine k2 _ _ ?_
    refine seqQ fun Q19 k19 z19 => ?_
    refine wp_region_lit ?_
    refine Y wn rfl (ya (v := .int .i64 (-1)) rfl) ?_
    refine wpList_nil ?_
    refine k19 _ _ ?_
    refine wp_ret ?_
    obtain rfl := someI hM
    exact hQ _ _ _ (fin1r Try.results61 ⟨rfl, rfl⟩ ⟨rfl, hst⟩)
  have je1_1 : ∀ (x18 : Int) (f : Nat → Value) (w : World), f 4 = .int .i64 x18 → St w0 (ros) (box b3 22 [h5.v] :: box b6 3 [.int .i64 x7] :: rs) w → .inr x18 = o1 → Q4 .ret (fr 19 f) w := by
    intro x18 f w eje1_1_4 hst ho
    subst ho
    refine qb4 _ _ _ ?_
    refine z2 _ _ _ rfl ?_
    obtain rfl := someI hM
    exact hQ _ _ _ (fin1r Try.results61 ⟨rfl, eje1_1_4⟩ ⟨rfl, hst⟩)
  refine loopQ (fun s a w => ∃ (x12 : Int) (f : Nat → Value), x12 = s ∧ a = fr 19 f ∧ f 0 = h2.v ∧ f 1 = .func (.func 81) #[] #[.pointer (some ⟨b3, 0, none⟩), .pointer (some ⟨b6, 0, none⟩)] ∧ f 7 = .int .i64 (x1.length : Int) ∧ f 8 = .int .i64 x12 ∧ St w0 (ros) (box b3 22 [h5.v] :: box b6 3 [.int .i64 x7] :: rs) w) go1 ⟨_, _, rfl, rfl, rfl, rfl, rfl, rfl, hst⟩ ?_
  clear hst
  rintro _ _ w r1_ ⟨x12, f, rfl, rfl, e1_0, e1_1, e1_7, e1_8, hst⟩ hM1 ho1 Q100001 n1 zz1
  refine seqQ fun Q20 k20 z20 => ?_
  refine wp_region_lit ?_
  refine Y wn rfl (ylss (et rfl e1_8) (et rfl e1_7)) ?_
  refine wpList_nil ?_
  refine k20 _ _ ?_
  refine seqQ fun Q21 k21 z21 => ?_
  rcases iteS hM1 with ⟨c19, hM1⟩ | ⟨c19, hM1⟩
  · refine condT (et rfl rfl) (decide_eq_true c19) ?_
    refine wp_skip ?_
    refine k21 _ _ ?_
    refine seqQ fun Q22 k22 z22 => ?_
    refine blockQ fun Q23 qb23 => ?_
    refine seqQ fun Q24 k24 z24 => ?_
    refine wp_region_lit ?_
    refine Y wn rfl (ym (v := .int .i64 x12) (et rfl e1_8)) ?_
    refine Y wn rfl (ya (v := .int .i64 x12) (et rfl rfl)) ?_
    refine wpList_nil ?_
    refine k24 _ _ ?_
    refine seqQ fun Q25 k25 z25 => ?_
    refine wp_region_lit ?_
    refine Y wn rfl (ym (v := .func (.func 81) #[] #[.pointer (some ⟨b3, 0, none⟩), .pointer (some ⟨b6, 0, none⟩)]) (et rfl e1_1)) ?_
    refine Y wn rfl (ym (v := h2.v) (et rfl e1_0)) ?_
    refine Y wn rfl (ym (v := .int .i64 x12) (et rfl rfl)) ?_
    obtain ⟨x20, gx20, hM1⟩ := bs hM1
    refine Y wn rfl (yIa SL_22 (et rfl rfl) (et rfl rfl) hst (rdI q1) gx20) ?_
    refine Y wn rfl (yI O_3 (et rfl rfl) hst (rdI q1) gx20) ?_
    obtain ⟨r21, gr21, hM1⟩ := bs hM1
    refine Yc wn rfl (yCallw FN_81 (et rfl rfl) (a1 (et rfl rfl))) (dissect_border_1_ok (hM := gr21) (hst := hst) (q1 := q2)) ?_
    clear hst
    rintro _ w ⟨rfl, hst⟩
    refine ⟨_, rfl, ?_⟩
    refine wpList_nil ?_
    refine k25 _ _ ?_
    rcases iteS hM1 with ⟨c22, hM1⟩ | ⟨c22, hM1⟩
    · refine condT (et rfl rfl) c22 ?_
      refine seqQ fun Q26 k26 z26 => ?_
      refine wp_region_lit ?_
      refine Y wn rfl (ym (v := .int .i64 x12) (et rfl rfl)) ?_
      refine Y wn rfl (ya (v := .int .i64 x12) (et rfl rfl)) ?_
      refine wpList_nil ?_
      refine k26 _ _ ?_
      refine wp_ret ?_
      refine qb23 _ _ _ ?_
      refine z22 _ _ _ rfl ?_
      obtain rfl := someI hM1
      refine zz1 _ _ _ _ rfl rfl ?_
      exact je1_1 _ _ _ rfl hst (ho1 _ rfl)
    · refine condF (et rfl rfl) (bfalse c22) ?_
      refine wp_skip ?_
      refine qb23 _ _ _ ?_
      refine k22 _ _ ?_
      refine wp_region_lit ?_
      refine Y wn rfl (yadd (et rfl e1_8) rfl) ?_
      refine Y wn rfl (ym (v := .int .i64 (wa .i64 x12 1)) (et rfl rfl)) ?_
      refine wpList_nil ?_
      obtain rfl := someI hM1
      exact n1 _ _ _ rfl ⟨_, _, rfl, rfl, e1_0, e1_1, e1_7, rfl, hst⟩
  · refine condF (et rfl rfl) (decide_eq_false c19) ?_
    refine wp_exit ?_
    refine z21 _ _ _ rfl ?_
    obtain rfl := someI hM1
    refine zz1 _ _ _ _ rfl rfl ?_
    exact je1_0 _ _ hst (ho1 _ rfl)

theorem slices_ContainsFunc_int_v2_ok {w0 : World} {ros : List Fact} {rs : List Res} {w : World} {x1 : List Int} {x4 : List Int} {x7 : Int} {h2 : Hdr} {b3 : Nat} {h5 : Hdr} {b6 : Nat} {out : Bool} (hM : slices_ContainsFunc_int_v2 x1 x4 x7 = some out) (q1 : imm (rI .i64) h2.v x1 ∈ ros) (q2 : imm (rI .i64) h5.v x4 ∈ ros) (hst : St w0 ros (box b3 22 [h5.v] :: box b6 3 [.int .i64 x7] :: rs) w) :
    Calls Try.prog 35 #[h2.v, .func (.func 81) #[] #[.pointer (some ⟨b3, 0, none⟩), .pointer (some ⟨b6, 0, none⟩)]] w (fun e w => e = .returned (.bool out) ∧ St w0 (ros) (box b3 22 [h5.v] :: box b6 3 [.int .i64 x7] :: rs) w) := by
  refine enterQ Try.func35 rfl Try.ntmps35 rfl fun Q hQ => ?_
  refine seqQ fun Q1 k1 z1 => ?_
  refine wp_region_lit ?_
  refine Y wn rfl (ya (v := .bool false) rfl) ?_
  refine wpList_nil ?_
  refine k1 _ _ ?_
  refine seqQ fun Q2 k2 z2 => ?_
  refine wp_region_lit ?_
  refine Y wn rfl (ym (v := h2.v) (et rfl rfl)) ?_
  refine Y wn rfl (ym (v := .func (.func 81) #[] #[.pointer (some ⟨b3, 0, none⟩), .pointer (some ⟨b6, 0, none⟩)]) (et rfl rfl)) ?_
  obtain ⟨r8, gr8, hM⟩ := bs hM
  refine Yc wn rfl (yCall FN_61 (a2 (et rfl rfl) (et rfl rfl))) (slices_IndexFunc_int_v2_ok (hM := gr8) (hst := hst) (q1 := q1) (q2 := q2)) ?_
  clear hst
  rintro _ w ⟨rfl, hst⟩
  refine ⟨_, rfl, ?_⟩
  refine Y wn rfl (ygeq (et rfl rfl) rfl) ?_
  refine Y wn rfl (ya (v := .bool (decide ((0 : Int) ≤ r8))) (et rfl rfl)) ?_
  refine wpList_nil ?_
  refine k2 _ _ ?_
  refine wp_ret ?_
  obtain rfl := someI hM
  exact hQ _ _ _ (fin1r Try.results35 ⟨rfl, rfl⟩ ⟨rfl, hst⟩)

theorem dissect_border_ok {w0 : World} {ros : List Fact} {rs : List Res} {w : World} {x1 : List (List Int)} {x3 : List Int} {x5 : Int} {h2 : Hdr} {h4 : Hdr} {out : (List Int)} (hM : dissect_border x1 x3 x5 = some out) (q1 : imm (rS (rI .i64)) h2.v x1 ∈ ros) (q2 : imm (rI .i64) h4.v x3 ∈ ros) (hst : St w0 ros (rs) w) :
    Calls Try.prog 66 #[.agg #[h2.v], h4.v, .int .i64 x5] w (fun e w => ∃ (h100001 : Hdr), e = .returned (h100001.v) ∧ St w0 (ros) (row 3 (rI .i64) h100001.v out :: rs) w) := by
  refine enterQ Try.func66 rfl Try.ntmps66 rfl fun Q hQ => ?_
  refine seqQ fun Q1 k1 z1 => ?_
  refine wp_region_lit ?_
  refine YB wn rfl (r_box (vals := [h2.v]) hst (et rfl rfl) rfl) ?_
  clear hst
  intro b6 w hst
  refine YB wn rfl (r_box (vals := [h4.v]) hst (et rfl rfl) rfl) ?_
  clear hst
  intro b7 w hst
  refine YB wn rfl (r_box (vals := [.int .i64 x5]) hst (et rfl rfl) rfl) ?_
  clear hst
  intro b8 w hst
  refine Y wn rfl (ya (v := hnil.v) rfl) ?_
  refine wpList_nil ?_
  refine k1 _ _ ?_
  refine seqQ fun Q2 k2 z2 => ?_
  refine wp_region_lit ?_
  refine Y wn rfl (ya (v := hnil.v) rfl) ?_
  refine wpList_nil ?_
  refine k2 _ _ ?_
  refine seqQ fun Q3 k3 z3 => ?_
  refine seqQ fun Q4 k4 z4 => ?_
  refine wp_region_lit ?_
  refine Y wn rfl (yFb FL_27_0 (et rfl rfl)) ?_
  refine Y wn rfl (yLb (u := h2.v) O_25 (et rfl rfl) hst (mtR (mtR mhR)) rfl) ?_
  refine Y wn rfl (yLen SL_25 (et rfl rfl) hst (rdI q1)) ?_
  refine Y wn rfl (ym (v := .int .i64 0) rfl) ?_
  refine wpList_nil ?_
  refine k4 _ _ ?_
  refine blockQ fun Q5 qb5 => ?_
  obtain ⟨o9, go9, hM⟩ := bs hM
  have je9_0 : ∀ (x50 : List Int) (h49 : Hdr) (f : Nat → Value) (w : World), f 7 = h49.v → St w0 (ros) (row 3 (rI .i64) h49.v x50 :: rs) w → x50 = o9 → Q5 (.exit 0) (fr 35 f) w := by
    intro x50 h49 f w eje9_0_7 hst ho
    subst ho
    refine qb5 _ _ _ ?_
    refine k3 _ _ ?_
    refine seqQ fun Q18 k18 z18 => ?_
    refine wp_region_lit ?_
    refine Y wn rfl (ym (v := h49.v) (et rfl eje9_0_7)) ?_
    refine Y wn rfl (ya (v := h49.v) (et rfl rfl)) ?_
    refine wpList_nil ?_
    refine k18 _ _ ?_
    refine wp_ret ?_
    obtain rfl := someI hM
    exact hQ _ _ _ (fin1r Try.results66 ⟨rfl, rfl⟩ ⟨_, rfl, hst⟩)
  replace hst := hst.rowNh 3 (rI .i64)
  refine loopQ (fun s a w => ∃ (x27 : List Int) (x28 : Int) (f : Nat → Value) (h26 : Hdr), (x27, x28) = s ∧ a = fr 35 f ∧ f 4 = .pointer (some ⟨b7, 0, none⟩) ∧ f 5 = .pointer (some ⟨b8, 0, none⟩) ∧ f 7 = h26.v ∧ f 11 = h2.v ∧ f 12 = .int .i64 (x1.length : Int) ∧ f 13 = .int .i64 x28 ∧ St w0 (ros) (box b7 22 [h4.v] :: box b8 3 [.int .i64 x5] :: row 3 (rI .i64) h26.v x27 :: rs) w) go9 ⟨_, _, _, _, rfl, rfl, rfl, rfl, rfl, rfl, rfl, rfl, (hst.pk 4 [2, 1, 0] rfl)⟩ ?_
  clear hst
  rintro _ _ w r9_ ⟨x27, x28, f, h26, rfl, rfl, e9_4, e9_5, e9_7, e9_11, e9_12, e9_13, hst⟩ hM9 ho9 Q100009 n9 zz9
  refine seqQ fun Q19 k19 z19 => ?_
  refine wp_region_lit ?_
  refine Y wn rfl (ylss (et rfl e9_13) (et rfl e9_12)) ?_
  refine wpList_nil ?_
  refine k19 _ _ ?_
  refine seqQ fun Q20 k20 z20 => ?_
  rcases iteS hM9 with ⟨c51, hM9⟩ | ⟨c51, hM9⟩
  · refine condT (et rfl rfl) (decide_eq_true c51) ?_
    refine wp_skip ?_
    refine k20 _ _ ?_
    refine seqQ fun Q21 k21 z21 => ?_
    refine blockQ fun Q22 qb22 => ?_
    refine seqQ fun Q23 k23 z23 => ?_
    refine wp_region_lit ?_
    refine Y wn rfl (ym (v := .int .i64 x28) (et rfl e9_13)) ?_
    obtain ⟨x52, gx52, hM9⟩ := bs hM9
    refine Y wn rfl (yIa SL_25 (et rfl e9_11) (et rfl e9_13) hst (rdI q1) gx52) ?_
    obtain ⟨h53, hst⟩ := iLs hst q1 gx52
    refine Y wn rfl (yCt O_22 (et rfl rfl) hst (mtF mhF) rfl) ?_
    refine Y wn rfl (ya (v := .int .i64 x28) (et rfl rfl)) ?_
    refine Y wn rfl (ya (v := h53.v) (et rfl rfl)) ?_
    refine wpList_nil ?_
    refine k23 _ _ ?_
    refine seqQ fun Q24 k24 z24 => ?_
    obtain ⟨x54, gx54, hM9⟩ := bs hM9
    obtain ⟨r55, gr55, hM9⟩ := bs hM9
    refine joinN (n := 35) (fun f w => f 4 = .pointer (some ⟨b7, 0, none⟩) ∧ f 5 = .pointer (some ⟨b8, 0, none⟩) ∧ f 7 = h26.v ∧ f 8 = .int .i64 x28 ∧ f 11 = h2.v ∧ f 12 = .int .i64 (x1.length : Int) ∧ f 13 = .int .i64 x28 ∧ f 28 = .bool r55 ∧ St w0 (ros) (box b7 22 [h4.v] :: box b8 3 [.int .i64 x5] :: row 3 (rI .i64) h26.v x27 :: rs) w) (fun j10 => ?_) ?_
    · rcases iteS gr55 with ⟨c57, gr55⟩ | ⟨c57, gr55⟩
      · obtain ⟨r58, gr58, gr55⟩ := bs gr55
        have hr11 := someI gr55
        refine wp_drawR [0, 0, 3, 7, 0, 31, 63, 127, 127, 511, 1023] [9] 1 folM (by kernel_rfl) (by kernel_rfl) (by kernel_rfl) ?_
        replace hst := hst.drew
        refine DRn (l1 := [0, 1, 2, 3, 4, 5, 6, 7, 8]) (l2 := []) (lc := [9]) (by kernel_rfl) (by kernel_rfl) (by kernel_rfl) ?_
        refine Ry rfl rfl wn (yLb (u := h4.v) O_22 (et rfl e9_4) hst mhR rfl) ?_
        refine Ry rfl rfl wn (ym (v := .int .i64 x28) (et rfl rfl)) ?_
        refine Ry rfl rfl wn (yIa SL_22 (et rfl rfl) (et rfl rfl) hst (rdI (mtF (mtF q2))) gx54) ?_
        refine Ry rfl rfl wn (yI O_3 (et rfl rfl) hst (rdI (mtF (mtF q2))) gx54) ?_
        refine Ry rfl rfl wn (yLb (u := .int .i64 x5) O_3 (et rfl e9_5) hst (mtR mhR) rfl) ?_
        refine Ry rfl rfl wn (yeql (et rfl rfl) (et rfl rfl)) ?_
        refine Ry rfl rfl wn (ym (v := .bool (decide (x54 = x5))) (et rfl rfl)) ?_
        refine Ry rfl rfl (wg rfl rfl rfl (decide_eq_true c57)) (ym (v := h53.v) (et rfl rfl)) ?_
        refine Ry rfl rfl (wg rfl rfl rfl (decide_eq_true c57)) (ymf (vf := #[]) (vc := #[.pointer (some ⟨b7, 0, none⟩), .pointer (some ⟨b8, 0, none⟩)]) a0 (a2 (et rfl e9_4) (et rfl e9_5))) ?_
        refine Rn QSn ?_
        refine Lc rfl ?_ LAn
        refine Lk (wg rfl rfl rfl (decide_eq_true c57)) (yCall FN_35 (a2 (et rfl rfl) (et rfl rfl))) (slices_ContainsFunc_int_v2_ok (hM := gr58) (hst := hst) (q1 := mhF) (q2 := (mtF (mtF q2)))) ?_
        clear hst
        rintro _ w ⟨rfl, hst⟩
        refine ⟨_, rfl, ?_⟩
        refine DRz (l1 := [10]) (l2 := []) (by kernel_rfl) (by kernel_rfl) ?_
        refine Ry rfl rfl wn (ypt (v := .bool r55) (et rfl rfl) (decide_eq_true c57) (eqv hr11 (et rfl rfl))) ?_
        refine Rn QSn ?_
        exact j10 _ _ ⟨e9_4, e9_5, e9_7, rfl, e9_11, e9_12, e9_13, rfl, (hst.facts (allT (allT allI)))⟩
      · have hr12 := someI gr55
        refine wp_drawR [0, 0, 3, 7, 0, 31, 63, 127, 127, 511, 1023] [9] 1 folM (by kernel_rfl) (by kernel_rfl) (by kernel_rfl) ?_
        replace hst := hst.drew
        refine DRn (l1 := [0, 1, 2, 3, 4, 5, 6, 7, 8]) (l2 := []) (lc := [9]) (by kernel_rfl) (by kernel_rfl) (by kernel_rfl) ?_
        refine Ry rfl rfl wn (yLb (u := h4.v) O_22 (et rfl e9_4) hst mhR rfl) ?_
        refine Ry rfl rfl wn (ym (v := .int .i64 x28) (et rfl rfl)) ?_
        refine Ry rfl rfl wn (yIa SL_22 (et rfl rfl) (et rfl rfl) hst (rdI (mtF (mtF q2))) gx54) ?_
        refine Ry rfl rfl wn (yI O_3 (et rfl rfl) hst (rdI (mtF (mtF q2))) gx54) ?_
        refine Ry rfl rfl wn (yLb (u := .int .i64 x5) O_3 (et rfl e9_5) hst (mtR mhR) rfl) ?_
        refine Ry rfl rfl wn (yeql (et rfl rfl) (et rfl rfl)) ?_
        refine Ry rfl rfl wn (ym (v := .bool (decide (x54 = x5))) (et rfl rfl)) ?_
        refine Rx rfl rfl (wx rfl rfl rfl (decide_eq_false c57)) ?_
        refine Rx rfl rfl (wx rfl rfl rfl (decide_eq_false c57)) ?_
        refine Rn QSn ?_
        refine Lc rfl ?_ LAn
        refine Lx (wx rfl rfl rfl (decide_eq_false c57)) ?_
        refine DRz (l1 := [10]) (l2 := []) (by kernel_rfl) (by kernel_rfl) ?_
        refine Ry rfl rfl wn (ypf (v := .bool r55) (et rfl rfl) (decide_eq_false c57) (eqv hr12 rfl)) ?_
        refine Rn QSn ?_
        exact j10 _ _ ⟨e9_4, e9_5, e9_7, rfl, e9_11, e9_12, e9_13, rfl, (hst.facts (allT (allT allI)))⟩
    clear hst
    rintro f w ⟨e56_4, e56_5, e56_7, e56_8, e56_11, e56_12, e56_13, e56_28, hst⟩
    refine k24 _ _ ?_
    have j13 : ∀ (x63 : List Int) (h62 : Hdr) (f : Nat → Value) (w : World), f 4 = .pointer (some ⟨b7, 0, none⟩) → f 5 = .pointer (some ⟨b8, 0, none⟩) → f 7 = h62.v → f 11 = h2.v → f 12 = .int .i64 (x1.length : Int) → f 13 = .int .i64 x28 → St w0 (ros) (box b7 22 [h4.v] :: box b8 3 [.int .i64 x5] :: row 3 (rI .i64) h62.v x63 :: rs) w → dissect_border_j13 x28 x63 = some r9_ → Q22 .normal (fr 35 f) w := by
      intro x63 h62 f w ej13_4 ej13_5 ej13_7 ej13_11 ej13_12 ej13_13 hst hM
      refine qb22 _ _ _ ?_
      refine k21 _ _ ?_
      refine wp_region_lit ?_
      refine Y wn rfl (yadd (et rfl ej13_13) rfl) ?_
      refine Y wn rfl (ym (v := .int .i64 (wa .i64 x28 1)) (et rfl rfl)) ?_
      refine wpList_nil ?_
      obtain rfl := someI hM
      exact n9 _ _ _ rfl ⟨_, _, _, _, rfl, rfl, ej13_4, ej13_5, ej13_7, ej13_11, ej13_12, rfl, hst⟩
    rcases iteS hM9 with ⟨c64, hM9⟩ | ⟨c64, hM9⟩
    · refine condT (et rfl e56_28) c64 ?_
      refine wp_region_lit ?_
      refine Y wn rfl (ym (v := h26.v) (et rfl e56_7)) ?_
      refine Y wn rfl (ym (v := .int .i64 x28) (et rfl e56_8)) ?_
      refine YH wn rfl (rLt (n := 1) (l := [x28]) hst SL_22 [.int .i64 x28] (bp1 (et rfl rfl)) rfl rfl (mks1 (cs := [.int .i64 x28]) rfl mkI mks0)) ?_
      clear hst
      intro h65 w hst
      obtain ⟨x67, gx67, hM9⟩ := bs hM9
      replace hst := hst.pk 4 [3, 0, 0, 0] rfl
      refine YH wn rfl (rAp hst SL_22 (et rfl rfl) (et rfl rfl) (rdO (mtR mhR)) gx67) ?_
      clear hst
      intro h66 w hst
      refine Y wn rfl (ya (v := h66.v) (et rfl rfl)) ?_
      refine wpList_nil ?_
      exact j13 _ _ _ _ e56_4 e56_5 rfl e56_11 e56_12 e56_13 (hst.pk 4 [2, 2, 0] rfl) hM9
    · refine condF (et rfl e56_28) (bfalse c64) ?_
      refine wp_skip ?_
      exact j13 _ _ _ _ e56_4 e56_5 e56_7 e56_11 e56_12 e56_13 hst hM9
  · refine condF (et rfl rfl) (decide_eq_false c51) ?_
    refine wp_exit ?_
    refine z20 _ _ _ rfl ?_
    obtain rfl := someI hM9
    refine zz9 _ _ _ _ rfl rfl ?_
    exact je9_0 _ _ _ _ e9_7 (hst.pk 3 [2] rfl) (ho9 _ rfl)

theorem matrix_within_ok {w0 : World} {ros : List Fact} {rs : List Res} {w : World} {x1 : Int} {x2 : Int} {x3 : Int} {out : Bool} (hM : matrix_within x1 x2 x3 = some out) (hst : St w0 ros (rs) w) :
    Calls Try.prog 53 #[.int .i64 x1, .int .i64 x2, .int .i64 x3] w (fun e w => e = .returned (.bool out) ∧ St w0 (ros) (rs) w) := by
  refine enterQ Try.func53 rfl Try.ntmps53 rfl fun Q hQ => ?_
  refine seqQ fun Q1 k1 z1 => ?_
  refine wp_region_lit ?_
  refine Y wn rfl (ya (v := .bool false) rfl) ?_
  refine wpList_nil ?_
  refine k1 _ _ ?_
  refine seqQ fun Q2 k2 z2 => ?_
  refine wp_region_lit ?_
  refine Y wn rfl (ym (v := .int .i64 x1) (et rfl rfl)) ?_
  refine Y wn rfl (ym (v := .int .i64 x2) (et rfl rfl)) ?_
  refine Y wn rfl (ygeq (et rfl rfl) (et rfl rfl)) ?_
  refine Y wn rfl (ym (v := .bool (decide (x2 ≤ x1))) (et rfl rfl)) ?_
  refine joinW 4 (fun f w => f 14 = .bool ((decide (x2 ≤ x1)) && (decide (x1 ≤ x3))) ∧ St w0 (ros) (rs) w) (fun j1 => ?_) ?_
  · rcases Bool.eq_false_or_eq_true (decide (x2 ≤ x1)) with c5 | c5
    · refine Y (wg rfl rfl rfl c5) rfl (ym (v := .int .i64 x1) (et rfl rfl)) ?_
      refine Y (wg rfl rfl rfl c5) rfl (ym (v := .int .i64 x3) (et rfl rfl)) ?_
      refine Y (wg rfl rfl rfl c5) rfl (yleq (et rfl rfl) (et rfl rfl)) ?_
      refine Y wn rfl (ypt (v := .bool (decide (x1 ≤ x3))) (et rfl rfl) c5 (et rfl rfl)) ?_
      exact j1 _ _ ⟨(congrArg Value.bool (andT c5)), hst⟩
    · refine Gn (wx rfl rfl rfl c5) rfl ?_
      refine Gn (wx rfl rfl rfl c5) rfl ?_
      refine Gn (wx rfl rfl rfl c5) rfl ?_
      refine Y wn rfl (ypf (v := .bool false) (et rfl rfl) c5 rfl) ?_
      exact j1 _ _ ⟨(congrArg Value.bool (andF c5)), hst⟩
  clear hst
  rintro f w ⟨e4_14, hst⟩
  refine Y wn rfl (ya (v := .bool ((decide (x2 ≤ x1)) && (decide (x1 ≤ x3)))) (et rfl e4_14)) ?_
  refine wpList_nil ?_
  refine k2 _ _ ?_
  refine wp_ret ?_
  obtain rfl := someI hM
  exact hQ _ _ _ (fin1r Try.results53 ⟨rfl, rfl⟩ ⟨rfl, hst⟩)

theorem slices_IsSorted_int_ok {w0 : World} {ros : List Fact} {rs : List Res} {w : World} {x1 : List Int} {h2 : Hdr} {out : Bool} (hM : slices_IsSorted_int x1 = some out) (q1 : imm (rI .i64) h2.v x1 ∈ ros) (hst : St w0 ros (rs) w) :
    Calls Try.prog 73 #[h2.v] w (fun e w => e = .returned (.bool out) ∧ St w0 (ros) (rs) w) := by
  refine enterQ Try.func73 rfl Try.ntmps73 rfl fun Q hQ => ?_
  refine seqQ fun Q1 k1 z1 => ?_
  refine wp_region_lit ?_
  refine Y wn rfl (ya (v := .bool false) rfl) ?_
  refine wpList_nil ?_
  refine k1 _ _ ?_
  refine seqQ fun Q2 k2 z2 => ?_
  refine seqQ fun Q3 k3 z3 => ?_
  refine wp_region_lit ?_
  refine Y wn rfl (ym (v := h2.v) (et rfl rfl)) ?_
  refine Y wn rfl (yLen SL_22 (et rfl rfl) hst (rdI q1)) ?_
  refine Y wn rfl (ysub (et rfl rfl) rfl) ?_
  refine Y wn rfl (ya (v := .int .i64 (ws .i64 (x1.length : Int) 1)) (et rfl rfl)) ?_
  refine wpList_nil ?_
  refine k3 _ _ ?_
  refine blockQ fun Q4 qb4 => ?_
  obtain ⟨o1, go1, hM⟩ := bs hM
  have je1_0 : ∀ (f : Nat → Value) (w : World), St w0 (ros) (rs) w → .inl () = o1 → Q4 (.exit 0) (fr 21 f) w := by
    intro f w hst ho
    subst ho
    refine qb4 _ _ _ ?_
    refine k2 _ _ ?_
    refine seqQ fun Q17 k17 z17 => ?_
    refine wp_region_lit ?_
    refine Y wn rfl (ya (v := .bool true) rfl) ?_
    refine wpList_nil ?_
    refine k17 _ _ ?_
    refine wp_ret ?_
    obtain rfl := someI hM
    exact hQ _ _ _ (fin1r Try.results73 ⟨rfl, rfl⟩ ⟨rfl, hst⟩)
  have je1_1 : ∀ (f : Nat → Value) (w : World), f 2 = .bool false → St w0 (ros) (rs) w → .inr () = o1 → Q4 .ret (fr 21 f) w := by
    intro f w eje1_1_2 hst ho
    subst ho
    refine qb4 _ _ _ ?_
    refine z2 _ _ _ rfl ?_
    obtain rfl := someI hM
    exact hQ _ _ _ (fin1r Try.results73 ⟨rfl, eje1_1_2⟩ ⟨rfl, hst⟩)
  refine loopQ (fun s a w => ∃ (x8 : Int) (f : Nat → Value), x8 = s ∧ a = fr 21 f ∧ f 0 = h2.v ∧ f 3 = .int .i64 x8 ∧ St w0 (ros) (rs) w) go1 ⟨_, _, rfl, rfl, rfl, rfl, hst⟩ ?_
  clear hst
  rintro _ _ w r1_ ⟨x8, f, rfl, rfl, e1_0, e1_3, hst⟩ hM1 ho1 Q100001 n1 zz1
  refine seqQ fun Q18 k18 z18 => ?_
  refine seqQ fun Q19 k19 z19 => ?_
  refine wp_region_lit ?_
  refine Y wn rfl (ym (v := .int .i64 x8) (et rfl e1_3)) ?_
  refine Y wn rfl (ygtr (et rfl rfl) rfl) ?_
  refine wpList_nil ?_
  refine k19 _ _ ?_
  rcases iteS hM1 with ⟨c15, hM1⟩ | ⟨c15, hM1⟩
  · refine condT (et rfl rfl) (decide_eq_true c15) ?_
    refine wp_skip ?_
    refine k18 _ _ ?_
    refine seqQ fun Q20 k20 z20 => ?_
    refine blockQ fun Q21 qb21 => ?_
    refine seqQ fun Q22 k22 z22 => ?_
    obtain ⟨x16, gx16, hM1⟩ := bs hM1
    obtain ⟨x17, gx17, hM1⟩ := bs hM1
    obtain ⟨r18, gr18, hM1⟩ := bs hM1
    refine wp_drawR [0, 0, 3, 7, 0, 0, 32, 112, 240, 511] [9] 1 folM (by kernel_rfl) (by kernel_rfl) (by kernel_rfl) ?_
    replace hst := hst.drew
    refine DRn (l1 := [0, 1, 2, 3, 4, 5, 6, 7, 8]) (l2 := []) (lc := [9]) (by kernel_rfl) (by kernel_rfl) (by kernel_rfl) ?_
    refine Ry rfl rfl wn (ym (v := h2.v) (et rfl e1_0)) ?_
    refine Ry rfl rfl wn (ym (v := .int .i64 x8) (et rfl e1_3)) ?_
    refine Ry rfl rfl wn (yIa SL_22 (et rfl rfl) (et rfl rfl) hst (rdI q1) gx16) ?_
    refine Ry rfl rfl wn (yI O_3 (et rfl rfl) hst (rdI q1) gx16) ?_
    refine Ry rfl rfl wn (ym (v := h2.v) (et rfl e1_0)) ?_
    refine Ry rfl rfl wn (ym (v := .int .i64 x8) (et rfl e1_3)) ?_
    refine Ry rfl rfl wn (ysub (et rfl rfl) rfl) ?_
    refine Ry rfl rfl wn (yIa SL_22 (et rfl rfl) (et rfl rfl) hst (rdI q1) gx17) ?_
    refine Ry rfl rfl wn (yI O_3 (et rfl rfl) hst (rdI q1) gx17) ?_
    refine Rn QSn ?_
    refine Lc rfl ?_ LAn
    refine Lk wn (yCall FN_77 (a2 (et rfl rfl) (et rfl rfl))) (cmp_Less_int_ok (hM := gr18) (hst := hst) ) ?_
    clear hst
    rintro _ w ⟨rfl, hst⟩
    refine ⟨_, rfl, ?_⟩
    refine DRz (l1 := []) (l2 := []) (by kernel_rfl) (by kernel_rfl) ?_
    refine Rn QSn ?_
    refine k22 _ _ ?_
    rcases iteS hM1 with ⟨c19, hM1⟩ | ⟨c19, hM1⟩
    · refine condT (et rfl rfl) c19 ?_
      refine seqQ fun Q23 k23 z23 => ?_
      refine wp_region_lit ?_
      refine Y wn rfl (ya (v := .bool false) rfl) ?_
      refine wpList_nil ?_
      refine k23 _ _ ?_
      refine wp_ret ?_
      refine qb21 _ _ _ ?_
      refine z20 _ _ _ rfl ?_
      obtain rfl := someI hM1
      refine zz1 _ _ _ _ rfl rfl ?_
      exact je1_1 _ _ rfl hst (ho1 _ rfl)
    · refine condF (et rfl rfl) (bfalse c19) ?_
      refine wp_skip ?_
      refine qb21 _ _ _ ?_
      refine k20 _ _ ?_
      refine wp_region_lit ?_
      refine Y wn rfl (ym (v := .int .i64 x8) (et rfl e1_3)) ?_
      refine Y wn rfl (ysub (et rfl rfl) rfl) ?_
      refine Y wn rfl (ya (v := .int .i64 (ws .i64 x8 1)) (et rfl rfl)) ?_
      refine wpList_nil ?_
      obtain rfl := someI hM1
      exact n1 _ _ _ rfl ⟨_, _, rfl, rfl, e1_0, rfl, hst⟩
  · refine condF (et rfl rfl) (decide_eq_false c15) ?_
    refine wp_exit ?_
    refine z18 _ _ _ rfl ?_
    obtain rfl := someI hM1
    refine zz1 _ _ _ _ rfl rfl ?_
    exact je1_0 _ _ hst (ho1 _ rfl)

theorem matrix_columns_ok {w0 : World} {ros : List Fact} {rs : List Res} {w : World} {x1 : Int} {x2 : Int} {x3 : List Int} {x5 : List Int} {x7 : List Int} {h4 : Hdr} {h6 : Hdr} {h8 : Hdr} {out : Bool} (hM : matrix_columns x1 x2 x3 x5 x7 = some out) (q1 : imm (rI .i64) h4.v x3 ∈ ros) (q2 : imm (rI .i64) h6.v x5 ∈ ros) (q3 : imm (rI .u64) h8.v x7 ∈ ros) (hst : St w0 ros (rs) w) :
    Calls Try.prog 54 #[.agg #[.int .i64 x1, .int .i64 x2, h4.v, h6.v, h8.v]] w (fun e w => e = .returned (.bool out) ∧ St w0 (ros) (rs) w) := by
  refine enterQ Try.func54 rfl Try.ntmps54 rfl fun Q hQ => ?_
  refine seqQ fun Q1 k1 z1 => ?_
  refine wp_region_lit ?_
  refine YB wn rfl (r_box (vals := [.int .i64 x1, .int .i64 x2, h4.v, h6.v, h8.v]) hst (et rfl rfl) rfl) ?_
  clear hst
  intro b9 w hst
  refine Y wn rfl (ya (v := .bool false) rfl) ?_
  refine wpList_nil ?_
  refine k1 _ _ ?_
  refine seqQ fun Q2 k2 z2 => ?_
  refine seqQ fun Q3 k3 z3 => ?_
  obtain ⟨r10, gr10, hM⟩ := bs hM
  obtain ⟨r11, gr11, hM⟩ := bs hM
  obtain ⟨r12, gr12, hM⟩ := bs hM
  obtain ⟨r13, gr13, hM⟩ := bs hM
  refine joinN (n := 84) (fun f w => f 1 = .pointer (some ⟨b9, 0, none⟩) ∧ f 47 = .bool r13 ∧ St w0 (ros) (box b9 51 [.int .i64 x1, .int .i64 x2, h4.v, h6.v, h8.v] :: rs) w) (fun j1 => ?_) ?_
  · rcases iteS gr10 with ⟨c15, gr10⟩ | ⟨c15, gr10⟩
    · obtain ⟨x16, gx16, gr10⟩ := bs gr10
      have hr2 := someI gr10
      rcases iteS gr11 with ⟨c17, gr11⟩ | ⟨c17, gr11⟩
      · have hr3 := someI gr11
        have c18 : r11 = true := hr3.symm
        rw [if_pos c18] at gr12
        have hr4 := someI gr12
        have c19 : r12 = true := hr4.symm
        rw [if_pos c19] at gr13
        have hr5 := someI gr13
        refine wp_drawR [0, 1, 3, 0, 8, 24, 63, 127, 255, 511, 1023, 2047, 4095, 8191, 16383, 32767, 65535, 131071, 262143, 524287, 1048575, 2097151, 4194303, 2097151, 10485759, 33554431, 67108863, 2097151, 136314879, 404750335, 1073741823, 2147483647, 4294967295, 8589934591, 17179869183, 34359738367, 8589934591, 77309411327, 214748364799, 549755813887, 1099511627775] [17] 1 folM (by kernel_rfl) (by kernel_rfl) (by kernel_rfl) ?_
        replace hst := hst.drew
        refine DRn (l1 := [0, 1, 2, 3, 4, 5, 6, 7, 8, 9, 10, 11, 12, 13, 14, 15, 16]) (l2 := []) (lc := [17]) (by kernel_rfl) (by kernel_rfl) (by kernel_rfl) ?_
        refine Ry rfl rfl wn (yFb FL_51_2 (et rfl rfl)) ?_
        refine Ry rfl rfl wn (yLb (u := h4.v) O_22 (et rfl rfl) hst mhR rfl) ?_
        refine Ry rfl rfl wn (yLen SL_22 (et rfl rfl) hst (rdI q1)) ?_
        refine Ry rfl rfl wn (yFb FL_51_1 (et rfl rfl)) ?_
        refine Ry rfl rfl wn (yLb (u := .int .i64 x2) O_3 (et rfl rfl) hst mhR rfl) ?_
        refine Ry rfl rfl wn (yadd (et rfl rfl) rfl) ?_
        refine Ry rfl rfl wn (yneq (et rfl rfl) (et rfl rfl)) ?_
        refine Ry rfl rfl wn (ym (v := .bool (!(decide ((x3.length : Int) = (wa .i64 x2 1))))) (et rfl rfl)) ?_
        refine Ry rfl rfl (wg rfl rfl rfl (nF (decide_eq_true c15))) (yFb FL_51_2 (et rfl rfl)) ?_
        refine Ry rfl rfl (wg rfl rfl rfl (nF (decide_eq_true c15))) (yLb (u := h4.v) O_22 (et rfl rfl) hst mhR rfl) ?_
        refine Ry rfl rfl (wg rfl rfl rfl (nF (decide_eq_true c15))) (yIa SL_22 (et rfl rfl) rfl hst (rdI q1) gx16) ?_
        refine Ry rfl rfl (wg rfl rfl rfl (nF (decide_eq_true c15))) (yI O_3 (et rfl rfl) hst (rdI q1) gx16) ?_
        refine Ry rfl rfl (wg rfl rfl rfl (nF (decide_eq_true c15))) (yneq (et rfl rfl) rfl) ?_
        refine Ry rfl rfl wn (ypf (v := .bool r10) (et rfl rfl) (nF (decide_eq_true c15)) (eqv hr2 (et rfl rfl))) ?_
        refine Ry rfl rfl wn (ym (v := .bool r10) (et rfl rfl)) ?_
        refine Rx rfl rfl (wx rfl rfl rfl c17) ?_
        refine Rx rfl rfl (wx rfl rfl rfl c17) ?_
        refine Rn QSn ?_
        refine Lc rfl ?_ LAn
        refine Lx (wx rfl rfl rfl c17) ?_
        refine DRz (l1 := [18, 19, 20, 21, 22, 23, 24, 25, 26, 27, 28, 29, 30, 31, 32, 33, 34, 35, 36, 37, 38, 39, 40]) (l2 := []) (by kernel_rfl) (by kernel_rfl) ?_
        refine Rx rfl rfl (wx rfl rfl rfl c17) ?_
        refine Ry rfl rfl wn (ypt (v := .bool r11) (et rfl rfl) c17 (eqv hr3 rfl)) ?_
        refine Ry rfl rfl wn (ym (v := .bool r11) (et rfl rfl)) ?_
        refine Rx rfl rfl (wx rfl rfl rfl c18) ?_
        refine Rx rfl rfl (wx rfl rfl rfl c18) ?_
        refine Rx rfl rfl (wx rfl rfl rfl c18) ?_
        refine Rx rfl rfl (wx rfl rfl rfl c18) ?_
        refine Rx rfl rfl (wx rfl rfl rfl c18) ?_
        refine Rx rfl rfl (wx rfl rfl rfl c18) ?_
        refine Rx rfl rfl (wx rfl rfl rfl c18) ?_
        refine Rx rfl rfl (wx rfl rfl rfl c18) ?_
        refine Rx rfl rfl (wx rfl rfl rfl c18) ?_
        refine Rx rfl rfl (wx rfl rfl rfl c18) ?_
        refine Ry rfl rfl wn (ypt (v := .bool r12) (et rfl rfl) c18 (eqv hr4 rfl)) ?_
        refine Ry rfl rfl wn (ym (v := .bool r12) (et rfl rfl)) ?_
        refine Rx rfl rfl (wx rfl rfl rfl c19) ?_
        refine Rx rfl rfl (wx rfl rfl rfl c19) ?_
        refine Rx rfl rfl (wx rfl rfl rfl c19) ?_
        refine Rx rfl rfl (wx rfl rfl rfl c19) ?_
        refine Rx rfl rfl (wx rfl rfl rfl c19) ?_
        refine Rx rfl rfl (wx rfl rfl rfl c19) ?_
        refine Rx rfl rfl (wx rfl rfl rfl c19) ?_
        refine Ry rfl rfl wn (ypt (v := .bool r13) (et rfl rfl) c19 (eqv hr5 rfl)) ?_
        refine Rn QSn ?_
        exact j1 _ _ ⟨rfl, rfl, hst⟩
      · obtain ⟨r20, gr20, gr11⟩ := bs gr11
        have hr6 := someI gr11
        rcases iteS gr12 with ⟨c21, gr12⟩ | ⟨c21, gr12⟩
        · have hr7 := someI gr12
          have c22 : r12 = true := hr7.symm
          rw [if_pos c22] at gr13
          have hr8 := someI gr13
          refine wp_drawR [0, 1, 3, 0, 8, 24, 63, 127, 255, 511, 1023, 2047, 4095, 8191, 16383, 32767, 65535, 131071, 262143, 524287, 1048575, 2097151, 4194303, 2097151, 10485759, 33554431, 67108863, 2097151, 136314879, 404750335, 1073741823, 2147483647, 4294967295, 8589934591, 17179869183, 34359738367, 8589934591, 77309411327, 214748364799, 549755813887, 1099511627775] [17] 1 folM (by kernel_rfl) (by kernel_rfl) (by kernel_rfl) ?_
          replace hst := hst.drew
          refine DRn (l1 := [0, 1, 2, 3, 4, 5, 6, 7, 8, 9, 10, 11, 12, 13, 14, 15, 16]) (l2 := []) (lc := [17]) (by kernel_rfl) (by kernel_rfl) (by kernel_rfl) ?_
          refine Ry rfl rfl wn (yFb FL_51_2 (et rfl rfl)) ?_
          refine Ry rfl rfl wn (yLb (u := h4.v) O_22 (et rfl rfl) hst mhR rfl) ?_
          refine Ry rfl rfl wn (yLen SL_22 (et rfl rfl) hst (rdI q1)) ?_
          refine Ry rfl rfl wn (yFb FL_51_1 (et rfl rfl)) ?_
          refine Ry rfl rfl wn (yLb (u := .int .i64 x2) O_3 (et rfl rfl) hst mhR rfl) ?_
          refine Ry rfl rfl wn (yadd (et rfl rfl) rfl) ?_
          refine Ry rfl rfl wn (yneq (et rfl rfl) (et rfl rfl)) ?_
          refine Ry rfl rfl wn (ym (v := .bool (!(decide ((x3.length : Int) = (wa .i64 x2 1))))) (et rfl rfl)) ?_
          refine Ry rfl rfl (wg rfl rfl rfl (nF (decide_eq_true c15))) (yFb FL_51_2 (et rfl rfl)) ?_
          refine Ry rfl rfl (wg rfl rfl rfl (nF (decide_eq_true c15))) (yLb (u := h4.v) O_22 (et rfl rfl) hst mhR rfl) ?_
          refine Ry rfl rfl (wg rfl rfl rfl (nF (decide_eq_true c15))) (yIa SL_22 (et rfl rfl) rfl hst (rdI q1) gx16) ?_
          refine Ry rfl rfl (wg rfl rfl rfl (nF (decide_eq_true c15))) (yI O_3 (et rfl rfl) hst (rdI q1) gx16) ?_
          refine Ry rfl rfl (wg rfl rfl rfl (nF (decide_eq_true c15))) (yneq (et rfl rfl) rfl) ?_
          refine Ry rfl rfl wn (ypf (v := .bool r10) (et rfl rfl) (nF (decide_eq_true c15)) (eqv hr2 (et rfl rfl))) ?_
          refine Ry rfl rfl wn (ym (v := .bool r10) (et rfl rfl)) ?_
          refine Ry rfl rfl (wg rfl rfl rfl (bfalse c17)) (yFb FL_51_2 (et rfl rfl)) ?_
          refine Ry rfl rfl (wg rfl rfl rfl (bfalse c17)) (yLb (u := h4.v) O_22 (et rfl rfl) hst mhR rfl) ?_
          refine Rn QSn ?_
          refine Lc rfl ?_ LAn
          refine Lk (wg rfl rfl rfl (bfalse c17)) (yCall FN_73 (a1 (et rfl rfl))) (slices_IsSorted_int_ok (hM := gr20) (hst := hst) (q1 := q1)) ?_
          clear hst
          rintro _ w ⟨rfl, hst⟩
          refine ⟨_, rfl, ?_⟩
          refine DRz (l1 := [18, 19, 20, 21, 22, 23, 24, 25, 26, 27, 28, 29, 30, 31, 32, 33, 34, 35, 36, 37, 38, 39, 40]) (l2 := []) (by kernel_rfl) (by kernel_rfl) ?_
          refine Ry rfl rfl (wg rfl rfl rfl (bfalse c17)) (ynot (et rfl rfl)) ?_
          refine Ry rfl rfl wn (ypf (v := .bool r11) (et rfl rfl) (bfalse c17) (eqv hr6 (et rfl rfl))) ?_
          refine Ry rfl rfl wn (ym (v := .bool r11) (et rfl rfl)) ?_
          refine Rx rfl rfl (wx rfl rfl rfl c21) ?_
          refine Rx rfl rfl (wx rfl rfl rfl c21) ?_
          refine Rx rfl rfl (wx rfl rfl rfl c21) ?_
          refine Rx rfl rfl (wx rfl rfl rfl c21) ?_
          refine Rx rfl rfl (wx rfl rfl rfl c21) ?_
          refine Rx rfl rfl (wx rfl rfl rfl c21) ?_
          refine Rx rfl rfl (wx rfl rfl rfl c21) ?_
          refine Rx rfl rfl (wx rfl rfl rfl c21) ?_
          refine Rx rfl rfl (wx rfl rfl rfl c21) ?_
          refine Rx rfl rfl (wx rfl rfl rfl c21) ?_
          refine Ry rfl rfl wn (ypt (v := .bool r12) (et rfl rfl) c21 (eqv hr7 rfl)) ?_
          refine Ry rfl rfl wn (ym (v := .bool r12) (et rfl rfl)) ?_
          refine Rx rfl rfl (wx rfl rfl rfl c22) ?_
          refine Rx rfl rfl (wx rfl rfl rfl c22) ?_
          refine Rx rfl rfl (wx rfl rfl rfl c22) ?_
          refine Rx rfl rfl (wx rfl rfl rfl c22) ?_
          refine Rx rfl rfl (wx rfl rfl rfl c22) ?_
          refine Rx rfl rfl (wx rfl rfl rfl c22) ?_
          refine Rx rfl rfl (wx rfl rfl rfl c22) ?_
          refine Ry rfl rfl wn (ypt (v := .bool r13) (et rfl rfl) c22 (eqv hr8 rfl)) ?_
          refine Rn QSn ?_
          exact j1 _ _ ⟨rfl, rfl, hst⟩
        · obtain ⟨x23, gx23, gr12⟩ := bs gr12
          have hr9 := someI gr12
          rcases iteS gr13 with ⟨c24, gr13⟩ | ⟨c24, gr13⟩
          · have hr10 := someI gr13
            refine wp_drawR [0, 1, 3, 0, 8, 24, 63, 127, 255, 511, 1023, 2047, 4095, 8191, 16383, 32767, 65535, 131071, 262143, 524287, 1048575, 2097151, 4194303, 2097151, 10485759, 33554431, 67108863, 2097151, 136314879, 404750335, 1073741823, 2147483647, 4294967295, 8589934591, 17179869183, 34359738367, 8589934591, 77309411327, 214748364799, 549755813887, 1099511627775] [17] 1 folM (by kernel_rfl) (by kernel_rfl) (by kernel_rfl) ?_
            replace hst := hst.drew
            refine DRn (l1 := [0, 1, 2, 3, 4, 5, 6, 7, 8, 9, 10, 11, 12, 13, 14, 15, 16]) (l2 := []) (lc := [17]) (by kernel_rfl) (by kernel_rfl) (by kernel_rfl) ?_
            refine Ry rfl rfl wn (yFb FL_51_2 (et rfl rfl)) ?_
            refine Ry rfl rfl wn (yLb (u := h4.v) O_22 (et rfl rfl) hst mhR rfl) ?_
            refine Ry rfl rfl wn (yLen SL_22 (et rfl rfl) hst (rdI q1)) ?_
            refine Ry rfl rfl wn (yFb FL_51_1 (et rfl rfl)) ?_
            refine Ry rfl rfl wn (yLb (u := .int .i64 x2) O_3 (et rfl rfl) hst mhR rfl) ?_
            refine Ry rfl rfl wn (yadd (et rfl rfl) rfl) ?_
            refine Ry rfl rfl wn (yneq (et rfl rfl) (et rfl rfl)) ?_
            refine Ry rfl rfl wn (ym (v := .bool (!(decide ((x3.length : Int) = (wa .i64 x2 1))))) (et rfl rfl)) ?_
            refine Ry rfl rfl (wg rfl rfl rfl (nF (decide_eq_true c15))) (yFb FL_51_2 (et rfl rfl)) ?_
            refine Ry rfl rfl (wg rfl rfl rfl (nF (decide_eq_true c15))) (yLb (u := h4.v) O_22 (et rfl rfl) hst mhR rfl) ?_
            refine Ry rfl rfl (wg rfl rfl rfl (nF (decide_eq_true c15))) (yIa SL_22 (et rfl rfl) rfl hst (rdI q1) gx16) ?_
            refine Ry rfl rfl (wg rfl rfl rfl (nF (decide_eq_true c15))) (yI O_3 (et rfl rfl) hst (rdI q1) gx16) ?_
            refine Ry rfl rfl (wg rfl rfl rfl (nF (decide_eq_true c15))) (yneq (et rfl rfl) rfl) ?_
            refine Ry rfl rfl wn (ypf (v := .bool r10) (et rfl rfl) (nF (decide_eq_true c15)) (eqv hr2 (et rfl rfl))) ?_
            refine Ry rfl rfl wn (ym (v := .bool r10) (et rfl rfl)) ?_
            refine Ry rfl rfl (wg rfl rfl rfl (bfalse c17)) (yFb FL_51_2 (et rfl rfl)) ?_
            refine Ry rfl rfl (wg rfl rfl rfl (bfalse c17)) (yLb (u := h4.v) O_22 (et rfl rfl) hst mhR rfl) ?_
            refine Rn QSn ?_
            refine Lc rfl ?_ LAn
            refine Lk (wg rfl rfl rfl (bfalse c17)) (yCall FN_73 (a1 (et rfl rfl))) (slices_IsSorted_int_ok (hM := gr20) (hst := hst) (q1 := q1)) ?_
            clear hst
            rintro _ w ⟨rfl, hst⟩
            refine ⟨_, rfl, ?_⟩
            refine DRz (l1 := [18, 19, 20, 21, 22, 23, 24, 25, 26, 27, 28, 29, 30, 31, 32, 33, 34, 35, 36, 37, 38, 39, 40]) (l2 := []) (by kernel_rfl) (by kernel_rfl) ?_
            refine Ry rfl rfl (wg rfl rfl rfl (bfalse c17)) (ynot (et rfl rfl)) ?_
            refine Ry rfl rfl wn (ypf (v := .bool r11) (et rfl rfl) (bfalse c17) (eqv hr6 (et rfl rfl))) ?_
            refine Ry rfl rfl wn (ym (v := .bool r11) (et rfl rfl)) ?_
            refine Ry rfl rfl (wg rfl rfl rfl (bfalse c21)) (yFb FL_51_2 (et rfl rfl)) ?_
            refine Ry rfl rfl (wg rfl rfl rfl (bfalse c21)) (yLb (u := h4.v) O_22 (et rfl rfl) hst mhR rfl) ?_
            refine Ry rfl rfl (wg rfl rfl rfl (bfalse c21)) (yFb FL_51_1 (et rfl rfl)) ?_
            refine Ry rfl rfl (wg rfl rfl rfl (bfalse c21)) (yLb (u := .int .i64 x2) O_3 (et rfl rfl) hst mhR rfl) ?_
            refine Ry rfl rfl (wg rfl rfl rfl (bfalse c21)) (yIa SL_22 (et rfl rfl) (et rfl rfl) hst (rdI q1) gx23) ?_
            refine Ry rfl rfl (wg rfl rfl rfl (bfalse c21)) (yI O_3 (et rfl rfl) hst (rdI q1) gx23) ?_
            refine Ry rfl rfl (wg rfl rfl rfl (bfalse c21)) (yFb FL_51_3 (et rfl rfl)) ?_
            refine Ry rfl rfl (wg rfl rfl rfl (bfalse c21)) (yLb (u := h6.v) O_22 (et rfl rfl) hst mhR rfl) ?_
            refine Ry rfl rfl (wg rfl rfl rfl (bfalse c21)) (yLen SL_22 (et rfl rfl) hst (rdI q2)) ?_
            refine Ry rfl rfl (wg rfl rfl rfl (bfalse c21)) (yneq (et rfl rfl) (et rfl rfl)) ?_
            refine Ry rfl rfl wn (ypf (v := .bool r12) (et rfl rfl) (bfalse c21) (eqv hr9 (et rfl rfl))) ?_
            refine Ry rfl rfl wn (ym (v := .bool r12) (et rfl rfl)) ?_
            refine Rx rfl rfl (wx rfl rfl rfl c24) ?_
            refine Rx rfl rfl (wx rfl rfl rfl c24) ?_
            refine Rx rfl rfl (wx rfl rfl rfl c24) ?_
            refine Rx rfl rfl (wx rfl rfl rfl c24) ?_
            refine Rx rfl rfl (wx rfl rfl rfl c24) ?_
            refine Rx rfl rfl (wx rfl rfl rfl c24) ?_
            refine Rx rfl rfl (wx rfl rfl rfl c24) ?_
            refine Ry rfl rfl wn (ypt (v := .bool r13) (et rfl rfl) c24 (eqv hr10 rfl)) ?_
            refine Rn QSn ?_
            exact j1 _ _ ⟨rfl, rfl, hst⟩
          · have hr11 := someI gr13
            refine wp_drawR [0, 1, 3, 0, 8, 24, 63, 127, 255, 511, 1023, 2047, 4095, 8191, 16383, 32767, 65535, 131071, 262143, 524287, 1048575, 2097151, 4194303, 2097151, 10485759, 33554431, 67108863, 2097151, 136314879, 404750335, 1073741823, 2147483647, 4294967295, 8589934591, 17179869183, 34359738367, 8589934591, 77309411327, 214748364799, 549755813887, 1099511627775] [17] 1 folM (by kernel_rfl) (by kernel_rfl) (by kernel_rfl) ?_
            replace hst := hst.drew
            refine DRn (l1 := [0, 1, 2, 3, 4, 5, 6, 7, 8, 9, 10, 11, 12, 13, 14, 15, 16]) (l2 := []) (lc := [17]) (by kernel_rfl) (by kernel_rfl) (by kernel_rfl) ?_
            refine Ry rfl rfl wn (yFb FL_51_2 (et rfl rfl)) ?_
            refine Ry rfl rfl wn (yLb (u := h4.v) O_22 (et rfl rfl) hst mhR rfl) ?_
            refine Ry rfl rfl wn (yLen SL_22 (et rfl rfl) hst (rdI q1)) ?_
            refine Ry rfl rfl wn (yFb FL_51_1 (et rfl rfl)) ?_
            refine Ry rfl rfl wn (yLb (u := .int .i64 x2) O_3 (et rfl rfl) hst mhR rfl) ?_
            refine Ry rfl rfl wn (yadd (et rfl rfl) rfl) ?_
            refine Ry rfl rfl wn (yneq (et rfl rfl) (et rfl rfl)) ?_
            refine Ry rfl rfl wn (ym (v := .bool (!(decide ((x3.length : Int) = (wa .i64 x2 1))))) (et rfl rfl)) ?_
            refine Ry rfl rfl (wg rfl rfl rfl (nF (decide_eq_true c15))) (yFb FL_51_2 (et rfl rfl)) ?_
            refine Ry rfl rfl (wg rfl rfl rfl (nF (decide_eq_true c15))) (yLb (u := h4.v) O_22 (et rfl rfl) hst mhR rfl) ?_
            refine Ry rfl rfl (wg rfl rfl rfl (nF (decide_eq_true c15))) (yIa SL_22 (et rfl rfl) rfl hst (rdI q1) gx16) ?_
            refine Ry rfl rfl (wg rfl rfl rfl (nF (decide_eq_true c15))) (yI O_3 (et rfl rfl) hst (rdI q1) gx16) ?_
            refine Ry rfl rfl (wg rfl rfl rfl (nF (decide_eq_true c15))) (yneq (et rfl rfl) rfl) ?_
            refine Ry rfl rfl wn (ypf (v := .bool r10) (et rfl rfl) (nF (decide_eq_true c15)) (eqv hr2 (et rfl rfl))) ?_
            refine Ry rfl rfl wn (ym (v := .bool r10) (et rfl rfl)) ?_
            refine Ry rfl rfl (wg rfl rfl rfl (bfalse c17)) (yFb FL_51_2 (et rfl rfl)) ?_
            refine Ry rfl rfl (wg rfl rfl rfl (bfalse c17)) (yLb (u := h4.v) O_22 (et rfl rfl) hst mhR rfl) ?_
            refine Rn QSn ?_
            refine Lc rfl ?_ LAn
            refine Lk (wg rfl rfl rfl (bfalse c17)) (yCall FN_73 (a1 (et rfl rfl))) (slices_IsSorted_int_ok (hM := gr20) (hst := hst) (q1 := q1)) ?_
            clear hst
            rintro _ w ⟨rfl, hst⟩
            refine ⟨_, rfl, ?_⟩
            refine DRz (l1 := [18, 19, 20, 21, 22, 23, 24, 25, 26, 27, 28, 29, 30, 31, 32, 33, 34, 35, 36, 37, 38, 39, 40]) (l2 := []) (by kernel_rfl) (by kernel_rfl) ?_
            refine Ry rfl rfl (wg rfl rfl rfl (bfalse c17)) (ynot (et rfl rfl)) ?_
            refine Ry rfl rfl wn (ypf (v := .bool r11) (et rfl rfl) (bfalse c17) (eqv hr6 (et rfl rfl))) ?_
            refine Ry rfl rfl wn (ym (v := .bool r11) (et rfl rfl)) ?_
            refine Ry rfl rfl (wg rfl rfl rfl (bfalse c21)) (yFb FL_51_2 (et rfl rfl)) ?_
            refine Ry rfl rfl (wg rfl rfl rfl (bfalse c21)) (yLb (u := h4.v) O_22 (et rfl rfl) hst mhR rfl) ?_
            refine Ry rfl rfl (wg rfl rfl rfl (bfalse c21)) (yFb FL_51_1 (et rfl rfl)) ?_
            refine Ry rfl rfl (wg rfl rfl rfl (bfalse c21)) (yLb (u := .int .i64 x2) O_3 (et rfl rfl) hst mhR rfl) ?_
            refine Ry rfl rfl (wg rfl rfl rfl (bfalse c21)) (yIa SL_22 (et rfl rfl) (et rfl rfl) hst (rdI q1) gx23) ?_
            refine Ry rfl rfl (wg rfl rfl rfl (bfalse c21)) (yI O_3 (et rfl rfl) hst (rdI q1) gx23) ?_
            refine Ry rfl rfl (wg rfl rfl rfl (bfalse c21)) (yFb FL_51_3 (et rfl rfl)) ?_
            refine Ry rfl rfl (wg rfl rfl rfl (bfalse c21)) (yLb (u := h6.v) O_22 (et rfl rfl) hst mhR rfl) ?_
            refine Ry rfl rfl (wg rfl rfl rfl (bfalse c21)) (yLen SL_22 (et rfl rfl) hst (rdI q2)) ?_
            refine Ry rfl rfl (wg rfl rfl rfl (bfalse c21)) (yneq (et rfl rfl) (et rfl rfl)) ?_
            refine Ry rfl rfl wn (ypf (v := .bool r12) (et rfl rfl) (bfalse c21) (eqv hr9 (et rfl rfl))) ?_
            refine Ry rfl rfl wn (ym (v := .bool r12) (et rfl rfl)) ?_
            refine Ry rfl rfl (wg rfl rfl rfl (bfalse c24)) (yFb FL_51_3 (et rfl rfl)) ?_
            refine Ry rfl rfl (wg rfl rfl rfl (bfalse c24)) (yLb (u := h6.v) O_22 (et rfl rfl) hst mhR rfl) ?_
            refine Ry rfl rfl (wg rfl rfl rfl (bfalse c24)) (yLen SL_22 (et rfl rfl) hst (rdI q2)) ?_
            refine Ry rfl rfl (wg rfl rfl rfl (bfalse c24)) (yFb FL_51_4 (et rfl rfl)) ?_
            refine Ry rfl rfl (wg rfl rfl rfl (bfalse c24)) (yLb (u := h8.v) O_49 (et rfl rfl) hst mhR rfl) ?_
            refine Ry rfl rfl (wg rfl rfl rfl (bfalse c24)) (yLen SL_49 (et rfl rfl) hst (rdI q3)) ?_
            refine Ry rfl rfl (wg rfl rfl rfl (bfalse c24)) (yneq (et rfl rfl) (et rfl rfl)) ?_
            refine Ry rfl rfl wn (ypf (v := .bool r13) (et rfl rfl) (bfalse c24) (eqv hr11 (et rfl rfl))) ?_
            refine Rn QSn ?_
            exact j1 _ _ ⟨rfl, rfl, hst⟩
    · have hr12 := someI gr10
      have c25 : r10 = true := hr12.symm
      rw [if_pos c25] at gr11
      have hr13 := someI gr11
      have c26 : r11 = true := hr13.symm
      rw [if_pos c26] at gr12
      have hr14 := someI gr12
      have c27 : r12 = true := hr14.symm
      rw [if_pos c27] at gr13
      have hr15 := someI gr13
      refine wp_drawR [0, 1, 3, 0, 8, 24, 63, 127, 255, 511, 1023, 2047, 4095, 8191, 16383, 32767, 65535, 131071, 262143, 524287, 1048575, 2097151, 4194303, 2097151, 10485759, 33554431, 67108863, 2097151, 136314879, 404750335, 1073741823, 2147483647, 4294967295, 8589934591, 17179869183, 34359738367, 8589934591, 77309411327, 214748364799, 549755813887, 1099511627775] [17] 1 folM (by kernel_rfl) (by kernel_rfl) (by kernel_rfl) ?_
      replace hst := hst.drew
      refine DRn (l1 := [0, 1, 2, 3, 4, 5, 6, 7, 8, 9, 10, 11, 12, 13, 14, 15, 16]) (l2 := []) (lc := [17]) (by kernel_rfl) (by kernel_rfl) (by kernel_rfl) ?_
      refine Ry rfl rfl wn (yFb FL_51_2 (et rfl rfl)) ?_
      refine Ry rfl rfl wn (yLb (u := h4.v) O_22 (et rfl rfl) hst mhR rfl) ?_
      refine Ry rfl rfl wn (yLen SL_22 (et rfl rfl) hst (rdI q1)) ?_
      refine Ry rfl rfl wn (yFb FL_51_1 (et rfl rfl)) ?_
      refine Ry rfl rfl wn (yLb (u := .int .i64 x2) O_3 (et rfl rfl) hst mhR rfl) ?_
      refine Ry rfl rfl wn (yadd (et rfl rfl) rfl) ?_
      refine Ry rfl rfl wn (yneq (et rfl rfl) (et rfl rfl)) ?_
      refine Ry rfl rfl wn (ym (v := .bool (!(decide ((x3.length : Int) = (wa .i64 x2 1))))) (et rfl rfl)) ?_
      refine Rx rfl rfl (wx rfl rfl rfl (nT (decide_eq_false c15))) ?_
      refine Rx rfl rfl (wx rfl rfl rfl (nT (decide_eq_false c15))) ?_
      refine Rx rfl rfl (wx rfl rfl rfl (nT (decide_eq_false c15))) ?_
      refine Rx rfl rfl (wx rfl rfl rfl (nT (decide_eq_false c15))) ?_
      refine Rx rfl rfl (wx rfl rfl rfl (nT (decide_eq_false c15))) ?_
      refine Ry rfl rfl wn (ypt (v := .bool r10) (et rfl rfl) (nT (decide_eq_false c15)) (eqv hr12 rfl)) ?_
      refine Ry rfl rfl wn (ym (v := .bool r10) (et rfl rfl)) ?_
      refine Rx rfl rfl (wx rfl rfl rfl c25) ?_
      refine Rx rfl rfl (wx rfl rfl rfl c25) ?_
      refine Rn QSn ?_
      refine Lc rfl ?_ LAn
      refine Lx (wx rfl rfl rfl c25) ?_
      refine DRz (l1 := [18, 19, 20, 21, 22, 23, 24, 25, 26, 27, 28, 29, 30, 31, 32, 33, 34, 35, 36, 37, 38, 39, 40]) (l2 := []) (by kernel_rfl) (by kernel_rfl) ?_
      refine Rx rfl rfl (wx rfl rfl rfl c25) ?_
      refine Ry rfl rfl wn (ypt (v := .bool r11) (et rfl rfl) c25 (eqv hr13 rfl)) ?_
      refine Ry rfl rfl wn (ym (v := .bool r11) (et rfl rfl)) ?_
      refine Rx rfl rfl (wx rfl rfl rfl c26) ?_
      refine Rx rfl rfl (wx rfl rfl rfl c26) ?_
      refine Rx rfl rfl (wx rfl rfl rfl c26) ?_
      refine Rx rfl rfl (wx rfl rfl rfl c26) ?_
      refine Rx rfl rfl (wx rfl rfl rfl c26) ?_
      refine Rx rfl rfl (wx rfl rfl rfl c26) ?_
      refine Rx rfl rfl (wx rfl rfl rfl c26) ?_
      refine Rx rfl rfl (wx rfl rfl rfl c26) ?_
      refine Rx rfl rfl (wx rfl rfl rfl c26) ?_
      refine Rx rfl rfl (wx rfl rfl rfl c26) ?_
      refine Ry rfl rfl wn (ypt (v := .bool r12) (et rfl rfl) c26 (eqv hr14 rfl)) ?_
      refine Ry rfl rfl wn (ym (v := .bool r12) (et rfl rfl)) ?_
      refine Rx rfl rfl (wx rfl rfl rfl c27) ?_
      refine Rx rfl rfl (wx rfl rfl rfl c27) ?_
      refine Rx rfl rfl (wx rfl rfl rfl c27) ?_
      refine Rx rfl rfl (wx rfl rfl rfl c27) ?_
      refine Rx rfl rfl (wx rfl rfl rfl c27) ?_
      refine Rx rfl rfl (wx rfl rfl rfl c27) ?_
      refine Rx rfl rfl (wx rfl rfl rfl c27) ?_
      refine Ry rfl rfl wn (ypt (v := .bool r13) (et rfl rfl) c27 (eqv hr15 rfl)) ?_
      refine Rn QSn ?_
      exact j1 _ _ ⟨rfl, rfl, hst⟩
  clear hst
  rintro f w ⟨e14_1, e14_47, hst⟩
  refine k3 _ _ ?_
  rcases iteS hM with ⟨c28, hM⟩ | ⟨c28, hM⟩
  · refine condT (et rfl e14_47) c28 ?_
    refine seqQ fun Q4 k4 z4 => ?_
    refine wp_region_lit ?_
    refine Y wn rfl (ya (v := .bool false) rfl) ?_
    refine wpList_nil ?_
    refine k4 _ _ ?_
    refine wp_ret ?_
    refine z2 _ _ _ rfl ?_
    obtain rfl := someI hM
    exact hQ _ _ _ (fin1r Try.results54 ⟨rfl, rfl⟩ ⟨rfl, (hst.pk 1 [] rfl)⟩)
  · refine condF (et rfl e14_47) (bfalse c28) ?_
    refine wp_skip ?_
    refine k2 _ _ ?_
    refine seqQ fun Q5 k5 z5 => ?_
    refine seqQ fun Q6 k6 z6 => ?_
    refine wp_region_lit ?_
    refine Y wn rfl (yFb FL_51_1 (et rfl e14_1)) ?_
    refine Y wn rfl (yLb (u := .int .i64 x2) O_3 (et rfl rfl) hst mhR rfl) ?_
    refine Y wn rfl (ym (v := .int .i64 0) rfl) ?_
    refine wpList_nil ?_
    refine k6 _ _ ?_
    refine blockQ fun Q7 qb7 => ?_
    obtain ⟨o24, go24, hM⟩ := bs hM
    have je24_0 : ∀ (f : Nat → Value) (w : World), St w0 (ros) (rs) w → .inl () = o24 → Q7 (.exit 0) (fr 84 f) w := by
      intro f w hst ho
      subst ho
      refine qb7 _ _ _ ?_
      refine k5 _ _ ?_
      refine seqQ fun Q72 k72 z72 => ?_
      refine wp_region_lit ?_
      refine Y wn rfl (ya (v := .bool true) rfl) ?_
      refine wpList_nil ?_
      refine k72 _ _ ?_
      refine wp_ret ?_
      obtain rfl := someI hM
      exact hQ _ _ _ (fin1r Try.results54 ⟨rfl, rfl⟩ ⟨rfl, hst⟩)
    have je24_1 : ∀ (f : Nat → Value) (w : World), f 2 = .bool false → St w0 (ros) (rs) w → .inr () = o24 → Q7 .ret (fr 84 f) w := by
      intro f w eje24_1_2 hst ho
      subst ho
      refine qb7 _ _ _ ?_
      refine z5 _ _ _ rfl ?_
      obtain rfl := someI hM
      exact hQ _ _ _ (fin1r Try.results54 ⟨rfl, eje24_1_2⟩ ⟨rfl, hst⟩)
    refine loopQ (fun s a w => ∃ (x52 : Int) (f : Nat → Value), x52 = s ∧ a = fr 84 f ∧ f 1 = .pointer (some ⟨b9, 0, none⟩) ∧ f 49 = .int .i64 x2 ∧ f 50 = .int .i64 x52 ∧ St w0 (ros) (box b9 51 [.int .i64 x1, .int .i64 x2, h4.v, h6.v, h8.v] :: rs) w) go24 ⟨_, _, rfl, rfl, e14_1, rfl, rfl, hst⟩ ?_
    clear hst
    rintro _ _ w r24_ ⟨x52, f, rfl, rfl, e24_1, e24_49, e24_50, hst⟩ hM24 ho24 Q100024 n24 zz24
    refine seqQ fun Q73 k73 z73 => ?_
    refine wp_region_lit ?_
    refine Y wn rfl (ylss (et rfl e24_50) (et rfl e24_49)) ?_
    refine wpList_nil ?_
    refine k73 _ _ ?_
    refine seqQ fun Q74 k74 z74 => ?_
    rcases iteS hM24 with ⟨c77, hM24⟩ | ⟨c77, hM24⟩
    · refine condT (et rfl rfl) (decide_eq_true c77) ?_
      refine wp_skip ?_
      refine k74 _ _ ?_
      refine seqQ fun Q75 k75 z75 => ?_
      refine blockQ fun Q76 qb76 => ?_
      refine seqQ fun Q77 k77 z77 => ?_
      refine wp_region_lit ?_
      refine Y wn rfl (ym (v := .int .i64 x52) (et rfl e24_50)) ?_
      refine Y wn rfl (ya (v := .int .i64 x52) (et rfl rfl)) ?_
      refine wpList_nil ?_
      refine k77 _ _ ?_
      refine seqQ fun Q78 k78 z78 => ?_
      refine wp_region_lit ?_
      refine Y wn rfl (ya (v := .int .i64 (-1)) rfl) ?_
      refine wpList_nil ?_
      refine k78 _ _ ?_
      refine seqQ fun Q79 k79 z79 => ?_
      obtain ⟨x78, gx78, hM24⟩ := bs hM24
      obtain ⟨x79, gx79, hM24⟩ := bs hM24
      obtain ⟨x80, gx80, hM24⟩ := bs hM24
      refine wp_drawR [0, 1, 0, 4, 0, 28, 60, 0, 128, 0, 512, 1920, 3968, 8191, 16383, 0] [] 0 folM (by kernel_rfl) (by kernel_rfl) (by kernel_rfl) ?_
      replace hst := hst.drew
      refine DRz (l1 := [0, 1, 2, 3, 4, 5, 6, 7, 8, 9, 10, 11, 12, 13, 14, 15]) (l2 := []) (by kernel_rfl) (by kernel_rfl) ?_
      refine Ry rfl rfl wn (yFb FL_51_3 (et rfl e24_1)) ?_
      refine Ry rfl rfl wn (yLb (u := h6.v) O_22 (et rfl rfl) hst mhR rfl) ?_
      refine Ry rfl rfl wn (yFb FL_51_2 (et rfl e24_1)) ?_
      refine Ry rfl rfl wn (yLb (u := h4.v) O_22 (et rfl rfl) hst mhR rfl) ?_
      refine Ry rfl rfl wn (ym (v := .int .i64 x52) (et rfl rfl)) ?_
      refine Ry rfl rfl wn (yIa SL_22 (et rfl rfl) (et rfl rfl) hst (rdI q1) gx78) ?_
      refine Ry rfl rfl wn (yI O_3 (et rfl rfl) hst (rdI q1) gx78) ?_
      refine Ry rfl rfl wn (yFb FL_51_2 (et rfl e24_1)) ?_
      refine Ry rfl rfl wn (yLb (u := h4.v) O_22 (et rfl rfl) hst mhR rfl) ?_
      refine Ry rfl rfl wn (ym (v := .int .i64 x52) (et rfl rfl)) ?_
      refine Ry rfl rfl wn (yadd (et rfl rfl) rfl) ?_
      refine Ry rfl rfl wn (yIa SL_22 (et rfl rfl) (et rfl rfl) hst (rdI q1) gx79) ?_
      refine Ry rfl rfl wn (yI O_3 (et rfl rfl) hst (rdI q1) gx79) ?_
      refine Ry rfl rfl wn (ySl SL_22 (et rfl rfl) hst (rdI q2) (.inl (congrArg some (et rfl rfl))) (.inl (congrArg some (et rfl rfl))) gx80) ?_
      replace hst := hst.sub q2 gx80
      refine Ry rfl rfl wn (yLen SL_22 (et rfl rfl) hst (rdI mhF)) ?_
      refine Ry rfl rfl wn (ym (v := .int .i64 0) rfl) ?_
      refine Rn QSn ?_
      refine k79 _ _ ?_
      refine blockQ fun Q80 qb80 => ?_
      obtain ⟨o27, go27, hM24⟩ := bs hM24
      have je27_0 : ∀ (f : Nat → Value) (w : World), f 1 = .pointer (some ⟨b9, 0, none⟩) → f 49 = .int .i64 x2 → f 50 = .int .i64 x52 → St w0 (ros) (box b9 51 [.int .i64 x1, .int .i64 x2, h4.v, h6.v, h8.v] :: rs) w → .inl () = o27 → Q80 (.exit 2) (fr 84 f) w := by
        intro f w eje27_0_1 eje27_0_49 eje27_0_50 hst ho
        subst ho
        refine qb80 _ _ _ ?_
        refine qb76 _ _ _ ?_
        refine k75 _ _ ?_
        refine wp_region_lit ?_
        refine Y wn rfl (yadd (et rfl eje27_0_50) rfl) ?_
        refine Y wn rfl (ym (v := .int .i64 (wa .i64 x52 1)) (et rfl rfl)) ?_
        refine wpList_nil ?_
        obtain rfl := someI hM24
        exact n24 _ _ _ rfl ⟨_, _, rfl, rfl, eje27_0_1, eje27_0_49, rfl, hst⟩
      have je27_1 : ∀ (f : Nat → Value) (w : World), f 2 = .bool false → St w0 (ros) (rs) w → .inr () = o27 → Q80 .ret (fr 84 f) w := by
        intro f w eje27_1_2 hst ho
        subst ho
        refine qb80 _ _ _ ?_
        refine qb76 _ _ _ ?_
        refine z75 _ _ _ rfl ?_
        obtain rfl := someI hM24
        refine zz24 _ _ _ _ rfl rfl ?_
        exact je24_1 _ _ eje27_1_2 hst (ho24 _ rfl)
      refine loopQ (fun s a w => ∃ (x86 : Int) (x87 : Int) (f : Nat → Value), (x86, x87) = s ∧ a = fr 84 f ∧ f 1 = .pointer (some ⟨b9, 0, none⟩) ∧ f 4 = .int .i64 x86 ∧ f 49 = .int .i64 x2 ∧ f 50 = .int .i64 x52 ∧ f 66 = (subH h6 1 x78 x79).v ∧ f 67 = .int .i64 (x80.length : Int) ∧ f 68 = .int .i64 x87 ∧ St w0 (imm (rI .i64) (subH h6 1 x78 x79).v x80 :: ros) (box b9 51 [.int .i64 x1, .int .i64 x2, h4.v, h6.v, h8.v] :: rs) w) go27 ⟨_, _, _, rfl, rfl, e24_1, rfl, e24_49, e24_50, rfl, rfl, rfl, hst⟩ ?_
      clear hst
      rintro _ _ w r27_ ⟨x86, x87, f, rfl, rfl, e27_1, e27_4, e27_49, e27_50, e27_66, e27_67, e27_68, hst⟩ hM27 ho27 Q100027 n27 zz27
      refine seqQ fun Q97 k97 z97 => ?_
      refine wp_region_lit ?_
      refine Y wn rfl (ylss (et rfl e27_68) (et rfl e27_67)) ?_
      refine wpList_nil ?_
      refine k97 _ _ ?_
      refine seqQ fun Q98 k98 z98 => ?_
      rcases iteS hM27 with ⟨c95, hM27⟩ | ⟨c95, hM27⟩
      · refine condT (et rfl rfl) (decide_eq_true c95) ?_
        refine wp_skip ?_
        refine k98 _ _ ?_
        refine seqQ fun Q99 k99 z99 => ?_
        refine blockQ fun Q100 qb100 => ?_
        refine seqQ fun Q101 k101 z101 => ?_
        refine wp_region_lit ?_
        obtain ⟨x96, gx96, hM27⟩ := bs hM27
        refine Y wn rfl (yIa SL_22 (et rfl e27_66) (et rfl e27_68) hst (rdI mhF) gx96) ?_
        refine Y wn rfl (yI O_3 (et rfl rfl) hst (rdI mhF) gx96) ?_
        refine Y wn rfl (ya (v := .int .i64 x96) (et rfl rfl)) ?_
        refine wpList_nil ?_
        refine k101 _ _ ?_
        refine seqQ fun Q102 k102 z102 => ?_
        refine seqQ fun Q103 k103 z103 => ?_
        refine wp_region_lit ?_
        refine Y wn rfl (ym (v := .int .i64 x96) (et rfl rfl)) ?_
        refine Y wn rfl (ym (v := .int .i64 x86) (et rfl e27_4)) ?_
        refine Y wn rfl (yleq (et rfl rfl) (et rfl rfl)) ?_
        refine Y wn rfl (ym (v := .bool (decide (x96 ≤ x86))) (et rfl rfl)) ?_
        refine joinW 5 (fun f w => f 1 = .pointer (some ⟨b9, 0, none⟩) ∧ f 6 = .int .i64 x96 ∧ f 49 = .int .i64 x2 ∧ f 50 = .int .i64 x52 ∧ f 66 = (subH h6 1 x78 x79).v ∧ f 67 = .int .i64 (x80.length : Int) ∧ f 68 = .int .i64 x87 ∧ f 80 = .bool ((decide (x96 ≤ x86)) || (decide (x1 ≤ x96))) ∧ St w0 (imm (rI .i64) (subH h6 1 x78 x79).v x80 :: ros) (box b9 51 [.int .i64 x1, .int .i64 x2, h4.v, h6.v, h8.v] :: rs) w) (fun j28 => ?_) ?_
        · rcases Bool.eq_false_or_eq_true (decide (x96 ≤ x86)) with c98 | c98
          · refine Gn (wx rfl rfl rfl c98) rfl ?_
            refine Gn (wx rfl rfl rfl c98) rfl ?_
            refine Gn (wx rfl rfl rfl c98) rfl ?_
            refine Gn (wx rfl rfl rfl c98) rfl ?_
            refine Y wn rfl (ypt (v := .bool true) (et rfl rfl) c98 rfl) ?_
            exact j28 _ _ ⟨e27_1, rfl, e27_49, e27_50, e27_66, e27_67, e27_68, (congrArg Value.bool (orT c98)), hst⟩
          · refine Y (wg rfl rfl rfl c98) rfl (ym (v := .int .i64 x96) (et rfl rfl)) ?_
            refine Y (wg rfl rfl rfl c98) rfl (yFb FL_51_0 (et rfl e27_1)) ?_
            refine Y (wg rfl rfl rfl c98) rfl (yLb (u := .int .i64 x1) O_3 (et rfl rfl) hst mhR rfl) ?_
            refine Y (wg rfl rfl rfl c98) rfl (ygeq (et rfl rfl) (et rfl rfl)) ?_
            refine Y wn rfl (ypf (v := .bool (decide (x1 ≤ x96))) (et rfl rfl) c98 (et rfl rfl)) ?_
            exact j28 _ _ ⟨e27_1, rfl, e27_49, e27_50, e27_66, e27_67, e27_68, (congrArg Value.bool (orF c98)), hst⟩
        clear hst
        rintro f w ⟨e97_1, e97_6, e97_49, e97_50, e97_66, e97_67, e97_68, e97_80, hst⟩
        refine wpList_nil ?_
        refine k103 _ _ ?_
        rcases iteS hM27 with ⟨c99, hM27⟩ | ⟨c99, hM27⟩
        · refine condT (et rfl e97_80) c99 ?_
          refine seqQ fun Q104 k104 z104 => ?_
          refine wp_region_lit ?_
          refine Y wn rfl (ya (v := .bool false) rfl) ?_
          refine wpList_nil ?_
          refine k104 _ _ ?_
          refine wp_ret ?_
          refine z102 _ _ _ rfl ?_
          refine qb100 _ _ _ ?_
          refine z99 _ _ _ rfl ?_
          obtain rfl := someI hM27
          refine zz27 _ _ _ _ rfl rfl ?_
          exact je27_1 _ _ rfl ((hst.pk 1 [] rfl).facts (allT allI)) (ho27 _ rfl)
        · refine condF (et rfl e97_80) (bfalse c99) ?_
          refine wp_skip ?_
          refine k102 _ _ ?_
          refine wp_region_lit ?_
          refine Y wn rfl (ym (v := .int .i64 x96) (et rfl e97_6)) ?_
          refine Y wn rfl (ya (v := .int .i64 x96) (et rfl rfl)) ?_
          refine wpList_nil ?_
          refine qb100 _ _ _ ?_
          refine k99 _ _ ?_
          refine wp_region_lit ?_
          refine Y wn rfl (yadd (et rfl e97_68) rfl) ?_
          refine Y wn rfl (ym (v := .int .i64 (wa .i64 x87 1)) (et rfl rfl)) ?_
          refine wpList_nil ?_
          obtain rfl := someI hM27
          exact n27 _ _ _ rfl ⟨_, _, _, rfl, rfl, e97_1, rfl, e97_49, e97_50, e97_66, e97_67, rfl, hst⟩
      · refine condF (et rfl rfl) (decide_eq_false c95) ?_
        refine wp_exit ?_
        refine z98 _ _ _ rfl ?_
        obtain rfl := someI hM27
        refine zz27 _ _ _ _ rfl rfl ?_
        exact je27_0 _ _ e27_1 e27_49 e27_50 (hst.facts (allT allI)) (ho27 _ rfl)
    · refine condF (et rfl rfl) (decide_eq_false c77) ?_
      refine wp_exit ?_
      refine z74 _ _ _ rfl ?_
      obtain rfl := someI hM24
      refine zz24 _ _ _ _ rfl rfl ?_
      exact je24_0 _ _ (hst.pk 1 [] rfl) (ho24 _ rfl)

theorem float_parts_ok {w0 : World} {ros : List Fact} {rs : List Res} {w : World} {x1 : Int} {out : Int × Int} (hM : float_parts x1 = some out) (hst : St w0 ros (rs) w) :
    Calls Try.prog 75 #[.int .u64 x1] w (fun e w => e = .returned (.tuple #[.int .i64 out.1, .int .u64 out.2]) ∧ St w0 (ros) (rs) w) := by
  refine enterQ Try.func75 rfl Try.ntmps75 rfl fun Q hQ => ?_
  refine seqQ fun Q1 k1 z1 => ?_
  refine wp_region_lit ?_
  refine Y wn rfl (ya (v := .int .i64 0) rfl) ?_
  refine Y wn rfl (ya (v := .int .u64 0) rfl) ?_
  refine wpList_nil ?_
  refine k1 _ _ ?_
  refine seqQ fun Q2 k2 z2 => ?_
  refine wp_region_lit ?_
  refine Y wn rfl (ym (v := .int .u64 x1) (et rfl rfl)) ?_
  refine Y wn rfl (yshrc (et rfl rfl) rfl) ?_
  refine Y wn rfl (yand (et rfl rfl) rfl) ?_
  refine Y wn rfl (ycv (k' := .i64) (by kernel_rfl) (by kernel_rfl) (et rfl rfl)) ?_
  refine Y wn rfl (ym (v := .int .u64 x1) (et rfl rfl)) ?_
  refine Y wn rfl (yand (et rfl rfl) rfl) ?_
  refine Y wn rfl (ya (v := .int .i64 (wc .i64 (wand .u64 (wsrc .u64 x1 52) 2047))) (et rfl rfl)) ?_
  refine Y wn rfl (ya (v := .int .u64 (wand .u64 x1 4503599627370495)) (et rfl rfl)) ?_
  refine wpList_nil ?_
  refine k2 _ _ ?_
  refine wp_ret ?_
  obtain rfl := someI hM
  exact hQ _ _ _ (fin2r Try.results75 ⟨rfl, rfl⟩ ⟨rfl, rfl⟩ ⟨rfl, hst⟩)

theorem float_IsFinite_ok {w0 : World} {ros : List Fact} {rs : List Res} {w : World} {x1 : Int} {out : Bool} (hM : float_IsFinite x1 = some out) (hst : St w0 ros (rs) w) :
    Calls Try.prog 57 #[.int .u64 x1] w (fun e w => e = .returned (.bool out) ∧ St w0 (ros) (rs) w) := by
  refine enterQ Try.func57 rfl Try.ntmps57 rfl fun Q hQ => ?_
  refine seqQ fun Q1 k1 z1 => ?_
  refine wp_region_lit ?_
  refine Y wn rfl (ya (v := .bool false) rfl) ?_
  refine wpList_nil ?_
  refine k1 _ _ ?_
  refine seqQ fun Q2 k2 z2 => ?_
  refine wp_region_lit ?_
  refine Y wn rfl (ym (v := .int .u64 x1) (et rfl rfl)) ?_
  obtain ⟨r2, gr2, hM⟩ := bs hM
  refine Yc wn rfl (yCall FN_75 (a1 (et rfl rfl))) (float_parts_ok (hM := gr2) (hst := hst) ) ?_
  clear hst
  rintro _ w ⟨rfl, hst⟩
  refine ⟨_, rfl, ?_⟩
  refine Y wn rfl (ym (v := .tuple #[.int .i64 r2.1, .int .u64 r2.2]) (et rfl rfl)) ?_
  refine Y wn rfl (yx (v := .int .i64 r2.1) (et rfl rfl) rfl) ?_
  refine Y wn rfl (yx (v := .int .u64 r2.2) (et rfl rfl) rfl) ?_
  refine Y wn rfl (ya (v := .int .i64 r2.1) (et rfl rfl)) ?_
  refine Y wn rfl (ya (v := .int .u64 r2.2) (et rfl rfl)) ?_
  refine wpList_nil ?_
  refine k2 _ _ ?_
  refine seqQ fun Q3 k3 z3 => ?_
  refine wp_region_lit ?_
  refine Y wn rfl (ym (v := .int .i64 r2.1) (et rfl rfl)) ?_
  refine Y wn rfl (yneq (et rfl rfl) rfl) ?_
  refine Y wn rfl (ya (v := .bool (!(decide (r2.1 = 2047)))) (et rfl rfl)) ?_
  refine wpList_nil ?_
  refine k3 _ _ ?_
  refine wp_ret ?_
  obtain rfl := someI hM
  exact hQ _ _ _ (fin1r Try.results57 ⟨rfl, rfl⟩ ⟨rfl, hst⟩)

theorem matrix_Check_1_ok {w0 : World} {ros : List Fact} {rs : List Res} {w : World} {x1 : Int} {out : Bool} (hM : matrix_Check_1 x1 = some out) (hst : St w0 ros (rs) w) :
    Calls Try.prog 56 #[.int .u64 x1] w (fun e w => e = .returned (.bool out) ∧ St w0 (ros) (rs) w) := by
  refine enterQ Try.func56 rfl Try.ntmps56 rfl fun Q hQ => ?_
  refine seqQ fun Q1 k1 z1 => ?_
  refine wp_region_lit ?_
  refine Y wn rfl (ya (v := .bool false) rfl) ?_
  refine wpList_nil ?_
  refine k1 _ _ ?_
  refine seqQ fun Q2 k2 z2 => ?_
  refine wp_region_lit ?_
  refine Y wn rfl (ym (v := .int .u64 x1) (et rfl rfl)) ?_
  obtain ⟨r2, gr2, hM⟩ := bs hM
  refine Yc wn rfl (yCall FN_57 (a1 (et rfl rfl))) (float_IsFinite_ok (hM := gr2) (hst := hst) ) ?_
  clear hst
  rintro _ w ⟨rfl, hst⟩
  refine ⟨_, rfl, ?_⟩
  refine Y wn rfl (ynot (et rfl rfl)) ?_
  refine Y wn rfl (ya (v := .bool (!(r2))) (et rfl rfl)) ?_
  refine wpList_nil ?_
  refine k2 _ _ ?_
  refine wp_ret ?_
  obtain rfl := someI hM
  exact hQ _ _ _ (fin1r Try.results56 ⟨rfl, rfl⟩ ⟨rfl, hst⟩)

theorem slices_IndexFunc_apiFloat_ok {w0 : World} {ros : List Fact} {rs : List Res} {w : World} {x1 : List Int} {h2 : Hdr} {out : Int} (hM : slices_IndexFunc_apiFloat x1 = some out) (q1 : imm (rI .u64) h2.v x1 ∈ ros) (hst : St w0 ros (rs) w) :
    Calls Try.prog 74 #[h2.v, .func (.func 56) #[] #[]] w (fun e w => e = .returned (.int .i64 out) ∧ St w0 (ros) (rs) w) := by
  refine enterQ Try.func74 rfl Try.ntmps74 rfl fun Q hQ => ?_
  refine seqQ fun Q1 k1 z1 => ?_
  refine wp_region_lit ?_
  refine Y wn rfl (ya (v := .int .i64 0) rfl) ?_
  refine wpList_nil ?_
  refine k1 _ _ ?_
  refine seqQ fun Q2 k2 z2 => ?_
  refine seqQ fun Q3 k3 z3 => ?_
  refine wp_region_lit ?_
  refine Y wn rfl (ym (v := h2.v) (et rfl rfl)) ?_
  refine Y wn rfl (yLen SL_49 (et rfl rfl) hst (rdI q1)) ?_
  refine Y wn rfl (ym (v := .int .i64 0) rfl) ?_
  refine wpList_nil ?_
  refine k3 _ _ ?_
  refine blockQ fun Q4 qb4 => ?_
  obtain ⟨o1, go1, hM⟩ := bs hM
  have je1_0 : ∀ (f : Nat → Value) (w : World), St w0 (ros) (rs) w → .inl () = o1 → Q4 (.exit 0) (fr 19 f) w := by
    intro f w hst ho
    subst ho
    refine qb4 _ _ _ ?_
    refine k2 _ _ ?_
    refine seqQ fun Q19 k19 z19 => ?_
    refine wp_region_lit ?_
    refine Y wn rfl (ya (v := .int .i64 (-1)) rfl) ?_
    refine wpList_nil ?_
    refine k19 _ _ ?_
    refine wp_ret ?_
    obtain rfl := someI hM
    exact hQ _ _ _ (fin1r Try.results74 ⟨rfl, rfl⟩ ⟨rfl, hst⟩)
  have je1_1 : ∀ (x13 : Int) (f : Nat → Value) (w : World), f 4 = .int .i64 x13 → St w0 (ros) (rs) w → .inr x13 = o1 → Q4 .ret (fr 19 f) w := by
    intro x13 f w eje1_1_4 hst ho
    subst ho
    refine qb4 _ _ _ ?_
    refine z2 _ _ _ rfl ?_
    obtain rfl := someI hM
    exact hQ _ _ _ (fin1r Try.results74 ⟨rfl, eje1_1_4⟩ ⟨rfl, hst⟩)
  refine loopQ (fun s a w => ∃ (x7 : Int) (f : Nat → Value), x7 = s ∧ a = fr 19 f ∧ f 0 = h2.v ∧ f 1 = .func (.func 56) #[] #[] ∧ f 7 = .int .i64 (x1.length : Int) ∧ f 8 = .int .i64 x7 ∧ St w0 (ros) (rs) w) go1 ⟨_, _, rfl, rfl, rfl, rfl, rfl, rfl, hst⟩ ?_
  clear hst
  rintro _ _ w r1_ ⟨x7, f, rfl, rfl, e1_0, e1_1, e1_7, e1_8, hst⟩ hM1 ho1 Q100001 n1 zz1
  refine seqQ fun Q20 k20 z20 => ?_
  refine wp_region_lit ?_
  refine Y wn rfl (ylss (et rfl e1_8) (et rfl e1_7)) ?_
  refine wpList_nil ?_
  refine k20 _ _ ?_
  refine seqQ fun Q21 k21 z21 => ?_
  rcases iteS hM1 with ⟨c14, hM1⟩ | ⟨c14, hM1⟩
  · refine condT (et rfl rfl) (decide_eq_true c14) ?_
    refine wp_skip ?_
    refine k21 _ _ ?_
    refine seqQ fun Q22 k22 z22 => ?_
    refine blockQ fun Q23 qb23 => ?_
    refine seqQ fun Q24 k24 z24 => ?_
    refine wp_region_lit ?_
    refine Y wn rfl (ym (v := .int .i64 x7) (et rfl e1_8)) ?_
    refine Y wn rfl (ya (v := .int .i64 x7) (et rfl rfl)) ?_
    refine wpList_nil ?_
    refine k24 _ _ ?_
    refine seqQ fun Q25 k25 z25 => ?_
    refine wp_region_lit ?_
    refine Y wn rfl (ym (v := .func (.func 56) #[] #[]) (et rfl e1_1)) ?_
    refine Y wn rfl (ym (v := h2.v) (et rfl e1_0)) ?_
    refine Y wn rfl (ym (v := .int .i64 x7) (et rfl rfl)) ?_
    obtain ⟨x15, gx15, hM1⟩ := bs hM1
    refine Y wn rfl (yIa SL_49 (et rfl rfl) (et rfl rfl) hst (rdI q1) gx15) ?_
    refine Y wn rfl (yI O_45 (et rfl rfl) hst (rdI q1) gx15) ?_
    obtain ⟨r16, gr16, hM1⟩ := bs hM1
    refine Yc wn rfl (yCallw FN_56 (et rfl rfl) (a1 (et rfl rfl))) (matrix_Check_1_ok (hM := gr16) (hst := hst) ) ?_
    clear hst
    rintro _ w ⟨rfl, hst⟩
    refine ⟨_, rfl, ?_⟩
    refine wpList_nil ?_
    refine k25 _ _ ?_
    rcases iteS hM1 with ⟨c17, hM1⟩ | ⟨c17, hM1⟩
    · refine condT (et rfl rfl) c17 ?_
      refine seqQ fun Q26 k26 z26 => ?_
      refine wp_region_lit ?_
      refine Y wn rfl (ym (v := .int .i64 x7) (et rfl rfl)) ?_
      refine Y wn rfl (ya (v := .int .i64 x7) (et rfl rfl)) ?_
      refine wpList_nil ?_
      refine k26 _ _ ?_
      refine wp_ret ?_
      refine qb23 _ _ _ ?_
      refine z22 _ _ _ rfl ?_
      obtain rfl := someI hM1
      refine zz1 _ _ _ _ rfl rfl ?_
      exact je1_1 _ _ _ rfl hst (ho1 _ rfl)
    · refine condF (et rfl rfl) (bfalse c17) ?_
      refine wp_skip ?_
      refine qb23 _ _ _ ?_
      refine k22 _ _ ?_
      refine wp_region_lit ?_
      refine Y wn rfl (yadd (et rfl e1_8) rfl) ?_
      refine Y wn rfl (ym (v := .int .i64 (wa .i64 x7 1)) (et rfl rfl)) ?_
      refine wpList_nil ?_
      obtain rfl := someI hM1
      exact n1 _ _ _ rfl ⟨_, _, rfl, rfl, e1_0, e1_1, e1_7, rfl, hst⟩
  · refine condF (et rfl rfl) (decide_eq_false c14) ?_
    refine wp_exit ?_
    refine z21 _ _ _ rfl ?_
    obtain rfl := someI hM1
    refine zz1 _ _ _ _ rfl rfl ?_
    exact je1_0 _ _ hst (ho1 _ rfl)

theorem slices_ContainsFunc_apiFloat_ok {w0 : World} {ros : List Fact} {rs : List Res} {w : World} {x1 : List Int} {h2 : Hdr} {out : Bool} (hM : slices_ContainsFunc_apiFloat x1 = some out) (q1 : imm (rI .u64) h2.v x1 ∈ ros) (hst : St w0 ros (rs) w) :
    Calls Try.prog 55 #[h2.v, .func (.func 56) #[] #[]] w (fun e w => e = .returned (.bool out) ∧ St w0 (ros) (rs) w) := by
  refine enterQ Try.func55 rfl Try.ntmps55 rfl fun Q hQ => ?_
  refine seqQ fun Q1 k1 z1 => ?_
  refine wp_region_lit ?_
  refine Y wn rfl (ya (v := .bool false) rfl) ?_
  refine wpList_nil ?_
  refine k1 _ _ ?_
  refine seqQ fun Q2 k2 z2 => ?_
  refine wp_region_lit ?_
  refine Y wn rfl (ym (v := h2.v) (et rfl rfl)) ?_
  refine Y wn rfl (ym (v := .func (.func 56) #[] #[]) (et rfl rfl)) ?_
  obtain ⟨r3, gr3, hM⟩ := bs hM
  refine Yc wn rfl (yCall FN_74 (a2 (et rfl rfl) (et rfl rfl))) (slices_IndexFunc_apiFloat_ok (hM := gr3) (hst := hst) (q1 := q1)) ?_
  clear hst
  rintro _ w ⟨rfl, hst⟩
  refine ⟨_, rfl, ?_⟩
  refine Y wn rfl (ygeq (et rfl rfl) rfl) ?_
  refine Y wn rfl (ya (v := .bool (decide ((0 : Int) ≤ r3))) (et rfl rfl)) ?_
  refine wpList_nil ?_
  refine k2 _ _ ?_
  refine wp_ret ?_
  obtain rfl := someI hM
  exact hQ _ _ _ (fin1r Try.results55 ⟨rfl, rfl⟩ ⟨rfl, hst⟩)

theorem matrix_Check_ok {w0 : World} {ros : List Fact} {rs : List Res} {w : World} {x1 : Int} {x2 : Int} {x3 : List Int} {x5 : List Int} {x7 : List Int} {h4 : Hdr} {h6 : Hdr} {h8 : Hdr} {out : Int} (hM : matrix_Check x1 x2 x3 x5 x7 = some out) (q1 : imm (rI .i64) h4.v x3 ∈ ros) (q2 : imm (rI .i64) h6.v x5 ∈ ros) (q3 : imm (rI .u64) h8.v x7 ∈ ros) (hst : St w0 ros (rs) w) :
    Calls Try.prog 33 #[.agg #[.int .i64 x1, .int .i64 x2, h4.v, h6.v, h8.v]] w (fun e w => e = .returned (.int .i64 out) ∧ St w0 (ros) (rs) w) := by
  refine enterQ Try.func33 rfl Try.ntmps33 rfl fun Q hQ => ?_
  refine seqQ fun Q1 k1 z1 => ?_
  refine wp_region_lit ?_
  refine YB wn rfl (r_box (vals := [.int .i64 x1, .int .i64 x2, h4.v, h6.v, h8.v]) hst (et rfl rfl) rfl) ?_
  clear hst
  intro b9 w hst
  refine Y wn rfl (ya (v := .int .i64 0) rfl) ?_
  refine wpList_nil ?_
  refine k1 _ _ ?_
  refine seqQ fun Q2 k2 z2 => ?_
  refine blockQ fun Q3 qb3 => ?_
  refine seqQ fun Q4 k4 z4 => ?_
  refine wp_region_lit ?_
  refine Y wn rfl (yFb FL_51_0 (et rfl rfl)) ?_
  refine Y wn rfl (yLb (u := .int .i64 x1) O_3 (et rfl rfl) hst mhR rfl) ?_
  obtain ⟨r10, gr10, hM⟩ := bs hM
  refine Yc wn rfl (yCall FN_53 (a3 (et rfl rfl) rfl rfl)) (matrix_within_ok (hM := gr10) (hst := hst) ) ?_
  clear hst
  rintro _ w ⟨rfl, hst⟩
  refine ⟨_, rfl, ?_⟩
  refine Y wn rfl (ynot (et rfl rfl)) ?_
  refine Y wn rfl (ym (v := .bool (!(r10))) (et rfl rfl)) ?_
  obtain ⟨r12, gr12, hM⟩ := bs hM
  refine joinW 5 (fun f w => f 1 = .pointer (some ⟨b9, 0, none⟩) ∧ f 13 = .bool r12 ∧ St w0 (ros) (box b9 51 [.int .i64 x1, .int .i64 x2, h4.v, h6.v, h8.v] :: rs) w) (fun j1 => ?_) ?_
  · rcases iteS gr12 with ⟨c14, gr12⟩ | ⟨c14, gr12⟩
    · refine Y (wg rfl rfl rfl (nF c14)) rfl (yFb FL_51_1 (et rfl rfl)) ?_
      refine Y (wg rfl rfl rfl (nF c14)) rfl (yLb (u := .int .i64 x2) O_3 (et rfl rfl) hst mhR rfl) ?_
      obtain ⟨r15, gr15, gr12⟩ := bs gr12
      refine Yc (wg rfl rfl rfl (nF c14)) rfl (yCall FN_53 (a3 (et rfl rfl) rfl rfl)) (matrix_within_ok (hM := gr15) (hst := hst) ) ?_
      clear hst
      rintro _ w ⟨rfl, hst⟩
      refine ⟨_, rfl, ?_⟩
      refine Y (wg rfl rfl rfl (nF c14)) rfl (ynot (et rfl rfl)) ?_
      refine Y wn rfl (ypf (v := .bool (!(r15))) (et rfl rfl) (nF c14) (et rfl rfl)) ?_
      obtain rfl := someI gr12
      exact j1 _ _ ⟨rfl, rfl, hst⟩
    · refine Gn (wx rfl rfl rfl (nT (bfalse c14))) rfl ?_
      refine Gn (wx rfl rfl rfl (nT (bfalse c14))) rfl ?_
      refine Gn (wx rfl rfl rfl (nT (bfalse c14))) rfl ?_
      refine Gn (wx rfl rfl rfl (nT (bfalse c14))) rfl ?_
      refine Y wn rfl (ypt (v := .bool true) (et rfl rfl) (nT (bfalse c14)) rfl) ?_
      obtain rfl := someI gr12
      exact j1 _ _ ⟨rfl, rfl, hst⟩
  clear hst
  rintro f w ⟨e13_1, e13_13, hst⟩
  refine Y wn rfl (ym (v := .bool r12) (et rfl e13_13)) ?_
  refine joinW 5 (fun f w => f 1 = .pointer (some ⟨b9, 0, none⟩) ∧ f 19 = .bool (r12 || (decide ((10000 : Int) < (x5.length : Int)))) ∧ St w0 (ros) (box b9 51 [.int .i64 x1, .int .i64 x2, h4.v, h6.v, h8.v] :: rs) w) (fun j2 => ?_) ?_
  · rcases Bool.eq_false_or_eq_true (r12) with c17 | c17
    · refine Gn (wx rfl rfl rfl c17) rfl ?_
      refine Gn (wx rfl rfl rfl c17) rfl ?_
      refine Gn (wx rfl rfl rfl c17) rfl ?_
      refine Gn (wx rfl rfl rfl c17) rfl ?_
      refine Y wn rfl (ypt (v := .bool true) (et rfl rfl) c17 rfl) ?_
      exact j2 _ _ ⟨e13_1, (congrArg Value.bool (orT c17)), hst⟩
    · refine Y (wg rfl rfl rfl c17) rfl (yFb FL_51_3 (et rfl e13_1)) ?_
      refine Y (wg rfl rfl rfl c17) rfl (yLb (u := h6.v) O_22 (et rfl rfl) hst mhR rfl) ?_
      refine Y (wg rfl rfl rfl c17) rfl (yLen SL_22 (et rfl rfl) hst (rdI q2)) ?_
      refine Y (wg rfl rfl rfl c17) rfl (ygtr (et rfl rfl) rfl) ?_
      refine Y wn rfl (ypf (v := .bool (decide ((10000 : Int) < (x5.length : Int)))) (et rfl rfl) c17 (et rfl rfl)) ?_
      exact j2 _ _ ⟨e13_1, (congrArg Value.bool (orF c17)), hst⟩
  clear hst
  rintro f w ⟨e16_1, e16_19, hst⟩
  refine Y wn rfl (ya (v := .bool (r12 || (decide ((10000 : Int) < (x5.length : Int))))) (et rfl e16_19)) ?_
  refine wpList_nil ?_
  refine k4 _ _ ?_
  rcases iteS hM with ⟨c18, hM⟩ | ⟨c18, hM⟩
  · refine condT (et rfl rfl) c18 ?_
    refine seqQ fun Q5 k5 z5 => ?_
    refine wp_region_lit ?_
    refine Y wn rfl (ya (v := .int .i64 6) rfl) ?_
    refine wpList_nil ?_
    refine k5 _ _ ?_
    refine wp_ret ?_
    refine qb3 _ _ _ ?_
    refine z2 _ _ _ rfl ?_
    obtain rfl := someI hM
    exact hQ _ _ _ (fin1r Try.results33 ⟨rfl, rfl⟩ ⟨rfl, (hst.pk 1 [] rfl)⟩)
  · refine condF (et rfl rfl) (bfalse c18) ?_
    refine seqQ fun Q6 k6 z6 => ?_
    refine wp_region_lit ?_
    refine Y wn rfl (yLbs (us := [.int .i64 x1, .int .i64 x2, h4.v, h6.v, h8.v]) ST_51 (et rfl e16_1) hst mhR rfl rfl) ?_
    obtain ⟨r19, gr19, hM⟩ := bs hM
    refine Yc wn rfl (yCall FN_54 (a1 (et rfl rfl))) (matrix_columns_ok (hM := gr19) (hst := hst) (q1 := q1) (q2 := q2) (q3 := q3)) ?_
    clear hst
    rintro _ w ⟨rfl, hst⟩
    refine ⟨_, rfl, ?_⟩
    refine Y wn rfl (ynot (et rfl rfl)) ?_
    refine Y wn rfl (ya (v := .bool (!(r19))) (et rfl rfl)) ?_
    refine wpList_nil ?_
    refine k6 _ _ ?_
    rcases iteS hM with ⟨c20, hM⟩ | ⟨c20, hM⟩
    · refine condF (et rfl rfl) (nF c20) ?_
      refine seqQ fun Q7 k7 z7 => ?_
      refine wp_region_lit ?_
      refine Y wn rfl (yFb FL_51_4 (et rfl e16_1)) ?_
      refine Y wn rfl (yLb (u := h8.v) O_49 (et rfl rfl) hst mhR rfl) ?_
      obtain ⟨r21, gr21, hM⟩ := bs hM
      refine Yc wn rfl (yCall FN_55 (a2 (et rfl rfl) rfl)) (slices_ContainsFunc_apiFloat_ok (hM := gr21) (hst := hst) (q1 := q3)) ?_
      clear hst
      rintro _ w ⟨rfl, hst⟩
      refine ⟨_, rfl, ?_⟩
      refine Y wn rfl (ya (v := .bool r21) (et rfl rfl)) ?_
      refine wpList_nil ?_
      refine k7 _ _ ?_
      rcases iteS hM with ⟨c22, hM⟩ | ⟨c22, hM⟩
      · refine condT (et rfl rfl) c22 ?_
        refine seqQ fun Q8 k8 z8 => ?_
        refine wp_region_lit ?_
        refine Y wn rfl (ya (v := .int .i64 4) rfl) ?_
        refine wpList_nil ?_
        refine k8 _ _ ?_
        refine wp_ret ?_
        refine qb3 _ _ _ ?_
        refine z2 _ _ _ rfl ?_
        obtain rfl := someI hM
        exact hQ _ _ _ (fin1r Try.results33 ⟨rfl, rfl⟩ ⟨rfl, (hst.pk 1 [] rfl)⟩)
      · refine condF (et rfl rfl) (bfalse c22) ?_
        refine wp_skip ?_
        refine qb3 _ _ _ ?_
        refine k2 _ _ ?_
        refine seqQ fun Q9 k9 z9 => ?_
        refine wp_region_lit ?_
        refine Y wn rfl (ya (v := .int .i64 0) rfl) ?_
        refine wpList_nil ?_
        refine k9 _ _ ?_
        refine wp_ret ?_
        obtain rfl := someI hM
        exact hQ _ _ _ (fin1r Try.results33 ⟨rfl, rfl⟩ ⟨rfl, (hst.pk 1 [] rfl)⟩)
    · refine condT (et rfl rfl) (nT (bfalse c20)) ?_
      refine seqQ fun Q10 k10 z10 => ?_
      refine wp_region_lit ?_
      refine Y wn rfl (ya (v := .int .i64 1) rfl) ?_
      refine wpList_nil ?_
      refine k10 _ _ ?_
      refine wp_ret ?_
      refine qb3 _ _ _ ?_
      refine z2 _ _ _ rfl ?_
      obtain rfl := someI hM
      exact hQ _ _ _ (fin1r Try.results33 ⟨rfl, rfl⟩ ⟨rfl, (hst.pk 1 [] rfl)⟩)

theorem matching_Edges_ok {w0 : World} {ros : List Fact} {rs : List Res} {w : World} {x1 : Int} {x2 : Int} {x3 : List Int} {x5 : List Int} {x7 : List Int} {h4 : Hdr} {h6 : Hdr} {h8 : Hdr} {out : (List (List Int))} (hM : matching_Edges x1 x2 x3 x5 x7 = some out) (q1 : imm (rI .i64) h4.v x3 ∈ ros) (q2 : imm (rI .i64) h6.v x5 ∈ ros) (q3 : imm (rI .u64) h8.v x7 ∈ ros) (hst : St w0 ros (rs) w) :
    Calls Try.prog 58 #[.agg #[.int .i64 x1, .int .i64 x2, h4.v, h6.v, h8.v]] w (fun e w => ∃ (h100001 : Hdr), e = .returned (h100001.v) ∧ St w0 (ros) (row 22 (rS (rI .i64)) h100001.v out :: rs) w) := by
  refine enterQ Try.func58 rfl Try.ntmps58 rfl fun Q hQ => ?_
  refine seqQ fun Q1 k1 z1 => ?_
  refine wp_region_lit ?_
  refine YB wn rfl (r_box (vals := [.int .i64 x1, .int .i64 x2, h4.v, h6.v, h8.v]) hst (et rfl rfl) rfl) ?_
  clear hst
  intro b9 w hst
  refine Y wn rfl (ya (v := hnil.v) rfl) ?_
  refine wpList_nil ?_
  refine k1 _ _ ?_
  refine seqQ fun Q2 k2 z2 => ?_
  refine wp_region_lit ?_
  refine Y wn rfl (yFb FL_51_1 (et rfl rfl)) ?_
  refine Y wn rfl (yLb (u := .int .i64 x2) O_3 (et rfl rfl) hst mhR rfl) ?_
  obtain ⟨x12, gx12, hM⟩ := bs hM
  refine YH wn rfl (rMk hst SL_25 (et rfl rfl) gx12) ?_
  clear hst
  intro h10 w hst
  refine Y wn rfl (ya (v := h10.v) (et rfl rfl)) ?_
  refine wpList_nil ?_
  refine k2 _ _ ?_
  refine seqQ fun Q3 k3 z3 => ?_
  refine seqQ fun Q4 k4 z4 => ?_
  refine wp_region_lit ?_
  refine Y wn rfl (ym (v := h10.v) (et rfl rfl)) ?_
  refine Y wn rfl (yLen SL_25 (et rfl rfl) hst (rdO mhR)) ?_
  refine Y wn rfl (ym (v := .int .i64 0) rfl) ?_
  refine wpList_nil ?_
  refine k4 _ _ ?_
  refine blockQ fun Q5 qb5 => ?_
  obtain ⟨o1, go1, hM⟩ := bs hM
  have je1_0 : ∀ (x27 : List (List Int)) (f : Nat → Value) (w : World), f 3 = h10.v → St w0 (ros) (row 22 (rS (rI .i64)) h10.v x27 :: rs) w → x27 = o1 → Q5 (.exit 0) (fr 32 f) w := by
    intro x27 f w eje1_0_3 hst ho
    subst ho
    refine qb5 _ _ _ ?_
    refine k3 _ _ ?_
    refine seqQ fun Q16 k16 z16 => ?_
    refine wp_region_lit ?_
    refine Y wn rfl (ym (v := h10.v) (et rfl eje1_0_3)) ?_
    refine Y wn rfl (ya (v := h10.v) (et rfl rfl)) ?_
    refine wpList_nil ?_
    refine k16 _ _ ?_
    refine wp_ret ?_
    obtain rfl := someI hM
    exact hQ _ _ _ (fin1r Try.results58 ⟨rfl, rfl⟩ ⟨_, rfl, hst⟩)
  refine loopQ (fun s a w => ∃ (x18 : List (List Int)) (x19 : Int) (f : Nat → Value), (x18, x19) = s ∧ a = fr 32 f ∧ f 1 = .pointer (some ⟨b9, 0, none⟩) ∧ f 3 = h10.v ∧ f 9 = .int .i64 (x12.length : Int) ∧ f 10 = .int .i64 x19 ∧ St w0 (ros) (box b9 51 [.int .i64 x1, .int .i64 x2, h4.v, h6.v, h8.v] :: row 22 (rS (rI .i64)) h10.v x18 :: rs) w) go1 ⟨_, _, _, rfl, rfl, rfl, rfl, rfl, rfl, (hst.pk 2 [1, 0] rfl)⟩ ?_
  clear hst
  rintro _ _ w r1_ ⟨x18, x19, f, rfl, rfl, e1_1, e1_3, e1_9, e1_10, hst⟩ hM1 ho1 Q100001 n1 zz1
  refine seqQ fun Q17 k17 z17 => ?_
  refine wp_region_lit ?_
  refine Y wn rfl (ylss (et rfl e1_10) (et rfl e1_9)) ?_
  refine wpList_nil ?_
  refine k17 _ _ ?_
  refine seqQ fun Q18 k18 z18 => ?_
  rcases iteS hM1 with ⟨c28, hM1⟩ | ⟨c28, hM1⟩
  · refine condT (et rfl rfl) (decide_eq_true c28) ?_
    refine wp_skip ?_
    refine k18 _ _ ?_
    refine seqQ fun Q19 k19 z19 => ?_
    refine blockQ fun Q20 qb20 => ?_
    refine seqQ fun Q21 k21 z21 => ?_
    refine wp_region_lit ?_
    refine Y wn rfl (ym (v := .int .i64 x19) (et rfl e1_10)) ?_
    refine Y wn rfl (ya (v := .int .i64 x19) (et rfl rfl)) ?_
    refine wpList_nil ?_
    refine k21 _ _ ?_
    obtain ⟨x29, gx29, hM1⟩ := bs hM1
    obtain ⟨x30, gx30, hM1⟩ := bs hM1
    obtain ⟨x31, gx31, hM1⟩ := bs hM1
    obtain ⟨x32, gx32, hM1⟩ := bs hM1
    refine wp_drawR [0, 0, 0, 4, 0, 16, 0, 112, 240, 0, 512, 0, 2048, 7680, 15872, 32764, 65535, 131071] [17] 1 folM (by kernel_rfl) (by kernel_rfl) (by kernel_rfl) ?_
    replace hst := hst.drew
    refine DRn (l1 := [0, 1, 2, 3, 4, 5, 6, 7, 8, 9, 10, 11, 12, 13, 14, 15, 16]) (l2 := []) (lc := [17]) (by kernel_rfl) (by kernel_rfl) (by kernel_rfl) ?_
    refine Ry rfl rfl wn (ym (v := h10.v) (et rfl e1_3)) ?_
    refine Ry rfl rfl wn (ym (v := .int .i64 x19) (et rfl rfl)) ?_
    refine Ry rfl rfl wn (yFb FL_51_3 (et rfl e1_1)) ?_
    refine Ry rfl rfl wn (yLb (u := h6.v) O_22 (et rfl rfl) hst mhR rfl) ?_
    refine Ry rfl rfl wn (yFb FL_51_2 (et rfl e1_1)) ?_
    refine Ry rfl rfl wn (yLb (u := h4.v) O_22 (et rfl rfl) hst mhR rfl) ?_
    refine Ry rfl rfl wn (ym (v := .int .i64 x19) (et rfl rfl)) ?_
    refine Ry rfl rfl wn (yIa SL_22 (et rfl rfl) (et rfl rfl) hst (rdI q1) gx29) ?_
    refine Ry rfl rfl wn (yI O_3 (et rfl rfl) hst (rdI q1) gx29) ?_
    refine Ry rfl rfl wn (yFb FL_51_2 (et rfl e1_1)) ?_
    refine Ry rfl rfl wn (yLb (u := h4.v) O_22 (et rfl rfl) hst mhR rfl) ?_
    refine Ry rfl rfl wn (ym (v := .int .i64 x19) (et rfl rfl)) ?_
    refine Ry rfl rfl wn (yadd (et rfl rfl) rfl) ?_
    refine Ry rfl rfl wn (yIa SL_22 (et rfl rfl) (et rfl rfl) hst (rdI q1) gx30) ?_
    refine Ry rfl rfl wn (yI O_3 (et rfl rfl) hst (rdI q1) gx30) ?_
    refine Ry rfl rfl wn (ySl SL_22 (et rfl rfl) hst (rdI q2) (.inl (congrArg some (et rfl rfl))) (.inl (congrArg some (et rfl rfl))) gx31) ?_
    replace hst := hst.sub q2 gx31
    refine Ry rfl rfl wn (yIs SL_25 (et rfl rfl) (et rfl rfl) hst (rdO (mtR mhR)) gx32) ?_
    refine Rn QSn ?_
    refine Lc rfl ?_ LAn
    replace hst := hst.pk 2 [1, 0] rfl
    refine LT wn (r_sti (cs := [(subH h6 1 x29 x30).v]) hst O_22 rfl (et rfl rfl) (et rfl rfl) rfl (mkS mhF) gx32) ?_
    clear hst
    intro w hst
    refine DRz (l1 := []) (l2 := []) (by kernel_rfl) (by kernel_rfl) ?_
    refine Rn QSn ?_
    refine qb20 _ _ _ ?_
    refine k19 _ _ ?_
    refine wp_region_lit ?_
    refine Y wn rfl (yadd (et rfl e1_10) rfl) ?_
    refine Y wn rfl (ym (v := .int .i64 (wa .i64 x19 1)) (et rfl rfl)) ?_
    refine wpList_nil ?_
    obtain rfl := someI hM1
    exact n1 _ _ _ rfl ⟨_, _, _, rfl, rfl, e1_1, e1_3, e1_9, rfl, ((hst.pk 2 [1, 0] rfl).facts (allT allI))⟩
  · refine condF (et rfl rfl) (decide_eq_false c28) ?_
    refine wp_exit ?_
    refine z18 _ _ _ rfl ?_
    obtain rfl := someI hM1
    refine zz1 _ _ _ _ rfl rfl ?_
    exact je1_0 _ _ _ e1_3 (hst.pk 2 [1] rfl) (ho1 _ rfl)
end Go.Proofs.Ythpeajepbffinaa
