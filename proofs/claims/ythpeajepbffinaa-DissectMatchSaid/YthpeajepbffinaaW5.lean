/- Walks: each function computes its model, printed. -/
import Derived.Test.YthpeajepbffinaaW4
namespace Go.Proofs.Ythpeajepbffinaa
open Go Sx M
set_option maxRecDepth 100000
set_option maxHeartbeats 400000
set_option linter.unusedVariables false
attribute [local irreducible] wpList Code.wp Calls DR QR QS LA LS St
theorem dissect_Separate_ok {w0 : World} {ros : List Fact} {rs : List Res} {w : World} {x1 : List (List Int)} {h2 : Hdr} {out : (List Int) × (List Int) × (List Int) × Int} (hM : dissect_Separate x1 = some out) (q1 : imm (rS (rI .i64)) h2.v x1 ∈ ros) (hst : St w0 ros (rs) w) :
    Calls Try.prog 13 #[.agg #[h2.v]] w (fun e w => ∃ (h100001 : Hdr) (h100003 : Hdr) (h100005 : Hdr), e = .returned (.tuple #[.agg #[h100001.v, h100003.v, h100005.v], .int .i64 out.2.2.2]) ∧ St w0 (ros) (row 3 (rI .i64) h100001.v out.1 :: row 3 (rI .i64) h100003.v out.2.1 :: row 3 (rI .i64) h100005.v out.2.2.1 :: rs) w) := by
  refine enterQ Try.func13 rfl Try.ntmps13 rfl fun Q hQ => ?_
  refine seqQ fun Q1 k1 z1 => ?_
  refine wp_region_lit ?_
  refine YB wn rfl (r_box (vals := [h2.v]) hst (et rfl rfl) rfl) ?_
  clear hst
  intro b3 w hst
  refine YB wn rfl (rAl hst ZT_38) ?_
  clear hst
  intro b4 w hst
  refine Y wn rfl (ya (v := .int .i64 0) rfl) ?_
  refine wpList_nil ?_
  refine k1 _ _ ?_
  refine seqQ fun Q2 k2 z2 => ?_
  refine wp_region_lit ?_
  refine Y wn rfl (yLbs (us := [h2.v]) ST_27 (et rfl rfl) hst (mtR mhR) rfl rfl) ?_
  obtain ⟨r5, gr5, hM⟩ := bs hM
  refine Yc wn rfl (yCall FN_30 (a1 (et rfl rfl))) (graph_Check_ok (hM := gr5) (hst := hst) (q1 := q1)) ?_
  clear hst
  rintro _ w ⟨rfl, hst⟩
  refine ⟨_, rfl, ?_⟩
  refine Y wn rfl (ya (v := .int .i64 r5) (et rfl rfl)) ?_
  refine wpList_nil ?_
  refine k2 _ _ ?_
  refine seqQ fun Q3 k3 z3 => ?_
  refine seqQ fun Q4 k4 z4 => ?_
  refine wp_region_lit ?_
  refine Y wn rfl (ym (v := .int .i64 r5) (et rfl rfl)) ?_
  refine Y wn rfl (yneq (et rfl rfl) rfl) ?_
  refine wpList_nil ?_
  refine k4 _ _ ?_
  rcases iteS hM with ⟨c6, hM⟩ | ⟨c6, hM⟩
  · refine condF (et rfl rfl) (nF (decide_eq_true c6)) ?_
    refine wp_skip ?_
    refine k3 _ _ ?_
    refine seqQ fun Q5 k5 z5 => ?_
    refine wp_region_lit ?_
    refine Y wn rfl (yLbs (us := [h2.v]) ST_27 (et rfl rfl) hst (mtR mhR) rfl rfl) ?_
    obtain ⟨r7, gr7, hM⟩ := bs hM
    refine Yc wn rfl (yCall FN_31 (a1 (et rfl rfl))) (dissect_separate_ok (hM := gr7) (hst := hst) (q1 := q1)) ?_
    clear hst
    rintro _ w ⟨h8, h9, h10, rfl, hst⟩
    refine ⟨_, rfl, ?_⟩
    replace hst := hst.pk 4 [3, 0, 0, 0] rfl
    refine YT wn rfl (r_stbn (vals' := [h8.v, h9.v, h10.v]) (us := [h8.v, h9.v, h10.v]) hst ST_38 (et rfl rfl) (et rfl rfl) rfl rfl (one_of rfl) rfl) ?_
    clear hst
    intro w hst
    refine Y wn rfl (ya (v := .int .i64 0) rfl) ?_
    refine wpList_nil ?_
    refine k5 _ _ ?_
    refine wp_ret ?_
    obtain rfl := someI hM
    exact hQ _ _ _ (fin2r Try.results13 (rcs2 rfl rfl hst mhR ST_38 rfl) ⟨rfl, rfl⟩ ⟨_, _, _, rfl, (hst.pk 5 [1, 1, 1] rfl)⟩)
  · refine condT (et rfl rfl) (nT (decide_eq_false c6)) ?_
    refine seqQ fun Q6 k6 z6 => ?_
    refine wp_region_lit ?_
    refine Y wn rfl (ybuild (us := [hnil.v, hnil.v, hnil.v]) [] SO_38 bp0 rfl) ?_
    refine Y wn rfl (ym (v := .int .i64 r5) (et rfl rfl)) ?_
    refine YT wn rfl (r_stbn (vals' := [hnil.v, hnil.v, hnil.v]) (us := [hnil.v, hnil.v, hnil.v]) hst ST_38 (et rfl rfl) (et rfl rfl) rfl rfl (one_of rfl) rfl) ?_
    clear hst
    intro w hst
    refine Y wn rfl (ya (v := .int .i64 r5) (et rfl rfl)) ?_
    refine wpList_nil ?_
    refine k6 _ _ ?_
    refine wp_ret ?_
    refine z3 _ _ _ rfl ?_
    obtain rfl := someI hM
    replace hst := hst.rowNh 3 (rI .i64)
    replace hst := hst.rowNh 3 (rI .i64)
    replace hst := hst.rowNh 3 (rI .i64)
    exact hQ _ _ _ (fin2r Try.results13 (rcs2 rfl rfl hst (mtR (mtR (mtR mhR))) ST_38 rfl) ⟨rfl, rfl⟩ ⟨_, _, _, rfl, (hst.pk 5 [2, 1, 0] rfl)⟩)

theorem sparsekit_Ints_ok {w0 : World} {ros : List Fact} {rs : List Res} {w : World} {x1 : List Int} {x3 : List Int} {h2 : Hdr} {h4 : Hdr} {out : Bool} (hM : sparsekit_Ints x1 x3 = some out) (q1 : imm (rI .i64) h2.v x1 ∈ ros) (q2 : imm (rI .i64) h4.v x3 ∈ ros) (hst : St w0 ros (rs) w) :
    Calls Try.prog 44 #[h2.v, h4.v] w (fun e w => e = .returned (.bool out) ∧ St w0 (ros) (rs) w) := by
  refine enterQ Try.func44 rfl Try.ntmps44 rfl fun Q hQ => ?_
  refine seqQ fun Q1 k1 z1 => ?_
  refine wp_region_lit ?_
  refine Y wn rfl (ya (v := .bool false) rfl) ?_
  refine wpList_nil ?_
  refine k1 _ _ ?_
  refine seqQ fun Q2 k2 z2 => ?_
  refine seqQ fun Q3 k3 z3 => ?_
  refine wp_region_lit ?_
  refine Y wn rfl (ym (v := h2.v) (et rfl rfl)) ?_
  refine Y wn rfl (yLen SL_22 (et rfl rfl) hst (rdI q1)) ?_
  refine Y wn rfl (ym (v := h4.v) (et rfl rfl)) ?_
  refine Y wn rfl (yLen SL_22 (et rfl rfl) hst (rdI q2)) ?_
  refine Y wn rfl (yneq (et rfl rfl) (et rfl rfl)) ?_
  refine wpList_nil ?_
  refine k3 _ _ ?_
  rcases iteS hM with ⟨c5, hM⟩ | ⟨c5, hM⟩
  · refine condF (et rfl rfl) (nF (decide_eq_true c5)) ?_
    refine wp_skip ?_
    refine k2 _ _ ?_
    refine seqQ fun Q4 k4 z4 => ?_
    refine seqQ fun Q5 k5 z5 => ?_
    refine wp_region_lit ?_
    refine Y wn rfl (ya (v := .int .i64 0) rfl) ?_
    refine wpList_nil ?_
    refine k5 _ _ ?_
    refine blockQ fun Q6 qb6 => ?_
    obtain ⟨o1, go1, hM⟩ := bs hM
    have je1_0 : ∀ (f : Nat → Value) (w : World), St w0 (ros) (rs) w → .inl () = o1 → Q6 (.exit 0) (fr 26 f) w := by
      intro f w hst ho
      subst ho
      refine qb6 _ _ _ ?_
      refine k4 _ _ ?_
      refine seqQ fun Q19 k19 z19 => ?_
      refine wp_region_lit ?_
      refine Y wn rfl (ya (v := .bool true) rfl) ?_
      refine wpList_nil ?_
      refine k19 _ _ ?_
      refine wp_ret ?_
      obtain rfl := someI hM
      exact hQ _ _ _ (fin1r Try.results44 ⟨rfl, rfl⟩ ⟨rfl, hst⟩)
    have je1_1 : ∀ (f : Nat → Value) (w : World), f 4 = .bool false → St w0 (ros) (rs) w → .inr () = o1 → Q6 .ret (fr 26 f) w := by
      intro f w eje1_1_4 hst ho
      subst ho
      refine qb6 _ _ _ ?_
      refine z4 _ _ _ rfl ?_
      obtain rfl := someI hM
      exact hQ _ _ _ (fin1r Try.results44 ⟨rfl, eje1_1_4⟩ ⟨rfl, hst⟩)
    refine loopQ (fun s a w => ∃ (x10 : Int) (f : Nat → Value), x10 = s ∧ a = fr 26 f ∧ f 0 = h2.v ∧ f 1 = h4.v ∧ f 5 = .int .i64 x10 ∧ St w0 (ros) (rs) w) go1 ⟨_, _, rfl, rfl, rfl, rfl, rfl, hst⟩ ?_
    clear hst
    rintro _ _ w r1_ ⟨x10, f, rfl, rfl, e1_0, e1_1, e1_5, hst⟩ hM1 ho1 Q100001 n1 zz1
    refine seqQ fun Q20 k20 z20 => ?_
    refine seqQ fun Q21 k21 z21 => ?_
    refine wp_region_lit ?_
    refine Y wn rfl (ym (v := .int .i64 x10) (et rfl e1_5)) ?_
    refine Y wn rfl (ym (v := h2.v) (et rfl e1_0)) ?_
    refine Y wn rfl (yLen SL_22 (et rfl rfl) hst (rdI q1)) ?_
    refine Y wn rfl (ylss (et rfl rfl) (et rfl rfl)) ?_
    refine wpList_nil ?_
    refine k21 _ _ ?_
    rcases iteS hM1 with ⟨c16, hM1⟩ | ⟨c16, hM1⟩
    · refine condT (et rfl rfl) (decide_eq_true c16) ?_
      refine wp_skip ?_
      refine k20 _ _ ?_
      refine seqQ fun Q22 k22 z22 => ?_
      refine blockQ fun Q23 qb23 => ?_
      refine seqQ fun Q24 k24 z24 => ?_
      obtain ⟨x17, gx17, hM1⟩ := bs hM1
      obtain ⟨x18, gx18, hM1⟩ := bs hM1
      refine wp_drawR [0, 0, 3, 7, 0, 0, 48, 112, 255] [] 0 folM (by kernel_rfl) (by kernel_rfl) (by kernel_rfl) ?_
      replace hst := hst.drew
      refine DRz (l1 := [0, 1, 2, 3, 4, 5, 6, 7, 8]) (l2 := []) (by kernel_rfl) (by kernel_rfl) ?_
      refine Ry rfl rfl wn (ym (v := h2.v) (et rfl e1_0)) ?_
      refine Ry rfl rfl wn (ym (v := .int .i64 x10) (et rfl e1_5)) ?_
      refine Ry rfl rfl wn (yIa SL_22 (et rfl rfl) (et rfl rfl) hst (rdI q1) gx17) ?_
      refine Ry rfl rfl wn (yI O_3 (et rfl rfl) hst (rdI q1) gx17) ?_
      refine Ry rfl rfl wn (ym (v := h4.v) (et rfl e1_1)) ?_
      refine Ry rfl rfl wn (ym (v := .int .i64 x10) (et rfl e1_5)) ?_
      refine Ry rfl rfl wn (yIa SL_22 (et rfl rfl) (et rfl rfl) hst (rdI q2) gx18) ?_
      refine Ry rfl rfl wn (yI O_3 (et rfl rfl) hst (rdI q2) gx18) ?_
      refine Ry rfl rfl wn (yneq (et rfl rfl) (et rfl rfl)) ?_
      refine Rn QSn ?_
      refine k24 _ _ ?_
      rcases iteS hM1 with ⟨c19, hM1⟩ | ⟨c19, hM1⟩
      · refine condF (et rfl rfl) (nF (decide_eq_true c19)) ?_
        refine wp_skip ?_
        refine qb23 _ _ _ ?_
        refine k22 _ _ ?_
        refine wp_region_lit ?_
        refine Y wn rfl (ym (v := .int .i64 x10) (et rfl e1_5)) ?_
        refine Y wn rfl (yadd (et rfl rfl) rfl) ?_
        refine Y wn rfl (ya (v := .int .i64 (wa .i64 x10 1)) (et rfl rfl)) ?_
        refine wpList_nil ?_
        obtain rfl := someI hM1
        exact n1 _ _ _ rfl ⟨_, _, rfl, rfl, e1_0, e1_1, rfl, hst⟩
      · refine condT (et rfl rfl) (nT (decide_eq_false c19)) ?_
        refine seqQ fun Q25 k25 z25 => ?_
        refine wp_region_lit ?_
        refine Y wn rfl (ya (v := .bool false) rfl) ?_
        refine wpList_nil ?_
        refine k25 _ _ ?_
        refine wp_ret ?_
        refine qb23 _ _ _ ?_
        refine z22 _ _ _ rfl ?_
        obtain rfl := someI hM1
        refine zz1 _ _ _ _ rfl rfl ?_
        exact je1_1 _ _ rfl hst (ho1 _ rfl)
    · refine condF (et rfl rfl) (decide_eq_false c16) ?_
      refine wp_exit ?_
      refine z20 _ _ _ rfl ?_
      obtain rfl := someI hM1
      refine zz1 _ _ _ _ rfl rfl ?_
      exact je1_0 _ _ hst (ho1 _ rfl)
  · refine condT (et rfl rfl) (nT (decide_eq_false c5)) ?_
    refine seqQ fun Q26 k26 z26 => ?_
    refine wp_region_lit ?_
    refine Y wn rfl (ya (v := .bool false) rfl) ?_
    refine wpList_nil ?_
    refine k26 _ _ ?_
    refine wp_ret ?_
    refine z2 _ _ _ rfl ?_
    obtain rfl := someI hM
    exact hQ _ _ _ (fin1r Try.results44 ⟨rfl, rfl⟩ ⟨rfl, hst⟩)

theorem sparsekit_Split_ok {w0 : World} {ros : List Fact} {rs : List Res} {w : World} {x1 : List Int} {x3 : List Int} {x5 : List Int} {x7 : List Int} {x9 : List Int} {x11 : List Int} {h2 : Hdr} {h4 : Hdr} {h6 : Hdr} {h8 : Hdr} {h10 : Hdr} {h12 : Hdr} {out : Bool} (hM : sparsekit_Split x1 x3 x5 x7 x9 x11 = some out) (q1 : imm (rI .i64) h2.v x1 ∈ ros) (q2 : imm (rI .i64) h4.v x3 ∈ ros) (q3 : imm (rI .i64) h6.v x5 ∈ ros) (q4 : imm (rI .i64) h8.v x7 ∈ ros) (q5 : imm (rI .i64) h10.v x9 ∈ ros) (q6 : imm (rI .i64) h12.v x11 ∈ ros) (hst : St w0 ros (rs) w) :
    Calls Try.prog 26 #[.agg #[h2.v, h4.v, h6.v], .agg #[h8.v, h10.v, h12.v]] w (fun e w => e = .returned (.bool out) ∧ St w0 (ros) (rs) w) := by
  refine enterQ Try.func26 rfl Try.ntmps26 rfl fun Q hQ => ?_
  refine seqQ fun Q1 k1 z1 => ?_
  refine wp_region_lit ?_
  refine YB wn rfl (r_box (vals := [h2.v, h4.v, h6.v]) hst (et rfl rfl) rfl) ?_
  clear hst
  intro b13 w hst
  refine YB wn rfl (r_box (vals := [h8.v, h10.v, h12.v]) hst (et rfl rfl) rfl) ?_
  clear hst
  intro b14 w hst
  refine Y wn rfl (ya (v := .bool false) rfl) ?_
  refine wpList_nil ?_
  refine k1 _ _ ?_
  refine seqQ fun Q2 k2 z2 => ?_
  refine wp_region_lit ?_
  refine Y wn rfl (yFb FL_38_0 (et rfl rfl)) ?_
  refine Y wn rfl (yLb (u := h2.v) O_22 (et rfl rfl) hst (mtR mhR) rfl) ?_
  refine Y wn rfl (yFb FL_38_0 (et rfl rfl)) ?_
  refine Y wn rfl (yLb (u := h8.v) O_22 (et rfl rfl) hst mhR rfl) ?_
  obtain ⟨r15, gr15, hM⟩ := bs hM
  refine Yc wn rfl (yCall FN_44 (a2 (et rfl rfl) (et rfl rfl))) (sparsekit_Ints_ok (hM := gr15) (hst := hst) (q1 := q1) (q2 := q4)) ?_
  clear hst
  rintro _ w ⟨rfl, hst⟩
  refine ⟨_, rfl, ?_⟩
  refine Y wn rfl (ym (v := .bool r15) (et rfl rfl)) ?_
  obtain ⟨r17, gr17, hM⟩ := bs hM
  refine joinW 6 (fun f w => f 2 = .pointer (some ⟨b13, 0, none⟩) ∧ f 3 = .pointer (some ⟨b14, 0, none⟩) ∧ f 16 = .bool r17 ∧ St w0 (ros) (box b13 38 [h2.v, h4.v, h6.v] :: box b14 38 [h8.v, h10.v, h12.v] :: rs) w) (fun j1 => ?_) ?_
  · rcases iteS gr17 with ⟨c19, gr17⟩ | ⟨c19, gr17⟩
    · refine Y (wg rfl rfl rfl c19) rfl (yFb FL_38_1 (et rfl rfl)) ?_
      refine Y (wg rfl rfl rfl c19) rfl (yLb (u := h4.v) O_22 (et rfl rfl) hst (mtR mhR) rfl) ?_
      refine Y (wg rfl rfl rfl c19) rfl (yFb FL_38_1 (et rfl rfl)) ?_
      refine Y (wg rfl rfl rfl c19) rfl (yLb (u := h10.v) O_22 (et rfl rfl) hst mhR rfl) ?_
      obtain ⟨r20, gr20, gr17⟩ := bs gr17
      refine Yc (wg rfl rfl rfl c19) rfl (yCall FN_44 (a2 (et rfl rfl) (et rfl rfl))) (sparsekit_Ints_ok (hM := gr20) (hst := hst) (q1 := q2) (q2 := q5)) ?_
      clear hst
      rintro _ w ⟨rfl, hst⟩
      refine ⟨_, rfl, ?_⟩
      refine Y wn rfl (ypt (v := .bool r20) (et rfl rfl) c19 (et rfl rfl)) ?_
      obtain rfl := someI gr17
      exact j1 _ _ ⟨rfl, rfl, rfl, (hst.pk 2 [1, 0] rfl)⟩
    · refine Gn (wx rfl rfl rfl (bfalse c19)) rfl ?_
      refine Gn (wx rfl rfl rfl (bfalse c19)) rfl ?_
      refine Gn (wx rfl rfl rfl (bfalse c19)) rfl ?_
      refine Gn (wx rfl rfl rfl (bfalse c19)) rfl ?_
      refine Gn (wx rfl rfl rfl (bfalse c19)) rfl ?_
      refine Y wn rfl (ypf (v := .bool false) (et rfl rfl) (bfalse c19) rfl) ?_
      obtain rfl := someI gr17
      exact j1 _ _ ⟨rfl, rfl, rfl, (hst.pk 2 [1, 0] rfl)⟩
  clear hst
  rintro f w ⟨e18_2, e18_3, e18_16, hst⟩
  refine Y wn rfl (ym (v := .bool r17) (et rfl e18_16)) ?_
  obtain ⟨r22, gr22, hM⟩ := bs hM
  refine joinW 6 (fun f w => f 23 = .bool r22 ∧ St w0 (ros) (rs) w) (fun j2 => ?_) ?_
  · rcases iteS gr22 with ⟨c24, gr22⟩ | ⟨c24, gr22⟩
    · refine Y (wg rfl rfl rfl c24) rfl (yFb FL_38_2 (et rfl e18_2)) ?_
      refine Y (wg rfl rfl rfl c24) rfl (yLb (u := h6.v) O_22 (et rfl rfl) hst mhR rfl) ?_
      refine Y (wg rfl rfl rfl c24) rfl (yFb FL_38_2 (et rfl e18_3)) ?_
      refine Y (wg rfl rfl rfl c24) rfl (yLb (u := h12.v) O_22 (et rfl rfl) hst (mtR mhR) rfl) ?_
      obtain ⟨r25, gr25, gr22⟩ := bs gr22
      refine Yc (wg rfl rfl rfl c24) rfl (yCall FN_44 (a2 (et rfl rfl) (et rfl rfl))) (sparsekit_Ints_ok (hM := gr25) (hst := hst) (q1 := q3) (q2 := q6)) ?_
      clear hst
      rintro _ w ⟨rfl, hst⟩
      refine ⟨_, rfl, ?_⟩
      refine Y wn rfl (ypt (v := .bool r25) (et rfl rfl) c24 (et rfl rfl)) ?_
      obtain rfl := someI gr22
      exact j2 _ _ ⟨rfl, (hst.pk 2 [] rfl)⟩
    · refine Gn (wx rfl rfl rfl (bfalse c24)) rfl ?_
      refine Gn (wx rfl rfl rfl (bfalse c24)) rfl ?_
      refine Gn (wx rfl rfl rfl (bfalse c24)) rfl ?_
      refine Gn (wx rfl rfl rfl (bfalse c24)) rfl ?_
      refine Gn (wx rfl rfl rfl (bfalse c24)) rfl ?_
      refine Y wn rfl (ypf (v := .bool false) (et rfl rfl) (bfalse c24) rfl) ?_
      obtain rfl := someI gr22
      exact j2 _ _ ⟨rfl, (hst.pk 2 [] rfl)⟩
  clear hst
  rintro f w ⟨e23_23, hst⟩
  refine Y wn rfl (ya (v := .bool r22) (et rfl e23_23)) ?_
  refine wpList_nil ?_
  refine k2 _ _ ?_
  refine wp_ret ?_
  obtain rfl := someI hM
  exact hQ _ _ _ (fin1r Try.results26 ⟨rfl, rfl⟩ ⟨rfl, hst⟩)

theorem dissect_parts_ok {w0 : World} {ros : List Fact} {rs : List Res} {w : World} {x1 : Int} {x2 : List (List Int)} {h3 : Hdr} {out : (List Int) × Bool} (hM : dissect_parts x1 x2 = some out) (q1 : imm (rS (rI .i64)) h3.v x2 ∈ ros) (hst : St w0 ros (rs) w) :
    Calls Try.prog 45 #[.int .i64 x1, h3.v] w (fun e w => ∃ (h100001 : Hdr), e = .returned (.tuple #[h100001.v, .bool out.2]) ∧ St w0 (ros) (row 3 (rI .i64) h100001.v out.1 :: rs) w) := by
  refine enterQ Try.func45 rfl Try.ntmps45 rfl fun Q hQ => ?_
  refine seqQ fun Q1 k1 z1 => ?_
  refine wp_region_lit ?_
  refine Y wn rfl (ya (v := hnil.v) rfl) ?_
  refine Y wn rfl (ya (v := .bool false) rfl) ?_
  refine wpList_nil ?_
  refine k1 _ _ ?_
  refine seqQ fun Q2 k2 z2 => ?_
  refine wp_region_lit ?_
  refine YH wn rfl (rLt (n := 1) (l := [(-1)]) hst SL_22 [.int .i64 (-1)] (bp1 rfl) rfl rfl (mks1 (cs := [.int .i64 (-1)]) rfl mkI mks0)) ?_
  clear hst
  intro h4 w hst
  refine Y wn rfl (ym (v := .int .i64 x1) (et rfl rfl)) ?_
  obtain ⟨r5, gr5, hM⟩ := bs hM
  replace hst := hst.fz
  refine Yc wn rfl (yCall FN_46 (a2 (et rfl rfl) (et rfl rfl))) (slices_Repeat_int_ok (hM := gr5) (hst := hst) (q1 := mhF)) ?_
  clear hst
  rintro _ w ⟨h6, rfl, hst⟩
  refine ⟨_, rfl, ?_⟩
  refine Y wn rfl (ya (v := h6.v) (et rfl rfl)) ?_
  refine wpList_nil ?_
  refine k2 _ _ ?_
  refine seqQ fun Q3 k3 z3 => ?_
  refine wp_region_lit ?_
  refine Y wn rfl (ya (v := .int .i64 0) rfl) ?_
  refine wpList_nil ?_
  refine k3 _ _ ?_
  refine seqQ fun Q4 k4 z4 => ?_
  refine seqQ fun Q5 k5 z5 => ?_
  refine wp_region_lit ?_
  refine Y wn rfl (ym (v := h3.v) (et rfl rfl)) ?_
  refine Y wn rfl (yLen SL_25 (et rfl rfl) hst (rdI (mtF q1))) ?_
  refine Y wn rfl (ym (v := .int .i64 0) rfl) ?_
  refine wpList_nil ?_
  refine k5 _ _ ?_
  refine blockQ fun Q6 qb6 => ?_
  obtain ⟨o15, go15, hM⟩ := bs hM
  have je15_0 : ∀ (x105 : List Int) (x106 : Int) (f : Nat → Value) (w : World), f 0 = .int .i64 x1 → f 6 = h6.v → f 7 = .int .i64 x106 → St w0 (ros) (row 3 (rI .i64) h6.v x105 :: rs) w → .inl (x105, x106) = o15 → Q6 (.exit 0) (fr 57 f) w := by
    intro x105 x106 f w eje15_0_0 eje15_0_6 eje15_0_7 hst ho
    subst ho
    refine qb6 _ _ _ ?_
    refine k4 _ _ ?_
    refine seqQ fun Q77 k77 z77 => ?_
    refine wp_region_lit ?_
    refine Y wn rfl (ym (v := h6.v) (et rfl eje15_0_6)) ?_
    refine Y wn rfl (ym (v := .int .i64 x106) (et rfl eje15_0_7)) ?_
    refine Y wn rfl (ym (v := .int .i64 x1) (et rfl eje15_0_0)) ?_
    refine Y wn rfl (yeql (et rfl rfl) (et rfl rfl)) ?_
    refine Y wn rfl (ya (v := h6.v) (et rfl rfl)) ?_
    refine Y wn rfl (ya (v := .bool (decide (x106 = x1))) (et rfl rfl)) ?_
    refine wpList_nil ?_
    refine k77 _ _ ?_
    refine wp_ret ?_
    obtain rfl := someI hM
    exact hQ _ _ _ (fin2r Try.results45 ⟨rfl, rfl⟩ ⟨rfl, rfl⟩ ⟨_, rfl, hst⟩)
  have je15_1 : ∀ (f : Nat → Value) (w : World), f 4 = hnil.v → f 5 = .bool false → St w0 (ros) (rs) w → .inr () = o15 → Q6 .ret (fr 57 f) w := by
    intro f w eje15_1_4 eje15_1_5 hst ho
    subst ho
    refine qb6 _ _ _ ?_
    refine z4 _ _ _ rfl ?_
    obtain rfl := someI hM
    replace hst := hst.rowNh 3 (rI .i64)
    exact hQ _ _ _ (fin2r Try.results45 ⟨rfl, eje15_1_4⟩ ⟨rfl, eje15_1_5⟩ ⟨_, rfl, hst⟩)
  refine loopQ (fun s a w => ∃ (x53 : List Int) (x54 : Int) (x55 : Int) (f : Nat → Value), (x53, x54, x55) = s ∧ a = fr 57 f ∧ f 0 = .int .i64 x1 ∧ f 6 = h6.v ∧ f 7 = .int .i64 x54 ∧ f 16 = h3.v ∧ f 17 = .int .i64 (x2.length : Int) ∧ f 18 = .int .i64 x55 ∧ St w0 (ros) (row 3 (rI .i64) h6.v x53 :: rs) w) go15 ⟨_, _, _, _, rfl, rfl, rfl, rfl, rfl, rfl, rfl, rfl, (hst.facts (allT allI))⟩ ?_
  clear hst
  rintro _ _ w r15_ ⟨x53, x54, x55, f, rfl, rfl, e15_0, e15_6, e15_7, e15_16, e15_17, e15_18, hst⟩ hM15 ho15 Q100015 n15 zz15
  refine seqQ fun Q78 k78 z78 => ?_
  refine wp_region_lit ?_
  refine Y wn rfl (ylss (et rfl e15_18) (et rfl e15_17)) ?_
  refine wpList_nil ?_
  refine k78 _ _ ?_
  refine seqQ fun Q79 k79 z79 => ?_
  rcases iteS hM15 with ⟨c107, hM15⟩ | ⟨c107, hM15⟩
  · refine condT (et rfl rfl) (decide_eq_true c107) ?_
    refine wp_skip ?_
    refine k79 _ _ ?_
    refine seqQ fun Q80 k80 z80 => ?_
    refine blockQ fun Q81 qb81 => ?_
    refine seqQ fun Q82 k82 z82 => ?_
    refine wp_region_lit ?_
    refine Y wn rfl (ym (v := .int .i64 x55) (et rfl e15_18)) ?_
    obtain ⟨x108, gx108, hM15⟩ := bs hM15
    refine Y wn rfl (yIa SL_25 (et rfl e15_16) (et rfl e15_18) hst (rdI q1) gx108) ?_
    obtain ⟨h109, hst⟩ := iLs hst q1 gx108
    refine Y wn rfl (yCt O_22 (et rfl rfl) hst (mtF mhF) rfl) ?_
    refine Y wn rfl (ya (v := .int .i64 x55) (et rfl rfl)) ?_
    refine Y wn rfl (ya (v := h109.v) (et rfl rfl)) ?_
    refine wpList_nil ?_
    refine k82 _ _ ?_
    refine seqQ fun Q83 k83 z83 => ?_
    refine wp_region_lit ?_
    refine Y wn rfl (ya (v := .int .i64 (-1)) rfl) ?_
    refine wpList_nil ?_
    refine k83 _ _ ?_
    refine seqQ fun Q84 k84 z84 => ?_
    refine wp_region_lit ?_
    refine Y wn rfl (ym (v := h109.v) (et rfl rfl)) ?_
    refine Y wn rfl (yLen SL_22 (et rfl rfl) hst (rdI mhF)) ?_
    refine Y wn rfl (ym (v := .int .i64 0) rfl) ?_
    refine wpList_nil ?_
    refine k84 _ _ ?_
    refine blockQ fun Q85 qb85 => ?_
    obtain ⟨o20, go20, hM15⟩ := bs hM15
    have je20_0 : ∀ (x140 : List Int) (x141 : Int) (f : Nat → Value) (w : World), f 0 = .int .i64 x1 → f 6 = h6.v → f 7 = .int .i64 x141 → f 16 = h3.v → f 17 = .int .i64 (x2.length : Int) → f 18 = .int .i64 x55 → St w0 (ros) (row 3 (rI .i64) h6.v x140 :: rs) w → .inl (x140, x141) = o20 → Q85 (.exit 2) (fr 57 f) w := by
      intro x140 x141 f w eje20_0_0 eje20_0_6 eje20_0_7 eje20_0_16 eje20_0_17 eje20_0_18 hst ho
      subst ho
      refine qb85 _ _ _ ?_
      refine qb81 _ _ _ ?_
      refine k80 _ _ ?_
      refine wp_region_lit ?_
      refine Y wn rfl (yadd (et rfl eje20_0_18) rfl) ?_
      refine Y wn rfl (ym (v := .int .i64 (wa .i64 x55 1)) (et rfl rfl)) ?_
      refine wpList_nil ?_
      obtain rfl := someI hM15
      exact n15 _ _ _ rfl ⟨_, _, _, _, rfl, rfl, eje20_0_0, eje20_0_6, eje20_0_7, eje20_0_16, eje20_0_17, rfl, hst⟩
    have je20_1 : ∀ (f : Nat → Value) (w : World), f 4 = hnil.v → f 5 = .bool false → St w0 (ros) (rs) w → .inr () = o20 → Q85 .ret (fr 57 f) w := by
      intro f w eje20_1_4 eje20_1_5 hst ho
      subst ho
      refine qb85 _ _ _ ?_
      refine qb81 _ _ _ ?_
      refine z80 _ _ _ rfl ?_
      obtain rfl := someI hM15
      refine zz15 _ _ _ _ rfl rfl ?_
      exact je15_1 _ _ eje20_1_4 eje20_1_5 hst (ho15 _ rfl)
    refine loopQ (fun s a w => ∃ (x121 : List Int) (x122 : Int) (x123 : Int) (x124 : Int) (f : Nat → Value), (x121, x122, x123, x124) = s ∧ a = fr 57 f ∧ f 0 = .int .i64 x1 ∧ f 6 = h6.v ∧ f 7 = .int .i64 x122 ∧ f 8 = .int .i64 x55 ∧ f 10 = .int .i64 x123 ∧ f 16 = h3.v ∧ f 17 = .int .i64 (x2.length : Int) ∧ f 18 = .int .i64 x55 ∧ f 23 = h109.v ∧ f 24 = .int .i64 (x108.length : Int) ∧ f 25 = .int .i64 x124 ∧ St w0 (imm (rI .i64) h109.v x108 :: ros) (row 3 (rI .i64) h6.v x121 :: rs) w) go20 ⟨_, _, _, _, _, rfl, rfl, e15_0, e15_6, e15_7, rfl, rfl, e15_16, e15_17, e15_18, rfl, rfl, rfl, (hst.facts (allC mhF (allT (allT allI))))⟩ ?_
    clear hst
    rintro _ _ w r20_ ⟨x121, x122, x123, x124, f, rfl, rfl, e20_0, e20_6, e20_7, e20_8, e20_10, e20_16, e20_17, e20_18, e20_23, e20_24, e20_25, hst⟩ hM20 ho20 Q100020 n20 zz20
    refine seqQ fun Q104 k104 z104 => ?_
    refine wp_region_lit ?_
    refine Y wn rfl (ylss (et rfl e20_25) (et rfl e20_24)) ?_
    refine wpList_nil ?_
    refine k104 _ _ ?_
    refine seqQ fun Q105 k105 z105 => ?_
    rcases iteS hM20 with ⟨c142, hM20⟩ | ⟨c142, hM20⟩
    · refine condT (et rfl rfl) (decide_eq_true c142) ?_
      refine wp_skip ?_
      refine k105 _ _ ?_
      refine seqQ fun Q106 k106 z106 => ?_
      refine blockQ fun Q107 qb107 => ?_
      refine seqQ fun Q108 k108 z108 => ?_
      refine wp_region_lit ?_
      obtain ⟨x143, gx143, hM20⟩ := bs hM20
      refine Y wn rfl (yIa SL_22 (et rfl e20_23) (et rfl e20_25) hst (rdI mhF) gx143) ?_
      refine Y wn rfl (yI O_3 (et rfl rfl) hst (rdI mhF) gx143) ?_
      refine Y wn rfl (ya (v := .int .i64 x143) (et rfl rfl)) ?_
      refine wpList_nil ?_
      refine k108 _ _ ?_
      refine seqQ fun Q109 k109 z109 => ?_
      refine seqQ fun Q110 k110 z110 => ?_
      refine wp_region_lit ?_
      refine Y wn rfl (ym (v := .int .i64 x143) (et rfl rfl)) ?_
      refine Y wn rfl (ym (v := .int .i64 x123) (et rfl e20_10)) ?_
      refine Y wn rfl (yleq (et rfl rfl) (et rfl rfl)) ?_
      refine Y wn rfl (ym (v := .bool (decide (x143 ≤ x123))) (et rfl rfl)) ?_
      refine joinW 4 (fun f w => f 0 = .int .i64 x1 ∧ f 6 = h6.v ∧ f 7 = .int .i64 x122 ∧ f 8 = .int .i64 x55 ∧ f 12 = .int .i64 x143 ∧ f 16 = h3.v ∧ f 17 = .int .i64 (x2.length : Int) ∧ f 18 = .int .i64 x55 ∧ f 23 = h109.v ∧ f 24 = .int .i64 (x108.length : Int) ∧ f 25 = .int .i64 x124 ∧ f 36 = .bool ((decide (x143 ≤ x123)) || (decide (x1 ≤ x143))) ∧ St w0 (imm (rI .i64) h109.v x108 :: ros) (row 3 (rI .i64) h6.v x121 :: rs) w) (fun j21 => ?_) ?_
      · rcases Bool.eq_false_or_eq_true (decide (x143 ≤ x123)) with c145 | c145
        · refine Gn (wx rfl rfl rfl c145) rfl ?_
          refine Gn (wx rfl rfl rfl c145) rfl ?_
          refine Gn (wx rfl rfl rfl c145) rfl ?_
          refine Y wn rfl (ypt (v := .bool true) (et rfl rfl) c145 rfl) ?_
          exact j21 _ _ ⟨e20_0, e20_6, e20_7, e20_8, rfl, e20_16, e20_17, e20_18, e20_23, e20_24, e20_25, (congrArg Value.bool (orT c145)), hst⟩
        · refine Y (wg rfl rfl rfl c145) rfl (ym (v := .int .i64 x143) (et rfl rfl)) ?_
          refine Y (wg rfl rfl rfl c145) rfl (ym (v := .int .i64 x1) (et rfl e20_0)) ?_
          refine Y (wg rfl rfl rfl c145) rfl (ygeq (et rfl rfl) (et rfl rfl)) ?_
          refine Y wn rfl (ypf (v := .bool (decide (x1 ≤ x143))) (et rfl rfl) c145 (et rfl rfl)) ?_
          exact j21 _ _ ⟨e20_0, e20_6, e20_7, e20_8, rfl, e20_16, e20_17, e20_18, e20_23, e20_24, e20_25, (congrArg Value.bool (orF c145)), hst⟩
      clear hst
      rintro f w ⟨e144_0, e144_6, e144_7, e144_8, e144_12, e144_16, e144_17, e144_18, e144_23, e144_24, e144_25, e144_36, hst⟩
      refine Y wn rfl (ym (v := .bool ((decide (x143 ≤ x123)) || (decide (x1 ≤ x143)))) (et rfl e144_36)) ?_
      obtain ⟨r147, gr147, hM20⟩ := bs hM20
      refine joinW 6 (fun f w => f 0 = .int .i64 x1 ∧ f 6 = h6.v ∧ f 7 = .int .i64 x122 ∧ f 8 = .int .i64 x55 ∧ f 12 = .int .i64 x143 ∧ f 16 = h3.v ∧ f 17 = .int .i64 (x2.length : Int) ∧ f 18 = .int .i64 x55 ∧ f 23 = h109.v ∧ f 24 = .int .i64 (x108.length : Int) ∧ f 25 = .int .i64 x124 ∧ f 43 = .bool r147 ∧ St w0 (imm (rI .i64) h109.v x108 :: ros) (row 3 (rI .i64) h6.v x121 :: rs) w) (fun j22 => ?_) ?_
      · rcases iteS gr147 with ⟨c149, gr147⟩ | ⟨c149, gr147⟩
        · refine Gn (wx rfl rfl rfl c149) rfl ?_
          refine Gn (wx rfl rfl rfl c149) rfl ?_
          refine Gn (wx rfl rfl rfl c149) rfl ?_
          refine Gn (wx rfl rfl rfl c149) rfl ?_
          refine Gn (wx rfl rfl rfl c149) rfl ?_
          refine Y wn rfl (ypt (v := .bool true) (et rfl rfl) c149 rfl) ?_
          obtain rfl := someI gr147
          exact j22 _ _ ⟨e144_0, e144_6, e144_7, e144_8, e144_12, e144_16, e144_17, e144_18, e144_23, e144_24, e144_25, rfl, hst⟩
        · refine Y (wg rfl rfl rfl (bfalse c149)) rfl (ym (v := h6.v) (et rfl e144_6)) ?_
          refine Y (wg rfl rfl rfl (bfalse c149)) rfl (ym (v := .int .i64 x143) (et rfl e144_12)) ?_
          obtain ⟨x150, gx150, gr147⟩ := bs gr147
          refine Y (wg rfl rfl rfl (bfalse c149)) rfl (yIa SL_22 (et rfl rfl) (et rfl rfl) hst (rdO mhR) gx150) ?_
          refine Y (wg rfl rfl rfl (bfalse c149)) rfl (yI O_3 (et rfl rfl) hst (rdO mhR) gx150) ?_
          refine Y (wg rfl rfl rfl (bfalse c149)) rfl (yneq (et rfl rfl) rfl) ?_
          refine Y wn rfl (ypf (v := .bool (!(decide (x150 = (-1))))) (et rfl rfl) (bfalse c149) (et rfl rfl)) ?_
          obtain rfl := someI gr147
          exact j22 _ _ ⟨e144_0, e144_6, e144_7, e144_8, e144_12, e144_16, e144_17, e144_18, e144_23, e144_24, e144_25, rfl, hst⟩
      clear hst
      rintro f w ⟨e148_0, e148_6, e148_7, e148_8, e148_12, e148_16, e148_17, e148_18, e148_23, e148_24, e148_25, e148_43, hst⟩
      refine wpList_nil ?_
      refine k110 _ _ ?_
      rcases iteS hM20 with ⟨c151, hM20⟩ | ⟨c151, hM20⟩
      · refine condT (et rfl e148_43) c151 ?_
        refine seqQ fun Q111 k111 z111 => ?_
        refine wp_region_lit ?_
        refine Y wn rfl (ya (v := hnil.v) rfl) ?_
        refine Y wn rfl (ya (v := .bool false) rfl) ?_
        refine wpList_nil ?_
        refine k111 _ _ ?_
        refine wp_ret ?_
        refine z109 _ _ _ rfl ?_
        refine qb107 _ _ _ ?_
        refine z106 _ _ _ rfl ?_
        obtain rfl := someI hM20
        refine zz20 _ _ _ _ rfl rfl ?_
        exact je20_1 _ _ rfl rfl ((hst.pk 1 [] rfl).facts (allT allI)) (ho20 _ rfl)
      · refine condF (et rfl e148_43) (bfalse c151) ?_
        refine wp_skip ?_
        refine k109 _ _ ?_
        refine seqQ fun Q112 k112 z112 => ?_
        refine wp_region_lit ?_
        refine Y wn rfl (ym (v := h6.v) (et rfl e148_6)) ?_
        refine Y wn rfl (ym (v := .int .i64 x143) (et rfl e148_12)) ?_
        refine Y wn rfl (ym (v := .int .i64 x55) (et rfl e148_8)) ?_
        refine Y wn rfl (ym (v := .int .i64 x143) (et rfl e148_12)) ?_
        obtain ⟨x152, gx152, hM20⟩ := bs hM20
        refine Y wn rfl (yIs SL_22 (et rfl rfl) (et rfl rfl) hst (rdO mhR) gx152) ?_
        refine YT wn rfl (r_sti (cs := [.int .i64 x55]) hst O_3 rfl (et rfl rfl) (et rfl rfl) rfl mkI gx152) ?_
        clear hst
        intro w hst
        refine Y wn rfl (ya (v := .int .i64 x143) (et rfl rfl)) ?_
        refine wpList_nil ?_
        refine k112 _ _ ?_
        refine wp_region_lit ?_
        refine Y wn rfl (ym (v := .int .i64 x122) (et rfl e148_7)) ?_
        refine Y wn rfl (yadd (et rfl rfl) rfl) ?_
        refine Y wn rfl (ya (v := .int .i64 (wa .i64 x122 1)) (et rfl rfl)) ?_
        refine wpList_nil ?_
        refine qb107 _ _ _ ?_
        refine k106 _ _ ?_
        refine wp_region_lit ?_
        refine Y wn rfl (yadd (et rfl e148_25) rfl) ?_
        refine Y wn rfl (ym (v := .int .i64 (wa .i64 x124 1)) (et rfl rfl)) ?_
        refine wpList_nil ?_
        obtain rfl := someI hM20
        exact n20 _ _ _ rfl ⟨_, _, _, _, _, rfl, rfl, e148_0, e148_6, rfl, e148_8, rfl, e148_16, e148_17, e148_18, e148_23, e148_24, rfl, hst⟩
    · refine condF (et rfl rfl) (decide_eq_false c142) ?_
      refine wp_exit ?_
      refine z105 _ _ _ rfl ?_
      obtain rfl := someI hM20
      refine zz20 _ _ _ _ rfl rfl ?_
      exact je20_0 _ _ _ _ e20_0 e20_6 e20_7 e20_16 e20_17 e20_18 (hst.facts (allT allI)) (ho20 _ rfl)
  · refine condF (et rfl rfl) (decide_eq_false c107) ?_
    refine wp_exit ?_
    refine z79 _ _ _ rfl ?_
    obtain rfl := someI hM15
    refine zz15 _ _ _ _ rfl rfl ?_
    exact je15_0 _ _ _ _ e15_0 e15_6 e15_7 hst (ho15 _ rfl)

theorem dissect_Check_ok {w0 : World} {ros : List Fact} {rs : List Res} {w : World} {x1 : List (List Int)} {x3 : List Int} {x5 : List Int} {x7 : List Int} {h2 : Hdr} {h4 : Hdr} {h6 : Hdr} {h8 : Hdr} {out : Int} (hM : dissect_Check x1 x3 x5 x7 = some out) (q1 : imm (rS (rI .i64)) h2.v x1 ∈ ros) (q2 : imm (rI .i64) h4.v x3 ∈ ros) (q3 : imm (rI .i64) h6.v x5 ∈ ros) (q4 : imm (rI .i64) h8.v x7 ∈ ros) (hst : St w0 ros (rs) w) :
    Calls Try.prog 27 #[.agg #[h2.v], .agg #[h4.v, h6.v, h8.v]] w (fun e w => e = .returned (.int .i64 out) ∧ St w0 (ros) (rs) w) := by
  refine enterQ Try.func27 rfl Try.ntmps27 rfl fun Q hQ => ?_
  refine seqQ fun Q1 k1 z1 => ?_
  refine wp_region_lit ?_
  refine YB wn rfl (r_box (vals := [h2.v]) hst (et rfl rfl) rfl) ?_
  clear hst
  intro b9 w hst
  refine YB wn rfl (r_box (vals := [h4.v, h6.v, h8.v]) hst (et rfl rfl) rfl) ?_
  clear hst
  intro b10 w hst
  refine Y wn rfl (ya (v := .int .i64 0) rfl) ?_
  refine wpList_nil ?_
  refine k1 _ _ ?_
  refine seqQ fun Q2 k2 z2 => ?_
  refine wp_region_lit ?_
  refine Y wn rfl (yLbs (us := [h2.v]) ST_27 (et rfl rfl) hst (mtR mhR) rfl rfl) ?_
  obtain ⟨r11, gr11, hM⟩ := bs hM
  refine Yc wn rfl (yCall FN_30 (a1 (et rfl rfl))) (graph_Check_ok (hM := gr11) (hst := hst) (q1 := q1)) ?_
  clear hst
  rintro _ w ⟨rfl, hst⟩
  refine ⟨_, rfl, ?_⟩
  refine Y wn rfl (ya (v := .int .i64 r11) (et rfl rfl)) ?_
  refine wpList_nil ?_
  refine k2 _ _ ?_
  refine seqQ fun Q3 k3 z3 => ?_
  refine seqQ fun Q4 k4 z4 => ?_
  refine wp_region_lit ?_
  refine Y wn rfl (ym (v := .int .i64 r11) (et rfl rfl)) ?_
  refine Y wn rfl (yneq (et rfl rfl) rfl) ?_
  refine wpList_nil ?_
  refine k4 _ _ ?_
  rcases iteS hM with ⟨c12, hM⟩ | ⟨c12, hM⟩
  · refine condF (et rfl rfl) (nF (decide_eq_true c12)) ?_
    refine wp_skip ?_
    refine k3 _ _ ?_
    refine seqQ fun Q5 k5 z5 => ?_
    refine wp_region_lit ?_
    refine Y wn rfl (yFb FL_27_0 (et rfl rfl)) ?_
    refine Y wn rfl (yLb (u := h2.v) O_25 (et rfl rfl) hst (mtR mhR) rfl) ?_
    refine Y wn rfl (yLen SL_25 (et rfl rfl) hst (rdI q1)) ?_
    refine Y wn rfl (yFb FL_38_0 (et rfl rfl)) ?_
    refine Y wn rfl (yLb (u := h4.v) O_22 (et rfl rfl) hst mhR rfl) ?_
    refine Y wn rfl (yFb FL_38_1 (et rfl rfl)) ?_
    refine Y wn rfl (yLb (u := h6.v) O_22 (et rfl rfl) hst mhR rfl) ?_
    refine Y wn rfl (yFb FL_38_2 (et rfl rfl)) ?_
    refine Y wn rfl (yLb (u := h8.v) O_22 (et rfl rfl) hst mhR rfl) ?_
    refine YH wn rfl (rLt (n := 3) (l := [x3, x5, x7]) hst SL_25 [h4.v, h6.v, h8.v] (bp3 (et rfl rfl) (et rfl rfl) (et rfl rfl)) rfl rfl (mks1 (cs := [h4.v]) rfl (mkS q2) (mks1 (cs := [h6.v]) rfl (mkS q3) (mks1 (cs := [h8.v]) rfl (mkS q4) mks0)))) ?_
    clear hst
    intro h13 w hst
    obtain ⟨r14, gr14, hM⟩ := bs hM
    replace hst := hst.fz
    refine Yc wn rfl (yCall FN_45 (a2 (et rfl rfl) (et rfl rfl))) (dissect_parts_ok (hM := gr14) (hst := hst) (q1 := mhF)) ?_
    clear hst
    rintro _ w ⟨h15, rfl, hst⟩
    refine ⟨_, rfl, ?_⟩
    refine Y wn rfl (ym (v := .tuple #[h15.v, .bool r14.2]) (et rfl rfl)) ?_
    refine Y wn rfl (yx (v := h15.v) (et rfl rfl) rfl) ?_
    refine Y wn rfl (yx (v := .bool r14.2) (et rfl rfl) rfl) ?_
    refine Y wn rfl (ya (v := h15.v) (et rfl rfl)) ?_
    refine Y wn rfl (ya (v := .bool r14.2) (et rfl rfl)) ?_
    refine wpList_nil ?_
    refine k5 _ _ ?_
    refine seqQ fun Q6 k6 z6 => ?_
    refine seqQ fun Q7 k7 z7 => ?_
    refine wp_region_lit ?_
    refine Y wn rfl (ym (v := .bool r14.2) (et rfl rfl)) ?_
    refine Y wn rfl (ynot (et rfl rfl)) ?_
    refine wpList_nil ?_
    refine k7 _ _ ?_
    rcases iteS hM with ⟨c16, hM⟩ | ⟨c16, hM⟩
    · refine condF (et rfl rfl) (nF c16) ?_
      refine wp_skip ?_
      refine k6 _ _ ?_
      refine seqQ fun Q8 k8 z8 => ?_
      refine seqQ fun Q9 k9 z9 => ?_
      refine wp_region_lit ?_
      refine Y wn rfl (yFb FL_27_0 (et rfl rfl)) ?_
      refine Y wn rfl (yLb (u := h2.v) O_25 (et rfl rfl) hst (mtR (mtR mhR)) rfl) ?_
      refine Y wn rfl (yLen SL_25 (et rfl rfl) hst (rdI (mtF q1))) ?_
      refine Y wn rfl (ym (v := .int .i64 0) rfl) ?_
      refine wpList_nil ?_
      refine k9 _ _ ?_
      refine blockQ fun Q10 qb10 => ?_
      obtain ⟨o9, go9, hM⟩ := bs hM
      have je9_0 : ∀ (f : Nat → Value) (w : World), St w0 (ros) (rs) w → .inl () = o9 → Q10 (.exit 0) (fr 61 f) w := by
        intro f w hst ho
        subst ho
        refine qb10 _ _ _ ?_
        refine k8 _ _ ?_
        refine seqQ fun Q67 k67 z67 => ?_
        refine wp_region_lit ?_
        refine Y wn rfl (ya (v := .int .i64 0) rfl) ?_
        refine wpList_nil ?_
        refine k67 _ _ ?_
        refine wp_ret ?_
        obtain rfl := someI hM
        exact hQ _ _ _ (fin1r Try.results27 ⟨rfl, rfl⟩ ⟨rfl, hst⟩)
      have je9_1 : ∀ (f : Nat → Value) (w : World), f 4 = .int .i64 180 → St w0 (ros) (rs) w → .inr () = o9 → Q10 .ret (fr 61 f) w := by
        intro f w eje9_1_4 hst ho
        subst ho
        refine qb10 _ _ _ ?_
        refine z8 _ _ _ rfl ?_
        obtain rfl := someI hM
        exact hQ _ _ _ (fin1r Try.results27 ⟨rfl, eje9_1_4⟩ ⟨rfl, hst⟩)
      refine loopQ (fun s a w => ∃ (x49 : Int) (f : Nat → Value), x49 = s ∧ a = fr 61 f ∧ f 6 = h15.v ∧ f 34 = h2.v ∧ f 35 = .int .i64 (x1.length : Int) ∧ f 36 = .int .i64 x49 ∧ St w0 (ros) (row 3 (rI .i64) h15.v r14.1 :: rs) w) go9 ⟨_, _, rfl, rfl, rfl, rfl, rfl, rfl, ((hst.pk 3 [0] rfl).facts (allT allI))⟩ ?_
      clear hst
      rintro _ _ w r9_ ⟨x49, f, rfl, rfl, e9_6, e9_34, e9_35, e9_36, hst⟩ hM9 ho9 Q100009 n9 zz9
      refine seqQ fun Q68 k68 z68 => ?_
      refine wp_region_lit ?_
      refine Y wn rfl (ylss (et rfl e9_36) (et rfl e9_35)) ?_
      refine wpList_nil ?_
      refine k68 _ _ ?_
      refine seqQ fun Q69 k69 z69 => ?_
      rcases iteS hM9 with ⟨c83, hM9⟩ | ⟨c83, hM9⟩
      · refine condT (et rfl rfl) (decide_eq_true c83) ?_
        refine wp_skip ?_
        refine k69 _ _ ?_
        refine seqQ fun Q70 k70 z70 => ?_
        refine blockQ fun Q71 qb71 => ?_
        refine seqQ fun Q72 k72 z72 => ?_
        refine wp_region_lit ?_
        refine Y wn rfl (ym (v := .int .i64 x49) (et rfl e9_36)) ?_
        obtain ⟨x84, gx84, hM9⟩ := bs hM9
        refine Y wn rfl (yIa SL_25 (et rfl e9_34) (et rfl e9_36) hst (rdI q1) gx84) ?_
        obtain ⟨h85, hst⟩ := iLs hst q1 gx84
        refine Y wn rfl (yCt O_22 (et rfl rfl) hst (mtF mhF) rfl) ?_
        refine Y wn rfl (ya (v := .int .i64 x49) (et rfl rfl)) ?_
        refine Y wn rfl (ya (v := h85.v) (et rfl rfl)) ?_
        refine wpList_nil ?_
        refine k72 _ _ ?_
        refine seqQ fun Q73 k73 z73 => ?_
        refine wp_region_lit ?_
        refine Y wn rfl (ym (v := h85.v) (et rfl rfl)) ?_
        refine Y wn rfl (yLen SL_22 (et rfl rfl) hst (rdI mhF)) ?_
        refine Y wn rfl (ym (v := .int .i64 0) rfl) ?_
        refine wpList_nil ?_
        refine k73 _ _ ?_
        refine blockQ fun Q74 qb74 => ?_
        obtain ⟨o12, go12, hM9⟩ := bs hM9
        have je12_0 : ∀ (f : Nat → Value) (w : World), f 6 = h15.v → f 34 = h2.v → f 35 = .int .i64 (x1.length : Int) → f 36 = .int .i64 x49 → St w0 (ros) (row 3 (rI .i64) h15.v r14.1 :: rs) w → .inl () = o12 → Q74 (.exit 2) (fr 61 f) w := by
          intro f w eje12_0_6 eje12_0_34 eje12_0_35 eje12_0_36 hst ho
          subst ho
          refine qb74 _ _ _ ?_
          refine qb71 _ _ _ ?_
          refine k70 _ _ ?_
          refine wp_region_lit ?_
          refine Y wn rfl (yadd (et rfl eje12_0_36) rfl) ?_
          refine Y wn rfl (ym (v := .int .i64 (wa .i64 x49 1)) (et rfl rfl)) ?_
          refine wpList_nil ?_
          obtain rfl := someI hM9
          exact n9 _ _ _ rfl ⟨_, _, rfl, rfl, eje12_0_6, eje12_0_34, eje12_0_35, rfl, hst⟩
        have je12_1 : ∀ (f : Nat → Value) (w : World), f 4 = .int .i64 180 → St w0 (ros) (rs) w → .inr () = o12 → Q74 .ret (fr 61 f) w := by
          intro f w eje12_1_4 hst ho
          subst ho
          refine qb74 _ _ _ ?_
          refine qb71 _ _ _ ?_
          refine z70 _ _ _ rfl ?_
          obtain rfl := someI hM9
          refine zz9 _ _ _ _ rfl rfl ?_
          exact je9_1 _ _ eje12_1_4 hst (ho9 _ rfl)
        refine loopQ (fun s a w => ∃ (x95 : Int) (f : Nat → Value), x95 = s ∧ a = fr 61 f ∧ f 6 = h15.v ∧ f 8 = .int .i64 x49 ∧ f 34 = h2.v ∧ f 35 = .int .i64 (x1.length : Int) ∧ f 36 = .int .i64 x49 ∧ f 41 = h85.v ∧ f 42 = .int .i64 (x84.length : Int) ∧ f 43 = .int .i64 x95 ∧ St w0 (imm (rI .i64) h85.v x84 :: ros) (row 3 (rI .i64) h15.v r14.1 :: rs) w) go12 ⟨_, _, rfl, rfl, e9_6, rfl, e9_34, e9_35, e9_36, rfl, rfl, rfl, (hst.facts (allC mhF (allT (allT allI))))⟩ ?_
        clear hst
        rintro _ _ w r12_ ⟨x95, f, rfl, rfl, e12_6, e12_8, e12_34, e12_35, e12_36, e12_41, e12_42, e12_43, hst⟩ hM12 ho12 Q100012 n12 zz12
        refine seqQ fun Q89 k89 z89 => ?_
        refine wp_region_lit ?_
        refine Y wn rfl (ylss (et rfl e12_43) (et rfl e12_42)) ?_
        refine wpList_nil ?_
        refine k89 _ _ ?_
        refine seqQ fun Q90 k90 z90 => ?_
        rcases iteS hM12 with ⟨c106, hM12⟩ | ⟨c106, hM12⟩
        · refine condT (et rfl rfl) (decide_eq_true c106) ?_
          refine wp_skip ?_
          refine k90 _ _ ?_
          refine seqQ fun Q91 k91 z91 => ?_
          refine blockQ fun Q92 qb92 => ?_
          refine seqQ fun Q93 k93 z93 => ?_
          refine wp_region_lit ?_
          obtain ⟨x107, gx107, hM12⟩ := bs hM12
          refine Y wn rfl (yIa SL_22 (et rfl e12_41) (et rfl e12_43) hst (rdI mhF) gx107) ?_
          refine Y wn rfl (yI O_3 (et rfl rfl) hst (rdI mhF) gx107) ?_
          refine Y wn rfl (ya (v := .int .i64 x107) (et rfl rfl)) ?_
          refine wpList_nil ?_
          refine k93 _ _ ?_
          refine seqQ fun Q94 k94 z94 => ?_
          refine wp_region_lit ?_
          refine Y wn rfl (ym (v := h15.v) (et rfl e12_6)) ?_
          refine Y wn rfl (ym (v := .int .i64 x49) (et rfl e12_8)) ?_
          obtain ⟨x108, gx108, hM12⟩ := bs hM12
          refine Y wn rfl (yIa SL_22 (et rfl rfl) (et rfl rfl) hst (rdO mhR) gx108) ?_
          refine Y wn rfl (yI O_3 (et rfl rfl) hst (rdO mhR) gx108) ?_
          refine Y wn rfl (yeql (et rfl rfl) rfl) ?_
          refine Y wn rfl (ym (v := .bool (decide (x108 = 0))) (et rfl rfl)) ?_
          obtain ⟨r110, gr110, hM12⟩ := bs hM12
          refine joinW 6 (fun f w => f 6 = h15.v ∧ f 8 = .int .i64 x49 ∧ f 34 = h2.v ∧ f 35 = .int .i64 (x1.length : Int) ∧ f 36 = .int .i64 x49 ∧ f 41 = h85.v ∧ f 42 = .int .i64 (x84.length : Int) ∧ f 43 = .int .i64 x95 ∧ f 58 = .bool r110 ∧ St w0 (imm (rI .i64) h85.v x84 :: ros) (row 3 (rI .i64) h15.v r14.1 :: rs) w) (fun j13 => ?_) ?_
          · rcases iteS gr110 with ⟨c112, gr110⟩ | ⟨c112, gr110⟩
            · refine Y (wg rfl rfl rfl (decide_eq_true c112)) rfl (ym (v := h15.v) (et rfl e12_6)) ?_
              refine Y (wg rfl rfl rfl (decide_eq_true c112)) rfl (ym (v := .int .i64 x107) (et rfl rfl)) ?_
              obtain ⟨x113, gx113, gr110⟩ := bs gr110
              refine Y (wg rfl rfl rfl (decide_eq_true c112)) rfl (yIa SL_22 (et rfl rfl) (et rfl rfl) hst (rdO mhR) gx113) ?_
              refine Y (wg rfl rfl rfl (decide_eq_true c112)) rfl (yI O_3 (et rfl rfl) hst (rdO mhR) gx113) ?_
              refine Y (wg rfl rfl rfl (decide_eq_true c112)) rfl (yeql (et rfl rfl) rfl) ?_
              refine Y wn rfl (ypt (v := .bool (decide (x113 = 1))) (et rfl rfl) (decide_eq_true c112) (et rfl rfl)) ?_
              obtain rfl := someI gr110
              exact j13 _ _ ⟨e12_6, e12_8, e12_34, e12_35, e12_36, e12_41, e12_42, e12_43, rfl, hst⟩
            · refine Gn (wx rfl rfl rfl (decide_eq_false c112)) rfl ?_
              refine Gn (wx rfl rfl rfl (decide_eq_false c112)) rfl ?_
              refine Gn (wx rfl rfl rfl (decide_eq_false c112)) rfl ?_
              refine Gn (wx rfl rfl rfl (decide_eq_false c112)) rfl ?_
              refine Gn (wx rfl rfl rfl (decide_eq_false c112)) rfl ?_
              refine Y wn rfl (ypf (v := .bool false) (et rfl rfl) (decide_eq_false c112) rfl) ?_
              obtain rfl := someI gr110
              exact j13 _ _ ⟨e12_6, e12_8, e12_34, e12_35, e12_36, e12_41, e12_42, e12_43, rfl, hst⟩
          clear hst
          rintro f w ⟨e111_6, e111_8, e111_34, e111_35, e111_36, e111_41, e111_42, e111_43, e111_58, hst⟩
          refine wpList_nil ?_
          refine k94 _ _ ?_
          rcases iteS hM12 with ⟨c114, hM12⟩ | ⟨c114, hM12⟩
          · refine condT (et rfl e111_58) c114 ?_
            refine seqQ fun Q95 k95 z95 => ?_
            refine wp_region_lit ?_
            refine Y wn rfl (ya (v := .int .i64 180) rfl) ?_
            refine wpList_nil ?_
            refine k95 _ _ ?_
            refine wp_ret ?_
            refine qb92 _ _ _ ?_
            refine z91 _ _ _ rfl ?_
            obtain rfl := someI hM12
            refine zz12 _ _ _ _ rfl rfl ?_
            exact je12_1 _ _ rfl ((hst.pk 1 [] rfl).facts (allT allI)) (ho12 _ rfl)
          · refine condF (et rfl e111_58) (bfalse c114) ?_
            refine wp_skip ?_
            refine qb92 _ _ _ ?_
            refine k91 _ _ ?_
            refine wp_region_lit ?_
            refine Y wn rfl (yadd (et rfl e111_43) rfl) ?_
            refine Y wn rfl (ym (v := .int .i64 (wa .i64 x95 1)) (et rfl rfl)) ?_
            refine wpList_nil ?_
            obtain rfl := someI hM12
            exact n12 _ _ _ rfl ⟨_, _, rfl, rfl, e111_6, e111_8, e111_34, e111_35, e111_36, e111_41, e111_42, rfl, hst⟩
        · refine condF (et rfl rfl) (decide_eq_false c106) ?_
          refine wp_exit ?_
          refine z90 _ _ _ rfl ?_
          obtain rfl := someI hM12
          refine zz12 _ _ _ _ rfl rfl ?_
          exact je12_0 _ _ e12_6 e12_34 e12_35 e12_36 (hst.facts (allT allI)) (ho12 _ rfl)
      · refine condF (et rfl rfl) (decide_eq_false c83) ?_
        refine wp_exit ?_
        refine z69 _ _ _ rfl ?_
        obtain rfl := someI hM9
        refine zz9 _ _ _ _ rfl rfl ?_
        exact je9_0 _ _ (hst.pk 1 [] rfl) (ho9 _ rfl)
    · refine condT (et rfl rfl) (nT (bfalse c16)) ?_
      refine seqQ fun Q96 k96 z96 => ?_
      refine wp_region_lit ?_
      refine Y wn rfl (ya (v := .int .i64 180) rfl) ?_
      refine wpList_nil ?_
      refine k96 _ _ ?_
      refine wp_ret ?_
      refine z6 _ _ _ rfl ?_
      obtain rfl := someI hM
      exact hQ _ _ _ (fin1r Try.results27 ⟨rfl, rfl⟩ ⟨rfl, ((hst.pk 3 [] rfl).facts (allT allI))⟩)
  · refine condT (et rfl rfl) (nT (decide_eq_false c12)) ?_
    refine seqQ fun Q97 k97 z97 => ?_
    refine wp_region_lit ?_
    refine Y wn rfl (ym (v := .int .i64 r11) (et rfl rfl)) ?_
    refine Y wn rfl (ya (v := .int .i64 r11) (et rfl rfl)) ?_
    refine wpList_nil ?_
    refine k97 _ _ ?_
    refine wp_ret ?_
    refine z3 _ _ _ rfl ?_
    obtain rfl := someI hM
    exact hQ _ _ _ (fin1r Try.results27 ⟨rfl, rfl⟩ ⟨rfl, (hst.pk 2 [] rfl)⟩)

theorem sparselaw18_awake_ok {w0 : World} {ros : List Fact} {rs : List Res} {w : World} {out : Bool} (hM : sparselaw18_awake = some out) (hst : St w0 ros (rs) w) :
    Calls Try.prog 7 #[] w (fun e w => e = .returned (.bool out) ∧ St w0 (ros) (rs) w) := by
  refine enterQ Try.func7 rfl Try.ntmps7 rfl fun Q hQ => ?_
  refine seqQ fun Q1 k1 z1 => ?_
  refine wp_region_lit ?_
  refine Y wn rfl (ya (v := .bool false) rfl) ?_
  refine wpList_nil ?_
  refine k1 _ _ ?_
  refine seqQ fun Q2 k2 z2 => ?_
  refine wp_region_lit ?_
  refine YH wn rfl (rLt (n := 1) (l := [1]) hst SL_22 [.int .i64 1] (bp1 rfl) rfl rfl (mks1 (cs := [.int .i64 1]) rfl mkI mks0)) ?_
  clear hst
  intro h1 w hst
  refine YH wn rfl (rLt (n := 2) (l := [0, 2]) hst SL_22 [.int .i64 0, .int .i64 2] (bp2 rfl rfl) rfl rfl (mks1 (cs := [.int .i64 0]) rfl mkI (mks1 (cs := [.int .i64 2]) rfl mkI mks0))) ?_
  clear hst
  intro h2 w hst
  refine YH wn rfl (rLt (n := 2) (l := [1, 3]) hst SL_22 [.int .i64 1, .int .i64 3] (bp2 rfl rfl) rfl rfl (mks1 (cs := [.int .i64 1]) rfl mkI (mks1 (cs := [.int .i64 3]) rfl mkI mks0))) ?_
  clear hst
  intro h3 w hst
  refine YH wn rfl (rLt (n := 1) (l := [2]) hst SL_22 [.int .i64 2] (bp1 rfl) rfl rfl (mks1 (cs := [.int .i64 2]) rfl mkI mks0)) ?_
  clear hst
  intro h4 w hst
  replace hst := hst.pk 4 [3, 0, 0, 0] rfl
  replace hst := hst.fz
  replace hst := hst.pk 3 [2, 0, 0] rfl
  replace hst := hst.fz
  replace hst := hst.pk 2 [1, 0] rfl
  replace hst := hst.fz
  replace hst := hst.fz
  refine YH wn rfl (rLt (n := 4) (l := [[1], [0, 2], [1, 3], [2]]) hst SL_25 [h1.v, h2.v, h3.v, h4.v] (bp4 (et rfl rfl) (et rfl rfl) (et rfl rfl) (et rfl rfl)) rfl rfl (mks1 (cs := [h1.v]) rfl (mkS (mtF (mtF (mtF mhF)))) (mks1 (cs := [h2.v]) rfl (mkS (mtF (mtF mhF))) (mks1 (cs := [h3.v]) rfl (mkS (mtF mhF)) (mks1 (cs := [h4.v]) rfl (mkS mhF) mks0))))) ?_
  clear hst
  intro h5 w hst
  refine Y wn rfl (ybuild (us := [h5.v]) [(0, h5.v)] SO_27 (bp1 (et rfl rfl)) rfl) ?_
  refine YB wn rfl (rAl hst ZT_27) ?_
  clear hst
  intro b6 w hst
  refine YT wn rfl (r_stbn (vals' := [h5.v]) (us := [h5.v]) hst ST_27 (et rfl rfl) (et rfl rfl) rfl rfl (one_of rfl) rfl) ?_
  clear hst
  intro w hst
  refine wpList_nil ?_
  refine k2 _ _ ?_
  refine seqQ fun Q3 k3 z3 => ?_
  refine wp_region_lit ?_
  refine Y wn rfl (yLbs (us := [h5.v]) ST_27 (et rfl rfl) hst mhR rfl rfl) ?_
  obtain ⟨r7, gr7, hM⟩ := bs hM
  replace hst := hst.pk 2 [1, 0] rfl
  replace hst := hst.fz
  refine Yc wn rfl (yCall FN_13 (a1 (et rfl rfl))) (dissect_Separate_ok (hM := gr7) (hst := hst) (q1 := mhF)) ?_
  clear hst
  rintro _ w ⟨h8, h9, h10, rfl, hst⟩
  refine ⟨_, rfl, ?_⟩
  refine Y wn rfl (ym (v := .tuple #[.agg #[h8.v, h9.v, h10.v], .int .i64 r7.2.2.2]) (et rfl rfl)) ?_
  refine Y wn rfl (yx (v := .agg #[h8.v, h9.v, h10.v]) (et rfl rfl) rfl) ?_
  refine Y wn rfl (yx (v := .int .i64 r7.2.2.2) (et rfl rfl) rfl) ?_
  refine YB wn rfl (rAl hst ZT_38) ?_
  clear hst
  intro b11 w hst
  refine YT wn rfl (r_stbn (vals' := [h8.v, h9.v, h10.v]) (us := [h8.v, h9.v, h10.v]) hst ST_38 (et rfl rfl) (et rfl rfl) rfl rfl (one_of rfl) rfl) ?_
  clear hst
  intro w hst
  refine Y wn rfl (ya (v := .int .i64 r7.2.2.2) (et rfl rfl)) ?_
  refine wpList_nil ?_
  refine k3 _ _ ?_
  refine seqQ fun Q4 k4 z4 => ?_
  refine wp_region_lit ?_
  refine Y wn rfl (ym (v := .int .i64 r7.2.2.2) (et rfl rfl)) ?_
  refine Y wn rfl (yeql (et rfl rfl) rfl) ?_
  refine Y wn rfl (ym (v := .bool (decide (r7.2.2.2 = 0))) (et rfl rfl)) ?_
  obtain ⟨r16, gr16, hM⟩ := bs hM
  refine joinW 7 (fun f w => f 1 = .pointer (some ⟨b6, 0, none⟩) ∧ f 2 = .pointer (some ⟨b11, 0, none⟩) ∧ f 24 = .bool r16 ∧ St w0 (imm (rS (rI .i64)) h5.v [[1], [0, 2], [1, 3], [2]] :: imm (rI .i64) h8.v r7.1 :: imm (rI .i64) h9.v r7.2.1 :: imm (rI .i64) h10.v r7.2.2.1 :: ros) (box b6 27 [h5.v] :: box b11 38 [h8.v, h9.v, h10.v] :: rs) w) (fun j1 => ?_) ?_
  · rcases iteS gr16 with ⟨c18, gr16⟩ | ⟨c18, gr16⟩
    · refine Y (wg rfl rfl rfl (decide_eq_true c18)) rfl (yLbs (us := [h8.v, h9.v, h10.v]) ST_38 (et rfl rfl) hst mhR rfl rfl) ?_
      refine YH (wg rfl rfl rfl (decide_eq_true c18)) rfl (rLt (n := 2) (l := [0, 1]) hst SL_22 [.int .i64 0, .int .i64 1] (bp2 rfl rfl) rfl rfl (mks1 (cs := [.int .i64 0]) rfl mkI (mks1 (cs := [.int .i64 1]) rfl mkI mks0))) ?_
      clear hst
      intro h19 w hst
      refine YH (wg rfl rfl rfl (decide_eq_true c18)) rfl (rLt (n := 1) (l := [3]) hst SL_22 [.int .i64 3] (bp1 rfl) rfl rfl (mks1 (cs := [.int .i64 3]) rfl mkI mks0)) ?_
      clear hst
      intro h20 w hst
      refine YH (wg rfl rfl rfl (decide_eq_true c18)) rfl (rLt (n := 1) (l := [2]) hst SL_22 [.int .i64 2] (bp1 rfl) rfl rfl (mks1 (cs := [.int .i64 2]) rfl mkI mks0)) ?_
      clear hst
      intro h21 w hst
      refine Y (wg rfl rfl rfl (decide_eq_true c18)) rfl (ybuild (us := [h19.v, h20.v, h21.v]) [(0, h19.v), (1, h20.v), (2, h21.v)] SO_38 (bp3 (et rfl rfl) (et rfl rfl) (et rfl rfl)) rfl) ?_
      obtain ⟨r22, gr22, gr16⟩ := bs gr16
      replace hst := hst.pk 5 [4, 0, 0, 0, 0] rfl
      replace hst := hst.fz
      replace hst := hst.pk 5 [4, 0, 0, 0, 0] rfl
      replace hst := hst.fz
      replace hst := hst.pk 5 [4, 0, 0, 0, 0] rfl
      replace hst := hst.fz
      replace hst := hst.pk 3 [2, 0, 0] rfl
      replace hst := hst.fz
      replace hst := hst.pk 2 [1, 0] rfl
      replace hst := hst.fz
      replace hst := hst.fz
      refine Yc (wg rfl rfl rfl (decide_eq_true c18)) rfl (yCall FN_26 (a2 (et rfl rfl) (et rfl rfl))) (sparsekit_Split_ok (hM := gr22) (hst := hst) (q1 := (mtF (mtF (mtF (mtF (mtF mhF)))))) (q2 := (mtF (mtF (mtF (mtF mhF))))) (q3 := (mtF (mtF (mtF mhF)))) (q4 := (mtF (mtF mhF))) (q5 := (mtF mhF)) (q6 := mhF)) ?_
      clear hst
      rintro _ w ⟨rfl, hst⟩
      refine ⟨_, rfl, ?_⟩
      refine Y wn rfl (ypt (v := .bool r22) (et rfl rfl) (decide_eq_true c18) (et rfl rfl)) ?_
      obtain rfl := someI gr16
      exact j1 _ _ ⟨rfl, rfl, rfl, ((hst.pk 2 [1, 0] rfl).facts (allC (mtF (mtF (mtF (mtF (mtF (mtF mhF)))))) (allC (mtF (mtF (mtF (mtF (mtF mhF))))) (allC (mtF (mtF (mtF (mtF mhF)))) (allC (mtF (mtF (mtF mhF))) (allT (allT (allT (allT (allT (allT (allT (allT (allT (allT (allT allI))))))))))))))))⟩
    · refine Gn (wx rfl rfl rfl (decide_eq_false c18)) rfl ?_
      refine Gn (wx rfl rfl rfl (decide_eq_false c18)) rfl ?_
      refine Gn (wx rfl rfl rfl (decide_eq_false c18)) rfl ?_
      refine Gn (wx rfl rfl rfl (decide_eq_false c18)) rfl ?_
      refine Gn (wx rfl rfl rfl (decide_eq_false c18)) rfl ?_
      refine Gn (wx rfl rfl rfl (decide_eq_false c18)) rfl ?_
      refine Y wn rfl (ypf (v := .bool false) (et rfl rfl) (decide_eq_false c18) rfl) ?_
      obtain rfl := someI gr16
      replace hst := hst.pk 2 [1, 0] rfl
      replace hst := hst.fz
      replace hst := hst.pk 2 [1, 0] rfl
      replace hst := hst.fz
      replace hst := hst.pk 2 [1, 0] rfl
      replace hst := hst.fz
      exact j1 _ _ ⟨rfl, rfl, rfl, ((hst.pk 2 [1, 0] rfl).facts (allC (mtF (mtF (mtF mhF))) (allC (mtF (mtF mhF)) (allC (mtF mhF) (allC mhF (allT (allT (allT (allT (allT (allT (allT (allT allI)))))))))))))⟩
  clear hst
  rintro f w ⟨e17_1, e17_2, e17_24, hst⟩
  refine Y wn rfl (ym (v := .bool r16) (et rfl e17_24)) ?_
  obtain ⟨r24, gr24, hM⟩ := bs hM
  refine joinW 5 (fun f w => f 30 = .bool r24 ∧ St w0 (ros) (rs) w) (fun j2 => ?_) ?_
  · rcases iteS gr24 with ⟨c26, gr24⟩ | ⟨c26, gr24⟩
    · refine Y (wg rfl rfl rfl c26) rfl (yLbs (us := [h5.v]) ST_27 (et rfl e17_1) hst mhR rfl rfl) ?_
      refine Y (wg rfl rfl rfl c26) rfl (yLbs (us := [h8.v, h9.v, h10.v]) ST_38 (et rfl e17_2) hst (mtR mhR) rfl rfl) ?_
      obtain ⟨r27, gr27, gr24⟩ := bs gr24
      refine Yc (wg rfl rfl rfl c26) rfl (yCall FN_27 (a2 (et rfl rfl) (et rfl rfl))) (dissect_Check_ok (hM := gr27) (hst := hst) (q1 := mhF) (q2 := (mtF mhF)) (q3 := (mtF (mtF mhF))) (q4 := (mtF (mtF (mtF mhF))))) ?_
      clear hst
      rintro _ w ⟨rfl, hst⟩
      refine ⟨_, rfl, ?_⟩
      refine Y (wg rfl rfl rfl c26) rfl (yeql (et rfl rfl) rfl) ?_
      refine Y wn rfl (ypt (v := .bool (decide (r27 = 0))) (et rfl rfl) c26 (et rfl rfl)) ?_
      obtain rfl := someI gr24
      exact j2 _ _ ⟨rfl, ((hst.pk 2 [] rfl).facts (allT (allT (allT (allT allI)))))⟩
    · refine Gn (wx rfl rfl rfl (bfalse c26)) rfl ?_
      refine Gn (wx rfl rfl rfl (bfalse c26)) rfl ?_
      refine Gn (wx rfl rfl rfl (bfalse c26)) rfl ?_
      refine Gn (wx rfl rfl rfl (bfalse c26)) rfl ?_
      refine Y wn rfl (ypf (v := .bool false) (et rfl rfl) (bfalse c26) rfl) ?_
      obtain rfl := someI gr24
      exact j2 _ _ ⟨rfl, ((hst.pk 2 [] rfl).facts (allT (allT (allT (allT allI)))))⟩
  clear hst
  rintro f w ⟨e25_30, hst⟩
  refine Y wn rfl (ya (v := .bool r24) (et rfl e25_30)) ?_
  refine wpList_nil ?_
  refine k4 _ _ ?_
  refine wp_ret ?_
  obtain rfl := someI hM
  exact hQ _ _ _ (fin1r Try.results7 ⟨rfl, rfl⟩ ⟨rfl, hst⟩)

theorem sparsekit_Place_ok {w0 : World} {ros : List Fact} {rs : List Res} {w : World} {x1 : Int} {x2 : Int} {out : Int} (hM : sparsekit_Place x1 x2 = some out) (hst : St w0 ros (rs) w) :
    Calls Try.prog 8 #[.int .i64 x1, .int .i64 x2] w (fun e w => e = .returned (.int .i64 out) ∧ St w0 (ros) (rs) w) := by
  refine enterQ Try.func8 rfl Try.ntmps8 rfl fun Q hQ => ?_
  refine seqQ fun Q1 k1 z1 => ?_
  refine wp_region_lit ?_
  refine Y wn rfl (ya (v := .int .i64 0) rfl) ?_
  refine wpList_nil ?_
  refine k1 _ _ ?_
  refine seqQ fun Q2 k2 z2 => ?_
  refine wp_region_lit ?_
  refine Y wn rfl (ym (v := .int .i64 x1) (et rfl rfl)) ?_
  refine Y wn rfl (ycv (k' := .u64) (by kernel_rfl) (by kernel_rfl) (et rfl rfl)) ?_
  refine Y wn rfl (ym (v := .int .i64 x2) (et rfl rfl)) ?_
  refine Y wn rfl (ycv (k' := .u64) (by kernel_rfl) (by kernel_rfl) (et rfl rfl)) ?_
  obtain ⟨x3, gx3, hM⟩ := bs hM
  refine Y wn rfl (yrem (et rfl rfl) (et rfl rfl) gx3) ?_
  refine Y wn rfl (ycv (k' := .i64) (by kernel_rfl) (by kernel_rfl) (et rfl rfl)) ?_
  refine Y wn rfl (ya (v := .int .i64 (wc .i64 x3)) (et rfl rfl)) ?_
  refine wpList_nil ?_
  refine k2 _ _ ?_
  refine wp_ret ?_
  obtain rfl := someI hM
  exact hQ _ _ _ (fin1r Try.results8 ⟨rfl, rfl⟩ ⟨rfl, hst⟩)

theorem sparseref12_FromTable_ok {w0 : World} {ros : List Fact} {rs : List Res} {w : World} {x1 : List (List Bool)} {h2 : Hdr} {out : (List (List Int))} (hM : sparseref12_FromTable x1 = some out) (q1 : imm (rS rB) h2.v x1 ∈ ros) (hst : St w0 ros (rs) w) :
    Calls Try.prog 29 #[h2.v] w (fun e w => ∃ (h100001 : Hdr), e = .returned (.agg #[h100001.v]) ∧ St w0 (ros) (row 22 (rS (rI .i64)) h100001.v out :: rs) w) := by
  refine enterQ Try.func29 rfl Try.ntmps29 rfl fun Q hQ => ?_
  refine seqQ fun Q1 k1 z1 => ?_
  refine wp_region_lit ?_
  refine YB wn rfl (rAl hst ZT_27) ?_
  clear hst
  intro b3 w hst
  refine wpList_nil ?_
  refine k1 _ _ ?_
  refine seqQ fun Q2 k2 z2 => ?_
  refine wp_region_lit ?_
  refine YB wn rfl (rAl hst ZT_27) ?_
  clear hst
  intro b4 w hst
  refine wpList_nil ?_
  refine k2 _ _ ?_
  refine seqQ fun Q3 k3 z3 => ?_
  refine seqQ fun Q4 k4 z4 => ?_
  refine wp_region_lit ?_
  refine Y wn rfl (ya (v := .int .i64 0) rfl) ?_
  refine wpList_nil ?_
  refine k4 _ _ ?_
  refine blockQ fun Q5 qb5 => ?_
  obtain ⟨o27, go27, hM⟩ := bs hM
  have je27_0 : ∀ (x258 : List (List Int)) (h257 : Hdr) (f : Nat → Value) (w : World), f 2 = .pointer (some ⟨b3, 0, none⟩) → f 3 = .pointer (some ⟨b4, 0, none⟩) → St w0 (ros) (box b3 27 [hnil.v] :: row 22 (rS (rI .i64)) h257.v x258 :: box b4 27 [h257.v] :: rs) w → x258 = o27 → Q5 (.exit 0) (fr 51 f) w := by
    intro x258 h257 f w eje27_0_2 eje27_0_3 hst ho
    subst ho
    refine qb5 _ _ _ ?_
    refine k3 _ _ ?_
    refine seqQ fun Q52 k52 z52 => ?_
    refine wp_region_lit ?_
    refine Y wn rfl (yLbs (us := [h257.v]) ST_27 (et rfl eje27_0_3) hst (mtR (mtR mhR)) rfl rfl) ?_
    refine YT wn rfl (r_stbn (vals' := [h257.v]) (us := [h257.v]) hst ST_27 (et rfl eje27_0_2) (et rfl rfl) rfl rfl (one_of rfl) rfl) ?_
    clear hst
    intro w hst
    refine wpList_nil ?_
    refine k52 _ _ ?_
    refine wp_ret ?_
    obtain rfl := someI hM
    exact hQ _ _ _ (fin1r Try.results29 (rcs2 rfl eje27_0_2 hst mhR ST_27 rfl) ⟨_, rfl, (hst.pk 3 [1] rfl)⟩)
  replace hst := hst.rowNh 22 (rS (rI .i64))
  refine loopQ (fun s a w => ∃ (x129 : List (List Int)) (x130 : Int) (f : Nat → Value) (h128 : Hdr), (x129, x130) = s ∧ a = fr 51 f ∧ f 0 = h2.v ∧ f 2 = .pointer (some ⟨b3, 0, none⟩) ∧ f 3 = .pointer (some ⟨b4, 0, none⟩) ∧ f 4 = .int .i64 x130 ∧ St w0 (ros) (box b3 27 [hnil.v] :: row 22 (rS (rI .i64)) h128.v x129 :: box b4 27 [h128.v] :: rs) w) go27 ⟨_, _, _, _, rfl, rfl, rfl, rfl, rfl, rfl, (hst.pk 3 [2, 0, 0] rfl)⟩ ?_
  clear hst
  rintro _ _ w r27_ ⟨x129, x130, f, h128, rfl, rfl, e27_0, e27_2, e27_3, e27_4, hst⟩ hM27 ho27 Q100027 n27 zz27
  refine seqQ fun Q53 k53 z53 => ?_
  refine seqQ fun Q54 k54 z54 => ?_
  refine wp_region_lit ?_
  refine Y wn rfl (ym (v := .int .i64 x130) (et rfl e27_4)) ?_
  refine Y wn rfl (ym (v := h2.v) (et rfl e27_0)) ?_
  refine Y wn rfl (yLen SL_66 (et rfl rfl) hst (rdI q1)) ?_
  refine Y wn rfl (ylss (et rfl rfl) (et rfl rfl)) ?_
  refine wpList_nil ?_
  refine k54 _ _ ?_
  rcases iteS hM27 with ⟨c259, hM27⟩ | ⟨c259, hM27⟩
  · refine condT (et rfl rfl) (decide_eq_true c259) ?_
    refine wp_skip ?_
    refine k53 _ _ ?_
    refine seqQ fun Q55 k55 z55 => ?_
    refine blockQ fun Q56 qb56 => ?_
    refine seqQ fun Q57 k57 z57 => ?_
    refine wp_region_lit ?_
    refine Y wn rfl (ya (v := hnil.v) rfl) ?_
    refine wpList_nil ?_
    refine k57 _ _ ?_
    refine seqQ fun Q58 k58 z58 => ?_
    refine seqQ fun Q59 k59 z59 => ?_
    refine wp_region_lit ?_
    refine Y wn rfl (ya (v := .int .i64 0) rfl) ?_
    refine wpList_nil ?_
    refine k59 _ _ ?_
    refine blockQ fun Q60 qb60 => ?_
    obtain ⟨o36, go36, hM27⟩ := bs hM27
    have je36_0 : ∀ (x341 : List Int) (h340 : Hdr) (f : Nat → Value) (w : World), f 0 = h2.v → f 2 = .pointer (some ⟨b3, 0, none⟩) → f 3 = .pointer (some ⟨b4, 0, none⟩) → f 4 = .int .i64 x130 → f 5 = h340.v → St w0 (ros) (box b3 27 [hnil.v] :: row 22 (rS (rI .i64)) h128.v x129 :: box b4 27 [h128.v] :: row 3 (rI .i64) h340.v x341 :: rs) w → x341 = o36 → Q60 (.exit 2) (fr 51 f) w := by
      intro x341 h340 f w eje36_0_0 eje36_0_2 eje36_0_3 eje36_0_4 eje36_0_5 hst ho
      subst ho
      refine qb60 _ _ _ ?_
      refine k58 _ _ ?_
      refine wp_region_lit ?_
      refine Y wn rfl (yFb FL_27_0 (et rfl eje36_0_3)) ?_
      refine Y wn rfl (yLb (u := h128.v) O_25 (et rfl rfl) hst (mtR (mtR mhR)) rfl) ?_
      refine Y wn rfl (ym (v := h340.v) (et rfl eje36_0_5)) ?_
      replace hst := hst.pk 4 [3, 0, 0, 0] rfl
      replace hst := hst.fz
      refine YH wn rfl (rLt (n := 1) (l := [x341]) hst SL_25 [h340.v] (bp1 (et rfl rfl)) rfl rfl (mks1 (cs := [h340.v]) rfl (mkS mhF) mks0)) ?_
      clear hst
      intro h342 w hst
      obtain ⟨x344, gx344, hM27⟩ := bs hM27
      replace hst := hst.pk 3 [2, 0, 0] rfl
      refine YH wn rfl (rAp hst SL_25 (et rfl rfl) (et rfl rfl) (rdO (mtR mhR)) gx344) ?_
      clear hst
      intro h343 w hst
      refine Y wn rfl (yFb FL_27_0 (et rfl eje36_0_3)) ?_
      replace hst := hst.pk 4 [3, 0, 0, 0] rfl
      refine YT wn rfl (r_stb1 (vals' := [h343.v]) hst O_25 (et rfl rfl) (et rfl rfl) rfl rfl rfl rfl) ?_
      clear hst
      intro w hst
      refine wpList_nil ?_
      refine qb56 _ _ _ ?_
      refine k55 _ _ ?_
      refine wp_region_lit ?_
      refine Y wn rfl (ym (v := .int .i64 x130) (et rfl eje36_0_4)) ?_
      refine Y wn rfl (yadd (et rfl rfl) rfl) ?_
      refine Y wn rfl (ya (v := .int .i64 (wa .i64 x130 1)) (et rfl rfl)) ?_
      refine wpList_nil ?_
      obtain rfl := someI hM27
      exact n27 _ _ _ rfl ⟨_, _, _, _, rfl, rfl, eje36_0_0, eje36_0_2, eje36_0_3, rfl, ((hst.pk 4 [3, 1, 0] rfl).facts (allT allI))⟩
    replace hst := hst.rowNh 3 (rI .i64)
    refine loopQ (fun s a w => ∃ (x298 : List Int) (x299 : Int) (f : Nat → Value) (h297 : Hdr), (x298, x299) = s ∧ a = fr 51 f ∧ f 0 = h2.v ∧ f 2 = .pointer (some ⟨b3, 0, none⟩) ∧ f 3 = .pointer (some ⟨b4, 0, none⟩) ∧ f 4 = .int .i64 x130 ∧ f 5 = h297.v ∧ f 6 = .int .i64 x299 ∧ St w0 (ros) (box b3 27 [hnil.v] :: row 22 (rS (rI .i64)) h128.v x129 :: box b4 27 [h128.v] :: row 3 (rI .i64) h297.v x298 :: rs) w) go36 ⟨_, _, _, _, rfl, rfl, e27_0, e27_2, e27_3, e27_4, rfl, rfl, (hst.pk 4 [1, 1, 1, 0] rfl)⟩ ?_
    clear hst
    rintro _ _ w r36_ ⟨x298, x299, f, h297, rfl, rfl, e36_0, e36_2, e36_3, e36_4, e36_5, e36_6, hst⟩ hM36 ho36 Q100036 n36 zz36
    refine seqQ fun Q71 k71 z71 => ?_
    refine seqQ fun Q72 k72 z72 => ?_
    refine wp_region_lit ?_
    refine Y wn rfl (ym (v := .int .i64 x299) (et rfl e36_6)) ?_
    refine Y wn rfl (ym (v := h2.v) (et rfl e36_0)) ?_
    refine Y wn rfl (yLen SL_66 (et rfl rfl) hst (rdI q1)) ?_
    refine Y wn rfl (ylss (et rfl rfl) (et rfl rfl)) ?_
    refine wpList_nil ?_
    refine k72 _ _ ?_
    rcases iteS hM36 with ⟨c345, hM36⟩ | ⟨c345, hM36⟩
    · refine condT (et rfl rfl) (decide_eq_true c345) ?_
      refine wp_skip ?_
      refine k71 _ _ ?_
      refine seqQ fun Q73 k73 z73 => ?_
      refine blockQ fun Q74 qb74 => ?_
      refine seqQ fun Q75 k75 z75 => ?_
      refine wp_region_lit ?_
      refine Y wn rfl (ym (v := .int .i64 x130) (et rfl e36_4)) ?_
      refine Y wn rfl (ym (v := .int .i64 x299) (et rfl e36_6)) ?_
      refine Y wn rfl (yneq (et rfl rfl) (et rfl rfl)) ?_
      refine Y wn rfl (ym (v := .bool (!(decide (x130 = x299)))) (et rfl rfl)) ?_
      obtain ⟨r358, gr358, hM36⟩ := bs hM36
      refine joinW 17 (fun f w => f 0 = h2.v ∧ f 2 = .pointer (some ⟨b3, 0, none⟩) ∧ f 3 = .pointer (some ⟨b4, 0, none⟩) ∧ f 4 = .int .i64 x130 ∧ f 5 = h297.v ∧ f 6 = .int .i64 x299 ∧ f 39 = .bool r358 ∧ St w0 (ros) (box b3 27 [hnil.v] :: row 22 (rS (rI .i64)) h128.v x129 :: box b4 27 [h128.v] :: row 3 (rI .i64) h297.v x298 :: rs) w) (fun j38 => ?_) ?_
      · rcases iteS gr358 with ⟨c360, gr358⟩ | ⟨c360, gr358⟩
        · refine Gn (wx rfl rfl rfl (nF (decide_eq_true c360))) rfl ?_
          refine Gn (wx rfl rfl rfl (nF (decide_eq_true c360))) rfl ?_
          refine Gn (wx rfl rfl rfl (nF (decide_eq_true c360))) rfl ?_
          refine Gn (wx rfl rfl rfl (nF (decide_eq_true c360))) rfl ?_
          refine Gn (wx rfl rfl rfl (nF (decide_eq_true c360))) rfl ?_
          refine Gn (wx rfl rfl rfl (nF (decide_eq_true c360))) rfl ?_
          refine Gn (wx rfl rfl rfl (nF (decide_eq_true c360))) rfl ?_
          refine Gn (wx rfl rfl rfl (nF (decide_eq_true c360))) rfl ?_
          refine Gn (wxu rfl rfl rfl) rfl ?_
          refine Gn (wxu rfl rfl rfl) rfl ?_
          refine Gn (wxu rfl rfl rfl) rfl ?_
          refine Gn (wxu rfl rfl rfl) rfl ?_
          refine Gn (wxu rfl rfl rfl) rfl ?_
          refine Gn (wxu rfl rfl rfl) rfl ?_
          refine Gn (wxu rfl rfl rfl) rfl ?_
          refine Gn (wx rfl rfl rfl (nF (decide_eq_true c360))) rfl ?_
          refine Y wn rfl (ypf (v := .bool false) (et rfl rfl) (nF (decide_eq_true c360)) rfl) ?_
          obtain rfl := someI gr358
          exact j38 _ _ ⟨e36_0, e36_2, e36_3, e36_4, e36_5, e36_6, rfl, hst⟩
        · refine Y (wg rfl rfl rfl (nT (decide_eq_false c360))) rfl (ym (v := h2.v) (et rfl e36_0)) ?_
          refine Y (wg rfl rfl rfl (nT (decide_eq_false c360))) rfl (ym (v := .int .i64 x130) (et rfl e36_4)) ?_
          obtain ⟨x361, gx361, gr358⟩ := bs gr358
          refine Y (wg rfl rfl rfl (nT (decide_eq_false c360))) rfl (yIa SL_66 (et rfl rfl) (et rfl rfl) hst (rdI q1) gx361) ?_
          obtain ⟨h362, hst⟩ := iLs hst q1 gx361
          refine Y (wg rfl rfl rfl (nT (decide_eq_false c360))) rfl (yCt O_67 (et rfl rfl) hst (mtF mhF) rfl) ?_
          refine Y (wg rfl rfl rfl (nT (decide_eq_false c360))) rfl (ym (v := .int .i64 x299) (et rfl e36_6)) ?_
          obtain ⟨x363, gx363, gr358⟩ := bs gr358
          refine Y (wg rfl rfl rfl (nT (decide_eq_false c360))) rfl (yIa SL_67 (et rfl rfl) (et rfl rfl) hst (rdI mhF) gx363) ?_
          refine Y (wg rfl rfl rfl (nT (decide_eq_false c360))) rfl (yB O_4 (et rfl rfl) hst (rdI mhF) gx363) ?_
          refine Y (wg rfl rfl rfl (nT (decide_eq_false c360))) rfl (ym (v := .bool x363) (et rfl rfl)) ?_
          obtain ⟨r367, gr367, gr358⟩ := bs gr358
          refine joinW 8 (fun f w => f 0 = h2.v ∧ f 2 = .pointer (some ⟨b3, 0, none⟩) ∧ f 3 = .pointer (some ⟨b4, 0, none⟩) ∧ f 4 = .int .i64 x130 ∧ f 5 = h297.v ∧ f 6 = .int .i64 x299 ∧ f 22 = .bool (!(decide (x130 = x299))) ∧ f 23 = h2.v ∧ f 24 = .int .i64 x130 ∧ f 26 = h362.v ∧ f 27 = .int .i64 x299 ∧ f 29 = .bool x363 ∧ f 30 = .bool x363 ∧ f 38 = .bool r367 ∧ St w0 (imm rB h362.v x361 :: ros) (box b3 27 [hnil.v] :: row 22 (rS (rI .i64)) h128.v x129 :: box b4 27 [h128.v] :: row 3 (rI .i64) h297.v x298 :: rs) w) (fun j39 => ?_) ?_
          · rcases iteS gr367 with ⟨c369, gr367⟩ | ⟨c369, gr367⟩
            · refine Gn (wx rfl rfl rfl c369) rfl ?_
              refine Gn (wx rfl rfl rfl c369) rfl ?_
              refine Gn (wx rfl rfl rfl c369) rfl ?_
              refine Gn (wx rfl rfl rfl c369) rfl ?_
              refine Gn (wx rfl rfl rfl c369) rfl ?_
              refine Gn (wx rfl rfl rfl c369) rfl ?_
              refine Gn (wx rfl rfl rfl c369) rfl ?_
              refine Y (wg rfl rfl rfl (nT (decide_eq_false c360))) rfl (ypt (v := .bool true) (et rfl rfl) c369 rfl) ?_
              obtain rfl := someI gr367
              exact j39 _ _ ⟨e36_0, e36_2, e36_3, e36_4, e36_5, e36_6, rfl, rfl, rfl, rfl, rfl, rfl, rfl, rfl, (hst.facts (allC mhF (allT (allT allI))))⟩
            · refine Y (wg rfl rfl rfl (bfalse c369)) rfl (ym (v := h2.v) (et rfl e36_0)) ?_
              refine Y (wg rfl rfl rfl (bfalse c369)) rfl (ym (v := .int .i64 x299) (et rfl e36_6)) ?_
              obtain ⟨x370, gx370, gr367⟩ := bs gr367
              refine Y (wg rfl rfl rfl (bfalse c369)) rfl (yIa SL_66 (et rfl rfl) (et rfl rfl) hst (rdI (mtF (mtF q1))) gx370) ?_
              obtain ⟨h371, hst⟩ := iLs hst (mtF (mtF q1)) gx370
              refine Y (wg rfl rfl rfl (bfalse c369)) rfl (yCt O_67 (et rfl rfl) hst (mtF mhF) rfl) ?_
              refine Y (wg rfl rfl rfl (bfalse c369)) rfl (ym (v := .int .i64 x130) (et rfl e36_4)) ?_
              obtain ⟨x372, gx372, gr367⟩ := bs gr367
              refine Y (wg rfl rfl rfl (bfalse c369)) rfl (yIa SL_67 (et rfl rfl) (et rfl rfl) hst (rdI mhF) gx372) ?_
              refine Y (wg rfl rfl rfl (bfalse c369)) rfl (yB O_4 (et rfl rfl) hst (rdI mhF) gx372) ?_
              refine Y (wg rfl rfl rfl (nT (decide_eq_false c360))) rfl (ypf (v := .bool x372) (et rfl rfl) (bfalse c369) (et rfl rfl)) ?_
              obtain rfl := someI gr367
              exact j39 _ _ ⟨e36_0, e36_2, e36_3, e36_4, e36_5, e36_6, rfl, rfl, rfl, rfl, rfl, rfl, rfl, rfl, (hst.facts (allC (mtF (mtF mhF)) (allT (allT (allT (allT allI))))))⟩
          clear hst
          rintro f w ⟨e368_0, e368_2, e368_3, e368_4, e368_5, e368_6, e368_22, e368_23, e368_24, e368_26, e368_27, e368_29, e368_30, e368_38, hst⟩
          refine Y wn rfl (ypt (v := .bool r367) (et rfl e368_22) (nT (decide_eq_false c360)) (et rfl e368_38)) ?_
          obtain rfl := someI gr358
          exact j38 _ _ ⟨e368_0, e368_2, e368_3, e368_4, e368_5, e368_6, rfl, (hst.facts (allT allI))⟩
      clear hst
      rintro f w ⟨e359_0, e359_2, e359_3, e359_4, e359_5, e359_6, e359_39, hst⟩
      refine wpList_nil ?_
      refine k75 _ _ ?_
      have j40 : ∀ (x377 : List Int) (h376 : Hdr) (f : Nat → Value) (w : World), f 0 = h2.v → f 2 = .pointer (some ⟨b3, 0, none⟩) → f 3 = .pointer (some ⟨b4, 0, none⟩) → f 4 = .int .i64 x130 → f 5 = h376.v → f 6 = .int .i64 x299 → St w0 (ros) (box b3 27 [hnil.v] :: row 22 (rS (rI .i64)) h128.v x129 :: box b4 27 [h128.v] :: row 3 (rI .i64) h376.v x377 :: rs) w → sparseref12_FromTable_j40 x299 x377 = some r36_ → Q74 .normal (fr 51 f) w := by
        intro x377 h376 f w ej40_0 ej40_2 ej40_3 ej40_4 ej40_5 ej40_6 hst hM
        refine qb74 _ _ _ ?_
        refine k73 _ _ ?_
        refine wp_region_lit ?_
        refine Y wn rfl (ym (v := .int .i64 x299) (et rfl ej40_6)) ?_
        refine Y wn rfl (yadd (et rfl rfl) rfl) ?_
        refine Y wn rfl (ya (v := .int .i64 (wa .i64 x299 1)) (et rfl rfl)) ?_
        refine wpList_nil ?_
        obtain rfl := someI hM
        exact n36 _ _ _ rfl ⟨_, _, _, _, rfl, rfl, ej40_0, ej40_2, ej40_3, ej40_4, ej40_5, rfl, hst⟩
      rcases iteS hM36 with ⟨c378, hM36⟩ | ⟨c378, hM36⟩
      · refine condT (et rfl e359_39) c378 ?_
        refine wp_region_lit ?_
        refine Y wn rfl (ym (v := h297.v) (et rfl e359_5)) ?_
        refine Y wn rfl (ym (v := .int .i64 x299) (et rfl e359_6)) ?_
        refine YH wn rfl (rLt (n := 1) (l := [x299]) hst SL_22 [.int .i64 x299] (bp1 (et rfl rfl)) rfl rfl (mks1 (cs := [.int .i64 x299]) rfl mkI mks0)) ?_
        clear hst
        intro h379 w hst
        obtain ⟨x381, gx381, hM36⟩ := bs hM36
        replace hst := hst.pk 5 [4, 0, 0, 0, 0] rfl
        refine YH wn rfl (rAp hst SL_22 (et rfl rfl) (et rfl rfl) (rdO (mtR mhR)) gx381) ?_
        clear hst
        intro h380 w hst
        refine Y wn rfl (ya (v := h380.v) (et rfl rfl)) ?_
        refine wpList_nil ?_
        exact j40 _ _ _ _ e359_0 e359_2 e359_3 e359_4 rfl e359_6 (hst.pk 5 [2, 2, 2, 0] rfl) hM36
      · refine condF (et rfl e359_39) (bfalse c378) ?_
        refine wp_skip ?_
        exact j40 _ _ _ _ e359_0 e359_2 e359_3 e359_4 e359_5 e359_6 hst hM36
    · refine condF (et rfl rfl) (decide_eq_false c345) ?_
      refine wp_exit ?_
      refine z71 _ _ _ rfl ?_
      obtain rfl := someI hM36
      refine zz36 _ _ _ _ rfl rfl ?_
      exact je36_0 _ _ _ _ e36_0 e36_2 e36_3 e36_4 e36_5 hst (ho36 _ rfl)
  · refine condF (et rfl rfl) (decide_eq_false c259) ?_
    refine wp_exit ?_
    refine z53 _ _ _ rfl ?_
    obtain rfl := someI hM27
    refine zz27 _ _ _ _ rfl rfl ?_
    exact je27_0 _ _ _ _ e27_2 e27_3 hst (ho27 _ rfl)

theorem sparsemake_Graph_ok {w0 : World} {ros : List Fact} {rs : List Res} {w : World} {x1 : Int} {x2 : List Int} {h3 : Hdr} {out : (List (List Int))} (hM : sparsemake_Graph x1 x2 = some out) (q1 : imm (rI .i64) h3.v x2 ∈ ros) (hst : St w0 ros (rs) w) :
    Calls Try.prog 12 #[.int .i64 x1, h3.v] w (fun e w => ∃ (h100001 : Hdr), e = .returned (.agg #[h100001.v]) ∧ St w0 (ros) (row 22 (rS (rI .i64)) h100001.v out :: rs) w) := by
  refine enterQ Try.func12 rfl Try.ntmps12 rfl fun Q hQ => ?_
  refine seqQ fun Q1 k1 z1 => ?_
  refine wp_region_lit ?_
  refine YB wn rfl (rAl hst ZT_27) ?_
  clear hst
  intro b4 w hst
  refine wpList_nil ?_
  refine k1 _ _ ?_
  refine seqQ fun Q2 k2 z2 => ?_
  refine wp_region_lit ?_
  refine Y wn rfl (ya (v := hnil.v) rfl) ?_
  refine wpList_nil ?_
  refine k2 _ _ ?_
  refine seqQ fun Q3 k3 z3 => ?_
  refine seqQ fun Q4 k4 z4 => ?_
  refine wp_region_lit ?_
  refine Y wn rfl (ya (v := .int .i64 0) rfl) ?_
  refine wpList_nil ?_
  refine k4 _ _ ?_
  refine blockQ fun Q5 qb5 => ?_
  obtain ⟨o1, go1, hM⟩ := bs hM
  have je1_0 : ∀ (x33 : List (List Bool)) (h31 : Hdr) (y32 : List Hdr) (f : Nat → Value) (w : World), f 0 = .int .i64 x1 → f 1 = h3.v → f 4 = .pointer (some ⟨b4, 0, none⟩) → f 5 = h31.v → St w0 (ros) (box b4 27 [hnil.v] :: row 67 rH h31.v y32 :: fam 4 rB y32 x33 :: rs) w → x33 = o1 → Q5 (.exit 0) (fr 48 f) w := by
    intro x33 h31 y32 f w eje1_0_0 eje1_0_1 eje1_0_4 eje1_0_5 hst ho
    subst ho
    refine qb5 _ _ _ ?_
    refine k3 _ _ ?_
    refine seqQ fun Q14 k14 z14 => ?_
    refine seqQ fun Q15 k15 z15 => ?_
    refine wp_region_lit ?_
    refine Y wn rfl (ya (v := .int .i64 0) rfl) ?_
    refine wpList_nil ?_
    refine k15 _ _ ?_
    refine blockQ fun Q16 qb16 => ?_
    obtain ⟨o4, go4, hM⟩ := bs hM
    have je4_0 : ∀ (x60 : List (List Bool)) (f : Nat → Value) (w : World), f 4 = .pointer (some ⟨b4, 0, none⟩) → f 5 = h31.v → St w0 (ros) (box b4 27 [hnil.v] :: row 67 rH h31.v y32 :: fam 4 rB y32 x60 :: rs) w → x60 = o4 → Q16 (.exit 2) (fr 48 f) w := by
      intro x60 f w eje4_0_4 eje4_0_5 hst ho
      subst ho
      refine qb16 _ _ _ ?_
      refine k14 _ _ ?_
      refine seqQ fun Q25 k25 z25 => ?_
      refine wp_region_lit ?_
      refine Y wn rfl (ym (v := h31.v) (et rfl eje4_0_5)) ?_
      obtain ⟨r61, gr61, hM⟩ := bs hM
      replace hst := hst.pk 3 [1, 1, 0] rfl
      replace hst := hst.ffz
      refine Yc wn rfl (yCall FN_29 (a1 (et rfl rfl))) (sparseref12_FromTable_ok (hM := gr61) (hst := hst) (q1 := mhF)) ?_
      clear hst
      rintro _ w ⟨h62, rfl, hst⟩
      refine ⟨_, rfl, ?_⟩
      replace hst := hst.pk 2 [1, 0] rfl
      refine YT wn rfl (r_stbn (vals' := [h62.v]) (us := [h62.v]) hst ST_27 (et rfl eje4_0_4) (et rfl rfl) rfl rfl (one_of rfl) rfl) ?_
      clear hst
      intro w hst
      refine wpList_nil ?_
      refine k25 _ _ ?_
      refine wp_ret ?_
      obtain rfl := someI hM
      exact hQ _ _ _ (fin1r Try.results12 (rcs2 rfl eje4_0_4 hst mhR ST_27 rfl) ⟨_, rfl, ((hst.pk 2 [1] rfl).facts (allT allI))⟩)
    refine loopQ (fun s a w => ∃ (x45 : List (List Bool)) (x46 : Int) (f : Nat → Value), (x45, x46) = s ∧ a = fr 48 f ∧ f 0 = .int .i64 x1 ∧ f 1 = h3.v ∧ f 4 = .pointer (some ⟨b4, 0, none⟩) ∧ f 5 = h31.v ∧ f 7 = .int .i64 x46 ∧ St w0 (ros) (box b4 27 [hnil.v] :: row 67 rH h31.v y32 :: fam 4 rB y32 x45 :: rs) w) go4 ⟨_, _, _, rfl, rfl, eje1_0_0, eje1_0_1, eje1_0_4, eje1_0_5, rfl, hst⟩ ?_
    clear hst
    rintro _ _ w r4_ ⟨x45, x46, f, rfl, rfl, e4_0, e4_1, e4_4, e4_5, e4_7, hst⟩ hM4 ho4 Q100004 n4 zz4
    refine seqQ fun Q26 k26 z26 => ?_
    refine seqQ fun Q27 k27 z27 => ?_
    refine wp_region_lit ?_
    refine Y wn rfl (ym (v := .int .i64 x46) (et rfl e4_7)) ?_
    refine Y wn rfl (yadd (et rfl rfl) rfl) ?_
    refine Y wn rfl (ym (v := h3.v) (et rfl e4_1)) ?_
    refine Y wn rfl (yLen SL_22 (et rfl rfl) hst (rdI q1)) ?_
    refine Y wn rfl (ylss (et rfl rfl) (et rfl rfl)) ?_
    refine Y wn rfl (ym (v := .bool (decide ((wa .i64 x46 1) < (x2.length : Int)))) (et rfl rfl)) ?_
    refine joinW 3 (fun f w => f 0 = .int .i64 x1 ∧ f 1 = h3.v ∧ f 4 = .pointer (some ⟨b4, 0, none⟩) ∧ f 5 = h31.v ∧ f 7 = .int .i64 x46 ∧ f 26 = .bool ((decide ((wa .i64 x46 1) < (x2.length : Int))) && (decide ((0 : Int) < x1))) ∧ St w0 (ros) (box b4 27 [hnil.v] :: row 67 rH h31.v y32 :: fam 4 rB y32 x45 :: rs) w) (fun j5 => ?_) ?_
    · rcases Bool.eq_false_or_eq_true (decide ((wa .i64 x46 1) < (x2.length : Int))) with c64 | c64
      · refine Y (wg rfl rfl rfl c64) rfl (ym (v := .int .i64 x1) (et rfl e4_0)) ?_
        refine Y (wg rfl rfl rfl c64) rfl (ygtr (et rfl rfl) rfl) ?_
        refine Y wn rfl (ypt (v := .bool (decide ((0 : Int) < x1))) (et rfl rfl) c64 (et rfl rfl)) ?_
        exact j5 _ _ ⟨e4_0, e4_1, e4_4, e4_5, e4_7, (congrArg Value.bool (andT c64)), hst⟩
      · refine Gn (wx rfl rfl rfl c64) rfl ?_
        refine Gn (wx rfl rfl rfl c64) rfl ?_
        refine Y wn rfl (ypf (v := .bool false) (et rfl rfl) c64 rfl) ?_
        exact j5 _ _ ⟨e4_0, e4_1, e4_4, e4_5, e4_7, (congrArg Value.bool (andF c64)), hst⟩
    clear hst
    rintro f w ⟨e63_0, e63_1, e63_4, e63_5, e63_7, e63_26, hst⟩
    refine wpList_nil ?_
    refine k27 _ _ ?_
    rcases iteS hM4 with ⟨c65, hM4⟩ | ⟨c65, hM4⟩
    · refine condT (et rfl e63_26) c65 ?_
      refine wp_skip ?_
      refine k26 _ _ ?_
      refine seqQ fun Q28 k28 z28 => ?_
      refine blockQ fun Q29 qb29 => ?_
      obtain ⟨x66, gx66, hM4⟩ := bs hM4
      obtain ⟨r67, gr67, hM4⟩ := bs hM4
      obtain ⟨x68, gx68, hM4⟩ := bs hM4
      obtain ⟨x70, gx70, hM4⟩ := bs hM4
      obtain ⟨r71, gr71, hM4⟩ := bs hM4
      obtain ⟨x72, gx72, hM4⟩ := bs hM4
      obtain ⟨x73, gx73, hM4⟩ := bs hM4
      refine wp_drawR [0, 0, 0, 6, 14, 0, 62, 127, 255, 0, 0, 1024, 3584, 7680, 0, 32382, 65535, 131071] [6, 15, 17] 3 folM (by kernel_rfl) (by kernel_rfl) (by kernel_rfl) ?_
      replace hst := hst.drew
      refine DRn (l1 := [0, 1, 2, 3, 4, 5, 9, 10, 11, 12, 13, 14]) (l2 := []) (lc := [6]) (by kernel_rfl) (by kernel_rfl) (by kernel_rfl) ?_
      refine Ry rfl rfl wn (ym (v := h31.v) (et rfl e63_5)) ?_
      refine Ry rfl rfl wn (ym (v := h3.v) (et rfl e63_1)) ?_
      refine Ry rfl rfl wn (ym (v := .int .i64 x46) (et rfl e63_7)) ?_
      refine Ry rfl rfl wn (yIa SL_22 (et rfl rfl) (et rfl rfl) hst (rdI q1) gx66) ?_
      refine Ry rfl rfl wn (yI O_3 (et rfl rfl) hst (rdI q1) gx66) ?_
      refine Ry rfl rfl wn (ym (v := .int .i64 x1) (et rfl e63_0)) ?_
      refine Ry rfl rfl wn (ym (v := h3.v) (et rfl e63_1)) ?_
      refine Ry rfl rfl wn (ym (v := .int .i64 x46) (et rfl e63_7)) ?_
      refine Ry rfl rfl wn (yadd (et rfl rfl) rfl) ?_
      refine Ry rfl rfl wn (yIa SL_22 (et rfl rfl) (et rfl rfl) hst (rdI q1) gx70) ?_
      refine Ry rfl rfl wn (yI O_3 (et rfl rfl) hst (rdI q1) gx70) ?_
      refine Ry rfl rfl wn (ym (v := .int .i64 x1) (et rfl e63_0)) ?_
      refine Rn QSn ?_
      refine Lc rfl ?_ LAn
      refine Lk wn (yCall FN_8 (a2 (et rfl rfl) (et rfl rfl))) (sparsekit_Place_ok (hM := gr67) (hst := hst) ) ?_
      clear hst
      rintro _ w ⟨rfl, hst⟩
      refine ⟨_, rfl, ?_⟩
      refine DRn (l1 := [7, 8]) (l2 := [0, 9, 10, 11, 12, 13, 14]) (lc := [15]) (by kernel_rfl) (by kernel_rfl) (by kernel_rfl) ?_
      obtain ⟨h69, gh69⟩ := hst.famI (mtR (mtR mhR)) gx68
      refine Ry rfl rfl wn (yIa SLH_66 (et rfl rfl) (et rfl rfl) hst (rdO (mtR mhR)) gh69) ?_
      refine Ry rfl rfl wn (yF1 O_67 (et rfl rfl) hst (rdO (mtR mhR)) gh69 rfl) ?_
      refine Rn (Sy rfl rfl wn (ym (v := h31.v) (et rfl e63_5)) rfl (Sy rfl rfl wn (ym (v := h3.v) (et rfl e63_1)) rfl (Sy rfl rfl wn (ym (v := .int .i64 x46) (et rfl e63_7)) rfl (Sy rfl rfl wn (yadd (et rfl rfl) rfl) rfl (Sy rfl rfl wn (yIa SL_22 (et rfl rfl) (et rfl rfl) hst (rdI q1) gx70) rfl (Sy rfl rfl wn (yI O_3 (et rfl rfl) hst (rdI q1) gx70) rfl (Sy rfl rfl wn (ym (v := .int .i64 x1) (et rfl e63_0)) rfl QSn))))))) ?_
      refine Lc rfl ?_ LAn
      refine Lk wn (yCall FN_8 (a2 (et rfl rfl) (et rfl rfl))) (sparsekit_Place_ok (hM := gr71) (hst := hst) ) ?_
      clear hst
      rintro _ w ⟨rfl, hst⟩
      refine ⟨_, rfl, ?_⟩
      refine DRn (l1 := [16]) (l2 := [0, 7, 8]) (lc := [17]) (by kernel_rfl) (by kernel_rfl) (by kernel_rfl) ?_
      refine Ry rfl rfl wn (yIs SL_67 (et rfl rfl) (et rfl rfl) hst (rdF (mtR (mtR mhR)) gh69 gx68) gx72) ?_
      refine Rn (Sy rfl rfl wn (ym (v := h31.v) (et rfl e63_5)) rfl (Sy rfl rfl wn (yIa SLH_66 (et rfl rfl) (et rfl rfl) hst (rdO (mtR mhR)) gh69) rfl (Sy rfl rfl wn (yF1 O_67 (et rfl rfl) hst (rdO (mtR mhR)) gh69 rfl) rfl QSn))) ?_
      refine Lc rfl ?_ LAn
      replace hst := hst.pk 3 [2, 0, 0] rfl
      refine LT wn (r_sti (cs := [.bool true]) (hst.foc gh69 gx68) O_4 rfl (et rfl rfl) rfl rfl mkB gx72) ?_
      clear hst
      intro w hst
      replace hst := hst.unfoc' gh69 gx73
      refine DRz (l1 := []) (l2 := []) (by kernel_rfl) (by kernel_rfl) ?_
      refine Rn QSn ?_
      refine qb29 _ _ _ ?_
      refine k28 _ _ ?_
      refine wp_region_lit ?_
      refine Y wn rfl (ym (v := .int .i64 x46) (et rfl e63_7)) ?_
      refine Y wn rfl (yadd (et rfl rfl) rfl) ?_
      refine Y wn rfl (ya (v := .int .i64 (wa .i64 x46 2)) (et rfl rfl)) ?_
      refine wpList_nil ?_
      obtain rfl := someI hM4
      exact n4 _ _ _ rfl ⟨_, _, _, rfl, rfl, e63_0, e63_1, e63_4, e63_5, rfl, (hst.pk 3 [1, 1, 0] rfl)⟩
    · refine condF (et rfl e63_26) (bfalse c65) ?_
      refine wp_exit ?_
      refine z26 _ _ _ rfl ?_
      obtain rfl := someI hM4
      refine zz4 _ _ _ _ rfl rfl ?_
      exact je4_0 _ _ _ e63_4 e63_5 hst (ho4 _ rfl)
  replace hst := ((hst.rowNh 67 rH).fNew 4 rB).pk 2 [1, 0] rfl
  refine loopQ (fun s a w => ∃ (x16 : List (List Bool)) (x17 : Int) (f : Nat → Value) (h14 : Hdr) (y15 : List Hdr), (x16, x17) = s ∧ a = fr 48 f ∧ f 0 = .int .i64 x1 ∧ f 1 = h3.v ∧ f 4 = .pointer (some ⟨b4, 0, none⟩) ∧ f 5 = h14.v ∧ f 6 = .int .i64 x17 ∧ St w0 (ros) (box b4 27 [hnil.v] :: row 67 rH h14.v y15 :: fam 4 rB y15 x16 :: rs) w) go1 ⟨_, _, _, _, _, rfl, rfl, rfl, rfl, rfl, rfl, rfl, (hst.pk 3 [2, 0, 0] rfl)⟩ ?_
  clear hst
  rintro _ _ w r1_ ⟨x16, x17, f, h14, y15, rfl, rfl, e1_0, e1_1, e1_4, e1_5, e1_6, hst⟩ hM1 ho1 Q100001 n1 zz1
  refine seqQ fun Q30 k30 z30 => ?_
  refine seqQ fun Q31 k31 z31 => ?_
  refine wp_region_lit ?_
  refine Y wn rfl (ym (v := .int .i64 x17) (et rfl e1_6)) ?_
  refine Y wn rfl (ym (v := .int .i64 x1) (et rfl e1_0)) ?_
  refine Y wn rfl (ylss (et rfl rfl) (et rfl rfl)) ?_
  refine wpList_nil ?_
  refine k31 _ _ ?_
  rcases iteS hM1 with ⟨c74, hM1⟩ | ⟨c74, hM1⟩
  · refine condT (et rfl rfl) (decide_eq_true c74) ?_
    refine wp_skip ?_
    refine k30 _ _ ?_
    refine seqQ fun Q32 k32 z32 => ?_
    refine blockQ fun Q33 qb33 => ?_
    refine wp_region_lit ?_
    refine Y wn rfl (ym (v := h14.v) (et rfl e1_5)) ?_
    refine Y wn rfl (ym (v := .int .i64 x1) (et rfl e1_0)) ?_
    obtain ⟨x77, gx77, hM1⟩ := bs hM1
    refine YH wn rfl (rMk hst SL_67 (et rfl rfl) gx77) ?_
    clear hst
    intro h75 w hst
    refine YH wn rfl (rLt (n := 1) (l := [h75]) hst SLH_66 [h75.v] (bp1 (et rfl rfl)) rfl rfl (mks1 rfl (mkF rfl) mks0)) ?_
    clear hst
    intro h78 w hst
    obtain ⟨x81, gx81, hM1⟩ := bs hM1
    replace hst := hst.pk 4 [3, 0, 0, 0] rfl
    obtain ⟨y82, ey82, gy82⟩ := app_rep gx81 (hst.famL (mtR (mtR (mtR (mtR mhR))))) (show [h75].length = [x77].length from rfl)
    refine YH wn rfl (rAp hst SLH_66 (et rfl rfl) (et rfl rfl) (rdO (mtR mhR)) gy82) ?_
    clear hst
    intro h80 w hst
    replace hst := hst.pk 5 [2, 3, 0, 0, 0] rfl
    replace hst := hst.fPush
    rw [← ey82, ← (app_some gx81).1] at hst
    refine Y wn rfl (ya (v := h80.v) (et rfl rfl)) ?_
    refine wpList_nil ?_
    refine qb33 _ _ _ ?_
    refine k32 _ _ ?_
    refine wp_region_lit ?_
    refine Y wn rfl (ym (v := .int .i64 x17) (et rfl e1_6)) ?_
    refine Y wn rfl (yadd (et rfl rfl) rfl) ?_
    refine Y wn rfl (ya (v := .int .i64 (wa .i64 x17 1)) (et rfl rfl)) ?_
    refine wpList_nil ?_
    obtain rfl := someI hM1
    exact n1 _ _ _ rfl ⟨_, _, _, _, _, rfl, rfl, e1_0, e1_1, e1_4, rfl, rfl, (hst.pk 4 [3, 1, 0] rfl)⟩
  · refine condF (et rfl rfl) (decide_eq_false c74) ?_
    refine wp_exit ?_
    refine z30 _ _ _ rfl ?_
    obtain rfl := someI hM1
    refine zz1 _ _ _ _ rfl rfl ?_
    exact je1_0 _ _ _ _ _ e1_0 e1_1 e1_4 e1_5 hst (ho1 _ rfl)

theorem sparsemake_At_ok {w0 : World} {ros : List Fact} {rs : List Res} {w : World} {x1 : List Int} {x3 : Int} {h2 : Hdr} {out : Int} (hM : sparsemake_At x1 x3 = some out) (q1 : imm (rI .i64) h2.v x1 ∈ ros) (hst : St w0 ros (rs) w) :
    Calls Try.prog 25 #[h2.v, .int .i64 x3] w (fun e w => e = .returned (.int .i64 out) ∧ St w0 (ros) (rs) w) := by
  refine enterQ Try.func25 rfl Try.ntmps25 rfl fun Q hQ => ?_
  refine seqQ fun Q1 k1 z1 => ?_
  refine wp_region_lit ?_
  refine Y wn rfl (ya (v := .int .i64 0) rfl) ?_
  refine wpList_nil ?_
  refine k1 _ _ ?_
  refine seqQ fun Q2 k2 z2 => ?_
  refine seqQ fun Q3 k3 z3 => ?_
  refine wp_region_lit ?_
  refine Y wn rfl (ym (v := .int .i64 x3) (et rfl rfl)) ?_
  refine Y wn rfl (ym (v := h2.v) (et rfl rfl)) ?_
  refine Y wn rfl (yLen SL_22 (et rfl rfl) hst (rdI q1)) ?_
  refine Y wn rfl (ylss (et rfl rfl) (et rfl rfl)) ?_
  refine wpList_nil ?_
  refine k3 _ _ ?_
  rcases iteS hM with ⟨c4, hM⟩ | ⟨c4, hM⟩
  · refine condT (et rfl rfl) (decide_eq_true c4) ?_
    refine seqQ fun Q4 k4 z4 => ?_
    refine wp_region_lit ?_
    refine Y wn rfl (ym (v := h2.v) (et rfl rfl)) ?_
    refine Y wn rfl (ym (v := .int .i64 x3) (et rfl rfl)) ?_
    obtain ⟨x5, gx5, hM⟩ := bs hM
    refine Y wn rfl (yIa SL_22 (et rfl rfl) (et rfl rfl) hst (rdI q1) gx5) ?_
    refine Y wn rfl (yI O_3 (et rfl rfl) hst (rdI q1) gx5) ?_
    refine Y wn rfl (ya (v := .int .i64 x5) (et rfl rfl)) ?_
    refine wpList_nil ?_
    refine k4 _ _ ?_
    refine wp_ret ?_
    refine z2 _ _ _ rfl ?_
    obtain rfl := someI hM
    exact hQ _ _ _ (fin1r Try.results25 ⟨rfl, rfl⟩ ⟨rfl, hst⟩)
  · refine condF (et rfl rfl) (decide_eq_false c4) ?_
    refine wp_skip ?_
    refine k2 _ _ ?_
    refine seqQ fun Q5 k5 z5 => ?_
    refine wp_region_lit ?_
    refine Y wn rfl (ya (v := .int .i64 0) rfl) ?_
    refine wpList_nil ?_
    refine k5 _ _ ?_
    refine wp_ret ?_
    obtain rfl := someI hM
    exact hQ _ _ _ (fin1r Try.results25 ⟨rfl, rfl⟩ ⟨rfl, hst⟩)
end Go.Proofs.Ythpeajepbffinaa
