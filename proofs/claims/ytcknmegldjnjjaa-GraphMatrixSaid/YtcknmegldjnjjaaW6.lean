/- Walks: each function computes its model, printed. -/
import Derived.Test.YtcknmegldjnjjaaW5
namespace Go.Proofs.Ytcknmegldjnjjaa
open Go Sx M
set_option maxRecDepth 100000
set_option maxHeartbeats 400000
set_option linter.unusedVariables false
attribute [local irreducible] wpList Code.wp Calls DR QR QS LA LS St
theorem graph_FromMatrix_ok {w0 : World} {ros : List Fact} {rs : List Res} {w : World} {x1 : Int} {x2 : Int} {x3 : List Int} {x5 : List Int} {x7 : List Int} {h4 : Hdr} {h6 : Hdr} {h8 : Hdr} {out : (List (List Int)) × Int} (hM : graph_FromMatrix x1 x2 x3 x5 x7 = some out) (q1 : imm (rI .i64) h4.v x3 ∈ ros) (q2 : imm (rI .i64) h6.v x5 ∈ ros) (q3 : imm (rI .u64) h8.v x7 ∈ ros) (hst : St w0 ros (rs) w) :
    Calls Try.prog 32 #[.agg #[.int .i64 x1, .int .i64 x2, h4.v, h6.v, h8.v]] w (fun e w => ∃ (h100001 : Hdr), e = .returned (.tuple #[.agg #[h100001.v], .int .i64 out.2]) ∧ St w0 (ros) (row 22 (rS (rI .i64)) h100001.v out.1 :: rs) w) := by
  refine enterQ Try.func32 rfl Try.ntmps32 rfl fun Q hQ => ?_
  refine seqQ fun Q1 k1 z1 => ?_
  refine wp_region_lit ?_
  refine YB wn rfl (r_box (vals := [.int .i64 x1, .int .i64 x2, h4.v, h6.v, h8.v]) hst (et rfl rfl) rfl) ?_
  clear hst
  intro b9 w hst
  refine YB wn rfl (rAl hst ZT_27) ?_
  clear hst
  intro b10 w hst
  refine Y wn rfl (ya (v := .int .i64 0) rfl) ?_
  refine wpList_nil ?_
  refine k1 _ _ ?_
  refine seqQ fun Q2 k2 z2 => ?_
  refine wp_region_lit ?_
  refine Y wn rfl (yLbs (us := [.int .i64 x1, .int .i64 x2, h4.v, h6.v, h8.v]) ST_49 (et rfl rfl) hst (mtR mhR) rfl rfl) ?_
  obtain ⟨r11, gr11, hM⟩ := bs hM
  refine Yc wn rfl (yCall FN_54 (a1 (et rfl rfl))) (matrix_Check_ok (hM := gr11) (hst := hst) (q1 := q1) (q2 := q2) (q3 := q3)) ?_
  clear hst
  rintro _ w ⟨rfl, hst⟩
  refine ⟨_, rfl, ?_⟩
  refine Y wn rfl (ya (v := .int .i64 r11) (et rfl rfl)) ?_
  refine wpList_nil ?_
  refine k2 _ _ ?_
  refine seqQ fun Q3 k3 z3 => ?_
  refine blockQ fun Q4 qb4 => ?_
  refine seqQ fun Q5 k5 z5 => ?_
  refine wp_region_lit ?_
  refine Y wn rfl (ym (v := .int .i64 r11) (et rfl rfl)) ?_
  refine Y wn rfl (yneq (et rfl rfl) rfl) ?_
  refine Y wn rfl (ya (v := .bool (!(decide (r11 = 0)))) (et rfl rfl)) ?_
  refine wpList_nil ?_
  refine k5 _ _ ?_
  rcases iteS hM with ⟨c12, hM⟩ | ⟨c12, hM⟩
  · refine condF (et rfl rfl) (nF (decide_eq_true c12)) ?_
    refine seqQ fun Q6 k6 z6 => ?_
    refine wp_region_lit ?_
    refine Y wn rfl (yFb FL_49_0 (et rfl rfl)) ?_
    refine Y wn rfl (yLb (u := .int .i64 x1) O_3 (et rfl rfl) hst (mtR mhR) rfl) ?_
    refine Y wn rfl (yFb FL_49_1 (et rfl rfl)) ?_
    refine Y wn rfl (yLb (u := .int .i64 x2) O_3 (et rfl rfl) hst (mtR mhR) rfl) ?_
    refine Y wn rfl (yneq (et rfl rfl) (et rfl rfl)) ?_
    refine Y wn rfl (ya (v := .bool (!(decide (x1 = x2)))) (et rfl rfl)) ?_
    refine wpList_nil ?_
    refine k6 _ _ ?_
    rcases iteS hM with ⟨c13, hM⟩ | ⟨c13, hM⟩
    · refine condF (et rfl rfl) (nF (decide_eq_true c13)) ?_
      refine wp_skip ?_
      refine qb4 _ _ _ ?_
      refine k3 _ _ ?_
      refine seqQ fun Q7 k7 z7 => ?_
      refine wp_region_lit ?_
      refine Y wn rfl (yFb FL_49_1 (et rfl rfl)) ?_
      refine Y wn rfl (yLb (u := .int .i64 x2) O_3 (et rfl rfl) hst (mtR mhR) rfl) ?_
      obtain ⟨r14, gr14, hM⟩ := bs hM
      refine Yc wn rfl (yCall FN_55 (a1 (et rfl rfl))) (graph_NewSets_ok (hM := gr14) (hst := hst) ) ?_
      clear hst
      rintro _ w ⟨h15, y16, rfl, hst⟩
      refine ⟨_, rfl, ?_⟩
      refine Y wn rfl (ya (v := h15.v) (et rfl rfl)) ?_
      refine wpList_nil ?_
      refine k7 _ _ ?_
      refine seqQ fun Q8 k8 z8 => ?_
      refine seqQ fun Q9 k9 z9 => ?_
      refine wp_region_lit ?_
      refine Y wn rfl (yLbs (us := [.int .i64 x1, .int .i64 x2, h4.v, h6.v, h8.v]) ST_49 (et rfl rfl) hst (mtR (mtR (mtR mhR))) rfl rfl) ?_
      obtain ⟨r17, gr17, hM⟩ := bs hM
      refine Yc wn rfl (yCall FN_56 (a1 (et rfl rfl))) (matrix_Entries_ok (hM := gr17) (hst := hst) (q1 := q1) (q2 := q2) (q3 := q3)) ?_
      clear hst
      rintro _ w ⟨h18, rfl, hst⟩
      refine ⟨_, rfl, ?_⟩
      refine Y wn rfl (yLen SL_71 (et rfl rfl) hst (rdO mhR)) ?_
      refine Y wn rfl (ym (v := .int .i64 0) rfl) ?_
      refine wpList_nil ?_
      refine k9 _ _ ?_
      refine blockQ fun Q10 qb10 => ?_
      obtain ⟨o1, go1, hM⟩ := bs hM
      have je1_0 : ∀ (x31 : List (List Bool)) (f : Nat → Value) (w : World), f 2 = .pointer (some ⟨b10, 0, none⟩) → f 5 = h15.v → St w0 (ros) (box b10 27 [hnil.v] :: row 54 rH h15.v y16 :: fam 4 rB y16 x31 :: rs) w → x31 = o1 → Q10 (.exit 1) (fr 41 f) w := by
        intro x31 f w eje1_0_2 eje1_0_5 hst ho
        subst ho
        refine qb10 _ _ _ ?_
        refine k8 _ _ ?_
        refine seqQ fun Q21 k21 z21 => ?_
        refine wp_region_lit ?_
        refine Y wn rfl (ym (v := h15.v) (et rfl eje1_0_5)) ?_
        obtain ⟨r32, gr32, hM⟩ := bs hM
        replace hst := hst.pk 3 [1, 1, 0] rfl
        replace hst := hst.ffz
        refine Yc wn rfl (yCall FN_58 (a1 (et rfl rfl))) (graph_Sets_Graph_ok (hM := gr32) (hst := hst) (q1 := mhF)) ?_
        clear hst
        rintro _ w ⟨h33, rfl, hst⟩
        refine ⟨_, rfl, ?_⟩
        replace hst := hst.pk 2 [1, 0] rfl
        refine YT wn rfl (r_stbn (vals' := [h33.v]) (us := [h33.v]) hst ST_27 (et rfl eje1_0_2) (et rfl rfl) rfl rfl (one_of rfl) rfl) ?_
        clear hst
        intro w hst
        refine Y wn rfl (ya (v := .int .i64 0) rfl) ?_
        refine wpList_nil ?_
        refine k21 _ _ ?_
        refine wp_ret ?_
        obtain rfl := someI hM
        exact hQ _ _ _ (fin2r Try.results32 (rcs2 rfl eje1_0_2 hst mhR ST_27 rfl) ⟨rfl, rfl⟩ ⟨_, rfl, ((hst.pk 2 [1] rfl).facts (allT allI))⟩)
      refine loopQ (fun s a w => ∃ (x23 : List (List Bool)) (x24 : Int) (f : Nat → Value), (x23, x24) = s ∧ a = fr 41 f ∧ f 2 = .pointer (some ⟨b10, 0, none⟩) ∧ f 5 = h15.v ∧ f 26 = h18.v ∧ f 27 = .int .i64 (r17.length : Int) ∧ f 28 = .int .i64 x24 ∧ St w0 (ros) (box b10 27 [hnil.v] :: row 54 rH h15.v y16 :: fam 4 rB y16 x23 :: row 76 rTi64i64u64 h18.v r17 :: rs) w) go1 ⟨_, _, _, rfl, rfl, rfl, rfl, rfl, rfl, rfl, (hst.pk 5 [3, 1, 1, 0] rfl)⟩ ?_
      clear hst
      rintro _ _ w r1_ ⟨x23, x24, f, rfl, rfl, e1_2, e1_5, e1_26, e1_27, e1_28, hst⟩ hM1 ho1 Q100001 n1 zz1
      refine seqQ fun Q22 k22 z22 => ?_
      refine wp_region_lit ?_
      refine Y wn rfl (ylss (et rfl e1_28) (et rfl e1_27)) ?_
      refine wpList_nil ?_
      refine k22 _ _ ?_
      refine seqQ fun Q23 k23 z23 => ?_
      rcases iteS hM1 with ⟨c34, hM1⟩ | ⟨c34, hM1⟩
      · refine condT (et rfl rfl) (decide_eq_true c34) ?_
        refine wp_skip ?_
        refine k23 _ _ ?_
        refine seqQ fun Q24 k24 z24 => ?_
        refine blockQ fun Q25 qb25 => ?_
        refine seqQ fun Q26 k26 z26 => ?_
        refine wp_region_lit ?_
        obtain ⟨x35, gx35, hM1⟩ := bs hM1
        refine Y wn rfl (yIa SL_71 (et rfl e1_26) (et rfl e1_28) hst (rdO (mtR (mtR (mtR mhR)))) gx35) ?_
        refine Y wn rfl (yFn ST_76 (et rfl rfl) hst (rdO (mtR (mtR (mtR mhR)))) gx35 rfl) ?_
        refine YB wn rfl (rAl hst ZT_76) ?_
        clear hst
        intro b36 w hst
        refine YT wn rfl (r_stbn (vals' := [.int .i64 x35.1, .int .i64 x35.2.1, .int .u64 x35.2.2]) (us := [.int .i64 x35.1, .int .i64 x35.2.1, .int .u64 x35.2.2]) hst ST_76 (et rfl rfl) (et rfl rfl) rfl rfl (one_of rfl) rfl) ?_
        clear hst
        intro w hst
        refine wpList_nil ?_
        refine k26 _ _ ?_
        refine wp_region_lit ?_
        refine Y wn rfl (ym (v := h15.v) (et rfl e1_5)) ?_
        refine Y wn rfl (yFb FL_76_0 (et rfl rfl)) ?_
        refine Y wn rfl (yLb (u := .int .i64 x35.1) O_3 (et rfl rfl) hst mhR rfl) ?_
        refine Y wn rfl (yFb FL_76_1 (et rfl rfl)) ?_
        refine Y wn rfl (yLb (u := .int .i64 x35.2.1) O_3 (et rfl rfl) hst mhR rfl) ?_
        obtain ⟨r37, gr37, hM1⟩ := bs hM1
        replace hst := hst.pk 4 [2, 2, 0, 0] rfl
        refine Yc wn rfl (yCall FN_57 (a3 (et rfl rfl) (et rfl rfl) (et rfl rfl))) (graph_Sets_Join_ok (hM := gr37) (hst := hst) ) ?_
        clear hst
        rintro _ w ⟨rfl, hst⟩
        refine ⟨_, rfl, ?_⟩
        refine wpList_nil ?_
        refine qb25 _ _ _ ?_
        refine k24 _ _ ?_
        refine wp_region_lit ?_
        refine Y wn rfl (yadd (et rfl e1_28) rfl) ?_
        refine Y wn rfl (ym (v := .int .i64 (wa .i64 x24 1)) (et rfl rfl)) ?_
        refine wpList_nil ?_
        obtain rfl := someI hM1
        exact n1 _ _ _ rfl ⟨_, _, _, rfl, rfl, e1_2, e1_5, e1_26, e1_27, rfl, (hst.pk 5 [3, 0, 0, 1] rfl)⟩
      · refine condF (et rfl rfl) (decide_eq_false c34) ?_
        refine wp_exit ?_
        refine z23 _ _ _ rfl ?_
        obtain rfl := someI hM1
        refine zz1 _ _ _ _ rfl rfl ?_
        exact je1_0 _ _ _ e1_2 e1_5 (hst.pk 4 [0, 0, 0] rfl) (ho1 _ rfl)
    · refine condT (et rfl rfl) (nT (decide_eq_false c13)) ?_
      refine seqQ fun Q27 k27 z27 => ?_
      refine wp_region_lit ?_
      refine Y wn rfl (ybuild (us := [hnil.v]) [] SO_27 bp0 rfl) ?_
      refine YT wn rfl (r_stbn (vals' := [hnil.v]) (us := [hnil.v]) hst ST_27 (et rfl rfl) (et rfl rfl) rfl rfl (one_of rfl) rfl) ?_
      clear hst
      intro w hst
      refine Y wn rfl (ya (v := .int .i64 5) rfl) ?_
      refine wpList_nil ?_
      refine k27 _ _ ?_
      refine wp_ret ?_
      refine qb4 _ _ _ ?_
      refine z3 _ _ _ rfl ?_
      obtain rfl := someI hM
      replace hst := hst.rowNh 22 (rS (rI .i64))
      exact hQ _ _ _ (fin2r Try.results32 (rcs2 rfl rfl hst (mtR mhR) ST_27 rfl) ⟨rfl, rfl⟩ ⟨_, rfl, (hst.pk 3 [0] rfl)⟩)
  · refine condT (et rfl rfl) (nT (decide_eq_false c12)) ?_
    refine seqQ fun Q28 k28 z28 => ?_
    refine wp_region_lit ?_
    refine Y wn rfl (ybuild (us := [hnil.v]) [] SO_27 bp0 rfl) ?_
    refine Y wn rfl (ym (v := .int .i64 r11) (et rfl rfl)) ?_
    refine YT wn rfl (r_stbn (vals' := [hnil.v]) (us := [hnil.v]) hst ST_27 (et rfl rfl) (et rfl rfl) rfl rfl (one_of rfl) rfl) ?_
    clear hst
    intro w hst
    refine Y wn rfl (ya (v := .int .i64 r11) (et rfl rfl)) ?_
    refine wpList_nil ?_
    refine k28 _ _ ?_
    refine wp_ret ?_
    refine qb4 _ _ _ ?_
    refine z3 _ _ _ rfl ?_
    obtain rfl := someI hM
    replace hst := hst.rowNh 22 (rS (rI .i64))
    exact hQ _ _ _ (fin2r Try.results32 (rcs2 rfl rfl hst (mtR mhR) ST_27 rfl) ⟨rfl, rfl⟩ ⟨_, rfl, (hst.pk 3 [0] rfl)⟩)

theorem sparseref03_IsFinite_ok {w0 : World} {ros : List Fact} {rs : List Res} {w : World} {x1 : Int} {out : Bool} (hM : sparseref03_IsFinite x1 = some out) (hst : St w0 ros (rs) w) :
    Calls Try.prog 96 #[.int .u64 x1] w (fun e w => e = .returned (.bool out) ∧ St w0 (ros) (rs) w) := by
  refine enterQ Try.func96 rfl Try.ntmps96 rfl fun Q hQ => ?_
  refine seqQ fun Q1 k1 z1 => ?_
  refine wp_region_lit ?_
  refine Y wn rfl (ya (v := .bool false) rfl) ?_
  refine wpList_nil ?_
  refine k1 _ _ ?_
  refine seqQ fun Q2 k2 z2 => ?_
  refine wp_region_lit ?_
  refine Y wn rfl (ym (v := .int .u64 x1) (et rfl rfl)) ?_
  refine Y wn rfl (yshrc (et rfl rfl) rfl) ?_
  refine Y wn rfl (yand (et rfl rfl) rfl) ?_
  refine Y wn rfl (yneq (et rfl rfl) rfl) ?_
  refine Y wn rfl (ya (v := .bool (!(decide ((wand .u64 (wsrc .u64 x1 52) 2047) = 2047)))) (et rfl rfl)) ?_
  refine wpList_nil ?_
  refine k2 _ _ ?_
  refine wp_ret ?_
  obtain rfl := someI hM
  exact hQ _ _ _ (fin1r Try.results96 ⟨rfl, rfl⟩ ⟨rfl, hst⟩)

theorem sparseref06_Finite_ok {w0 : World} {ros : List Fact} {rs : List Res} {w : World} {x1 : List Int} {h2 : Hdr} {out : Bool} (hM : sparseref06_Finite x1 = some out) (q1 : imm (rI .u64) h2.v x1 ∈ ros) (hst : St w0 ros (rs) w) :
    Calls Try.prog 78 #[h2.v] w (fun e w => e = .returned (.bool out) ∧ St w0 (ros) (rs) w) := by
  refine enterQ Try.func78 rfl Try.ntmps78 rfl fun Q hQ => ?_
  refine seqQ fun Q1 k1 z1 => ?_
  refine wp_region_lit ?_
  refine Y wn rfl (ya (v := .bool false) rfl) ?_
  refine wpList_nil ?_
  refine k1 _ _ ?_
  refine seqQ fun Q2 k2 z2 => ?_
  refine seqQ fun Q3 k3 z3 => ?_
  refine wp_region_lit ?_
  refine Y wn rfl (ya (v := .int .i64 0) rfl) ?_
  refine wpList_nil ?_
  refine k3 _ _ ?_
  refine blockQ fun Q4 qb4 => ?_
  obtain ⟨o1, go1, hM⟩ := bs hM
  have je1_0 : ∀ (f : Nat → Value) (w : World), St w0 (ros) (rs) w → .inl () = o1 → Q4 (.exit 0) (fr 16 f) w := by
    intro f w hst ho
    subst ho
    refine qb4 _ _ _ ?_
    refine k2 _ _ ?_
    refine seqQ fun Q17 k17 z17 => ?_
    refine wp_region_lit ?_
    refine Y wn rfl (ya (v := .bool true) rfl) ?_
    refine wpList_nil ?_
    refine k17 _ _ ?_
    refine wp_ret ?_
    obtain rfl := someI hM
    exact hQ _ _ _ (fin1r Try.results78 ⟨rfl, rfl⟩ ⟨rfl, hst⟩)
  have je1_1 : ∀ (f : Nat → Value) (w : World), f 2 = .bool false → St w0 (ros) (rs) w → .inr () = o1 → Q4 .ret (fr 16 f) w := by
    intro f w eje1_1_2 hst ho
    subst ho
    refine qb4 _ _ _ ?_
    refine z2 _ _ _ rfl ?_
    obtain rfl := someI hM
    exact hQ _ _ _ (fin1r Try.results78 ⟨rfl, eje1_1_2⟩ ⟨rfl, hst⟩)
  refine loopQ (fun s a w => ∃ (x7 : Int) (f : Nat → Value), x7 = s ∧ a = fr 16 f ∧ f 0 = h2.v ∧ f 3 = .int .i64 x7 ∧ St w0 (ros) (rs) w) go1 ⟨_, _, rfl, rfl, rfl, rfl, hst⟩ ?_
  clear hst
  rintro _ _ w r1_ ⟨x7, f, rfl, rfl, e1_0, e1_3, hst⟩ hM1 ho1 Q100001 n1 zz1
  refine seqQ fun Q18 k18 z18 => ?_
  refine seqQ fun Q19 k19 z19 => ?_
  refine wp_region_lit ?_
  refine Y wn rfl (ym (v := .int .i64 x7) (et rfl e1_3)) ?_
  refine Y wn rfl (ym (v := h2.v) (et rfl e1_0)) ?_
  refine Y wn rfl (yLen SL_47 (et rfl rfl) hst (rdI q1)) ?_
  refine Y wn rfl (ylss (et rfl rfl) (et rfl rfl)) ?_
  refine wpList_nil ?_
  refine k19 _ _ ?_
  rcases iteS hM1 with ⟨c13, hM1⟩ | ⟨c13, hM1⟩
  · refine condT (et rfl rfl) (decide_eq_true c13) ?_
    refine wp_skip ?_
    refine k18 _ _ ?_
    refine seqQ fun Q20 k20 z20 => ?_
    refine blockQ fun Q21 qb21 => ?_
    refine seqQ fun Q22 k22 z22 => ?_
    refine wp_region_lit ?_
    refine Y wn rfl (ym (v := h2.v) (et rfl e1_0)) ?_
    refine Y wn rfl (ym (v := .int .i64 x7) (et rfl e1_3)) ?_
    obtain ⟨x14, gx14, hM1⟩ := bs hM1
    refine Y wn rfl (yIa SL_47 (et rfl rfl) (et rfl rfl) hst (rdI q1) gx14) ?_
    refine Y wn rfl (yI O_74 (et rfl rfl) hst (rdI q1) gx14) ?_
    obtain ⟨r15, gr15, hM1⟩ := bs hM1
    refine Yc wn rfl (yCall FN_96 (a1 (et rfl rfl))) (sparseref03_IsFinite_ok (hM := gr15) (hst := hst) ) ?_
    clear hst
    rintro _ w ⟨rfl, hst⟩
    refine ⟨_, rfl, ?_⟩
    refine Y wn rfl (ynot (et rfl rfl)) ?_
    refine wpList_nil ?_
    refine k22 _ _ ?_
    rcases iteS hM1 with ⟨c16, hM1⟩ | ⟨c16, hM1⟩
    · refine condF (et rfl rfl) (nF c16) ?_
      refine wp_skip ?_
      refine qb21 _ _ _ ?_
      refine k20 _ _ ?_
      refine wp_region_lit ?_
      refine Y wn rfl (ym (v := .int .i64 x7) (et rfl e1_3)) ?_
      refine Y wn rfl (yadd (et rfl rfl) rfl) ?_
      refine Y wn rfl (ya (v := .int .i64 (wa .i64 x7 1)) (et rfl rfl)) ?_
      refine wpList_nil ?_
      obtain rfl := someI hM1
      exact n1 _ _ _ rfl ⟨_, _, rfl, rfl, e1_0, rfl, hst⟩
    · refine condT (et rfl rfl) (nT (bfalse c16)) ?_
      refine seqQ fun Q23 k23 z23 => ?_
      refine wp_region_lit ?_
      refine Y wn rfl (ya (v := .bool false) rfl) ?_
      refine wpList_nil ?_
      refine k23 _ _ ?_
      refine wp_ret ?_
      refine qb21 _ _ _ ?_
      refine z20 _ _ _ rfl ?_
      obtain rfl := someI hM1
      refine zz1 _ _ _ _ rfl rfl ?_
      exact je1_1 _ _ rfl hst (ho1 _ rfl)
  · refine condF (et rfl rfl) (decide_eq_false c13) ?_
    refine wp_exit ?_
    refine z18 _ _ _ rfl ?_
    obtain rfl := someI hM1
    refine zz1 _ _ _ _ rfl rfl ?_
    exact je1_0 _ _ hst (ho1 _ rfl)

theorem sparseref09_Check_ok {w0 : World} {ros : List Fact} {rs : List Res} {w : World} {x1 : Int} {x2 : Int} {x3 : List Int} {x5 : List Int} {x7 : List Int} {h4 : Hdr} {h6 : Hdr} {h8 : Hdr} {out : Int} (hM : sparseref09_Check x1 x2 x3 x5 x7 = some out) (q1 : imm (rI .i64) h4.v x3 ∈ ros) (q2 : imm (rI .i64) h6.v x5 ∈ ros) (q3 : imm (rI .u64) h8.v x7 ∈ ros) (hst : St w0 ros (rs) w) :
    Calls Try.prog 59 #[.agg #[.int .i64 x1, .int .i64 x2, h4.v, h6.v, h8.v]] w (fun e w => e = .returned (.int .i64 out) ∧ St w0 (ros) (rs) w) := by
  refine enterQ Try.func59 rfl Try.ntmps59 rfl fun Q hQ => ?_
  refine seqQ fun Q1 k1 z1 => ?_
  refine wp_region_lit ?_
  refine YB wn rfl (r_box (vals := [.int .i64 x1, .int .i64 x2, h4.v, h6.v, h8.v]) hst (et rfl rfl) rfl) ?_
  clear hst
  intro b9 w hst
  refine Y wn rfl (ya (v := .int .i64 0) rfl) ?_
  refine wpList_nil ?_
  refine k1 _ _ ?_
  refine seqQ fun Q2 k2 z2 => ?_
  refine seqQ fun Q3 k3 z3 => ?_
  refine wp_region_lit ?_
  refine Y wn rfl (yFb FL_49_0 (et rfl rfl)) ?_
  refine Y wn rfl (yLb (u := .int .i64 x1) O_3 (et rfl rfl) hst mhR rfl) ?_
  refine Y wn rfl (ylss (et rfl rfl) rfl) ?_
  refine Y wn rfl (ym (v := .bool (decide (x1 < 0))) (et rfl rfl)) ?_
  refine joinW 4 (fun f w => f 1 = .pointer (some ⟨b9, 0, none⟩) ∧ f 14 = .bool ((decide (x1 < 0)) || (decide ((200 : Int) < x1))) ∧ St w0 (ros) (box b9 49 [.int .i64 x1, .int .i64 x2, h4.v, h6.v, h8.v] :: rs) w) (fun j1 => ?_) ?_
  · rcases Bool.eq_false_or_eq_true (decide (x1 < 0)) with c11 | c11
    · refine Gn (wx rfl rfl rfl c11) rfl ?_
      refine Gn (wx rfl rfl rfl c11) rfl ?_
      refine Gn (wx rfl rfl rfl c11) rfl ?_
      refine Y wn rfl (ypt (v := .bool true) (et rfl rfl) c11 rfl) ?_
      exact j1 _ _ ⟨rfl, (congrArg Value.bool (orT c11)), hst⟩
    · refine Y (wg rfl rfl rfl c11) rfl (yFb FL_49_0 (et rfl rfl)) ?_
      refine Y (wg rfl rfl rfl c11) rfl (yLb (u := .int .i64 x1) O_3 (et rfl rfl) hst mhR rfl) ?_
      refine Y (wg rfl rfl rfl c11) rfl (ygtr (et rfl rfl) rfl) ?_
      refine Y wn rfl (ypf (v := .bool (decide ((200 : Int) < x1))) (et rfl rfl) c11 (et rfl rfl)) ?_
      exact j1 _ _ ⟨rfl, (congrArg Value.bool (orF c11)), hst⟩
  clear hst
  rintro f w ⟨e10_1, e10_14, hst⟩
  refine Y wn rfl (ym (v := .bool ((decide (x1 < 0)) || (decide ((200 : Int) < x1)))) (et rfl e10_14)) ?_
  refine joinW 4 (fun f w => f 1 = .pointer (some ⟨b9, 0, none⟩) ∧ f 19 = .bool (((decide (x1 < 0)) || (decide ((200 : Int) < x1))) || (decide (x2 < 0))) ∧ St w0 (ros) (box b9 49 [.int .i64 x1, .int .i64 x2, h4.v, h6.v, h8.v] :: rs) w) (fun j2 => ?_) ?_
  · rcases Bool.eq_false_or_eq_true (((decide (x1 < 0)) || (decide ((200 : Int) < x1)))) with c13 | c13
    · refine Gn (wx rfl rfl rfl c13) rfl ?_
      refine Gn (wx rfl rfl rfl c13) rfl ?_
      refine Gn (wx rfl rfl rfl c13) rfl ?_
      refine Y wn rfl (ypt (v := .bool true) (et rfl rfl) c13 rfl) ?_
      exact j2 _ _ ⟨e10_1, (congrArg Value.bool (orT c13)), hst⟩
    · refine Y (wg rfl rfl rfl c13) rfl (yFb FL_49_1 (et rfl e10_1)) ?_
      refine Y (wg rfl rfl rfl c13) rfl (yLb (u := .int .i64 x2) O_3 (et rfl rfl) hst mhR rfl) ?_
      refine Y (wg rfl rfl rfl c13) rfl (ylss (et rfl rfl) rfl) ?_
      refine Y wn rfl (ypf (v := .bool (decide (x2 < 0))) (et rfl rfl) c13 (et rfl rfl)) ?_
      exact j2 _ _ ⟨e10_1, (congrArg Value.bool (orF c13)), hst⟩
  clear hst
  rintro f w ⟨e12_1, e12_19, hst⟩
  refine Y wn rfl (ym (v := .bool (((decide (x1 < 0)) || (decide ((200 : Int) < x1))) || (decide (x2 < 0)))) (et rfl e12_19)) ?_
  refine joinW 4 (fun f w => f 1 = .pointer (some ⟨b9, 0, none⟩) ∧ f 24 = .bool ((((decide (x1 < 0)) || (decide ((200 : Int) < x1))) || (decide (x2 < 0))) || (decide ((200 : Int) < x2))) ∧ St w0 (ros) (box b9 49 [.int .i64 x1, .int .i64 x2, h4.v, h6.v, h8.v] :: rs) w) (fun j3 => ?_) ?_
  · rcases Bool.eq_false_or_eq_true ((((decide (x1 < 0)) || (decide ((200 : Int) < x1))) || (decide (x2 < 0)))) with c15 | c15
    · refine Gn (wx rfl rfl rfl c15) rfl ?_
      refine Gn (wx rfl rfl rfl c15) rfl ?_
      refine Gn (wx rfl rfl rfl c15) rfl ?_
      refine Y wn rfl (ypt (v := .bool true) (et rfl rfl) c15 rfl) ?_
      exact j3 _ _ ⟨e12_1, (congrArg Value.bool (orT c15)), hst⟩
    · refine Y (wg rfl rfl rfl c15) rfl (yFb FL_49_1 (et rfl e12_1)) ?_
      refine Y (wg rfl rfl rfl c15) rfl (yLb (u := .int .i64 x2) O_3 (et rfl rfl) hst mhR rfl) ?_
      refine Y (wg rfl rfl rfl c15) rfl (ygtr (et rfl rfl) rfl) ?_
      refine Y wn rfl (ypf (v := .bool (decide ((200 : Int) < x2))) (et rfl rfl) c15 (et rfl rfl)) ?_
      exact j3 _ _ ⟨e12_1, (congrArg Value.bool (orF c15)), hst⟩
  clear hst
  rintro f w ⟨e14_1, e14_24, hst⟩
  refine Y wn rfl (ym (v := .bool ((((decide (x1 < 0)) || (decide ((200 : Int) < x1))) || (decide (x2 < 0))) || (decide ((200 : Int) < x2)))) (et rfl e14_24)) ?_
  refine joinW 5 (fun f w => f 1 = .pointer (some ⟨b9, 0, none⟩) ∧ f 30 = .bool (((((decide (x1 < 0)) || (decide ((200 : Int) < x1))) || (decide (x2 < 0))) || (decide ((200 : Int) < x2))) || (decide ((10000 : Int) < (x5.length : Int)))) ∧ St w0 (ros) (box b9 49 [.int .i64 x1, .int .i64 x2, h4.v, h6.v, h8.v] :: rs) w) (fun j4 => ?_) ?_
  · rcases Bool.eq_false_or_eq_true (((((decide (x1 < 0)) || (decide ((200 : Int) < x1))) || (decide (x2 < 0))) || (decide ((200 : Int) < x2)))) with c17 | c17
    · refine Gn (wx rfl rfl rfl c17) rfl ?_
      refine Gn (wx rfl rfl rfl c17) rfl ?_
      refine Gn (wx rfl rfl rfl c17) rfl ?_
      refine Gn (wx rfl rfl rfl c17) rfl ?_
      refine Y wn rfl (ypt (v := .bool true) (et rfl rfl) c17 rfl) ?_
      exact j4 _ _ ⟨e14_1, (congrArg Value.bool (orT c17)), hst⟩
    · refine Y (wg rfl rfl rfl c17) rfl (yFb FL_49_3 (et rfl e14_1)) ?_
      refine Y (wg rfl rfl rfl c17) rfl (yLb (u := h6.v) O_22 (et rfl rfl) hst mhR rfl) ?_
      refine Y (wg rfl rfl rfl c17) rfl (yLen SL_22 (et rfl rfl) hst (rdI q2)) ?_
      refine Y (wg rfl rfl rfl c17) rfl (ygtr (et rfl rfl) rfl) ?_
      refine Y wn rfl (ypf (v := .bool (decide ((10000 : Int) < (x5.length : Int)))) (et rfl rfl) c17 (et rfl rfl)) ?_
      exact j4 _ _ ⟨e14_1, (congrArg Value.bool (orF c17)), hst⟩
  clear hst
  rintro f w ⟨e16_1, e16_30, hst⟩
  refine wpList_nil ?_
  refine k3 _ _ ?_
  rcases iteS hM with ⟨c18, hM⟩ | ⟨c18, hM⟩
  · refine condT (et rfl e16_30) c18 ?_
    refine seqQ fun Q4 k4 z4 => ?_
    refine wp_region_lit ?_
    refine Y wn rfl (ya (v := .int .i64 6) rfl) ?_
    refine wpList_nil ?_
    refine k4 _ _ ?_
    refine wp_ret ?_
    refine z2 _ _ _ rfl ?_
    obtain rfl := someI hM
    exact hQ _ _ _ (fin1r Try.results59 ⟨rfl, rfl⟩ ⟨rfl, (hst.pk 1 [] rfl)⟩)
  · refine condF (et rfl e16_30) (bfalse c18) ?_
    refine wp_skip ?_
    refine k2 _ _ ?_
    refine seqQ fun Q5 k5 z5 => ?_
    refine wp_region_lit ?_
    refine Y wn rfl (yFb FL_49_3 (et rfl e16_1)) ?_
    refine Y wn rfl (yLb (u := h6.v) O_22 (et rfl rfl) hst mhR rfl) ?_
    refine Y wn rfl (yLen SL_22 (et rfl rfl) hst (rdI q2)) ?_
    refine Y wn rfl (ya (v := .int .i64 (x5.length : Int)) (et rfl rfl)) ?_
    refine wpList_nil ?_
    refine k5 _ _ ?_
    refine seqQ fun Q6 k6 z6 => ?_
    refine seqQ fun Q7 k7 z7 => ?_
    refine wp_region_lit ?_
    refine Y wn rfl (yFb FL_49_4 (et rfl e16_1)) ?_
    refine Y wn rfl (yLb (u := h8.v) O_47 (et rfl rfl) hst mhR rfl) ?_
    refine Y wn rfl (yLen SL_47 (et rfl rfl) hst (rdI q3)) ?_
    refine Y wn rfl (ym (v := .int .i64 (x5.length : Int)) (et rfl rfl)) ?_
    refine Y wn rfl (yneq (et rfl rfl) (et rfl rfl)) ?_
    refine Y wn rfl (ym (v := .bool (!(decide ((x7.length : Int) = (x5.length : Int))))) (et rfl rfl)) ?_
    refine joinW 8 (fun f w => f 1 = .pointer (some ⟨b9, 0, none⟩) ∧ f 3 = .int .i64 (x5.length : Int) ∧ f 47 = .bool ((!(decide ((x7.length : Int) = (x5.length : Int)))) || (!(decide ((x3.length : Int) = (wa .i64 x2 1))))) ∧ St w0 (ros) (box b9 49 [.int .i64 x1, .int .i64 x2, h4.v, h6.v, h8.v] :: rs) w) (fun j5 => ?_) ?_
    · rcases Bool.eq_false_or_eq_true (!(decide ((x7.length : Int) = (x5.length : Int)))) with c20 | c20
      · refine Gn (wx rfl rfl rfl c20) rfl ?_
        refine Gn (wx rfl rfl rfl c20) rfl ?_
        refine Gn (wx rfl rfl rfl c20) rfl ?_
        refine Gn (wx rfl rfl rfl c20) rfl ?_
        refine Gn (wx rfl rfl rfl c20) rfl ?_
        refine Gn (wx rfl rfl rfl c20) rfl ?_
        refine Gn (wx rfl rfl rfl c20) rfl ?_
        refine Y wn rfl (ypt (v := .bool true) (et rfl rfl) c20 rfl) ?_
        exact j5 _ _ ⟨e16_1, rfl, (congrArg Value.bool (orT c20)), hst⟩
      · refine Y (wg rfl rfl rfl c20) rfl (yFb FL_49_2 (et rfl e16_1)) ?_
        refine Y (wg rfl rfl rfl c20) rfl (yLb (u := h4.v) O_22 (et rfl rfl) hst mhR rfl) ?_
        refine Y (wg rfl rfl rfl c20) rfl (yLen SL_22 (et rfl rfl) hst (rdI q1)) ?_
        refine Y (wg rfl rfl rfl c20) rfl (yFb FL_49_1 (et rfl e16_1)) ?_
        refine Y (wg rfl rfl rfl c20) rfl (yLb (u := .int .i64 x2) O_3 (et rfl rfl) hst mhR rfl) ?_
        refine Y (wg rfl rfl rfl c20) rfl (yadd (et rfl rfl) rfl) ?_
        refine Y (wg rfl rfl rfl c20) rfl (yneq (et rfl rfl) (et rfl rfl)) ?_
        refine Y wn rfl (ypf (v := .bool (!(decide ((x3.length : Int) = (wa .i64 x2 1))))) (et rfl rfl) c20 (et rfl rfl)) ?_
        exact j5 _ _ ⟨e16_1, rfl, (congrArg Value.bool (orF c20)), hst⟩
    clear hst
    rintro f w ⟨e19_1, e19_3, e19_47, hst⟩
    refine Y wn rfl (ym (v := .bool ((!(decide ((x7.length : Int) = (x5.length : Int)))) || (!(decide ((x3.length : Int) = (wa .i64 x2 1)))))) (et rfl e19_47)) ?_
    obtain ⟨r22, gr22, hM⟩ := bs hM
    refine joinW 6 (fun f w => f 1 = .pointer (some ⟨b9, 0, none⟩) ∧ f 3 = .int .i64 (x5.length : Int) ∧ f 54 = .bool r22 ∧ St w0 (ros) (box b9 49 [.int .i64 x1, .int .i64 x2, h4.v, h6.v, h8.v] :: rs) w) (fun j6 => ?_) ?_
    · rcases iteS gr22 with ⟨c24, gr22⟩ | ⟨c24, gr22⟩
      · refine Gn (wx rfl rfl rfl c24) rfl ?_
        refine Gn (wx rfl rfl rfl c24) rfl ?_
        refine Gn (wx rfl rfl rfl c24) rfl ?_
        refine Gn (wx rfl rfl rfl c24) rfl ?_
        refine Gn (wx rfl rfl rfl c24) rfl ?_
        refine Y wn rfl (ypt (v := .bool true) (et rfl rfl) c24 rfl) ?_
        obtain rfl := someI gr22
        exact j6 _ _ ⟨e19_1, e19_3, rfl, hst⟩
      · refine Y (wg rfl rfl rfl (bfalse c24)) rfl (yFb FL_49_2 (et rfl e19_1)) ?_
        refine Y (wg rfl rfl rfl (bfalse c24)) rfl (yLb (u := h4.v) O_22 (et rfl rfl) hst mhR rfl) ?_
        obtain ⟨x25, gx25, gr22⟩ := bs gr22
        refine Y (wg rfl rfl rfl (bfalse c24)) rfl (yIa SL_22 (et rfl rfl) rfl hst (rdI q1) gx25) ?_
        refine Y (wg rfl rfl rfl (bfalse c24)) rfl (yI O_3 (et rfl rfl) hst (rdI q1) gx25) ?_
        refine Y (wg rfl rfl rfl (bfalse c24)) rfl (yneq (et rfl rfl) rfl) ?_
        refine Y wn rfl (ypf (v := .bool (!(decide (x25 = 0)))) (et rfl rfl) (bfalse c24) (et rfl rfl)) ?_
        obtain rfl := someI gr22
        exact j6 _ _ ⟨e19_1, e19_3, rfl, hst⟩
    clear hst
    rintro f w ⟨e23_1, e23_3, e23_54, hst⟩
    refine Y wn rfl (ym (v := .bool r22) (et rfl e23_54)) ?_
    obtain ⟨r27, gr27, hM⟩ := bs hM
    refine joinW 9 (fun f w => f 1 = .pointer (some ⟨b9, 0, none⟩) ∧ f 64 = .bool r27 ∧ St w0 (ros) (box b9 49 [.int .i64 x1, .int .i64 x2, h4.v, h6.v, h8.v] :: rs) w) (fun j7 => ?_) ?_
    · rcases iteS gr27 with ⟨c29, gr27⟩ | ⟨c29, gr27⟩
      · refine Gn (wx rfl rfl rfl c29) rfl ?_
        refine Gn (wx rfl rfl rfl c29) rfl ?_
        refine Gn (wx rfl rfl rfl c29) rfl ?_
        refine Gn (wx rfl rfl rfl c29) rfl ?_
        refine Gn (wx rfl rfl rfl c29) rfl ?_
        refine Gn (wx rfl rfl rfl c29) rfl ?_
        refine Gn (wx rfl rfl rfl c29) rfl ?_
        refine Gn (wx rfl rfl rfl c29) rfl ?_
        refine Y wn rfl (ypt (v := .bool true) (et rfl rfl) c29 rfl) ?_
        obtain rfl := someI gr27
        exact j7 _ _ ⟨e23_1, rfl, hst⟩
      · refine Y (wg rfl rfl rfl (bfalse c29)) rfl (yFb FL_49_2 (et rfl e23_1)) ?_
        refine Y (wg rfl rfl rfl (bfalse c29)) rfl (yLb (u := h4.v) O_22 (et rfl rfl) hst mhR rfl) ?_
        refine Y (wg rfl rfl rfl (bfalse c29)) rfl (yFb FL_49_1 (et rfl e23_1)) ?_
        refine Y (wg rfl rfl rfl (bfalse c29)) rfl (yLb (u := .int .i64 x2) O_3 (et rfl rfl) hst mhR rfl) ?_
        obtain ⟨x30, gx30, gr27⟩ := bs gr27
        refine Y (wg rfl rfl rfl (bfalse c29)) rfl (yIa SL_22 (et rfl rfl) (et rfl rfl) hst (rdI q1) gx30) ?_
        refine Y (wg rfl rfl rfl (bfalse c29)) rfl (yI O_3 (et rfl rfl) hst (rdI q1) gx30) ?_
        refine Y (wg rfl rfl rfl (bfalse c29)) rfl (ym (v := .int .i64 (x5.length : Int)) (et rfl e23_3)) ?_
        refine Y (wg rfl rfl rfl (bfalse c29)) rfl (yneq (et rfl rfl) (et rfl rfl)) ?_
        refine Y wn rfl (ypf (v := .bool (!(decide (x30 = (x5.length : Int))))) (et rfl rfl) (bfalse c29) (et rfl rfl)) ?_
        obtain rfl := someI gr27
        exact j7 _ _ ⟨e23_1, rfl, hst⟩
    clear hst
    rintro f w ⟨e28_1, e28_64, hst⟩
    refine wpList_nil ?_
    refine k7 _ _ ?_
    rcases iteS hM with ⟨c31, hM⟩ | ⟨c31, hM⟩
    · refine condT (et rfl e28_64) c31 ?_
      refine seqQ fun Q8 k8 z8 => ?_
      refine wp_region_lit ?_
      refine Y wn rfl (ya (v := .int .i64 1) rfl) ?_
      refine wpList_nil ?_
      refine k8 _ _ ?_
      refine wp_ret ?_
      refine z6 _ _ _ rfl ?_
      obtain rfl := someI hM
      exact hQ _ _ _ (fin1r Try.results59 ⟨rfl, rfl⟩ ⟨rfl, (hst.pk 1 [] rfl)⟩)
    · refine condF (et rfl e28_64) (bfalse c31) ?_
      refine wp_skip ?_
      refine k6 _ _ ?_
      refine seqQ fun Q9 k9 z9 => ?_
      refine seqQ fun Q10 k10 z10 => ?_
      refine wp_region_lit ?_
      refine Y wn rfl (ya (v := .int .i64 0) rfl) ?_
      refine wpList_nil ?_
      refine k10 _ _ ?_
      refine blockQ fun Q11 qb11 => ?_
      obtain ⟨o8, go8, hM⟩ := bs hM
      have je8_0 : ∀ (f : Nat → Value) (w : World), f 1 = .pointer (some ⟨b9, 0, none⟩) → St w0 (ros) (box b9 49 [.int .i64 x1, .int .i64 x2, h4.v, h6.v, h8.v] :: rs) w → .inl () = o8 → Q11 (.exit 0) (fr 147 f) w := by
        intro f w eje8_0_1 hst ho
        subst ho
        refine qb11 _ _ _ ?_
        refine k9 _ _ ?_
        refine seqQ fun Q24 k24 z24 => ?_
        refine seqQ fun Q25 k25 z25 => ?_
        refine wp_region_lit ?_
        refine Y wn rfl (ya (v := .int .i64 0) rfl) ?_
        refine wpList_nil ?_
        refine k25 _ _ ?_
        refine blockQ fun Q26 qb26 => ?_
        obtain ⟨o59, go59, hM⟩ := bs hM
        have je59_0 : ∀ (f : Nat → Value) (w : World), f 1 = .pointer (some ⟨b9, 0, none⟩) → St w0 (ros) (box b9 49 [.int .i64 x1, .int .i64 x2, h4.v, h6.v, h8.v] :: rs) w → .inl () = o59 → Q26 (.exit 2) (fr 147 f) w := by
          intro f w eje59_0_1 hst ho
          subst ho
          refine qb26 _ _ _ ?_
          refine k24 _ _ ?_
          refine seqQ fun Q75 k75 z75 => ?_
          refine seqQ fun Q76 k76 z76 => ?_
          refine wp_region_lit ?_
          refine Y wn rfl (yFb FL_49_4 (et rfl eje59_0_1)) ?_
          refine Y wn rfl (yLb (u := h8.v) O_47 (et rfl rfl) hst mhR rfl) ?_
          obtain ⟨r148, gr148, hM⟩ := bs hM
          refine Yc wn rfl (yCall FN_78 (a1 (et rfl rfl))) (sparseref06_Finite_ok (hM := gr148) (hst := hst) (q1 := q3)) ?_
          clear hst
          rintro _ w ⟨rfl, hst⟩
          refine ⟨_, rfl, ?_⟩
          refine Y wn rfl (ynot (et rfl rfl)) ?_
          refine wpList_nil ?_
          refine k76 _ _ ?_
          rcases iteS hM with ⟨c149, hM⟩ | ⟨c149, hM⟩
          · refine condF (et rfl rfl) (nF c149) ?_
            refine wp_skip ?_
            refine k75 _ _ ?_
            refine seqQ fun Q77 k77 z77 => ?_
            refine wp_region_lit ?_
            refine Y wn rfl (ya (v := .int .i64 0) rfl) ?_
            refine wpList_nil ?_
            refine k77 _ _ ?_
            refine wp_ret ?_
            obtain rfl := someI hM
            exact hQ _ _ _ (fin1r Try.results59 ⟨rfl, rfl⟩ ⟨rfl, (hst.pk 1 [] rfl)⟩)
          · refine condT (et rfl rfl) (nT (bfalse c149)) ?_
            refine seqQ fun Q78 k78 z78 => ?_
            refine wp_region_lit ?_
            refine Y wn rfl (ya (v := .int .i64 4) rfl) ?_
            refine wpList_nil ?_
            refine k78 _ _ ?_
            refine wp_ret ?_
            refine z75 _ _ _ rfl ?_
            obtain rfl := someI hM
            exact hQ _ _ _ (fin1r Try.results59 ⟨rfl, rfl⟩ ⟨rfl, (hst.pk 1 [] rfl)⟩)
        have je59_1 : ∀ (f : Nat → Value) (w : World), f 2 = .int .i64 1 → St w0 (ros) (rs) w → .inr () = o59 → Q26 .ret (fr 147 f) w := by
          intro f w eje59_1_2 hst ho
          subst ho
          refine qb26 _ _ _ ?_
          refine z24 _ _ _ rfl ?_
          obtain rfl := someI hM
          exact hQ _ _ _ (fin1r Try.results59 ⟨rfl, eje59_1_2⟩ ⟨rfl, hst⟩)
        refine loopQ (fun s a w => ∃ (x94 : Int) (f : Nat → Value), x94 = s ∧ a = fr 147 f ∧ f 1 = .pointer (some ⟨b9, 0, none⟩) ∧ f 5 = .int .i64 x94 ∧ St w0 (ros) (box b9 49 [.int .i64 x1, .int .i64 x2, h4.v, h6.v, h8.v] :: rs) w) go59 ⟨_, _, rfl, rfl, eje8_0_1, rfl, hst⟩ ?_
        clear hst
        rintro _ _ w r59_ ⟨x94, f, rfl, rfl, e59_1, e59_5, hst⟩ hM59 ho59 Q100059 n59 zz59
        refine seqQ fun Q79 k79 z79 => ?_
        refine seqQ fun Q80 k80 z80 => ?_
        refine wp_region_lit ?_
        refine Y wn rfl (ym (v := .int .i64 x94) (et rfl e59_5)) ?_
        refine Y wn rfl (yFb FL_49_1 (et rfl e59_1)) ?_
        refine Y wn rfl (yLb (u := .int .i64 x2) O_3 (et rfl rfl) hst mhR rfl) ?_
        refine Y wn rfl (ylss (et rfl rfl) (et rfl rfl)) ?_
        refine wpList_nil ?_
        refine k80 _ _ ?_
        rcases iteS hM59 with ⟨c150, hM59⟩ | ⟨c150, hM59⟩
        · refine condT (et rfl rfl) (decide_eq_true c150) ?_
          refine wp_skip ?_
          refine k79 _ _ ?_
          refine seqQ fun Q81 k81 z81 => ?_
          refine blockQ fun Q82 qb82 => ?_
          refine seqQ fun Q83 k83 z83 => ?_
          refine wp_region_lit ?_
          refine Y wn rfl (yFb FL_49_2 (et rfl e59_1)) ?_
          refine Y wn rfl (yLb (u := h4.v) O_22 (et rfl rfl) hst mhR rfl) ?_
          refine Y wn rfl (ym (v := .int .i64 x94) (et rfl e59_5)) ?_
          obtain ⟨x151, gx151, hM59⟩ := bs hM59
          refine Y wn rfl (yIa SL_22 (et rfl rfl) (et rfl rfl) hst (rdI q1) gx151) ?_
          refine Y wn rfl (yI O_3 (et rfl rfl) hst (rdI q1) gx151) ?_
          refine Y wn rfl (ya (v := .int .i64 x151) (et rfl rfl)) ?_
          refine wpList_nil ?_
          refine k83 _ _ ?_
          refine blockQ fun Q84 qb84 => ?_
          obtain ⟨o76, go76, hM59⟩ := bs hM59
          have je76_0 : ∀ (f : Nat → Value) (w : World), f 1 = .pointer (some ⟨b9, 0, none⟩) → f 5 = .int .i64 x94 → St w0 (ros) (box b9 49 [.int .i64 x1, .int .i64 x2, h4.v, h6.v, h8.v] :: rs) w → .inl () = o76 → Q84 (.exit 4) (fr 147 f) w := by
            intro f w eje76_0_1 eje76_0_5 hst ho
            subst ho
            refine qb84 _ _ _ ?_
            refine qb82 _ _ _ ?_
            refine k81 _ _ ?_
            refine wp_region_lit ?_
            refine Y wn rfl (ym (v := .int .i64 x94) (et rfl eje76_0_5)) ?_
            refine Y wn rfl (yadd (et rfl rfl) rfl) ?_
            refine Y wn rfl (ya (v := .int .i64 (wa .i64 x94 1)) (et rfl rfl)) ?_
            refine wpList_nil ?_
            obtain rfl := someI hM59
            exact n59 _ _ _ rfl ⟨_, _, rfl, rfl, eje76_0_1, rfl, hst⟩
          have je76_1 : ∀ (f : Nat → Value) (w : World), f 2 = .int .i64 1 → St w0 (ros) (rs) w → .inr () = o76 → Q84 .ret (fr 147 f) w := by
            intro f w eje76_1_2 hst ho
            subst ho
            refine qb84 _ _ _ ?_
            refine qb82 _ _ _ ?_
            refine z81 _ _ _ rfl ?_
            obtain rfl := someI hM59
            refine zz59 _ _ _ _ rfl rfl ?_
            exact je59_1 _ _ eje76_1_2 hst (ho59 _ rfl)
          refine loopQ (fun s a w => ∃ (x168 : Int) (f : Nat → Value), x168 = s ∧ a = fr 147 f ∧ f 1 = .pointer (some ⟨b9, 0, none⟩) ∧ f 5 = .int .i64 x94 ∧ f 6 = .int .i64 x168 ∧ St w0 (ros) (box b9 49 [.int .i64 x1, .int .i64 x2, h4.v, h6.v, h8.v] :: rs) w) go76 ⟨_, _, rfl, rfl, e59_1, e59_5, rfl, hst⟩ ?_
          clear hst
          rintro _ _ w r76_ ⟨x168, f, rfl, rfl, e76_1, e76_5, e76_6, hst⟩ hM76 ho76 Q100076 n76 zz76
          refine seqQ fun Q97 k97 z97 => ?_
          refine seqQ fun Q98 k98 z98 => ?_
          refine wp_region_lit ?_
          refine Y wn rfl (ym (v := .int .i64 x168) (et rfl e76_6)) ?_
          refine Y wn rfl (yFb FL_49_2 (et rfl e76_1)) ?_
          refine Y wn rfl (yLb (u := h4.v) O_22 (et rfl rfl) hst mhR rfl) ?_
          refine Y wn rfl (ym (v := .int .i64 x94) (et rfl e76_5)) ?_
          refine Y wn rfl (yadd (et rfl rfl) rfl) ?_
          obtain ⟨x186, gx186, hM76⟩ := bs hM76
          refine Y wn rfl (yIa SL_22 (et rfl rfl) (et rfl rfl) hst (rdI q1) gx186) ?_
          refine Y wn rfl (yI O_3 (et rfl rfl) hst (rdI q1) gx186) ?_
          refine Y wn rfl (ylss (et rfl rfl) (et rfl rfl)) ?_
          refine wpList_nil ?_
          refine k98 _ _ ?_
          rcases iteS hM76 with ⟨c187, hM76⟩ | ⟨c187, hM76⟩
          · refine condT (et rfl rfl) (decide_eq_true c187) ?_
            refine wp_skip ?_
            refine k97 _ _ ?_
            refine seqQ fun Q99 k99 z99 => ?_
            refine blockQ fun Q100 qb100 => ?_
            refine seqQ fun Q101 k101 z101 => ?_
            obtain ⟨x188, gx188, hM76⟩ := bs hM76
            obtain ⟨r189, gr189, hM76⟩ := bs hM76
            obtain ⟨r190, gr190, hM76⟩ := bs hM76
            refine joinN (n := 147) (fun f w => f 1 = .pointer (some ⟨b9, 0, none⟩) ∧ f 5 = .int .i64 x94 ∧ f 6 = .int .i64 x168 ∧ f 142 = .bool r190 ∧ St w0 (ros) (box b9 49 [.int .i64 x1, .int .i64 x2, h4.v, h6.v, h8.v] :: rs) w) (fun j77 => ?_) ?_
            · rcases iteS gr189 with ⟨c192, gr189⟩ | ⟨c192, gr189⟩
              · have hr78 := someI gr189
                have c193 : r189 = true := hr78.symm
                rw [if_pos c193] at gr190
                have hr79 := someI gr190
                refine wp_drawR [0, 1, 0, 7, 15, 31, 63, 127, 255, 127, 1023, 2047, 127, 4223, 16383, 32767, 65535, 131071, 131071, 393215, 131071, 1966079, 4063231, 8388607, 16777215, 33554431, 67108863, 33554431, 268435455, 536870911, 33554431, 1107296255, 33554431, 4328521727, 16139681791, 33319550975, 68719476735, 137438953471, 274877906943] [] 0 folM (by kernel_rfl) (by kernel_rfl) (by kernel_rfl) ?_
                replace hst := hst.drew
                refine DRz (l1 := [0, 1, 2, 3, 4, 5, 6, 7, 8, 9, 10, 11, 12, 13, 14, 15, 16, 17, 18, 19, 20, 21, 22, 23, 24, 25, 26, 27, 28, 29, 30, 31, 32, 33, 34, 35, 36, 37, 38]) (l2 := []) (by kernel_rfl) (by kernel_rfl) ?_
                refine Ry rfl rfl wn (yFb FL_49_3 (et rfl e76_1)) ?_
                refine Ry rfl rfl wn (yLb (u := h6.v) O_22 (et rfl rfl) hst mhR rfl) ?_
                refine Ry rfl rfl wn (ym (v := .int .i64 x168) (et rfl e76_6)) ?_
                refine Ry rfl rfl wn (yIa SL_22 (et rfl rfl) (et rfl rfl) hst (rdI q2) gx188) ?_
                refine Ry rfl rfl wn (yI O_3 (et rfl rfl) hst (rdI q2) gx188) ?_
                refine Ry rfl rfl wn (ylss (et rfl rfl) rfl) ?_
                refine Ry rfl rfl wn (ym (v := .bool (decide (x188 < 0))) (et rfl rfl)) ?_
                refine Rx rfl rfl (wx rfl rfl rfl (decide_eq_true c192)) ?_
                refine Rx rfl rfl (wx rfl rfl rfl (decide_eq_true c192)) ?_
                refine Rx rfl rfl (wx rfl rfl rfl (decide_eq_true c192)) ?_
                refine Rx rfl rfl (wx rfl rfl rfl (decide_eq_true c192)) ?_
                refine Rx rfl rfl (wx rfl rfl rfl (decide_eq_true c192)) ?_
                refine Rx rfl rfl (wx rfl rfl rfl (decide_eq_true c192)) ?_
                refine Rx rfl rfl (wx rfl rfl rfl (decide_eq_true c192)) ?_
                refine Rx rfl rfl (wx rfl rfl rfl (decide_eq_true c192)) ?_
                refine Ry rfl rfl wn (ypt (v := .bool r189) (et rfl rfl) (decide_eq_true c192) (eqv hr78 rfl)) ?_
                refine Ry rfl rfl wn (ym (v := .bool r189) (et rfl rfl)) ?_
                refine Rx rfl rfl (wx rfl rfl rfl c193) ?_
                refine Rx rfl rfl (wx rfl rfl rfl c193) ?_
                refine Rx rfl rfl (wx rfl rfl rfl c193) ?_
                refine Rx rfl rfl (wx rfl rfl rfl c193) ?_
                refine Rx rfl rfl (wx rfl rfl rfl c193) ?_
                refine Rx rfl rfl (wx rfl rfl rfl c193) ?_
                refine Rx rfl rfl (wx rfl rfl rfl c193) ?_
                refine Rx rfl rfl (wx rfl rfl rfl c193) ?_
                refine Rx rfl rfl (wxu rfl rfl rfl) ?_
                refine Rx rfl rfl (wxu rfl rfl rfl) ?_
                refine Rx rfl rfl (wxu rfl rfl rfl) ?_
                refine Rx rfl rfl (wxu rfl rfl rfl) ?_
                refine Rx rfl rfl (wxu rfl rfl rfl) ?_
                refine Rx rfl rfl (wxu rfl rfl rfl) ?_
                refine Rx rfl rfl (wxu rfl rfl rfl) ?_
                refine Rx rfl rfl (wxu rfl rfl rfl) ?_
                refine Rx rfl rfl (wxu rfl rfl rfl) ?_
                refine Rx rfl rfl (wxu rfl rfl rfl) ?_
                refine Rx rfl rfl (wxu rfl rfl rfl) ?_
                refine Rx rfl rfl (wxu rfl rfl rfl) ?_
                refine Rx rfl rfl (wx rfl rfl rfl c193) ?_
                refine Ry rfl rfl wn (ypt (v := .bool r190) (et rfl rfl) c193 (eqv hr79 rfl)) ?_
                refine Rn QSn ?_
                exact j77 _ _ ⟨e76_1, e76_5, e76_6, rfl, hst⟩
              · obtain ⟨x194, gx194, gr189⟩ := bs gr189
                have hr80 := someI gr189
                rcases iteS gr190 with ⟨c195, gr190⟩ | ⟨c195, gr190⟩
                · have hr81 := someI gr190
                  refine wp_drawR [0, 1, 0, 7, 15, 31, 63, 127, 255, 127, 1023, 2047, 127, 4223, 16383, 32767, 65535, 131071, 131071, 393215, 131071, 1966079, 4063231, 8388607, 16777215, 33554431, 67108863, 33554431, 268435455, 536870911, 33554431, 1107296255, 33554431, 4328521727, 16139681791, 33319550975, 68719476735, 137438953471, 274877906943] [] 0 folM (by kernel_rfl) (by kernel_rfl) (by kernel_rfl) ?_
                  replace hst := hst.drew
                  refine DRz (l1 := [0, 1, 2, 3, 4, 5, 6, 7, 8, 9, 10, 11, 12, 13, 14, 15, 16, 17, 18, 19, 20, 21, 22, 23, 24, 25, 26, 27, 28, 29, 30, 31, 32, 33, 34, 35, 36, 37, 38]) (l2 := []) (by kernel_rfl) (by kernel_rfl) ?_
                  refine Ry rfl rfl wn (yFb FL_49_3 (et rfl e76_1)) ?_
                  refine Ry rfl rfl wn (yLb (u := h6.v) O_22 (et rfl rfl) hst mhR rfl) ?_
                  refine Ry rfl rfl wn (ym (v := .int .i64 x168) (et rfl e76_6)) ?_
                  refine Ry rfl rfl wn (yIa SL_22 (et rfl rfl) (et rfl rfl) hst (rdI q2) gx188) ?_
                  refine Ry rfl rfl wn (yI O_3 (et rfl rfl) hst (rdI q2) gx188) ?_
                  refine Ry rfl rfl wn (ylss (et rfl rfl) rfl) ?_
                  refine Ry rfl rfl wn (ym (v := .bool (decide (x188 < 0))) (et rfl rfl)) ?_
                  refine Ry rfl rfl (wg rfl rfl rfl (decide_eq_false c192)) (yFb FL_49_3 (et rfl e76_1)) ?_
                  refine Ry rfl rfl (wg rfl rfl rfl (decide_eq_false c192)) (yLb (u := h6.v) O_22 (et rfl rfl) hst mhR rfl) ?_
                  refine Ry rfl rfl (wg rfl rfl rfl (decide_eq_false c192)) (ym (v := .int .i64 x168) (et rfl e76_6)) ?_
                  refine Ry rfl rfl (wg rfl rfl rfl (decide_eq_false c192)) (yIa SL_22 (et rfl rfl) (et rfl rfl) hst (rdI q2) gx194) ?_
                  refine Ry rfl rfl (wg rfl rfl rfl (decide_eq_false c192)) (yI O_3 (et rfl rfl) hst (rdI q2) gx194) ?_
                  refine Ry rfl rfl (wg rfl rfl rfl (decide_eq_false c192)) (yFb FL_49_0 (et rfl e76_1)) ?_
                  refine Ry rfl rfl (wg rfl rfl rfl (decide_eq_false c192)) (yLb (u := .int .i64 x1) O_3 (et rfl rfl) hst mhR rfl) ?_
                  refine Ry rfl rfl (wg rfl rfl rfl (decide_eq_false c192)) (ygeq (et rfl rfl) (et rfl rfl)) ?_
                  refine Ry rfl rfl wn (ypf (v := .bool r189) (et rfl rfl) (decide_eq_false c192) (eqv hr80 (et rfl rfl))) ?_
                  refine Ry rfl rfl wn (ym (v := .bool r189) (et rfl rfl)) ?_
                  refine Rx rfl rfl (wx rfl rfl rfl c195) ?_
                  refine Rx rfl rfl (wx rfl rfl rfl c195) ?_
                  refine Rx rfl rfl (wx rfl rfl rfl c195) ?_
                  refine Rx rfl rfl (wx rfl rfl rfl c195) ?_
                  refine Rx rfl rfl (wx rfl rfl rfl c195) ?_
                  refine Rx rfl rfl (wx rfl rfl rfl c195) ?_
                  refine Rx rfl rfl (wx rfl rfl rfl c195) ?_
                  refine Rx rfl rfl (wx rfl rfl rfl c195) ?_
                  refine Rx rfl rfl (wxu rfl rfl rfl) ?_
                  refine Rx rfl rfl (wxu rfl rfl rfl) ?_
                  refine Rx rfl rfl (wxu rfl rfl rfl) ?_
                  refine Rx rfl rfl (wxu rfl rfl rfl) ?_
                  refine Rx rfl rfl (wxu rfl rfl rfl) ?_
                  refine Rx rfl rfl (wxu rfl rfl rfl) ?_
                  refine Rx rfl rfl (wxu rfl rfl rfl) ?_
                  refine Rx rfl rfl (wxu rfl rfl rfl) ?_
                  refine Rx rfl rfl (wxu rfl rfl rfl) ?_
                  refine Rx rfl rfl (wxu rfl rfl rfl) ?_
                  refine Rx rfl rfl (wxu rfl rfl rfl) ?_
                  refine Rx rfl rfl (wxu rfl rfl rfl) ?_
                  refine Rx rfl rfl (wx rfl rfl rfl c195) ?_
                  refine Ry rfl rfl wn (ypt (v := .bool r190) (et rfl rfl) c195 (eqv hr81 rfl)) ?_
                  refine Rn QSn ?_
                  exact j77 _ _ ⟨e76_1, e76_5, e76_6, rfl, hst⟩
                · obtain ⟨x196, gx196, gr190⟩ := bs gr190
                  obtain ⟨r197, gr197, gr190⟩ := bs gr190
                  have hr82 := someI gr190
                  rcases iteS gr197 with ⟨c198, gr197⟩ | ⟨c198, gr197⟩
                  · obtain ⟨x199, gx199, gr197⟩ := bs gr197
                    obtain ⟨x200, gx200, gr197⟩ := bs gr197
                    have hr83 := someI gr197
                    refine wp_drawR [0, 1, 0, 7, 15, 31, 63, 127, 255, 127, 1023, 2047, 127, 4223, 16383, 32767, 65535, 131071, 131071, 393215, 131071, 1966079, 4063231, 8388607, 16777215, 33554431, 67108863, 33554431, 268435455, 536870911, 33554431, 1107296255, 33554431, 4328521727, 16139681791, 33319550975, 68719476735, 137438953471, 274877906943] [] 0 folM (by kernel_rfl) (by kernel_rfl) (by kernel_rfl) ?_
                    replace hst := hst.drew
                    refine DRz (l1 := [0, 1, 2, 3, 4, 5, 6, 7, 8, 9, 10, 11, 12, 13, 14, 15, 16, 17, 18, 19, 20, 21, 22, 23, 24, 25, 26, 27, 28, 29, 30, 31, 32, 33, 34, 35, 36, 37, 38]) (l2 := []) (by kernel_rfl) (by kernel_rfl) ?_
                    refine Ry rfl rfl wn (yFb FL_49_3 (et rfl e76_1)) ?_
                    refine Ry rfl rfl wn (yLb (u := h6.v) O_22 (et rfl rfl) hst mhR rfl) ?_
                    refine Ry rfl rfl wn (ym (v := .int .i64 x168) (et rfl e76_6)) ?_
                    refine Ry rfl rfl wn (yIa SL_22 (et rfl rfl) (et rfl rfl) hst (rdI q2) gx188) ?_
                    refine Ry rfl rfl wn (yI O_3 (et rfl rfl) hst (rdI q2) gx188) ?_
                    refine Ry rfl rfl wn (ylss (et rfl rfl) rfl) ?_
                    refine Ry rfl rfl wn (ym (v := .bool (decide (x188 < 0))) (et rfl rfl)) ?_
                    refine Ry rfl rfl (wg rfl rfl rfl (decide_eq_false c192)) (yFb FL_49_3 (et rfl e76_1)) ?_
                    refine Ry rfl rfl (wg rfl rfl rfl (decide_eq_false c192)) (yLb (u := h6.v) O_22 (et rfl rfl) hst mhR rfl) ?_
                    refine Ry rfl rfl (wg rfl rfl rfl (decide_eq_false c192)) (ym (v := .int .i64 x168) (et rfl e76_6)) ?_
                    refine Ry rfl rfl (wg rfl rfl rfl (decide_eq_false c192)) (yIa SL_22 (et rfl rfl) (et rfl rfl) hst (rdI q2) gx194) ?_
                    refine Ry rfl rfl (wg rfl rfl rfl (decide_eq_false c192)) (yI O_3 (et rfl rfl) hst (rdI q2) gx194) ?_
                    refine Ry rfl rfl (wg rfl rfl rfl (decide_eq_false c192)) (yFb FL_49_0 (et rfl e76_1)) ?_
                    refine Ry rfl rfl (wg rfl rfl rfl (decide_eq_false c192)) (yLb (u := .int .i64 x1) O_3 (et rfl rfl) hst mhR rfl) ?_
                    refine Ry rfl rfl (wg rfl rfl rfl (decide_eq_false c192)) (ygeq (et rfl rfl) (et rfl rfl)) ?_
                    refine Ry rfl rfl wn (ypf (v := .bool r189) (et rfl rfl) (decide_eq_false c192) (eqv hr80 (et rfl rfl))) ?_
                    refine Ry rfl rfl wn (ym (v := .bool r189) (et rfl rfl)) ?_
                    refine Ry rfl rfl (wg rfl rfl rfl (bfalse c195)) (ym (v := .int .i64 x168) (et rfl e76_6)) ?_
                    refine Ry rfl rfl (wg rfl rfl rfl (bfalse c195)) (yFb FL_49_2 (et rfl e76_1)) ?_
                    refine Ry rfl rfl (wg rfl rfl rfl (bfalse c195)) (yLb (u := h4.v) O_22 (et rfl rfl) hst mhR rfl) ?_
                    refine Ry rfl rfl (wg rfl rfl rfl (bfalse c195)) (ym (v := .int .i64 x94) (et rfl e76_5)) ?_
                    refine Ry rfl rfl (wg rfl rfl rfl (bfalse c195)) (yIa SL_22 (et rfl rfl) (et rfl rfl) hst (rdI q1) gx196) ?_
                    refine Ry rfl rfl (wg rfl rfl rfl (bfalse c195)) (yI O_3 (et rfl rfl) hst (rdI q1) gx196) ?_
                    refine Ry rfl rfl (wg rfl rfl rfl (bfalse c195)) (ygtr (et rfl rfl) (et rfl rfl)) ?_
                    refine Ry rfl rfl (wg rfl rfl rfl (bfalse c195)) (ym (v := .bool (decide (x196 < x168))) (et rfl rfl)) ?_
                    refine Ry rfl rfl (wg rfl rfl rfl (decide_eq_true c198)) (yFb FL_49_3 (et rfl e76_1)) ?_
                    refine Ry rfl rfl (wg rfl rfl rfl (decide_eq_true c198)) (yLb (u := h6.v) O_22 (et rfl rfl) hst mhR rfl) ?_
                    refine Ry rfl rfl (wg rfl rfl rfl (decide_eq_true c198)) (ym (v := .int .i64 x168) (et rfl e76_6)) ?_
                    refine Ry rfl rfl (wg rfl rfl rfl (decide_eq_true c198)) (yIa SL_22 (et rfl rfl) (et rfl rfl) hst (rdI q2) gx199) ?_
                    refine Ry rfl rfl (wg rfl rfl rfl (decide_eq_true c198)) (yI O_3 (et rfl rfl) hst (rdI q2) gx199) ?_
                    refine Ry rfl rfl (wg rfl rfl rfl (decide_eq_true c198)) (yFb FL_49_3 (et rfl e76_1)) ?_
                    refine Ry rfl rfl (wg rfl rfl rfl (decide_eq_true c198)) (yLb (u := h6.v) O_22 (et rfl rfl) hst mhR rfl) ?_
                    refine Ry rfl rfl (wg rfl rfl rfl (decide_eq_true c198)) (ym (v := .int .i64 x168) (et rfl e76_6)) ?_
                    refine Ry rfl rfl (wg rfl rfl rfl (decide_eq_true c198)) (ysub (et rfl rfl) rfl) ?_
                    refine Ry rfl rfl (wg rfl rfl rfl (decide_eq_true c198)) (yIa SL_22 (et rfl rfl) (et rfl rfl) hst (rdI q2) gx200) ?_
                    refine Ry rfl rfl (wg rfl rfl rfl (decide_eq_true c198)) (yI O_3 (et rfl rfl) hst (rdI q2) gx200) ?_
                    refine Ry rfl rfl (wg rfl rfl rfl (decide_eq_true c198)) (yleq (et rfl rfl) (et rfl rfl)) ?_
                    refine Ry rfl rfl (wg rfl rfl rfl (bfalse c195)) (ypt (v := .bool r197) (et rfl rfl) (decide_eq_true c198) (eqv hr83 (et rfl rfl))) ?_
                    refine Ry rfl rfl wn (ypf (v := .bool r190) (et rfl rfl) (bfalse c195) (eqv hr82 (et rfl rfl))) ?_
                    refine Rn QSn ?_
                    exact j77 _ _ ⟨e76_1, e76_5, e76_6, rfl, hst⟩
                  · have hr84 := someI gr197
                    refine wp_drawR [0, 1, 0, 7, 15, 31, 63, 127, 255, 127, 1023, 2047, 127, 4223, 16383, 32767, 65535, 131071, 131071, 393215, 131071, 1966079, 4063231, 8388607, 16777215, 33554431, 67108863, 33554431, 268435455, 536870911, 33554431, 1107296255, 33554431, 4328521727, 16139681791, 33319550975, 68719476735, 137438953471, 274877906943] [] 0 folM (by kernel_rfl) (by kernel_rfl) (by kernel_rfl) ?_
                    replace hst := hst.drew
                    refine DRz (l1 := [0, 1, 2, 3, 4, 5, 6, 7, 8, 9, 10, 11, 12, 13, 14, 15, 16, 17, 18, 19, 20, 21, 22, 23, 24, 25, 26, 27, 28, 29, 30, 31, 32, 33, 34, 35, 36, 37, 38]) (l2 := []) (by kernel_rfl) (by kernel_rfl) ?_
                    refine Ry rfl rfl wn (yFb FL_49_3 (et rfl e76_1)) ?_
                    refine Ry rfl rfl wn (yLb (u := h6.v) O_22 (et rfl rfl) hst mhR rfl) ?_
                    refine Ry rfl rfl wn (ym (v := .int .i64 x168) (et rfl e76_6)) ?_
                    refine Ry rfl rfl wn (yIa SL_22 (et rfl rfl) (et rfl rfl) hst (rdI q2) gx188) ?_
                    refine Ry rfl rfl wn (yI O_3 (et rfl rfl) hst (rdI q2) gx188) ?_
                    refine Ry rfl rfl wn (ylss (et rfl rfl) rfl) ?_
                    refine Ry rfl rfl wn (ym (v := .bool (decide (x188 < 0))) (et rfl rfl)) ?_
                    refine Ry rfl rfl (wg rfl rfl rfl (decide_eq_false c192)) (yFb FL_49_3 (et rfl e76_1)) ?_
                    refine Ry rfl rfl (wg rfl rfl rfl (decide_eq_false c192)) (yLb (u := h6.v) O_22 (et rfl rfl) hst mhR rfl) ?_
                    refine Ry rfl rfl (wg rfl rfl rfl (decide_eq_false c192)) (ym (v := .int .i64 x168) (et rfl e76_6)) ?_
                    refine Ry rfl rfl (wg rfl rfl rfl (decide_eq_false c192)) (yIa SL_22 (et rfl rfl) (et rfl rfl) hst (rdI q2) gx194) ?_
                    refine Ry rfl rfl (wg rfl rfl rfl (decide_eq_false c192)) (yI O_3 (et rfl rfl) hst (rdI q2) gx194) ?_
                    refine Ry rfl rfl (wg rfl rfl rfl (decide_eq_false c192)) (yFb FL_49_0 (et rfl e76_1)) ?_
                    refine Ry rfl rfl (wg rfl rfl rfl (decide_eq_false c192)) (yLb (u := .int .i64 x1) O_3 (et rfl rfl) hst mhR rfl) ?_
                    refine Ry rfl rfl (wg rfl rfl rfl (decide_eq_false c192)) (ygeq (et rfl rfl) (et rfl rfl)) ?_
                    refine Ry rfl rfl wn (ypf (v := .bool r189) (et rfl rfl) (decide_eq_false c192) (eqv hr80 (et rfl rfl))) ?_
                    refine Ry rfl rfl wn (ym (v := .bool r189) (et rfl rfl)) ?_
                    refine Ry rfl rfl (wg rfl rfl rfl (bfalse c195)) (ym (v := .int .i64 x168) (et rfl e76_6)) ?_
                    refine Ry rfl rfl (wg rfl rfl rfl (bfalse c195)) (yFb FL_49_2 (et rfl e76_1)) ?_
                    refine Ry rfl rfl (wg rfl rfl rfl (bfalse c195)) (yLb (u := h4.v) O_22 (et rfl rfl) hst mhR rfl) ?_
                    refine Ry rfl rfl (wg rfl rfl rfl (bfalse c195)) (ym (v := .int .i64 x94) (et rfl e76_5)) ?_
                    refine Ry rfl rfl (wg rfl rfl rfl (bfalse c195)) (yIa SL_22 (et rfl rfl) (et rfl rfl) hst (rdI q1) gx196) ?_
                    refine Ry rfl rfl (wg rfl rfl rfl (bfalse c195)) (yI O_3 (et rfl rfl) hst (rdI q1) gx196) ?_
                    refine Ry rfl rfl (wg rfl rfl rfl (bfalse c195)) (ygtr (et rfl rfl) (et rfl rfl)) ?_
                    refine Ry rfl rfl (wg rfl rfl rfl (bfalse c195)) (ym (v := .bool (decide (x196 < x168))) (et rfl rfl)) ?_
                    refine Rx rfl rfl (wx rfl rfl rfl (decide_eq_false c198)) ?_
                    refine Rx rfl rfl (wx rfl rfl rfl (decide_eq_false c198)) ?_
                    refine Rx rfl rfl (wx rfl rfl rfl (decide_eq_false c198)) ?_
                    refine Rx rfl rfl (wx rfl rfl rfl (decide_eq_false c198)) ?_
                    refine Rx rfl rfl (wx rfl rfl rfl (decide_eq_false c198)) ?_
                    refine Rx rfl rfl (wx rfl rfl rfl (decide_eq_false c198)) ?_
                    refine Rx rfl rfl (wx rfl rfl rfl (decide_eq_false c198)) ?_
                    refine Rx rfl rfl (wx rfl rfl rfl (decide_eq_false c198)) ?_
                    refine Rx rfl rfl (wx rfl rfl rfl (decide_eq_false c198)) ?_
                    refine Rx rfl rfl (wx rfl rfl rfl (decide_eq_false c198)) ?_
                    refine Rx rfl rfl (wx rfl rfl rfl (decide_eq_false c198)) ?_
                    refine Rx rfl rfl (wx rfl rfl rfl (decide_eq_false c198)) ?_
                    refine Ry rfl rfl (wg rfl rfl rfl (bfalse c195)) (ypf (v := .bool r197) (et rfl rfl) (decide_eq_false c198) (eqv hr84 rfl)) ?_
                    refine Ry rfl rfl wn (ypf (v := .bool r190) (et rfl rfl) (bfalse c195) (eqv hr82 (et rfl rfl))) ?_
                    refine Rn QSn ?_
                    exact j77 _ _ ⟨e76_1, e76_5, e76_6, rfl, hst⟩
            clear hst
            rintro f w ⟨e191_1, e191_5, e191_6, e191_142, hst⟩
            refine k101 _ _ ?_
            rcases iteS hM76 with ⟨c201, hM76⟩ | ⟨c201, hM76⟩
            · refine condT (et rfl e191_142) c201 ?_
              refine seqQ fun Q102 k102 z102 => ?_
              refine wp_region_lit ?_
              refine Y wn rfl (ya (v := .int .i64 1) rfl) ?_
              refine wpList_nil ?_
              refine k102 _ _ ?_
              refine wp_ret ?_
              refine qb100 _ _ _ ?_
              refine z99 _ _ _ rfl ?_
              obtain rfl := someI hM76
              refine zz76 _ _ _ _ rfl rfl ?_
              exact je76_1 _ _ rfl (hst.pk 1 [] rfl) (ho76 _ rfl)
            · refine condF (et rfl e191_142) (bfalse c201) ?_
              refine wp_skip ?_
              refine qb100 _ _ _ ?_
              refine k99 _ _ ?_
              refine wp_region_lit ?_
              refine Y wn rfl (ym (v := .int .i64 x168) (et rfl e191_6)) ?_
              refine Y wn rfl (yadd (et rfl rfl) rfl) ?_
              refine Y wn rfl (ya (v := .int .i64 (wa .i64 x168 1)) (et rfl rfl)) ?_
              refine wpList_nil ?_
              obtain rfl := someI hM76
              exact n76 _ _ _ rfl ⟨_, _, rfl, rfl, e191_1, e191_5, rfl, hst⟩
          · refine condF (et rfl rfl) (decide_eq_false c187) ?_
            refine wp_exit ?_
            refine z97 _ _ _ rfl ?_
            obtain rfl := someI hM76
            refine zz76 _ _ _ _ rfl rfl ?_
            exact je76_0 _ _ e76_1 e76_5 hst (ho76 _ rfl)
        · refine condF (et rfl rfl) (decide_eq_false c150) ?_
          refine wp_exit ?_
          refine z79 _ _ _ rfl ?_
          obtain rfl := someI hM59
          refine zz59 _ _ _ _ rfl rfl ?_
          exact je59_0 _ _ e59_1 hst (ho59 _ rfl)
      have je8_1 : ∀ (f : Nat → Value) (w : World), f 2 = .int .i64 1 → St w0 (ros) (rs) w → .inr () = o8 → Q11 .ret (fr 147 f) w := by
        intro f w eje8_1_2 hst ho
        subst ho
        refine qb11 _ _ _ ?_
        refine z9 _ _ _ rfl ?_
        obtain rfl := someI hM
        exact hQ _ _ _ (fin1r Try.results59 ⟨rfl, eje8_1_2⟩ ⟨rfl, hst⟩)
      refine loopQ (fun s a w => ∃ (x36 : Int) (f : Nat → Value), x36 = s ∧ a = fr 147 f ∧ f 1 = .pointer (some ⟨b9, 0, none⟩) ∧ f 4 = .int .i64 x36 ∧ St w0 (ros) (box b9 49 [.int .i64 x1, .int .i64 x2, h4.v, h6.v, h8.v] :: rs) w) go8 ⟨_, _, rfl, rfl, e28_1, rfl, hst⟩ ?_
      clear hst
      rintro _ _ w r8_ ⟨x36, f, rfl, rfl, e8_1, e8_4, hst⟩ hM8 ho8 Q100008 n8 zz8
      refine seqQ fun Q103 k103 z103 => ?_
      refine seqQ fun Q104 k104 z104 => ?_
      refine wp_region_lit ?_
      refine Y wn rfl (ym (v := .int .i64 x36) (et rfl e8_4)) ?_
      refine Y wn rfl (yFb FL_49_1 (et rfl e8_1)) ?_
      refine Y wn rfl (yLb (u := .int .i64 x2) O_3 (et rfl rfl) hst mhR rfl) ?_
      refine Y wn rfl (ylss (et rfl rfl) (et rfl rfl)) ?_
      refine wpList_nil ?_
      refine k104 _ _ ?_
      rcases iteS hM8 with ⟨c202, hM8⟩ | ⟨c202, hM8⟩
      · refine condT (et rfl rfl) (decide_eq_true c202) ?_
        refine wp_skip ?_
        refine k103 _ _ ?_
        refine seqQ fun Q105 k105 z105 => ?_
        refine blockQ fun Q106 qb106 => ?_
        refine seqQ fun Q107 k107 z107 => ?_
        obtain ⟨x203, gx203, hM8⟩ := bs hM8
        obtain ⟨x204, gx204, hM8⟩ := bs hM8
        refine wp_drawR [0, 1, 0, 7, 15, 0, 32, 0, 128, 480, 992, 2047] [] 0 folM (by kernel_rfl) (by kernel_rfl) (by kernel_rfl) ?_
        replace hst := hst.drew
        refine DRz (l1 := [0, 1, 2, 3, 4, 5, 6, 7, 8, 9, 10, 11]) (l2 := []) (by kernel_rfl) (by kernel_rfl) ?_
        refine Ry rfl rfl wn (yFb FL_49_2 (et rfl e8_1)) ?_
        refine Ry rfl rfl wn (yLb (u := h4.v) O_22 (et rfl rfl) hst mhR rfl) ?_
        refine Ry rfl rfl wn (ym (v := .int .i64 x36) (et rfl e8_4)) ?_
        refine Ry rfl rfl wn (yIa SL_22 (et rfl rfl) (et rfl rfl) hst (rdI q1) gx203) ?_
        refine Ry rfl rfl wn (yI O_3 (et rfl rfl) hst (rdI q1) gx203) ?_
        refine Ry rfl rfl wn (yFb FL_49_2 (et rfl e8_1)) ?_
        refine Ry rfl rfl wn (yLb (u := h4.v) O_22 (et rfl rfl) hst mhR rfl) ?_
        refine Ry rfl rfl wn (ym (v := .int .i64 x36) (et rfl e8_4)) ?_
        refine Ry rfl rfl wn (yadd (et rfl rfl) rfl) ?_
        refine Ry rfl rfl wn (yIa SL_22 (et rfl rfl) (et rfl rfl) hst (rdI q1) gx204) ?_
        refine Ry rfl rfl wn (yI O_3 (et rfl rfl) hst (rdI q1) gx204) ?_
        refine Ry rfl rfl wn (ygtr (et rfl rfl) (et rfl rfl)) ?_
        refine Rn QSn ?_
        refine k107 _ _ ?_
        rcases iteS hM8 with ⟨c205, hM8⟩ | ⟨c205, hM8⟩
        · refine condT (et rfl rfl) (decide_eq_true c205) ?_
          refine seqQ fun Q108 k108 z108 => ?_
          refine wp_region_lit ?_
          refine Y wn rfl (ya (v := .int .i64 1) rfl) ?_
          refine wpList_nil ?_
          refine k108 _ _ ?_
          refine wp_ret ?_
          refine qb106 _ _ _ ?_
          refine z105 _ _ _ rfl ?_
          obtain rfl := someI hM8
          refine zz8 _ _ _ _ rfl rfl ?_
          exact je8_1 _ _ rfl (hst.pk 1 [] rfl) (ho8 _ rfl)
        · refine condF (et rfl rfl) (decide_eq_false c205) ?_
          refine wp_skip ?_
          refine qb106 _ _ _ ?_
          refine k105 _ _ ?_
          refine wp_region_lit ?_
          refine Y wn rfl (ym (v := .int .i64 x36) (et rfl e8_4)) ?_
          refine Y wn rfl (yadd (et rfl rfl) rfl) ?_
          refine Y wn rfl (ya (v := .int .i64 (wa .i64 x36 1)) (et rfl rfl)) ?_
          refine wpList_nil ?_
          obtain rfl := someI hM8
          exact n8 _ _ _ rfl ⟨_, _, rfl, rfl, e8_1, rfl, hst⟩
      · refine condF (et rfl rfl) (decide_eq_false c202) ?_
        refine wp_exit ?_
        refine z103 _ _ _ rfl ?_
        obtain rfl := someI hM8
        refine zz8 _ _ _ _ rfl rfl ?_
        exact je8_0 _ _ e8_1 hst (ho8 _ rfl)

theorem sparseref09_Entries_ok {w0 : World} {ros : List Fact} {rs : List Res} {w : World} {x1 : Int} {x2 : Int} {x3 : List Int} {x5 : List Int} {x7 : List Int} {h4 : Hdr} {h6 : Hdr} {h8 : Hdr} {out : (List (Int × Int × Int))} (hM : sparseref09_Entries x1 x2 x3 x5 x7 = some out) (q1 : imm (rI .i64) h4.v x3 ∈ ros) (q2 : imm (rI .i64) h6.v x5 ∈ ros) (q3 : imm (rI .u64) h8.v x7 ∈ ros) (hst : St w0 ros (rs) w) :
    Calls Try.prog 60 #[.agg #[.int .i64 x1, .int .i64 x2, h4.v, h6.v, h8.v]] w (fun e w => ∃ (h100001 : Hdr), e = .returned (h100001.v) ∧ St w0 (ros) (row 76 rTi64i64u64 h100001.v out :: rs) w) := by
  refine enterQ Try.func60 rfl Try.ntmps60 rfl fun Q hQ => ?_
  refine seqQ fun Q1 k1 z1 => ?_
  refine wp_region_lit ?_
  refine YB wn rfl (r_box (vals := [.int .i64 x1, .int .i64 x2, h4.v, h6.v, h8.v]) hst (et rfl rfl) rfl) ?_
  clear hst
  intro b9 w hst
  refine Y wn rfl (ya (v := hnil.v) rfl) ?_
  refine wpList_nil ?_
  refine k1 _ _ ?_
  refine seqQ fun Q2 k2 z2 => ?_
  refine seqQ fun Q3 k3 z3 => ?_
  refine wp_region_lit ?_
  refine Y wn rfl (yLbs (us := [.int .i64 x1, .int .i64 x2, h4.v, h6.v, h8.v]) ST_49 (et rfl rfl) hst mhR rfl rfl) ?_
  obtain ⟨r10, gr10, hM⟩ := bs hM
  refine Yc wn rfl (yCall FN_59 (a1 (et rfl rfl))) (sparseref09_Check_ok (hM := gr10) (hst := hst) (q1 := q1) (q2 := q2) (q3 := q3)) ?_
  clear hst
  rintro _ w ⟨rfl, hst⟩
  refine ⟨_, rfl, ?_⟩
  refine Y wn rfl (yneq (et rfl rfl) rfl) ?_
  refine wpList_nil ?_
  refine k3 _ _ ?_
  rcases iteS hM with ⟨c11, hM⟩ | ⟨c11, hM⟩
  · refine condF (et rfl rfl) (nF (decide_eq_true c11)) ?_
    refine wp_skip ?_
    refine k2 _ _ ?_
    refine seqQ fun Q4 k4 z4 => ?_
    refine wp_region_lit ?_
    refine Y wn rfl (ya (v := hnil.v) rfl) ?_
    refine wpList_nil ?_
    refine k4 _ _ ?_
    refine seqQ fun Q5 k5 z5 => ?_
    refine seqQ fun Q6 k6 z6 => ?_
    refine wp_region_lit ?_
    refine Y wn rfl (ya (v := .int .i64 0) rfl) ?_
    refine wpList_nil ?_
    refine k6 _ _ ?_
    refine blockQ fun Q7 qb7 => ?_
    obtain ⟨o3, go3, hM⟩ := bs hM
    have je3_0 : ∀ (x81 : List (Int × Int × Int)) (h80 : Hdr) (f : Nat → Value) (w : World), f 3 = h80.v → St w0 (ros) (row 76 rTi64i64u64 h80.v x81 :: rs) w → x81 = o3 → Q7 (.exit 0) (fr 46 f) w := by
      intro x81 h80 f w eje3_0_3 hst ho
      subst ho
      refine qb7 _ _ _ ?_
      refine k5 _ _ ?_
      refine seqQ fun Q44 k44 z44 => ?_
      refine wp_region_lit ?_
      refine Y wn rfl (ym (v := h80.v) (et rfl eje3_0_3)) ?_
      refine Y wn rfl (ya (v := h80.v) (et rfl rfl)) ?_
      refine wpList_nil ?_
      refine k44 _ _ ?_
      refine wp_ret ?_
      obtain rfl := someI hM
      exact hQ _ _ _ (fin1r Try.results60 ⟨rfl, rfl⟩ ⟨_, rfl, hst⟩)
    replace hst := hst.rowNh 76 rTi64i64u64
    refine loopQ (fun s a w => ∃ (x44 : List (Int × Int × Int)) (x45 : Int) (f : Nat → Value) (h43 : Hdr), (x44, x45) = s ∧ a = fr 46 f ∧ f 1 = .pointer (some ⟨b9, 0, none⟩) ∧ f 3 = h43.v ∧ f 4 = .int .i64 x45 ∧ St w0 (ros) (box b9 49 [.int .i64 x1, .int .i64 x2, h4.v, h6.v, h8.v] :: row 76 rTi64i64u64 h43.v x44 :: rs) w) go3 ⟨_, _, _, _, rfl, rfl, rfl, rfl, rfl, (hst.pk 2 [1, 0] rfl)⟩ ?_
    clear hst
    rintro _ _ w r3_ ⟨x44, x45, f, h43, rfl, rfl, e3_1, e3_3, e3_4, hst⟩ hM3 ho3 Q100003 n3 zz3
    refine seqQ fun Q45 k45 z45 => ?_
    refine seqQ fun Q46 k46 z46 => ?_
    refine wp_region_lit ?_
    refine Y wn rfl (ym (v := .int .i64 x45) (et rfl e3_4)) ?_
    refine Y wn rfl (yFb FL_49_1 (et rfl e3_1)) ?_
    refine Y wn rfl (yLb (u := .int .i64 x2) O_3 (et rfl rfl) hst mhR rfl) ?_
    refine Y wn rfl (ylss (et rfl rfl) (et rfl rfl)) ?_
    refine wpList_nil ?_
    refine k46 _ _ ?_
    rcases iteS hM3 with ⟨c82, hM3⟩ | ⟨c82, hM3⟩
    · refine condT (et rfl rfl) (decide_eq_true c82) ?_
      refine wp_skip ?_
      refine k45 _ _ ?_
      refine seqQ fun Q47 k47 z47 => ?_
      refine blockQ fun Q48 qb48 => ?_
      refine seqQ fun Q49 k49 z49 => ?_
      refine wp_region_lit ?_
      refine Y wn rfl (yFb FL_49_2 (et rfl e3_1)) ?_
      refine Y wn rfl (yLb (u := h4.v) O_22 (et rfl rfl) hst mhR rfl) ?_
      refine Y wn rfl (ym (v := .int .i64 x45) (et rfl e3_4)) ?_
      obtain ⟨x83, gx83, hM3⟩ := bs hM3
      refine Y wn rfl (yIa SL_22 (et rfl rfl) (et rfl rfl) hst (rdI q1) gx83) ?_
      refine Y wn rfl (yI O_3 (et rfl rfl) hst (rdI q1) gx83) ?_
      refine Y wn rfl (ya (v := .int .i64 x83) (et rfl rfl)) ?_
      refine wpList_nil ?_
      refine k49 _ _ ?_
      refine blockQ fun Q50 qb50 => ?_
      obtain ⟨o4, go4, hM3⟩ := bs hM3
      have je4_0 : ∀ (x105 : List (Int × Int × Int)) (h104 : Hdr) (f : Nat → Value) (w : World), f 1 = .pointer (some ⟨b9, 0, none⟩) → f 3 = h104.v → f 4 = .int .i64 x45 → St w0 (ros) (box b9 49 [.int .i64 x1, .int .i64 x2, h4.v, h6.v, h8.v] :: row 76 rTi64i64u64 h104.v x105 :: rs) w → x105 = o4 → Q50 (.exit 2) (fr 46 f) w := by
        intro x105 h104 f w eje4_0_1 eje4_0_3 eje4_0_4 hst ho
        subst ho
        refine qb50 _ _ _ ?_
        refine qb48 _ _ _ ?_
        refine k47 _ _ ?_
        refine wp_region_lit ?_
        refine Y wn rfl (ym (v := .int .i64 x45) (et rfl eje4_0_4)) ?_
        refine Y wn rfl (yadd (et rfl rfl) rfl) ?_
        refine Y wn rfl (ya (v := .int .i64 (wa .i64 x45 1)) (et rfl rfl)) ?_
        refine wpList_nil ?_
        obtain rfl := someI hM3
        exact n3 _ _ _ rfl ⟨_, _, _, _, rfl, rfl, eje4_0_1, eje4_0_3, rfl, hst⟩
      refine loopQ (fun s a w => ∃ (x92 : List (Int × Int × Int)) (x93 : Int) (f : Nat → Value) (h91 : Hdr), (x92, x93) = s ∧ a = fr 46 f ∧ f 1 = .pointer (some ⟨b9, 0, none⟩) ∧ f 3 = h91.v ∧ f 4 = .int .i64 x45 ∧ f 5 = .int .i64 x93 ∧ St w0 (ros) (box b9 49 [.int .i64 x1, .int .i64 x2, h4.v, h6.v, h8.v] :: row 76 rTi64i64u64 h91.v x92 :: rs) w) go4 ⟨_, _, _, _, rfl, rfl, e3_1, e3_3, e3_4, rfl, hst⟩ ?_
      clear hst
      rintro _ _ w r4_ ⟨x92, x93, f, h91, rfl, rfl, e4_1, e4_3, e4_4, e4_5, hst⟩ hM4 ho4 Q100004 n4 zz4
      refine seqQ fun Q59 k59 z59 => ?_
      refine seqQ fun Q60 k60 z60 => ?_
      refine wp_region_lit ?_
      refine Y wn rfl (ym (v := .int .i64 x93) (et rfl e4_5)) ?_
      refine Y wn rfl (yFb FL_49_2 (et rfl e4_1)) ?_
      refine Y wn rfl (yLb (u := h4.v) O_22 (et rfl rfl) hst mhR rfl) ?_
      refine Y wn rfl (ym (v := .int .i64 x45) (et rfl e4_4)) ?_
      refine Y wn rfl (yadd (et rfl rfl) rfl) ?_
      obtain ⟨x106, gx106, hM4⟩ := bs hM4
      refine Y wn rfl (yIa SL_22 (et rfl rfl) (et rfl rfl) hst (rdI q1) gx106) ?_
      refine Y wn rfl (yI O_3 (et rfl rfl) hst (rdI q1) gx106) ?_
      refine Y wn rfl (ylss (et rfl rfl) (et rfl rfl)) ?_
      refine wpList_nil ?_
      refine k60 _ _ ?_
      rcases iteS hM4 with ⟨c107, hM4⟩ | ⟨c107, hM4⟩
      · refine condT (et rfl rfl) (decide_eq_true c107) ?_
        refine wp_skip ?_
        refine k59 _ _ ?_
        refine seqQ fun Q61 k61 z61 => ?_
        refine blockQ fun Q62 qb62 => ?_
        obtain ⟨x108, gx108, hM4⟩ := bs hM4
        obtain ⟨x109, gx109, hM4⟩ := bs hM4
        obtain ⟨x112, gx112, hM4⟩ := bs hM4
        refine wp_drawR [0, 0, 2, 0, 14, 30, 0, 0, 128, 0, 896, 1920, 4094, 8190, 16383, 32767] [13, 14, 15] 3 folM (by kernel_rfl) (by kernel_rfl) (by kernel_rfl) ?_
        replace hst := hst.drew
        refine DRn (l1 := [0, 1, 2, 3, 4, 5, 6, 7, 8, 9, 10, 11, 12]) (l2 := []) (lc := [13]) (by kernel_rfl) (by kernel_rfl) (by kernel_rfl) ?_
        refine Ry rfl rfl wn (ym (v := h91.v) (et rfl e4_3)) ?_
        refine Ry rfl rfl wn (yFb FL_49_3 (et rfl e4_1)) ?_
        refine Ry rfl rfl wn (yLb (u := h6.v) O_22 (et rfl rfl) hst mhR rfl) ?_
        refine Ry rfl rfl wn (ym (v := .int .i64 x93) (et rfl e4_5)) ?_
        refine Ry rfl rfl wn (yIa SL_22 (et rfl rfl) (et rfl rfl) hst (rdI q2) gx108) ?_
        refine Ry rfl rfl wn (yI O_3 (et rfl rfl) hst (rdI q2) gx108) ?_
        refine Ry rfl rfl wn (ym (v := .int .i64 x45) (et rfl e4_4)) ?_
        refine Ry rfl rfl wn (yFb FL_49_4 (et rfl e4_1)) ?_
        refine Ry rfl rfl wn (yLb (u := h8.v) O_47 (et rfl rfl) hst mhR rfl) ?_
        refine Ry rfl rfl wn (ym (v := .int .i64 x93) (et rfl e4_5)) ?_
        refine Ry rfl rfl wn (yIa SL_47 (et rfl rfl) (et rfl rfl) hst (rdI q3) gx109) ?_
        refine Ry rfl rfl wn (yI O_74 (et rfl rfl) hst (rdI q3) gx109) ?_
        refine Ry rfl rfl wn (ybuild (us := [.int .i64 x108, .int .i64 x45, .int .u64 x109]) [(0, .int .i64 x108), (1, .int .i64 x45), (2, .int .u64 x109)] SO_76 (bp3 (et rfl rfl) (et rfl rfl) (et rfl rfl)) rfl) ?_
        refine Rn QSn ?_
        refine Lc rfl ?_ LAn
        refine LH wn (rLt (n := 1) (l := [(x108, x45, x109)]) hst SL_71 [.agg #[.int .i64 x108, .int .i64 x45, .int .u64 x109]] (bp1 (et rfl rfl)) rfl rfl (mks1 (cs := [.int .i64 x108, .int .i64 x45, .int .u64 x109]) rfl (mkF rfl) mks0)) ?_
        clear hst
        intro h110 w hst
        refine DRn (l1 := []) (l2 := [0]) (lc := [14]) (by kernel_rfl) (by kernel_rfl) (by kernel_rfl) ?_
        refine Rn (Sy rfl rfl wn (ym (v := h91.v) (et rfl e4_3)) rfl QSn) ?_
        refine Lc rfl ?_ LAn
        replace hst := hst.pk 3 [2, 0, 0] rfl
        refine LH wn (rAp hst SL_71 (et rfl rfl) (et rfl rfl) (rdO (mtR mhR)) gx112) ?_
        clear hst
        intro h111 w hst
        refine DRn (l1 := []) (l2 := []) (lc := [15]) (by kernel_rfl) (by kernel_rfl) (by kernel_rfl) ?_
        refine Rn QSn ?_
        refine Lc rfl ?_ LAn
        refine Ly wn (ya (v := h111.v) (et rfl rfl)) ?_
        refine DRz (l1 := []) (l2 := []) (by kernel_rfl) (by kernel_rfl) ?_
        refine Rn QSn ?_
        refine qb62 _ _ _ ?_
        refine k61 _ _ ?_
        refine wp_region_lit ?_
        refine Y wn rfl (ym (v := .int .i64 x93) (et rfl e4_5)) ?_
        refine Y wn rfl (yadd (et rfl rfl) rfl) ?_
        refine Y wn rfl (ya (v := .int .i64 (wa .i64 x93 1)) (et rfl rfl)) ?_
        refine wpList_nil ?_
        obtain rfl := someI hM4
        exact n4 _ _ _ rfl ⟨_, _, _, _, rfl, rfl, e4_1, rfl, e4_4, rfl, (hst.pk 3 [2, 0] rfl)⟩
      · refine condF (et rfl rfl) (decide_eq_false c107) ?_
        refine wp_exit ?_
        refine z59 _ _ _ rfl ?_
        obtain rfl := someI hM4
        refine zz4 _ _ _ _ rfl rfl ?_
        exact je4_0 _ _ _ _ e4_1 e4_3 e4_4 hst (ho4 _ rfl)
    · refine condF (et rfl rfl) (decide_eq_false c82) ?_
      refine wp_exit ?_
      refine z45 _ _ _ rfl ?_
      obtain rfl := someI hM3
      refine zz3 _ _ _ _ rfl rfl ?_
      exact je3_0 _ _ _ _ e3_3 (hst.pk 2 [1] rfl) (ho3 _ rfl)
  · refine condT (et rfl rfl) (nT (decide_eq_false c11)) ?_
    refine seqQ fun Q63 k63 z63 => ?_
    refine wp_region_lit ?_
    refine Y wn rfl (ya (v := hnil.v) rfl) ?_
    refine wpList_nil ?_
    refine k63 _ _ ?_
    refine wp_ret ?_
    refine z2 _ _ _ rfl ?_
    obtain rfl := someI hM
    replace hst := hst.rowNh 76 rTi64i64u64
    exact hQ _ _ _ (fin1r Try.results60 ⟨rfl, rfl⟩ ⟨_, rfl, (hst.pk 2 [0] rfl)⟩)

theorem sparseref12_FromMatrix_ok {w0 : World} {ros : List Fact} {rs : List Res} {w : World} {x1 : Int} {x2 : Int} {x3 : List Int} {x5 : List Int} {x7 : List Int} {h4 : Hdr} {h6 : Hdr} {h8 : Hdr} {out : (List (List Int)) × Int} (hM : sparseref12_FromMatrix x1 x2 x3 x5 x7 = some out) (q1 : imm (rI .i64) h4.v x3 ∈ ros) (q2 : imm (rI .i64) h6.v x5 ∈ ros) (q3 : imm (rI .u64) h8.v x7 ∈ ros) (hst : St w0 ros (rs) w) :
    Calls Try.prog 33 #[.agg #[.int .i64 x1, .int .i64 x2, h4.v, h6.v, h8.v]] w (fun e w => ∃ (h100001 : Hdr), e = .returned (.tuple #[.agg #[h100001.v], .int .i64 out.2]) ∧ St w0 (ros) (row 22 (rS (rI .i64)) h100001.v out.1 :: rs) w) := by
  refine enterQ Try.func33 rfl Try.ntmps33 rfl fun Q hQ => ?_
  refine seqQ fun Q1 k1 z1 => ?_
  refine wp_region_lit ?_
  refine YB wn rfl (r_box (vals := [.int .i64 x1, .int .i64 x2, h4.v, h6.v, h8.v]) hst (et rfl rfl) rfl) ?_
  clear hst
  intro b9 w hst
  refine YB wn rfl (rAl hst ZT_27) ?_
  clear hst
  intro b10 w hst
  refine Y wn rfl (ya (v := .int .i64 0) rfl) ?_
  refine wpList_nil ?_
  refine k1 _ _ ?_
  refine seqQ fun Q2 k2 z2 => ?_
  refine seqQ fun Q3 k3 z3 => ?_
  refine wp_region_lit ?_
  refine Y wn rfl (yLbs (us := [.int .i64 x1, .int .i64 x2, h4.v, h6.v, h8.v]) ST_49 (et rfl rfl) hst (mtR mhR) rfl rfl) ?_
  obtain ⟨r11, gr11, hM⟩ := bs hM
  refine Yc wn rfl (yCall FN_59 (a1 (et rfl rfl))) (sparseref09_Check_ok (hM := gr11) (hst := hst) (q1 := q1) (q2 := q2) (q3 := q3)) ?_
  clear hst
  rintro _ w ⟨rfl, hst⟩
  refine ⟨_, rfl, ?_⟩
  refine Y wn rfl (ya (v := .int .i64 r11) (et rfl rfl)) ?_
  refine wpList_nil ?_
  refine k3 _ _ ?_
  refine seqQ fun Q4 k4 z4 => ?_
  refine wp_region_lit ?_
  refine Y wn rfl (ym (v := .int .i64 r11) (et rfl rfl)) ?_
  refine Y wn rfl (yneq (et rfl rfl) rfl) ?_
  refine wpList_nil ?_
  refine k4 _ _ ?_
  rcases iteS hM with ⟨c12, hM⟩ | ⟨c12, hM⟩
  · refine condF (et rfl rfl) (nF (decide_eq_true c12)) ?_
    refine wp_skip ?_
    refine k2 _ _ ?_
    refine seqQ fun Q5 k5 z5 => ?_
    refine seqQ fun Q6 k6 z6 => ?_
    refine wp_region_lit ?_
    refine Y wn rfl (yFb FL_49_0 (et rfl rfl)) ?_
    refine Y wn rfl (yLb (u := .int .i64 x1) O_3 (et rfl rfl) hst (mtR mhR) rfl) ?_
    refine Y wn rfl (yFb FL_49_1 (et rfl rfl)) ?_
    refine Y wn rfl (yLb (u := .int .i64 x2) O_3 (et rfl rfl) hst (mtR mhR) rfl) ?_
    refine Y wn rfl (yneq (et rfl rfl) (et rfl rfl)) ?_
    refine wpList_nil ?_
    refine k6 _ _ ?_
    rcases iteS hM with ⟨c13, hM⟩ | ⟨c13, hM⟩
    · refine condF (et rfl rfl) (nF (decide_eq_true c13)) ?_
      refine wp_skip ?_
      refine k5 _ _ ?_
      refine seqQ fun Q7 k7 z7 => ?_
      refine wp_region_lit ?_
      refine Y wn rfl (yFb FL_49_0 (et rfl rfl)) ?_
      refine Y wn rfl (yLb (u := .int .i64 x1) O_3 (et rfl rfl) hst (mtR mhR) rfl) ?_
      obtain ⟨r14, gr14, hM⟩ := bs hM
      refine Yc wn rfl (yCall FN_53 (a1 (et rfl rfl))) (sparseref12_empty_ok (hM := gr14) (hst := hst) ) ?_
      clear hst
      rintro _ w ⟨h15, y16, rfl, hst⟩
      refine ⟨_, rfl, ?_⟩
      refine Y wn rfl (ya (v := h15.v) (et rfl rfl)) ?_
      refine wpList_nil ?_
      refine k7 _ _ ?_
      refine seqQ fun Q8 k8 z8 => ?_
      refine wp_region_lit ?_
      refine Y wn rfl (yLbs (us := [.int .i64 x1, .int .i64 x2, h4.v, h6.v, h8.v]) ST_49 (et rfl rfl) hst (mtR (mtR (mtR mhR))) rfl rfl) ?_
      obtain ⟨r17, gr17, hM⟩ := bs hM
      refine Yc wn rfl (yCall FN_60 (a1 (et rfl rfl))) (sparseref09_Entries_ok (hM := gr17) (hst := hst) (q1 := q1) (q2 := q2) (q3 := q3)) ?_
      clear hst
      rintro _ w ⟨h18, rfl, hst⟩
      refine ⟨_, rfl, ?_⟩
      refine Y wn rfl (ya (v := h18.v) (et rfl rfl)) ?_
      refine wpList_nil ?_
      refine k8 _ _ ?_
      refine seqQ fun Q9 k9 z9 => ?_
      refine seqQ fun Q10 k10 z10 => ?_
      refine wp_region_lit ?_
      refine Y wn rfl (ya (v := .int .i64 0) rfl) ?_
      refine wpList_nil ?_
      refine k10 _ _ ?_
      refine blockQ fun Q11 qb11 => ?_
      obtain ⟨o1, go1, hM⟩ := bs hM
      have je1_0 : ∀ (x37 : List (List Bool)) (f : Nat → Value) (w : World), f 2 = .pointer (some ⟨b10, 0, none⟩) → f 5 = h15.v → St w0 (ros) (box b10 27 [hnil.v] :: row 54 rH h15.v y16 :: fam 4 rB y16 x37 :: rs) w → x37 = o1 → Q11 (.exit 0) (fr 47 f) w := by
        intro x37 f w eje1_0_2 eje1_0_5 hst ho
        subst ho
        refine qb11 _ _ _ ?_
        refine k9 _ _ ?_
        refine seqQ fun Q20 k20 z20 => ?_
        refine wp_region_lit ?_
        refine Y wn rfl (ym (v := h15.v) (et rfl eje1_0_5)) ?_
        obtain ⟨r38, gr38, hM⟩ := bs hM
        replace hst := hst.pk 3 [1, 1, 0] rfl
        replace hst := hst.ffz
        refine Yc wn rfl (yCall FN_36 (a1 (et rfl rfl))) (sparseref12_FromTable_ok (hM := gr38) (hst := hst) (q1 := mhF)) ?_
        clear hst
        rintro _ w ⟨h39, rfl, hst⟩
        refine ⟨_, rfl, ?_⟩
        replace hst := hst.pk 2 [1, 0] rfl
        refine YT wn rfl (r_stbn (vals' := [h39.v]) (us := [h39.v]) hst ST_27 (et rfl eje1_0_2) (et rfl rfl) rfl rfl (one_of rfl) rfl) ?_
        clear hst
        intro w hst
        refine Y wn rfl (ya (v := .int .i64 0) rfl) ?_
        refine wpList_nil ?_
        refine k20 _ _ ?_
        refine wp_ret ?_
        obtain rfl := someI hM
        exact hQ _ _ _ (fin2r Try.results33 (rcs2 rfl eje1_0_2 hst mhR ST_27 rfl) ⟨rfl, rfl⟩ ⟨_, rfl, ((hst.pk 2 [1] rfl).facts (allT allI))⟩)
      refine loopQ (fun s a w => ∃ (x26 : List (List Bool)) (x27 : Int) (f : Nat → Value), (x26, x27) = s ∧ a = fr 47 f ∧ f 2 = .pointer (some ⟨b10, 0, none⟩) ∧ f 5 = h15.v ∧ f 6 = h18.v ∧ f 7 = .int .i64 x27 ∧ St w0 (ros) (box b10 27 [hnil.v] :: row 54 rH h15.v y16 :: fam 4 rB y16 x26 :: row 76 rTi64i64u64 h18.v r17 :: rs) w) go1 ⟨_, _, _, rfl, rfl, rfl, rfl, rfl, rfl, (hst.pk 5 [3, 1, 1, 0] rfl)⟩ ?_
      clear hst
      rintro _ _ w r1_ ⟨x26, x27, f, rfl, rfl, e1_2, e1_5, e1_6, e1_7, hst⟩ hM1 ho1 Q100001 n1 zz1
      refine seqQ fun Q21 k21 z21 => ?_
      refine seqQ fun Q22 k22 z22 => ?_
      refine wp_region_lit ?_
      refine Y wn rfl (ym (v := .int .i64 x27) (et rfl e1_7)) ?_
      refine Y wn rfl (ym (v := h18.v) (et rfl e1_6)) ?_
      refine Y wn rfl (yLen SL_71 (et rfl rfl) hst (rdO (mtR (mtR (mtR mhR))))) ?_
      refine Y wn rfl (ylss (et rfl rfl) (et rfl rfl)) ?_
      refine wpList_nil ?_
      refine k22 _ _ ?_
      rcases iteS hM1 with ⟨c40, hM1⟩ | ⟨c40, hM1⟩
      · refine condT (et rfl rfl) (decide_eq_true c40) ?_
        refine wp_skip ?_
        refine k21 _ _ ?_
        refine seqQ fun Q23 k23 z23 => ?_
        refine blockQ fun Q24 qb24 => ?_
        obtain ⟨x41, gx41, hM1⟩ := bs hM1
        obtain ⟨x42, gx42, hM1⟩ := bs hM1
        obtain ⟨x44, gx44, hM1⟩ := bs hM1
        obtain ⟨x45, gx45, hM1⟩ := bs hM1
        obtain ⟨x46, gx46, hM1⟩ := bs hM1
        refine wp_drawR [0, 0, 0, 6, 14, 30, 63, 127, 0, 0, 768, 1792, 3840, 8191, 16383] [14] 1 folM (by kernel_rfl) (by kernel_rfl) (by kernel_rfl) ?_
        replace hst := hst.drew
        refine DRn (l1 := [0, 1, 2, 3, 4, 5, 6, 7, 8, 9, 10, 11, 12, 13]) (l2 := []) (lc := [14]) (by kernel_rfl) (by kernel_rfl) (by kernel_rfl) ?_
        refine Ry rfl rfl wn (ym (v := h15.v) (et rfl e1_5)) ?_
        refine Ry rfl rfl wn (ym (v := h18.v) (et rfl e1_6)) ?_
        refine Ry rfl rfl wn (ym (v := .int .i64 x27) (et rfl e1_7)) ?_
        refine Ry rfl rfl wn (yIa SL_71 (et rfl rfl) (et rfl rfl) hst (rdO (mtR (mtR (mtR mhR)))) gx41) ?_
        refine Ry rfl rfl wn (yFe FL_76_0 (et rfl rfl)) ?_
        refine Ry rfl rfl wn (yFf (u := .int .i64 x41.1) O_3 (et rfl rfl) hst (rdO (mtR (mtR (mtR mhR)))) gx41 rfl) ?_
        obtain ⟨h43, gh43⟩ := hst.famI (mtR (mtR mhR)) gx42
        refine Ry rfl rfl wn (yIa SLH_53 (et rfl rfl) (et rfl rfl) hst (rdO (mtR mhR)) gh43) ?_
        refine Ry rfl rfl wn (yF1 O_54 (et rfl rfl) hst (rdO (mtR mhR)) gh43 rfl) ?_
        refine Ry rfl rfl wn (ym (v := h18.v) (et rfl e1_6)) ?_
        refine Ry rfl rfl wn (ym (v := .int .i64 x27) (et rfl e1_7)) ?_
        refine Ry rfl rfl wn (yIa SL_71 (et rfl rfl) (et rfl rfl) hst (rdO (mtR (mtR (mtR mhR)))) gx44) ?_
        refine Ry rfl rfl wn (yFe FL_76_1 (et rfl rfl)) ?_
        refine Ry rfl rfl wn (yFf (u := .int .i64 x44.2.1) O_3 (et rfl rfl) hst (rdO (mtR (mtR (mtR mhR)))) gx44 rfl) ?_
        refine Ry rfl rfl wn (yIs SL_54 (et rfl rfl) (et rfl rfl) hst (rdF (mtR (mtR mhR)) gh43 gx42) gx45) ?_
        refine Rn QSn ?_
        refine Lc rfl ?_ LAn
        replace hst := hst.pk 3 [2, 0, 0] rfl
        refine LT wn (r_sti (cs := [.bool true]) (hst.foc gh43 gx42) O_4 rfl (et rfl rfl) rfl rfl mkB gx45) ?_
        clear hst
        intro w hst
        replace hst := hst.unfoc' gh43 gx46
        refine DRz (l1 := []) (l2 := []) (by kernel_rfl) (by kernel_rfl) ?_
        refine Rn QSn ?_
        refine qb24 _ _ _ ?_
        refine k23 _ _ ?_
        refine wp_region_lit ?_
        refine Y wn rfl (ym (v := .int .i64 x27) (et rfl e1_7)) ?_
        refine Y wn rfl (yadd (et rfl rfl) rfl) ?_
        refine Y wn rfl (ya (v := .int .i64 (wa .i64 x27 1)) (et rfl rfl)) ?_
        refine wpList_nil ?_
        obtain rfl := someI hM1
        exact n1 _ _ _ rfl ⟨_, _, _, rfl, rfl, e1_2, e1_5, e1_6, rfl, (hst.pk 4 [1, 1, 0, 0] rfl)⟩
      · refine condF (et rfl rfl) (decide_eq_false c40) ?_
        refine wp_exit ?_
        refine z21 _ _ _ rfl ?_
        obtain rfl := someI hM1
        refine zz1 _ _ _ _ rfl rfl ?_
        exact je1_0 _ _ _ e1_2 e1_5 (hst.pk 4 [0, 0, 0] rfl) (ho1 _ rfl)
    · refine condT (et rfl rfl) (nT (decide_eq_false c13)) ?_
      refine seqQ fun Q25 k25 z25 => ?_
      refine wp_region_lit ?_
      refine Y wn rfl (ybuild (us := [hnil.v]) [] SO_27 bp0 rfl) ?_
      refine YT wn rfl (r_stbn (vals' := [hnil.v]) (us := [hnil.v]) hst ST_27 (et rfl rfl) (et rfl rfl) rfl rfl (one_of rfl) rfl) ?_
      clear hst
      intro w hst
      refine Y wn rfl (ya (v := .int .i64 5) rfl) ?_
      refine wpList_nil ?_
      refine k25 _ _ ?_
      refine wp_ret ?_
      refine z5 _ _ _ rfl ?_
      obtain rfl := someI hM
      replace hst := hst.rowNh 22 (rS (rI .i64))
      exact hQ _ _ _ (fin2r Try.results33 (rcs2 rfl rfl hst (mtR mhR) ST_27 rfl) ⟨rfl, rfl⟩ ⟨_, rfl, (hst.pk 3 [0] rfl)⟩)
  · refine condT (et rfl rfl) (nT (decide_eq_false c12)) ?_
    refine seqQ fun Q26 k26 z26 => ?_
    refine wp_region_lit ?_
    refine Y wn rfl (ybuild (us := [hnil.v]) [] SO_27 bp0 rfl) ?_
    refine Y wn rfl (ym (v := .int .i64 r11) (et rfl rfl)) ?_
    refine YT wn rfl (r_stbn (vals' := [hnil.v]) (us := [hnil.v]) hst ST_27 (et rfl rfl) (et rfl rfl) rfl rfl (one_of rfl) rfl) ?_
    clear hst
    intro w hst
    refine Y wn rfl (ya (v := .int .i64 r11) (et rfl rfl)) ?_
    refine wpList_nil ?_
    refine k26 _ _ ?_
    refine wp_ret ?_
    refine z2 _ _ _ rfl ?_
    obtain rfl := someI hM
    replace hst := hst.rowNh 22 (rS (rI .i64))
    exact hQ _ _ _ (fin2r Try.results33 (rcs2 rfl rfl hst (mtR mhR) ST_27 rfl) ⟨rfl, rfl⟩ ⟨_, rfl, (hst.pk 3 [0] rfl)⟩)

theorem graph_FromNormal_ok {w0 : World} {ros : List Fact} {rs : List Res} {w : World} {x1 : Int} {x2 : Int} {x3 : List Int} {x5 : List Int} {x7 : List Int} {h4 : Hdr} {h6 : Hdr} {h8 : Hdr} {out : (List (List Int)) × Int} (hM : graph_FromNormal x1 x2 x3 x5 x7 = some out) (q1 : imm (rI .i64) h4.v x3 ∈ ros) (q2 : imm (rI .i64) h6.v x5 ∈ ros) (q3 : imm (rI .u64) h8.v x7 ∈ ros) (hst : St w0 ros (rs) w) :
    Calls Try.prog 34 #[.agg #[.int .i64 x1, .int .i64 x2, h4.v, h6.v, h8.v]] w (fun e w => ∃ (h100001 : Hdr), e = .returned (.tuple #[.agg #[h100001.v], .int .i64 out.2]) ∧ St w0 (ros) (row 22 (rS (rI .i64)) h100001.v out.1 :: rs) w) := by
  refine enterQ Try.func34 rfl Try.ntmps34 rfl fun Q hQ => ?_
  refine seqQ fun Q1 k1 z1 => ?_
  refine wp_region_lit ?_
  refine YB wn rfl (r_box (vals := [.int .i64 x1, .int .i64 x2, h4.v, h6.v, h8.v]) hst (et rfl rfl) rfl) ?_
  clear hst
  intro b9 w hst
  refine YB wn rfl (rAl hst ZT_27) ?_
  clear hst
  intro b10 w hst
  refine Y wn rfl (ya (v := .int .i64 0) rfl) ?_
  refine wpList_nil ?_
  refine k1 _ _ ?_
  refine seqQ fun Q2 k2 z2 => ?_
  refine wp_region_lit ?_
  refine Y wn rfl (yLbs (us := [.int .i64 x1, .int .i64 x2, h4.v, h6.v, h8.v]) ST_49 (et rfl rfl) hst (mtR mhR) rfl rfl) ?_
  obtain ⟨r11, gr11, hM⟩ := bs hM
  refine Yc wn rfl (yCall FN_54 (a1 (et rfl rfl))) (matrix_Check_ok (hM := gr11) (hst := hst) (q1 := q1) (q2 := q2) (q3 := q3)) ?_
  clear hst
  rintro _ w ⟨rfl, hst⟩
  refine ⟨_, rfl, ?_⟩
  refine Y wn rfl (ya (v := .int .i64 r11) (et rfl rfl)) ?_
  refine wpList_nil ?_
  refine k2 _ _ ?_
  refine seqQ fun Q3 k3 z3 => ?_
  refine seqQ fun Q4 k4 z4 => ?_
  refine wp_region_lit ?_
  refine Y wn rfl (ym (v := .int .i64 r11) (et rfl rfl)) ?_
  refine Y wn rfl (yneq (et rfl rfl) rfl) ?_
  refine wpList_nil ?_
  refine k4 _ _ ?_
  rcases iteS hM with ⟨c12, hM⟩ | ⟨c12, hM⟩
  · refine condF (et rfl rfl) (nF (decide_eq_true c12)) ?_
    refine wp_skip ?_
    refine k3 _ _ ?_
    refine seqQ fun Q5 k5 z5 => ?_
    refine wp_region_lit ?_
    refine Y wn rfl (yFb FL_49_0 (et rfl rfl)) ?_
    refine Y wn rfl (yLb (u := .int .i64 x1) O_3 (et rfl rfl) hst (mtR mhR) rfl) ?_
    obtain ⟨x15, gx15, hM⟩ := bs hM
    obtain ⟨m14, em14, gm14⟩ := mkL_rep gx15 hnil
    refine YH wn rfl (rMk hst SLH_25 (et rfl rfl) gm14) ?_
    clear hst
    intro h13 w hst
    replace hst := (hst.fReps 3 (rI .i64) m14).pk 2 [1, 0] rfl
    rw [← em14] at hst
    refine Y wn rfl (ya (v := h13.v) (et rfl rfl)) ?_
    refine wpList_nil ?_
    refine k5 _ _ ?_
    refine seqQ fun Q6 k6 z6 => ?_
    refine seqQ fun Q7 k7 z7 => ?_
    refine wp_region_lit ?_
    refine Y wn rfl (yLbs (us := [.int .i64 x1, .int .i64 x2, h4.v, h6.v, h8.v]) ST_49 (et rfl rfl) hst (mtR (mtR (mtR mhR))) rfl rfl) ?_
    obtain ⟨r16, gr16, hM⟩ := bs hM
    refine Yc wn rfl (yCall FN_56 (a1 (et rfl rfl))) (matrix_Entries_ok (hM := gr16) (hst := hst) (q1 := q1) (q2 := q2) (q3 := q3)) ?_
    clear hst
    rintro _ w ⟨h17, rfl, hst⟩
    refine ⟨_, rfl, ?_⟩
    refine Y wn rfl (yLen SL_71 (et rfl rfl) hst (rdO mhR)) ?_
    refine Y wn rfl (ym (v := .int .i64 0) rfl) ?_
    refine wpList_nil ?_
    refine k7 _ _ ?_
    refine blockQ fun Q8 qb8 => ?_
    obtain ⟨o1, go1, hM⟩ := bs hM
    have je1_0 : ∀ (x45 : List (List Int)) (y44 : List Hdr) (f : Nat → Value) (w : World), f 1 = .pointer (some ⟨b9, 0, none⟩) → f 2 = .pointer (some ⟨b10, 0, none⟩) → f 5 = h13.v → St w0 (ros) (box b9 49 [.int .i64 x1, .int .i64 x2, h4.v, h6.v, h8.v] :: box b10 27 [hnil.v] :: row 22 rH h13.v y44 :: fam 3 (rI .i64) y44 x45 :: rs) w → x45 = o1 → Q8 (.exit 0) (fr 78 f) w := by
      intro x45 y44 f w eje1_0_1 eje1_0_2 eje1_0_5 hst ho
      subst ho
      refine qb8 _ _ _ ?_
      refine k6 _ _ ?_
      refine seqQ fun Q19 k19 z19 => ?_
      refine wp_region_lit ?_
      refine Y wn rfl (yFb FL_49_1 (et rfl eje1_0_1)) ?_
      refine Y wn rfl (yLb (u := .int .i64 x2) O_3 (et rfl rfl) hst mhR rfl) ?_
      obtain ⟨r46, gr46, hM⟩ := bs hM
      refine Yc wn rfl (yCall FN_55 (a1 (et rfl rfl))) (graph_NewSets_ok (hM := gr46) (hst := hst) ) ?_
      clear hst
      rintro _ w ⟨h47, y48, rfl, hst⟩
      refine ⟨_, rfl, ?_⟩
      refine Y wn rfl (ya (v := h47.v) (et rfl rfl)) ?_
      refine wpList_nil ?_
      refine k19 _ _ ?_
      refine seqQ fun Q20 k20 z20 => ?_
      refine seqQ fun Q21 k21 z21 => ?_
      refine wp_region_lit ?_
      refine Y wn rfl (ym (v := h13.v) (et rfl eje1_0_5)) ?_
      refine Y wn rfl (yLenF SLH_25 (et rfl rfl) hst (rdO (mtR (mtR (mtR (mtR mhR))))) (mtR (mtR (mtR (mtR (mtR mhR)))))) ?_
      refine Y wn rfl (ym (v := .int .i64 0) rfl) ?_
      refine wpList_nil ?_
      refine k21 _ _ ?_
      refine blockQ fun Q22 qb22 => ?_
      replace hst := hst.pk 6 [4, 4, 0, 0, 0, 0] rfl
      replace hst := hst.ffz
      obtain ⟨o10, go10, hM⟩ := bs hM
      have je10_0 : ∀ (x171 : List (List Bool)) (f : Nat → Value) (w : World), f 2 = .pointer (some ⟨b10, 0, none⟩) → f 8 = h47.v → St w0 (ros) (box b10 27 [hnil.v] :: row 54 rH h47.v y48 :: fam 4 rB y48 x171 :: rs) w → x171 = o10 → Q22 (.exit 2) (fr 78 f) w := by
        intro x171 f w eje10_0_2 eje10_0_8 hst ho
        subst ho
        refine qb22 _ _ _ ?_
        refine k20 _ _ ?_
        refine seqQ fun Q169 k169 z169 => ?_
        refine wp_region_lit ?_
        refine Y wn rfl (ym (v := h47.v) (et rfl eje10_0_8)) ?_
        obtain ⟨r172, gr172, hM⟩ := bs hM
        replace hst := hst.pk 3 [1, 1, 0] rfl
        replace hst := hst.ffz
        refine Yc wn rfl (yCall FN_58 (a1 (et rfl rfl))) (graph_Sets_Graph_ok (hM := gr172) (hst := hst) (q1 := mhF)) ?_
        clear hst
        rintro _ w ⟨h173, rfl, hst⟩
        refine ⟨_, rfl, ?_⟩
        replace hst := hst.pk 2 [1, 0] rfl
        refine YT wn rfl (r_stbn (vals' := [h173.v]) (us := [h173.v]) hst ST_27 (et rfl eje10_0_2) (et rfl rfl) rfl rfl (one_of rfl) rfl) ?_
        clear hst
        intro w hst
        refine Y wn rfl (ya (v := .int .i64 0) rfl) ?_
        refine wpList_nil ?_
        refine k169 _ _ ?_
        refine wp_ret ?_
        obtain rfl := someI hM
        exact hQ _ _ _ (fin2r Try.results34 (rcs2 rfl eje10_0_2 hst mhR ST_27 rfl) ⟨rfl, rfl⟩ ⟨_, rfl, ((hst.pk 2 [1] rfl).facts (allT allI))⟩)
      refine loopQ (fun s a w => ∃ (x108 : List (List Bool)) (x109 : Int) (f : Nat → Value), (x108, x109) = s ∧ a = fr 78 f ∧ f 2 = .pointer (some ⟨b10, 0, none⟩) ∧ f 8 = h47.v ∧ f 48 = h13.v ∧ f 49 = .int .i64 (x45.length : Int) ∧ f 50 = .int .i64 x109 ∧ St w0 (imm (rS (rI .i64)) h13.v x45 :: ros) (box b10 27 [hnil.v] :: row 54 rH h47.v y48 :: fam 4 rB y48 x108 :: rs) w) go10 ⟨_, _, _, rfl, rfl, eje1_0_2, rfl, rfl, rfl, rfl, (hst.pk 4 [3, 0, 0] rfl)⟩ ?_
      clear hst
      rintro _ _ w r10_ ⟨x108, x109, f, rfl, rfl, e10_2, e10_8, e10_48, e10_49, e10_50, hst⟩ hM10 ho10 Q100010 n10 zz10
      refine seqQ fun Q170 k170 z170 => ?_
      refine wp_region_lit ?_
      refine Y wn rfl (ylss (et rfl e10_50) (et rfl e10_49)) ?_
      refine wpList_nil ?_
      refine k170 _ _ ?_
      refine seqQ fun Q171 k171 z171 => ?_
      rcases iteS hM10 with ⟨c174, hM10⟩ | ⟨c174, hM10⟩
      · refine condT (et rfl rfl) (decide_eq_true c174) ?_
        refine wp_skip ?_
        refine k171 _ _ ?_
        refine seqQ fun Q172 k172 z172 => ?_
        refine blockQ fun Q173 qb173 => ?_
        refine seqQ fun Q174 k174 z174 => ?_
        refine wp_region_lit ?_
        obtain ⟨x175, gx175, hM10⟩ := bs hM10
        refine Y wn rfl (yIa SL_25 (et rfl e10_48) (et rfl e10_50) hst (rdI mhF) gx175) ?_
        obtain ⟨h176, hst⟩ := iLs hst mhF gx175
        refine Y wn rfl (yCt O_22 (et rfl rfl) hst (mtF mhF) rfl) ?_
        refine Y wn rfl (ya (v := h176.v) (et rfl rfl)) ?_
        refine wpList_nil ?_
        refine k174 _ _ ?_
        refine seqQ fun Q175 k175 z175 => ?_
        refine wp_region_lit ?_
        refine Y wn rfl (ym (v := h176.v) (et rfl rfl)) ?_
        refine Y wn rfl (yLen SL_22 (et rfl rfl) hst (rdI mhF)) ?_
        refine Y wn rfl (ym (v := .int .i64 0) rfl) ?_
        refine wpList_nil ?_
        refine k175 _ _ ?_
        refine blockQ fun Q176 qb176 => ?_
        obtain ⟨o13, go13, hM10⟩ := bs hM10
        have je13_0 : ∀ (x215 : List (List Bool)) (f : Nat → Value) (w : World), f 2 = .pointer (some ⟨b10, 0, none⟩) → f 8 = h47.v → f 48 = h13.v → f 49 = .int .i64 (x45.length : Int) → f 50 = .int .i64 x109 → St w0 (imm (rS (rI .i64)) h13.v x45 :: ros) (box b10 27 [hnil.v] :: row 54 rH h47.v y48 :: fam 4 rB y48 x215 :: rs) w → x215 = o13 → Q176 (.exit 4) (fr 78 f) w := by
          intro x215 f w eje13_0_2 eje13_0_8 eje13_0_48 eje13_0_49 eje13_0_50 hst ho
          subst ho
          refine qb176 _ _ _ ?_
          refine qb173 _ _ _ ?_
          refine k172 _ _ ?_
          refine wp_region_lit ?_
          refine Y wn rfl (yadd (et rfl eje13_0_50) rfl) ?_
          refine Y wn rfl (ym (v := .int .i64 (wa .i64 x109 1)) (et rfl rfl)) ?_
          refine wpList_nil ?_
          obtain rfl := someI hM10
          exact n10 _ _ _ rfl ⟨_, _, _, rfl, rfl, eje13_0_2, eje13_0_8, eje13_0_48, eje13_0_49, rfl, hst⟩
        refine loopQ (fun s a w => ∃ (x194 : List (List Bool)) (x195 : Int) (f : Nat → Value), (x194, x195) = s ∧ a = fr 78 f ∧ f 2 = .pointer (some ⟨b10, 0, none⟩) ∧ f 8 = h47.v ∧ f 10 = h176.v ∧ f 48 = h13.v ∧ f 49 = .int .i64 (x45.length : Int) ∧ f 50 = .int .i64 x109 ∧ f 54 = h176.v ∧ f 55 = .int .i64 (x175.length : Int) ∧ f 56 = .int .i64 x195 ∧ St w0 (imm (rI .i64) h176.v x175 :: imm (rS (rI .i64)) h13.v x45 :: ros) (box b10 27 [hnil.v] :: row 54 rH h47.v y48 :: fam 4 rB y48 x194 :: rs) w) go13 ⟨_, _, _, rfl, rfl, e10_2, e10_8, rfl, e10_48, e10_49, e10_50, rfl, rfl, rfl, (hst.facts (allC mhF (allC (mtF (mtF mhF)) (allT (allT (allT allI))))))⟩ ?_
        clear hst
        rintro _ _ w r13_ ⟨x194, x195, f, rfl, rfl, e13_2, e13_8, e13_10, e13_48, e13_49, e13_50, e13_54, e13_55, e13_56, hst⟩ hM13 ho13 Q100013 n13 zz13
        refine seqQ fun Q221 k221 z221 => ?_
        refine wp_region_lit ?_
        refine Y wn rfl (ylss (et rfl e13_56) (et rfl e13_55)) ?_
        refine wpList_nil ?_
        refine k221 _ _ ?_
        refine seqQ fun Q222 k222 z222 => ?_
        rcases iteS hM13 with ⟨c216, hM13⟩ | ⟨c216, hM13⟩
        · refine condT (et rfl rfl) (decide_eq_true c216) ?_
          refine wp_skip ?_
          refine k222 _ _ ?_
          refine seqQ fun Q223 k223 z223 => ?_
          refine blockQ fun Q224 qb224 => ?_
          refine seqQ fun Q225 k225 z225 => ?_
          refine wp_region_lit ?_
          refine Y wn rfl (ym (v := .int .i64 x195) (et rfl e13_56)) ?_
          obtain ⟨x217, gx217, hM13⟩ := bs hM13
          refine Y wn rfl (yIa SL_22 (et rfl e13_54) (et rfl e13_56) hst (rdI mhF) gx217) ?_
          refine Y wn rfl (yI O_3 (et rfl rfl) hst (rdI mhF) gx217) ?_
          refine Y wn rfl (ya (v := .int .i64 x195) (et rfl rfl)) ?_
          refine Y wn rfl (ya (v := .int .i64 x217) (et rfl rfl)) ?_
          refine wpList_nil ?_
          refine k225 _ _ ?_
          refine seqQ fun Q226 k226 z226 => ?_
          refine wp_region_lit ?_
          refine Y wn rfl (ym (v := h176.v) (et rfl e13_10)) ?_
          refine Y wn rfl (ym (v := .int .i64 x195) (et rfl rfl)) ?_
          obtain ⟨x218, gx218, hM13⟩ := bs hM13
          refine Y wn rfl (ySl (k1 := .i64) SL_22 (et rfl rfl) hst (rdI mhF) (.inr ⟨rfl, rfl⟩) (.inl (congrArg some (et rfl rfl))) gx218) ?_
          replace hst := hst.sub mhF gx218
          refine Y wn rfl (yLen SL_22 (et rfl rfl) hst (rdI mhF)) ?_
          refine Y wn rfl (ym (v := .int .i64 0) rfl) ?_
          refine wpList_nil ?_
          refine k226 _ _ ?_
          refine blockQ fun Q227 qb227 => ?_
          obtain ⟨o14, go14, hM13⟩ := bs hM13
          have je14_0 : ∀ (x229 : List (List Bool)) (f : Nat → Value) (w : World), f 2 = .pointer (some ⟨b10, 0, none⟩) → f 8 = h47.v → f 10 = h176.v → f 48 = h13.v → f 49 = .int .i64 (x45.length : Int) → f 50 = .int .i64 x109 → f 54 = h176.v → f 55 = .int .i64 (x175.length : Int) → f 56 = .int .i64 x195 → St w0 (imm (rI .i64) h176.v x175 :: imm (rS (rI .i64)) h13.v x45 :: ros) (box b10 27 [hnil.v] :: row 54 rH h47.v y48 :: fam 4 rB y48 x229 :: rs) w → x229 = o14 → Q227 (.exit 6) (fr 78 f) w := by
            intro x229 f w eje14_0_2 eje14_0_8 eje14_0_10 eje14_0_48 eje14_0_49 eje14_0_50 eje14_0_54 eje14_0_55 eje14_0_56 hst ho
            subst ho
            refine qb227 _ _ _ ?_
            refine qb224 _ _ _ ?_
            refine k223 _ _ ?_
            refine wp_region_lit ?_
            refine Y wn rfl (yadd (et rfl eje14_0_56) rfl) ?_
            refine Y wn rfl (ym (v := .int .i64 (wa .i64 x195 1)) (et rfl rfl)) ?_
            refine wpList_nil ?_
            obtain rfl := someI hM13
            exact n13 _ _ _ rfl ⟨_, _, _, rfl, rfl, eje14_0_2, eje14_0_8, eje14_0_10, eje14_0_48, eje14_0_49, eje14_0_50, eje14_0_54, eje14_0_55, rfl, hst⟩
          refine loopQ (fun s a w => ∃ (x222 : List (List Bool)) (x223 : Int) (f : Nat → Value), (x222, x223) = s ∧ a = fr 78 f ∧ f 2 = .pointer (some ⟨b10, 0, none⟩) ∧ f 8 = h47.v ∧ f 10 = h176.v ∧ f 12 = .int .i64 x217 ∧ f 48 = h13.v ∧ f 49 = .int .i64 (x45.length : Int) ∧ f 50 = .int .i64 x109 ∧ f 54 = h176.v ∧ f 55 = .int .i64 (x175.length : Int) ∧ f 56 = .int .i64 x195 ∧ f 63 = (subH h176 1 0 x195).v ∧ f 64 = .int .i64 (x218.length : Int) ∧ f 65 = .int .i64 x223 ∧ St w0 (imm (rI .i64) h176.v x175 :: imm (rS (rI .i64)) h13.v x45 :: imm (rI .i64) (subH h176 1 0 x195).v x218 :: ros) (box b10 27 [hnil.v] :: row 54 rH h47.v y48 :: fam 4 rB y48 x222 :: rs) w) go14 ⟨_, _, _, rfl, rfl, e13_2, e13_8, e13_10, rfl, e13_48, e13_49, e13_50, e13_54, e13_55, e13_56, rfl, rfl, rfl, (hst.facts (allC (mtF mhF) (allC (mtF (mtF mhF)) (allC mhF (allT (allT (allT allI)))))))⟩ ?_
          clear hst
          rintro _ _ w r14_ ⟨x222, x223, f, rfl, rfl, e14_2, e14_8, e14_10, e14_12, e14_48, e14_49, e14_50, e14_54, e14_55, e14_56, e14_63, e14_64, e14_65, hst⟩ hM14 ho14 Q100014 n14 zz14
          refine seqQ fun Q238 k238 z238 => ?_
          refine wp_region_lit ?_
          refine Y wn rfl (ylss (et rfl e14_65) (et rfl e14_64)) ?_
          refine wpList_nil ?_
          refine k238 _ _ ?_
          refine seqQ fun Q239 k239 z239 => ?_
          rcases iteS hM14 with ⟨c230, hM14⟩ | ⟨c230, hM14⟩
          · refine condT (et rfl rfl) (decide_eq_true c230) ?_
            refine wp_skip ?_
            refine k239 _ _ ?_
            refine seqQ fun Q240 k240 z240 => ?_
            refine blockQ fun Q241 qb241 => ?_
            refine seqQ fun Q242 k242 z242 => ?_
            refine wp_region_lit ?_
            obtain ⟨x231, gx231, hM14⟩ := bs hM14
            refine Y wn rfl (yIa SL_22 (et rfl e14_63) (et rfl e14_65) hst (rdI (mtF (mtF mhF))) gx231) ?_
            refine Y wn rfl (yI O_3 (et rfl rfl) hst (rdI (mtF (mtF mhF))) gx231) ?_
            refine Y wn rfl (ya (v := .int .i64 x231) (et rfl rfl)) ?_
            refine wpList_nil ?_
            refine k242 _ _ ?_
            refine wp_region_lit ?_
            refine Y wn rfl (ym (v := h47.v) (et rfl e14_8)) ?_
            refine Y wn rfl (ym (v := .int .i64 x231) (et rfl rfl)) ?_
            refine Y wn rfl (ym (v := .int .i64 x217) (et rfl e14_12)) ?_
            obtain ⟨r232, gr232, hM14⟩ := bs hM14
            replace hst := hst.pk 3 [1, 1, 0] rfl
            refine Yc wn rfl (yCall FN_57 (a3 (et rfl rfl) (et rfl rfl) (et rfl rfl))) (graph_Sets_Join_ok (hM := gr232) (hst := hst) ) ?_
            clear hst
            rintro _ w ⟨rfl, hst⟩
            refine ⟨_, rfl, ?_⟩
            refine wpList_nil ?_
            refine qb241 _ _ _ ?_
            refine k240 _ _ ?_
            refine wp_region_lit ?_
            refine Y wn rfl (yadd (et rfl e14_65) rfl) ?_
            refine Y wn rfl (ym (v := .int .i64 (wa .i64 x223 1)) (et rfl rfl)) ?_
            refine wpList_nil ?_
            obtain rfl := someI hM14
            exact n14 _ _ _ rfl ⟨_, _, _, rfl, rfl, e14_2, e14_8, e14_10, e14_12, e14_48, e14_49, e14_50, e14_54, e14_55, e14_56, e14_63, e14_64, rfl, (hst.pk 3 [2, 0, 0] rfl)⟩
          · refine condF (et rfl rfl) (decide_eq_false c230) ?_
            refine wp_exit ?_
            refine z239 _ _ _ rfl ?_
            obtain rfl := someI hM14
            refine zz14 _ _ _ _ rfl rfl ?_
            exact je14_0 _ _ _ e14_2 e14_8 e14_10 e14_48 e14_49 e14_50 e14_54 e14_55 e14_56 (hst.facts (allC mhF (allC (mtF mhF) (allT (allT (allT allI)))))) (ho14 _ rfl)
        · refine condF (et rfl rfl) (decide_eq_false c216) ?_
          refine wp_exit ?_
          refine z222 _ _ _ rfl ?_
          obtain rfl := someI hM13
          refine zz13 _ _ _ _ rfl rfl ?_
          exact je13_0 _ _ _ e13_2 e13_8 e13_48 e13_49 e13_50 (hst.facts (allC (mtF mhF) (allT (allT allI)))) (ho13 _ rfl)
      · refine condF (et rfl rfl) (decide_eq_false c174) ?_
        refine wp_exit ?_
        refine z171 _ _ _ rfl ?_
        obtain rfl := someI hM10
        refine zz10 _ _ _ _ rfl rfl ?_
        exact je10_0 _ _ _ e10_2 e10_8 (hst.facts (allT allI)) (ho10 _ rfl)
    refine loopQ (fun s a w => ∃ (x29 : List (List Int)) (x30 : Int) (f : Nat → Value) (y28 : List Hdr), (x29, x30) = s ∧ a = fr 78 f ∧ f 1 = .pointer (some ⟨b9, 0, none⟩) ∧ f 2 = .pointer (some ⟨b10, 0, none⟩) ∧ f 5 = h13.v ∧ f 25 = h17.v ∧ f 26 = .int .i64 (r16.length : Int) ∧ f 27 = .int .i64 x30 ∧ St w0 (ros) (box b9 49 [.int .i64 x1, .int .i64 x2, h4.v, h6.v, h8.v] :: box b10 27 [hnil.v] :: row 22 rH h13.v y28 :: fam 3 (rI .i64) y28 x29 :: row 76 rTi64i64u64 h17.v r16 :: rs) w) go1 ⟨_, _, _, _, rfl, rfl, rfl, rfl, rfl, rfl, rfl, rfl, (hst.pk 5 [4, 3, 1, 1, 0] rfl)⟩ ?_
    clear hst
    rintro _ _ w r1_ ⟨x29, x30, f, y28, rfl, rfl, e1_1, e1_2, e1_5, e1_25, e1_26, e1_27, hst⟩ hM1 ho1 Q100001 n1 zz1
    refine seqQ fun Q243 k243 z243 => ?_
    refine wp_region_lit ?_
    refine Y wn rfl (ylss (et rfl e1_27) (et rfl e1_26)) ?_
    refine wpList_nil ?_
    refine k243 _ _ ?_
    refine seqQ fun Q244 k244 z244 => ?_
    rcases iteS hM1 with ⟨c233, hM1⟩ | ⟨c233, hM1⟩
    · refine condT (et rfl rfl) (decide_eq_true c233) ?_
      refine wp_skip ?_
      refine k244 _ _ ?_
      refine seqQ fun Q245 k245 z245 => ?_
      refine blockQ fun Q246 qb246 => ?_
      refine seqQ fun Q247 k247 z247 => ?_
      refine wp_region_lit ?_
      obtain ⟨x234, gx234, hM1⟩ := bs hM1
      refine Y wn rfl (yIa SL_71 (et rfl e1_25) (et rfl e1_27) hst (rdO (mtR (mtR (mtR (mtR mhR))))) gx234) ?_
      refine Y wn rfl (yFn ST_76 (et rfl rfl) hst (rdO (mtR (mtR (mtR (mtR mhR))))) gx234 rfl) ?_
      refine YB wn rfl (rAl hst ZT_76) ?_
      clear hst
      intro b235 w hst
      refine YT wn rfl (r_stbn (vals' := [.int .i64 x234.1, .int .i64 x234.2.1, .int .u64 x234.2.2]) (us := [.int .i64 x234.1, .int .i64 x234.2.1, .int .u64 x234.2.2]) hst ST_76 (et rfl rfl) (et rfl rfl) rfl rfl (one_of rfl) rfl) ?_
      clear hst
      intro w hst
      refine wpList_nil ?_
      refine k247 _ _ ?_
      obtain ⟨x236, gx236, hM1⟩ := bs hM1
      obtain ⟨x240, gx240, hM1⟩ := bs hM1
      obtain ⟨x241, gx241, hM1⟩ := bs hM1
      refine wp_drawR [0, 0, 2, 0, 0, 16, 56, 120, 0, 256, 768, 2040, 4095, 8191] [10, 11, 13] 3 folM (by kernel_rfl) (by kernel_rfl) (by kernel_rfl) ?_
      replace hst := hst.drew
      refine DRn (l1 := [0, 1, 2, 3, 4, 5, 6, 7, 8, 9]) (l2 := []) (lc := [10]) (by kernel_rfl) (by kernel_rfl) (by kernel_rfl) ?_
      refine Ry rfl rfl wn (ym (v := h13.v) (et rfl e1_5)) ?_
      refine Ry rfl rfl wn (yFb FL_76_0 (et rfl rfl)) ?_
      refine Ry rfl rfl wn (yLb (u := .int .i64 x234.1) O_3 (et rfl rfl) hst mhR rfl) ?_
      refine Ry rfl rfl wn (ym (v := h13.v) (et rfl e1_5)) ?_
      refine Ry rfl rfl wn (yFb FL_76_0 (et rfl rfl)) ?_
      refine Ry rfl rfl wn (yLb (u := .int .i64 x234.1) O_3 (et rfl rfl) hst mhR rfl) ?_
      obtain ⟨h237, gh237⟩ := hst.famI (mtR (mtR (mtR (mtR mhR)))) gx236
      refine Ry rfl rfl wn (yIa SLH_25 (et rfl rfl) (et rfl rfl) hst (rdO (mtR (mtR (mtR mhR)))) gh237) ?_
      refine Ry rfl rfl wn (yF1 O_22 (et rfl rfl) hst (rdO (mtR (mtR (mtR mhR)))) gh237 rfl) ?_
      refine Ry rfl rfl wn (yFb FL_76_1 (et rfl rfl)) ?_
      refine Ry rfl rfl wn (yLb (u := .int .i64 x234.2.1) O_3 (et rfl rfl) hst mhR rfl) ?_
      refine Rn QSn ?_
      refine Lc rfl ?_ LAn
      refine LH wn (rLt (n := 1) (l := [x234.2.1]) hst SL_22 [.int .i64 x234.2.1] (bp1 (et rfl rfl)) rfl rfl (mks1 (cs := [.int .i64 x234.2.1]) rfl mkI mks0)) ?_
      clear hst
      intro h238 w hst
      refine DRn (l1 := []) (l2 := [0, 1, 2, 3, 4, 5, 6, 7]) (lc := [11]) (by kernel_rfl) (by kernel_rfl) (by kernel_rfl) ?_
      refine Rn (Sy rfl rfl wn (ym (v := h13.v) (et rfl e1_5)) rfl (Sy rfl rfl wn (yFb FL_76_0 (et rfl rfl)) rfl (Sy rfl rfl wn (yLb (u := .int .i64 x234.1) O_3 (et rfl rfl) hst (mtR mhR) rfl) rfl (Sy rfl rfl wn (ym (v := h13.v) (et rfl e1_5)) rfl (Sy rfl rfl wn (yFb FL_76_0 (et rfl rfl)) rfl (Sy rfl rfl wn (yLb (u := .int .i64 x234.1) O_3 (et rfl rfl) hst (mtR mhR) rfl) rfl (Sy rfl rfl wn (yIa SLH_25 (et rfl rfl) (et rfl rfl) hst (rdO (mtR (mtR (mtR (mtR mhR))))) gh237) rfl (Sy rfl rfl wn (yF1 O_22 (et rfl rfl) hst (rdO (mtR (mtR (mtR (mtR mhR))))) gh237 rfl) rfl QSn)))))))) ?_
      refine Lc rfl ?_ LAn
      replace hst := hst.pk 6 [5, 0, 0, 0, 0, 0] rfl
      replace hst := hst.foc gh237 gx236
      refine LH wn (rAp hst SL_22 (et rfl rfl) (et rfl rfl) (rdO (mtR (mtR mhR))) gx240) ?_
      clear hst
      intro h239 w hst
      refine DRn (l1 := [12]) (l2 := [0, 1, 2]) (lc := [13]) (by kernel_rfl) (by kernel_rfl) (by kernel_rfl) ?_
      obtain ⟨y242, gy242⟩ := setI_len (u := h239) gx241 (hst.famLx (mtR mhR))
      refine Ry rfl rfl wn (yIs SLH_25 (et rfl rfl) (et rfl rfl) hst (rdO (mtR (mtR (mtR (mtR (mtR (mtR mhR))))))) gy242) ?_
      refine Rn (Sy rfl rfl wn (ym (v := h13.v) (et rfl e1_5)) rfl (Sy rfl rfl wn (yFb FL_76_0 (et rfl rfl)) rfl (Sy rfl rfl wn (yLb (u := .int .i64 x234.1) O_3 (et rfl rfl) hst (mtR (mtR (mtR mhR))) rfl) rfl QSn))) ?_
      refine Lc rfl ?_ LAn
      replace hst := hst.pk 7 [6, 0, 0, 0, 0, 0, 0] rfl
      refine LT wn (r_sti (cs := [h239.v]) hst O_22 rfl (et rfl rfl) (et rfl rfl) rfl (mkF rfl) gy242) ?_
      clear hst
      intro w hst
      replace hst := hst.pk 3 [1, 1, 0] rfl
      replace hst := hst.unfS gh237 gy242 gx241
      refine DRz (l1 := []) (l2 := []) (by kernel_rfl) (by kernel_rfl) ?_
      refine Rn QSn ?_
      refine qb246 _ _ _ ?_
      refine k245 _ _ ?_
      refine wp_region_lit ?_
      refine Y wn rfl (yadd (et rfl e1_27) rfl) ?_
      refine Y wn rfl (ym (v := .int .i64 (wa .i64 x30 1)) (et rfl rfl)) ?_
      refine wpList_nil ?_
      obtain rfl := someI hM1
      exact n1 _ _ _ rfl ⟨_, _, _, _, rfl, rfl, e1_1, e1_2, e1_5, e1_25, e1_26, rfl, (hst.pk 7 [4, 4, 1, 0, 2] rfl)⟩
    · refine condF (et rfl rfl) (decide_eq_false c233) ?_
      refine wp_exit ?_
      refine z244 _ _ _ rfl ?_
      obtain rfl := someI hM1
      refine zz1 _ _ _ _ rfl rfl ?_
      exact je1_0 _ _ _ _ e1_1 e1_2 e1_5 (hst.pk 5 [0, 0, 0, 0] rfl) (ho1 _ rfl)
  · refine condT (et rfl rfl) (nT (decide_eq_false c12)) ?_
    refine seqQ fun Q248 k248 z248 => ?_
    refine wp_region_lit ?_
    refine Y wn rfl (ybuild (us := [hnil.v]) [] SO_27 bp0 rfl) ?_
    refine Y wn rfl (ym (v := .int .i64 r11) (et rfl rfl)) ?_
    refine YT wn rfl (r_stbn (vals' := [hnil.v]) (us := [hnil.v]) hst ST_27 (et rfl rfl) (et rfl rfl) rfl rfl (one_of rfl) rfl) ?_
    clear hst
    intro w hst
    refine Y wn rfl (ya (v := .int .i64 r11) (et rfl rfl)) ?_
    refine wpList_nil ?_
    refine k248 _ _ ?_
    refine wp_ret ?_
    refine z3 _ _ _ rfl ?_
    obtain rfl := someI hM
    replace hst := hst.rowNh 22 (rS (rI .i64))
    exact hQ _ _ _ (fin2r Try.results34 (rcs2 rfl rfl hst (mtR mhR) ST_27 rfl) ⟨rfl, rfl⟩ ⟨_, rfl, (hst.pk 3 [0] rfl)⟩)

theorem sparseref12_FromNormal_ok {w0 : World} {ros : List Fact} {rs : List Res} {w : World} {x1 : Int} {x2 : Int} {x3 : List Int} {x5 : List Int} {x7 : List Int} {h4 : Hdr} {h6 : Hdr} {h8 : Hdr} {out : (List (List Int)) × Int} (hM : sparseref12_FromNormal x1 x2 x3 x5 x7 = some out) (q1 : imm (rI .i64) h4.v x3 ∈ ros) (q2 : imm (rI .i64) h6.v x5 ∈ ros) (q3 : imm (rI .u64) h8.v x7 ∈ ros) (hst : St w0 ros (rs) w) :
    Calls Try.prog 35 #[.agg #[.int .i64 x1, .int .i64 x2, h4.v, h6.v, h8.v]] w (fun e w => ∃ (h100001 : Hdr), e = .returned (.tuple #[.agg #[h100001.v], .int .i64 out.2]) ∧ St w0 (ros) (row 22 (rS (rI .i64)) h100001.v out.1 :: rs) w) := by
  refine enterQ Try.func35 rfl Try.ntmps35 rfl fun Q hQ => ?_
  refine seqQ fun Q1 k1 z1 => ?_
  refine wp_region_lit ?_
  refine YB wn rfl (r_box (vals := [.int .i64 x1, .int .i64 x2, h4.v, h6.v, h8.v]) hst (et rfl rfl) rfl) ?_
  clear hst
  intro b9 w hst
  refine YB wn rfl (rAl hst ZT_27) ?_
  clear hst
  intro b10 w hst
  refine Y wn rfl (ya (v := .int .i64 0) rfl) ?_
  refine wpList_nil ?_
  refine k1 _ _ ?_
  refine seqQ fun Q2 k2 z2 => ?_
  refine seqQ fun Q3 k3 z3 => ?_
  refine wp_region_lit ?_
  refine Y wn rfl (yLbs (us := [.int .i64 x1, .int .i64 x2, h4.v, h6.v, h8.v]) ST_49 (et rfl rfl) hst (mtR mhR) rfl rfl) ?_
  obtain ⟨r11, gr11, hM⟩ := bs hM
  refine Yc wn rfl (yCall FN_59 (a1 (et rfl rfl))) (sparseref09_Check_ok (hM := gr11) (hst := hst) (q1 := q1) (q2 := q2) (q3 := q3)) ?_
  clear hst
  rintro _ w ⟨rfl, hst⟩
  refine ⟨_, rfl, ?_⟩
  refine Y wn rfl (ya (v := .int .i64 r11) (et rfl rfl)) ?_
  refine wpList_nil ?_
  refine k3 _ _ ?_
  refine seqQ fun Q4 k4 z4 => ?_
  refine wp_region_lit ?_
  refine Y wn rfl (ym (v := .int .i64 r11) (et rfl rfl)) ?_
  refine Y wn rfl (yneq (et rfl rfl) rfl) ?_
  refine wpList_nil ?_
  refine k4 _ _ ?_
  rcases iteS hM with ⟨c12, hM⟩ | ⟨c12, hM⟩
  · refine condF (et rfl rfl) (nF (decide_eq_true c12)) ?_
    refine wp_skip ?_
    refine k2 _ _ ?_
    refine seqQ fun Q5 k5 z5 => ?_
    refine wp_region_lit ?_
    refine Y wn rfl (yFb FL_49_0 (et rfl rfl)) ?_
    refine Y wn rfl (yLb (u := .int .i64 x1) O_3 (et rfl rfl) hst (mtR mhR) rfl) ?_
    obtain ⟨x15, gx15, hM⟩ := bs hM
    obtain ⟨m14, em14, gm14⟩ := mkL_rep gx15 hnil
    refine YH wn rfl (rMk hst SLH_25 (et rfl rfl) gm14) ?_
    clear hst
    intro h13 w hst
    replace hst := (hst.fReps 3 (rI .i64) m14).pk 2 [1, 0] rfl
    rw [← em14] at hst
    refine Y wn rfl (ya (v := h13.v) (et rfl rfl)) ?_
    refine wpList_nil ?_
    refine k5 _ _ ?_
    refine seqQ fun Q6 k6 z6 => ?_
    refine wp_region_lit ?_
    refine Y wn rfl (yLbs (us := [.int .i64 x1, .int .i64 x2, h4.v, h6.v, h8.v]) ST_49 (et rfl rfl) hst (mtR (mtR (mtR mhR))) rfl rfl) ?_
    obtain ⟨r16, gr16, hM⟩ := bs hM
    refine Yc wn rfl (yCall FN_60 (a1 (et rfl rfl))) (sparseref09_Entries_ok (hM := gr16) (hst := hst) (q1 := q1) (q2 := q2) (q3 := q3)) ?_
    clear hst
    rintro _ w ⟨h17, rfl, hst⟩
    refine ⟨_, rfl, ?_⟩
    refine Y wn rfl (ya (v := h17.v) (et rfl rfl)) ?_
    refine wpList_nil ?_
    refine k6 _ _ ?_
    refine seqQ fun Q7 k7 z7 => ?_
    refine seqQ fun Q8 k8 z8 => ?_
    refine wp_region_lit ?_
    refine Y wn rfl (ya (v := .int .i64 0) rfl) ?_
    refine wpList_nil ?_
    refine k8 _ _ ?_
    refine blockQ fun Q9 qb9 => ?_
    obtain ⟨o1, go1, hM⟩ := bs hM
    have je1_0 : ∀ (x43 : List (List Int)) (y42 : List Hdr) (f : Nat → Value) (w : World), f 1 = .pointer (some ⟨b9, 0, none⟩) → f 2 = .pointer (some ⟨b10, 0, none⟩) → f 5 = h13.v → St w0 (ros) (box b9 49 [.int .i64 x1, .int .i64 x2, h4.v, h6.v, h8.v] :: box b10 27 [hnil.v] :: row 22 rH h13.v y42 :: fam 3 (rI .i64) y42 x43 :: rs) w → x43 = o1 → Q9 (.exit 0) (fr 94 f) w := by
      intro x43 y42 f w eje1_0_1 eje1_0_2 eje1_0_5 hst ho
      subst ho
      refine qb9 _ _ _ ?_
      refine k7 _ _ ?_
      refine seqQ fun Q18 k18 z18 => ?_
      refine wp_region_lit ?_
      refine Y wn rfl (yFb FL_49_1 (et rfl eje1_0_1)) ?_
      refine Y wn rfl (yLb (u := .int .i64 x2) O_3 (et rfl rfl) hst mhR rfl) ?_
      obtain ⟨r44, gr44, hM⟩ := bs hM
      refine Yc wn rfl (yCall FN_53 (a1 (et rfl rfl))) (sparseref12_empty_ok (hM := gr44) (hst := hst) ) ?_
      clear hst
      rintro _ w ⟨h45, y46, rfl, hst⟩
      refine ⟨_, rfl, ?_⟩
      refine Y wn rfl (ya (v := h45.v) (et rfl rfl)) ?_
      refine wpList_nil ?_
      refine k18 _ _ ?_
      refine seqQ fun Q19 k19 z19 => ?_
      refine seqQ fun Q20 k20 z20 => ?_
      refine wp_region_lit ?_
      refine Y wn rfl (ya (v := .int .i64 0) rfl) ?_
      refine wpList_nil ?_
      refine k20 _ _ ?_
      refine blockQ fun Q21 qb21 => ?_
      obtain ⟨o10, go10, hM⟩ := bs hM
      have je10_0 : ∀ (x289 : List (List Bool)) (f : Nat → Value) (w : World), f 2 = .pointer (some ⟨b10, 0, none⟩) → f 8 = h45.v → St w0 (ros) (box b10 27 [hnil.v] :: row 54 rH h45.v y46 :: fam 4 rB y46 x289 :: rs) w → x289 = o10 → Q21 (.exit 2) (fr 94 f) w := by
        intro x289 f w eje10_0_2 eje10_0_8 hst ho
        subst ho
        refine qb21 _ _ _ ?_
        refine k19 _ _ ?_
        refine seqQ fun Q142 k142 z142 => ?_
        refine wp_region_lit ?_
        refine Y wn rfl (ym (v := h45.v) (et rfl eje10_0_8)) ?_
        obtain ⟨r290, gr290, hM⟩ := bs hM
        replace hst := hst.pk 3 [1, 1, 0] rfl
        replace hst := hst.ffz
        refine Yc wn rfl (yCall FN_36 (a1 (et rfl rfl))) (sparseref12_FromTable_ok (hM := gr290) (hst := hst) (q1 := mhF)) ?_
        clear hst
        rintro _ w ⟨h291, rfl, hst⟩
        refine ⟨_, rfl, ?_⟩
        replace hst := hst.pk 2 [1, 0] rfl
        refine YT wn rfl (r_stbn (vals' := [h291.v]) (us := [h291.v]) hst ST_27 (et rfl eje10_0_2) (et rfl rfl) rfl rfl (one_of rfl) rfl) ?_
        clear hst
        intro w hst
        refine Y wn rfl (ya (v := .int .i64 0) rfl) ?_
        refine wpList_nil ?_
        refine k142 _ _ ?_
        refine wp_ret ?_
        obtain rfl := someI hM
        exact hQ _ _ _ (fin2r Try.results35 (rcs2 rfl eje10_0_2 hst mhR ST_27 rfl) ⟨rfl, rfl⟩ ⟨_, rfl, ((hst.pk 2 [1] rfl).facts (allT allI))⟩)
      refine loopQ (fun s a w => ∃ (x166 : List (List Bool)) (x167 : Int) (f : Nat → Value), (x166, x167) = s ∧ a = fr 94 f ∧ f 2 = .pointer (some ⟨b10, 0, none⟩) ∧ f 5 = h13.v ∧ f 8 = h45.v ∧ f 9 = .int .i64 x167 ∧ St w0 (ros) (box b10 27 [hnil.v] :: row 22 rH h13.v y42 :: fam 3 (rI .i64) y42 x43 :: row 54 rH h45.v y46 :: fam 4 rB y46 x166 :: rs) w) go10 ⟨_, _, _, rfl, rfl, eje1_0_2, eje1_0_5, rfl, rfl, (hst.pk 6 [3, 3, 3, 0, 0] rfl)⟩ ?_
      clear hst
      rintro _ _ w r10_ ⟨x166, x167, f, rfl, rfl, e10_2, e10_5, e10_8, e10_9, hst⟩ hM10 ho10 Q100010 n10 zz10
      refine seqQ fun Q143 k143 z143 => ?_
      refine seqQ fun Q144 k144 z144 => ?_
      refine wp_region_lit ?_
      refine Y wn rfl (ym (v := .int .i64 x167) (et rfl e10_9)) ?_
      refine Y wn rfl (ym (v := h13.v) (et rfl e10_5)) ?_
      refine Y wn rfl (yLenF SLH_25 (et rfl rfl) hst (rdO (mtR mhR)) (mtR (mtR mhR))) ?_
      refine Y wn rfl (ylss (et rfl rfl) (et rfl rfl)) ?_
      refine wpList_nil ?_
      refine k144 _ _ ?_
      rcases iteS hM10 with ⟨c292, hM10⟩ | ⟨c292, hM10⟩
      · refine condT (et rfl rfl) (decide_eq_true c292) ?_
        refine wp_skip ?_
        refine k143 _ _ ?_
        refine seqQ fun Q145 k145 z145 => ?_
        refine blockQ fun Q146 qb146 => ?_
        refine seqQ fun Q147 k147 z147 => ?_
        refine wp_region_lit ?_
        refine Y wn rfl (ya (v := .int .i64 0) rfl) ?_
        refine wpList_nil ?_
        refine k147 _ _ ?_
        refine blockQ fun Q148 qb148 => ?_
        obtain ⟨o13, go13, hM10⟩ := bs hM10
        have je13_0 : ∀ (x372 : List (List Bool)) (f : Nat → Value) (w : World), f 2 = .pointer (some ⟨b10, 0, none⟩) → f 5 = h13.v → f 8 = h45.v → f 9 = .int .i64 x167 → St w0 (ros) (box b10 27 [hnil.v] :: row 22 rH h13.v y42 :: fam 3 (rI .i64) y42 x43 :: row 54 rH h45.v y46 :: fam 4 rB y46 x372 :: rs) w → x372 = o13 → Q148 (.exit 4) (fr 94 f) w := by
          intro x372 f w eje13_0_2 eje13_0_5 eje13_0_8 eje13_0_9 hst ho
          subst ho
          refine qb148 _ _ _ ?_
          refine qb146 _ _ _ ?_
          refine k145 _ _ ?_
          refine wp_region_lit ?_
          refine Y wn rfl (ym (v := .int .i64 x167) (et rfl eje13_0_9)) ?_
          refine Y wn rfl (yadd (et rfl rfl) rfl) ?_
          refine Y wn rfl (ya (v := .int .i64 (wa .i64 x167 1)) (et rfl rfl)) ?_
          refine wpList_nil ?_
          obtain rfl := someI hM10
          exact n10 _ _ _ rfl ⟨_, _, _, rfl, rfl, eje13_0_2, eje13_0_5, eje13_0_8, rfl, hst⟩
        refine loopQ (fun s a w => ∃ (x330 : List (List Bool)) (x331 : Int) (f : Nat → Value), (x330, x331) = s ∧ a = fr 94 f ∧ f 2 = .pointer (some ⟨b10, 0, none⟩) ∧ f 5 = h13.v ∧ f 8 = h45.v ∧ f 9 = .int .i64 x167 ∧ f 10 = .int .i64 x331 ∧ St w0 (ros) (box b10 27 [hnil.v] :: row 22 rH h13.v y42 :: fam 3 (rI .i64) y42 x43 :: row 54 rH h45.v y46 :: fam 4 rB y46 x330 :: rs) w) go13 ⟨_, _, _, rfl, rfl, e10_2, e10_5, e10_8, e10_9, rfl, hst⟩ ?_
        clear hst
        rintro _ _ w r13_ ⟨x330, x331, f, rfl, rfl, e13_2, e13_5, e13_8, e13_9, e13_10, hst⟩ hM13 ho13 Q100013 n13 zz13
        refine seqQ fun Q185 k185 z185 => ?_
        refine seqQ fun Q186 k186 z186 => ?_
        refine wp_region_lit ?_
        refine Y wn rfl (ym (v := .int .i64 x331) (et rfl e13_10)) ?_
        refine Y wn rfl (ym (v := h13.v) (et rfl e13_5)) ?_
        refine Y wn rfl (ym (v := .int .i64 x167) (et rfl e13_9)) ?_
        obtain ⟨x373, gx373, hM13⟩ := bs hM13
        obtain ⟨h374, gh374⟩ := hst.famI (mtR (mtR mhR)) gx373
        refine Y wn rfl (yIa SLH_25 (et rfl rfl) (et rfl rfl) hst (rdO (mtR mhR)) gh374) ?_
        refine Y wn rfl (yF1 O_22 (et rfl rfl) hst (rdO (mtR mhR)) gh374 rfl) ?_
        refine Y wn rfl (yLen SL_22 (et rfl rfl) hst (rdF (mtR (mtR mhR)) gh374 gx373)) ?_
        refine Y wn rfl (ylss (et rfl rfl) (et rfl rfl)) ?_
        refine wpList_nil ?_
        refine k186 _ _ ?_
        rcases iteS hM13 with ⟨c375, hM13⟩ | ⟨c375, hM13⟩
        · refine condT (et rfl rfl) (decide_eq_true c375) ?_
          refine wp_skip ?_
          refine k185 _ _ ?_
          refine seqQ fun Q187 k187 z187 => ?_
          refine blockQ fun Q188 qb188 => ?_
          refine seqQ fun Q189 k189 z189 => ?_
          refine wp_region_lit ?_
          refine Y wn rfl (ya (v := .int .i64 0) rfl) ?_
          refine wpList_nil ?_
          refine k189 _ _ ?_
          refine blockQ fun Q190 qb190 => ?_
          obtain ⟨o14, go14, hM13⟩ := bs hM13
          have je14_0 : ∀ (x400 : List (List Bool)) (f : Nat → Value) (w : World), f 2 = .pointer (some ⟨b10, 0, none⟩) → f 5 = h13.v → f 8 = h45.v → f 9 = .int .i64 x167 → f 10 = .int .i64 x331 → St w0 (ros) (box b10 27 [hnil.v] :: row 22 rH h13.v y42 :: fam 3 (rI .i64) y42 x43 :: row 54 rH h45.v y46 :: fam 4 rB y46 x400 :: rs) w → x400 = o14 → Q190 (.exit 6) (fr 94 f) w := by
            intro x400 f w eje14_0_2 eje14_0_5 eje14_0_8 eje14_0_9 eje14_0_10 hst ho
            subst ho
            refine qb190 _ _ _ ?_
            refine qb188 _ _ _ ?_
            refine k187 _ _ ?_
            refine wp_region_lit ?_
            refine Y wn rfl (ym (v := .int .i64 x331) (et rfl eje14_0_10)) ?_
            refine Y wn rfl (yadd (et rfl rfl) rfl) ?_
            refine Y wn rfl (ya (v := .int .i64 (wa .i64 x331 1)) (et rfl rfl)) ?_
            refine wpList_nil ?_
            obtain rfl := someI hM13
            exact n13 _ _ _ rfl ⟨_, _, _, rfl, rfl, eje14_0_2, eje14_0_5, eje14_0_8, eje14_0_9, rfl, hst⟩
          refine loopQ (fun s a w => ∃ (x386 : List (List Bool)) (x387 : Int) (f : Nat → Value), (x386, x387) = s ∧ a = fr 94 f ∧ f 2 = .pointer (some ⟨b10, 0, none⟩) ∧ f 5 = h13.v ∧ f 8 = h45.v ∧ f 9 = .int .i64 x167 ∧ f 10 = .int .i64 x331 ∧ f 11 = .int .i64 x387 ∧ St w0 (ros) (box b10 27 [hnil.v] :: row 22 rH h13.v y42 :: fam 3 (rI .i64) y42 x43 :: row 54 rH h45.v y46 :: fam 4 rB y46 x386 :: rs) w) go14 ⟨_, _, _, rfl, rfl, e13_2, e13_5, e13_8, e13_9, e13_10, rfl, hst⟩ ?_
          clear hst
          rintro _ _ w r14_ ⟨x386, x387, f, rfl, rfl, e14_2, e14_5, e14_8, e14_9, e14_10, e14_11, hst⟩ hM14 ho14 Q100014 n14 zz14
          refine seqQ fun Q199 k199 z199 => ?_
          refine seqQ fun Q200 k200 z200 => ?_
          refine wp_region_lit ?_
          refine Y wn rfl (ym (v := .int .i64 x387) (et rfl e14_11)) ?_
          refine Y wn rfl (ym (v := .int .i64 x331) (et rfl e14_10)) ?_
          refine Y wn rfl (ylss (et rfl rfl) (et rfl rfl)) ?_
          refine wpList_nil ?_
          refine k200 _ _ ?_
          rcases iteS hM14 with ⟨c401, hM14⟩ | ⟨c401, hM14⟩
          · refine condT (et rfl rfl) (decide_eq_true c401) ?_
            refine wp_skip ?_
            refine k199 _ _ ?_
            refine seqQ fun Q201 k201 z201 => ?_
            refine blockQ fun Q202 qb202 => ?_
            obtain ⟨x402, gx402, hM14⟩ := bs hM14
            obtain ⟨x404, gx404, hM14⟩ := bs hM14
            obtain ⟨x405, gx405, hM14⟩ := bs hM14
            obtain ⟨x408, gx408, hM14⟩ := bs hM14
            obtain ⟨x409, gx409, hM14⟩ := bs hM14
            obtain ⟨x410, gx410, hM14⟩ := bs hM14
            refine wp_drawR [0, 0, 0, 6, 14, 0, 62, 126, 255, 511, 0, 0, 3072, 7168, 0, 31744, 64512, 131071, 262143] [18] 1 folM (by kernel_rfl) (by kernel_rfl) (by kernel_rfl) ?_
            replace hst := hst.drew
            refine DRn (l1 := [0, 1, 2, 3, 4, 5, 6, 7, 8, 9, 10, 11, 12, 13, 14, 15, 16, 17]) (l2 := []) (lc := [18]) (by kernel_rfl) (by kernel_rfl) (by kernel_rfl) ?_
            refine Ry rfl rfl wn (ym (v := h45.v) (et rfl e14_8)) ?_
            refine Ry rfl rfl wn (ym (v := h13.v) (et rfl e14_5)) ?_
            refine Ry rfl rfl wn (ym (v := .int .i64 x167) (et rfl e14_9)) ?_
            obtain ⟨h403, gh403⟩ := hst.famI (mtR (mtR mhR)) gx402
            refine Ry rfl rfl wn (yIa SLH_25 (et rfl rfl) (et rfl rfl) hst (rdO (mtR mhR)) gh403) ?_
            refine Ry rfl rfl wn (yF1 O_22 (et rfl rfl) hst (rdO (mtR mhR)) gh403 rfl) ?_
            refine Ry rfl rfl wn (ym (v := .int .i64 x331) (et rfl e14_10)) ?_
            refine Ry rfl rfl wn (yIa SL_22 (et rfl rfl) (et rfl rfl) hst (rdF (mtR (mtR mhR)) gh403 gx402) gx404) ?_
            refine Ry rfl rfl wn (yI O_3 (et rfl rfl) hst (rdF (mtR (mtR mhR)) gh403 gx402) gx404) ?_
            obtain ⟨h406, gh406⟩ := hst.famI (mtR (mtR (mtR (mtR mhR)))) gx405
            refine Ry rfl rfl wn (yIa SLH_53 (et rfl rfl) (et rfl rfl) hst (rdO (mtR (mtR (mtR mhR)))) gh406) ?_
            refine Ry rfl rfl wn (yF1 O_54 (et rfl rfl) hst (rdO (mtR (mtR (mtR mhR)))) gh406 rfl) ?_
            refine Ry rfl rfl wn (ym (v := h13.v) (et rfl e14_5)) ?_
            refine Ry rfl rfl wn (ym (v := .int .i64 x167) (et rfl e14_9)) ?_
            obtain ⟨h407, gh407⟩ := hst.famI (mtR (mtR mhR)) gx402
            refine Ry rfl rfl wn (yIa SLH_25 (et rfl rfl) (et rfl rfl) hst (rdO (mtR mhR)) gh407) ?_
            refine Ry rfl rfl wn (yF1 O_22 (et rfl rfl) hst (rdO (mtR mhR)) gh407 rfl) ?_
            refine Ry rfl rfl wn (ym (v := .int .i64 x387) (et rfl e14_11)) ?_
            refine Ry rfl rfl wn (yIa SL_22 (et rfl rfl) (et rfl rfl) hst (rdF (mtR (mtR mhR)) gh407 gx402) gx408) ?_
            refine Ry rfl rfl wn (yI O_3 (et rfl rfl) hst (rdF (mtR (mtR mhR)) gh407 gx402) gx408) ?_
            refine Ry rfl rfl wn (yIs SL_54 (et rfl rfl) (et rfl rfl) hst (rdF (mtR (mtR (mtR (mtR mhR)))) gh406 gx405) gx409) ?_
            refine Rn QSn ?_
            refine Lc rfl ?_ LAn
            replace hst := hst.pk 5 [4, 0, 0, 0, 0] rfl
            refine LT wn (r_sti (cs := [.bool true]) (hst.foc gh406 gx405) O_4 rfl (et rfl rfl) rfl rfl mkB gx409) ?_
            clear hst
            intro w hst
            replace hst := hst.unfoc' gh406 gx410
            refine DRz (l1 := []) (l2 := []) (by kernel_rfl) (by kernel_rfl) ?_
            refine Rn QSn ?_
            refine qb202 _ _ _ ?_
            refine k201 _ _ ?_
            refine wp_region_lit ?_
            refine Y wn rfl (ym (v := .int .i64 x387) (et rfl e14_11)) ?_
            refine Y wn rfl (yadd (et rfl rfl) rfl) ?_
            refine Y wn rfl (ya (v := .int .i64 (wa .i64 x387 1)) (et rfl rfl)) ?_
            refine wpList_nil ?_
            obtain rfl := someI hM14
            exact n14 _ _ _ rfl ⟨_, _, _, rfl, rfl, e14_2, e14_5, e14_8, e14_9, e14_10, rfl, (hst.pk 5 [1, 1, 1, 1, 0] rfl)⟩
          · refine condF (et rfl rfl) (decide_eq_false c401) ?_
            refine wp_exit ?_
            refine z199 _ _ _ rfl ?_
            obtain rfl := someI hM14
            refine zz14 _ _ _ _ rfl rfl ?_
            exact je14_0 _ _ _ e14_2 e14_5 e14_8 e14_9 e14_10 hst (ho14 _ rfl)
        · refine condF (et rfl rfl) (decide_eq_false c375) ?_
          refine wp_exit ?_
          refine z185 _ _ _ rfl ?_
          obtain rfl := someI hM13
          refine zz13 _ _ _ _ rfl rfl ?_
          exact je13_0 _ _ _ e13_2 e13_5 e13_8 e13_9 hst (ho13 _ rfl)
      · refine condF (et rfl rfl) (decide_eq_false c292) ?_
        refine wp_exit ?_
        refine z143 _ _ _ rfl ?_
        obtain rfl := someI hM10
        refine zz10 _ _ _ _ rfl rfl ?_
        exact je10_0 _ _ _ e10_2 e10_8 (hst.pk 5 [0, 2, 2] rfl) (ho10 _ rfl)
    refine loopQ (fun s a w => ∃ (x28 : List (List Int)) (x29 : Int) (f : Nat → Value) (y27 : List Hdr), (x28, x29) = s ∧ a = fr 94 f ∧ f 1 = .pointer (some ⟨b9, 0, none⟩) ∧ f 2 = .pointer (some ⟨b10, 0, none⟩) ∧ f 5 = h13.v ∧ f 6 = h17.v ∧ f 7 = .int .i64 x29 ∧ St w0 (ros) (box b9 49 [.int .i64 x1, .int .i64 x2, h4.v, h6.v, h8.v] :: box b10 27 [hnil.v] :: row 22 rH h13.v y27 :: fam 3 (rI .i64) y27 x28 :: row 76 rTi64i64u64 h17.v r16 :: rs) w) go1 ⟨_, _, _, _, rfl, rfl, rfl, rfl, rfl, rfl, rfl, (hst.pk 5 [4, 3, 1, 1, 0] rfl)⟩ ?_
    clear hst
    rintro _ _ w r1_ ⟨x28, x29, f, y27, rfl, rfl, e1_1, e1_2, e1_5, e1_6, e1_7, hst⟩ hM1 ho1 Q100001 n1 zz1
    refine seqQ fun Q203 k203 z203 => ?_
    refine seqQ fun Q204 k204 z204 => ?_
    refine wp_region_lit ?_
    refine Y wn rfl (ym (v := .int .i64 x29) (et rfl e1_7)) ?_
    refine Y wn rfl (ym (v := h17.v) (et rfl e1_6)) ?_
    refine Y wn rfl (yLen SL_71 (et rfl rfl) hst (rdO (mtR (mtR (mtR (mtR mhR)))))) ?_
    refine Y wn rfl (ylss (et rfl rfl) (et rfl rfl)) ?_
    refine wpList_nil ?_
    refine k204 _ _ ?_
    rcases iteS hM1 with ⟨c411, hM1⟩ | ⟨c411, hM1⟩
    · refine condT (et rfl rfl) (decide_eq_true c411) ?_
      refine wp_skip ?_
      refine k203 _ _ ?_
      refine seqQ fun Q205 k205 z205 => ?_
      refine blockQ fun Q206 qb206 => ?_
      obtain ⟨x412, gx412, hM1⟩ := bs hM1
      obtain ⟨x413, gx413, hM1⟩ := bs hM1
      obtain ⟨x417, gx417, hM1⟩ := bs hM1
      obtain ⟨x418, gx418, hM1⟩ := bs hM1
      refine wp_drawR [0, 0, 0, 6, 14, 30, 0, 0, 0, 384, 896, 1920, 4032, 8128, 0, 0, 49152, 114688, 245760, 507904, 1048512, 2097151, 4194303] [19, 20, 22] 3 folM (by kernel_rfl) (by kernel_rfl) (by kernel_rfl) ?_
      replace hst := hst.drew
      refine DRn (l1 := [0, 1, 2, 3, 4, 5, 6, 7, 8, 9, 10, 11, 12, 13, 14, 15, 16, 17, 18]) (l2 := []) (lc := [19]) (by kernel_rfl) (by kernel_rfl) (by kernel_rfl) ?_
      refine Ry rfl rfl wn (ym (v := h13.v) (et rfl e1_5)) ?_
      refine Ry rfl rfl wn (ym (v := h17.v) (et rfl e1_6)) ?_
      refine Ry rfl rfl wn (ym (v := .int .i64 x29) (et rfl e1_7)) ?_
      refine Ry rfl rfl wn (yIa SL_71 (et rfl rfl) (et rfl rfl) hst (rdO (mtR (mtR (mtR (mtR mhR))))) gx412) ?_
      refine Ry rfl rfl wn (yFe FL_76_0 (et rfl rfl)) ?_
      refine Ry rfl rfl wn (yFf (u := .int .i64 x412.1) O_3 (et rfl rfl) hst (rdO (mtR (mtR (mtR (mtR mhR))))) gx412 rfl) ?_
      refine Ry rfl rfl wn (ym (v := h13.v) (et rfl e1_5)) ?_
      refine Ry rfl rfl wn (ym (v := h17.v) (et rfl e1_6)) ?_
      refine Ry rfl rfl wn (ym (v := .int .i64 x29) (et rfl e1_7)) ?_
      refine Ry rfl rfl wn (yIa SL_71 (et rfl rfl) (et rfl rfl) hst (rdO (mtR (mtR (mtR (mtR mhR))))) gx412) ?_
      refine Ry rfl rfl wn (yFe FL_76_0 (et rfl rfl)) ?_
      refine Ry rfl rfl wn (yFf (u := .int .i64 x412.1) O_3 (et rfl rfl) hst (rdO (mtR (mtR (mtR (mtR mhR))))) gx412 rfl) ?_
      obtain ⟨h414, gh414⟩ := hst.famI (mtR (mtR (mtR mhR))) gx413
      refine Ry rfl rfl wn (yIa SLH_25 (et rfl rfl) (et rfl rfl) hst (rdO (mtR (mtR mhR))) gh414) ?_
      refine Ry rfl rfl wn (yF1 O_22 (et rfl rfl) hst (rdO (mtR (mtR mhR))) gh414 rfl) ?_
      refine Ry rfl rfl wn (ym (v := h17.v) (et rfl e1_6)) ?_
      refine Ry rfl rfl wn (ym (v := .int .i64 x29) (et rfl e1_7)) ?_
      refine Ry rfl rfl wn (yIa SL_71 (et rfl rfl) (et rfl rfl) hst (rdO (mtR (mtR (mtR (mtR mhR))))) gx412) ?_
      refine Ry rfl rfl wn (yFe FL_76_1 (et rfl rfl)) ?_
      refine Ry rfl rfl wn (yFf (u := .int .i64 x412.2.1) O_3 (et rfl rfl) hst (rdO (mtR (mtR (mtR (mtR mhR))))) gx412 rfl) ?_
      refine Rn QSn ?_
      refine Lc rfl ?_ LAn
      refine LH wn (rLt (n := 1) (l := [x412.2.1]) hst SL_22 [.int .i64 x412.2.1] (bp1 (et rfl rfl)) rfl rfl (mks1 (cs := [.int .i64 x412.2.1]) rfl mkI mks0)) ?_
      clear hst
      intro h415 w hst
      refine DRn (l1 := []) (l2 := [0, 1, 2, 3, 4, 5, 6, 7, 8, 9, 10, 11, 12, 13]) (lc := [20]) (by kernel_rfl) (by kernel_rfl) (by kernel_rfl) ?_
      refine Rn (Sy rfl rfl wn (ym (v := h13.v) (et rfl e1_5)) rfl (Sy rfl rfl wn (ym (v := h17.v) (et rfl e1_6)) rfl (Sy rfl rfl wn (ym (v := .int .i64 x29) (et rfl e1_7)) rfl (Sy rfl rfl wn (yIa SL_71 (et rfl rfl) (et rfl rfl) hst (rdO (mtR (mtR (mtR (mtR (mtR mhR)))))) gx412) rfl (Sy rfl rfl wn (yFe FL_76_0 (et rfl rfl)) rfl (Sy rfl rfl wn (yFf (u := .int .i64 x412.1) O_3 (et rfl rfl) hst (rdO (mtR (mtR (mtR (mtR (mtR mhR)))))) gx412 rfl) rfl (Sy rfl rfl wn (ym (v := h13.v) (et rfl e1_5)) rfl (Sy rfl rfl wn (ym (v := h17.v) (et rfl e1_6)) rfl (Sy rfl rfl wn (ym (v := .int .i64 x29) (et rfl e1_7)) rfl (Sy rfl rfl wn (yIa SL_71 (et rfl rfl) (et rfl rfl) hst (rdO (mtR (mtR (mtR (mtR (mtR mhR)))))) gx412) rfl (Sy rfl rfl wn (yFe FL_76_0 (et rfl rfl)) rfl (Sy rfl rfl wn (yFf (u := .int .i64 x412.1) O_3 (et rfl rfl) hst (rdO (mtR (mtR (mtR (mtR (mtR mhR)))))) gx412 rfl) rfl (Sy rfl rfl wn (yIa SLH_25 (et rfl rfl) (et rfl rfl) hst (rdO (mtR (mtR (mtR mhR)))) gh414) rfl (Sy rfl rfl wn (yF1 O_22 (et rfl rfl) hst (rdO (mtR (mtR (mtR mhR)))) gh414 rfl) rfl QSn)))))))))))))) ?_
      refine Lc rfl ?_ LAn
      replace hst := hst.pk 5 [4, 0, 0, 0, 0] rfl
      replace hst := hst.foc gh414 gx413
      refine LH wn (rAp hst SL_22 (et rfl rfl) (et rfl rfl) (rdO (mtR (mtR mhR))) gx417) ?_
      clear hst
      intro h416 w hst
      refine DRn (l1 := [21]) (l2 := [0, 1, 2, 3, 4, 5]) (lc := [22]) (by kernel_rfl) (by kernel_rfl) (by kernel_rfl) ?_
      obtain ⟨y419, gy419⟩ := setI_len (u := h416) gx418 (hst.famLx (mtR mhR))
      refine Ry rfl rfl wn (yIs SLH_25 (et rfl rfl) (et rfl rfl) hst (rdO (mtR (mtR (mtR (mtR (mtR mhR)))))) gy419) ?_
      refine Rn (Sy rfl rfl wn (ym (v := h13.v) (et rfl e1_5)) rfl (Sy rfl rfl wn (ym (v := h17.v) (et rfl e1_6)) rfl (Sy rfl rfl wn (ym (v := .int .i64 x29) (et rfl e1_7)) rfl (Sy rfl rfl wn (yIa SL_71 (et rfl rfl) (et rfl rfl) hst (rdO (mtR (mtR (mtR (mtR (mtR (mtR mhR))))))) gx412) rfl (Sy rfl rfl wn (yFe FL_76_0 (et rfl rfl)) rfl (Sy rfl rfl wn (yFf (u := .int .i64 x412.1) O_3 (et rfl rfl) hst (rdO (mtR (mtR (mtR (mtR (mtR (mtR mhR))))))) gx412 rfl) rfl QSn)))))) ?_
      refine Lc rfl ?_ LAn
      replace hst := hst.pk 6 [5, 0, 0, 0, 0, 0] rfl
      refine LT wn (r_sti (cs := [h416.v]) hst O_22 rfl (et rfl rfl) (et rfl rfl) rfl (mkF rfl) gy419) ?_
      clear hst
      intro w hst
      replace hst := hst.pk 3 [1, 1, 0] rfl
      replace hst := hst.unfS gh414 gy419 gx418
      refine DRz (l1 := []) (l2 := []) (by kernel_rfl) (by kernel_rfl) ?_
      refine Rn QSn ?_
      refine qb206 _ _ _ ?_
      refine k205 _ _ ?_
      refine wp_region_lit ?_
      refine Y wn rfl (ym (v := .int .i64 x29) (et rfl e1_7)) ?_
      refine Y wn rfl (yadd (et rfl rfl) rfl) ?_
      refine Y wn rfl (ya (v := .int .i64 (wa .i64 x29 1)) (et rfl rfl)) ?_
      refine wpList_nil ?_
      obtain rfl := someI hM1
      exact n1 _ _ _ rfl ⟨_, _, _, _, rfl, rfl, e1_1, e1_2, e1_5, e1_6, rfl, (hst.pk 6 [3, 3, 1, 0, 1] rfl)⟩
    · refine condF (et rfl rfl) (decide_eq_false c411) ?_
      refine wp_exit ?_
      refine z203 _ _ _ rfl ?_
      obtain rfl := someI hM1
      refine zz1 _ _ _ _ rfl rfl ?_
      exact je1_0 _ _ _ _ e1_1 e1_2 e1_5 (hst.pk 5 [0, 0, 0, 0] rfl) (ho1 _ rfl)
  · refine condT (et rfl rfl) (nT (decide_eq_false c12)) ?_
    refine seqQ fun Q207 k207 z207 => ?_
    refine wp_region_lit ?_
    refine Y wn rfl (ybuild (us := [hnil.v]) [] SO_27 bp0 rfl) ?_
    refine Y wn rfl (ym (v := .int .i64 r11) (et rfl rfl)) ?_
    refine YT wn rfl (r_stbn (vals' := [hnil.v]) (us := [hnil.v]) hst ST_27 (et rfl rfl) (et rfl rfl) rfl rfl (one_of rfl) rfl) ?_
    clear hst
    intro w hst
    refine Y wn rfl (ya (v := .int .i64 r11) (et rfl rfl)) ?_
    refine wpList_nil ?_
    refine k207 _ _ ?_
    refine wp_ret ?_
    refine z2 _ _ _ rfl ?_
    obtain rfl := someI hM
    replace hst := hst.rowNh 22 (rS (rI .i64))
    exact hQ _ _ _ (fin2r Try.results35 (rcs2 rfl rfl hst (mtR mhR) ST_27 rfl) ⟨rfl, rfl⟩ ⟨_, rfl, (hst.pk 3 [0] rfl)⟩)

theorem sparselaw12_GraphMatrix_ok {w0 : World} {ros : List Fact} {rs : List Res} {w : World} {x1 : Int} {x2 : Int} {x3 : List Int} {x5 : List Int} {x7 : List Int} {h4 : Hdr} {h6 : Hdr} {h8 : Hdr} {out : Bool} (hM : sparselaw12_GraphMatrix x1 x2 x3 x5 x7 = some out) (q1 : imm (rI .i64) h4.v x3 ∈ ros) (q2 : imm (rI .i64) h6.v x5 ∈ ros) (q3 : imm (rI .u64) h8.v x7 ∈ ros) (hst : St w0 ros (rs) w) :
    Calls Try.prog 8 #[.agg #[.int .i64 x1, .int .i64 x2, h4.v, h6.v, h8.v]] w (fun e w => e = .returned (.bool out) ∧ St w0 (ros) (rs) w) := by
  refine enterQ Try.func8 rfl Try.ntmps8 rfl fun Q hQ => ?_
  refine seqQ fun Q1 k1 z1 => ?_
  refine wp_region_lit ?_
  refine YB wn rfl (r_box (vals := [.int .i64 x1, .int .i64 x2, h4.v, h6.v, h8.v]) hst (et rfl rfl) rfl) ?_
  clear hst
  intro b9 w hst
  refine Y wn rfl (ya (v := .bool false) rfl) ?_
  refine wpList_nil ?_
  refine k1 _ _ ?_
  refine seqQ fun Q2 k2 z2 => ?_
  refine seqQ fun Q3 k3 z3 => ?_
  refine wp_region_lit ?_
  refine Y wn rfl (yFb FL_49_3 (et rfl rfl)) ?_
  refine Y wn rfl (yLb (u := h6.v) O_22 (et rfl rfl) hst mhR rfl) ?_
  refine Y wn rfl (yLen SL_22 (et rfl rfl) hst (rdI q2)) ?_
  refine Y wn rfl (ygtr (et rfl rfl) rfl) ?_
  refine Y wn rfl (ym (v := .bool (decide ((60 : Int) < (x5.length : Int)))) (et rfl rfl)) ?_
  refine joinW 5 (fun f w => f 1 = .pointer (some ⟨b9, 0, none⟩) ∧ f 20 = .bool ((decide ((60 : Int) < (x5.length : Int))) || (decide ((60 : Int) < (x7.length : Int)))) ∧ St w0 (ros) (box b9 49 [.int .i64 x1, .int .i64 x2, h4.v, h6.v, h8.v] :: rs) w) (fun j1 => ?_) ?_
  · rcases Bool.eq_false_or_eq_true (decide ((60 : Int) < (x5.length : Int))) with c11 | c11
    · refine Gn (wx rfl rfl rfl c11) rfl ?_
      refine Gn (wx rfl rfl rfl c11) rfl ?_
      refine Gn (wx rfl rfl rfl c11) rfl ?_
      refine Gn (wx rfl rfl rfl c11) rfl ?_
      refine Y wn rfl (ypt (v := .bool true) (et rfl rfl) c11 rfl) ?_
      exact j1 _ _ ⟨rfl, (congrArg Value.bool (orT c11)), hst⟩
    · refine Y (wg rfl rfl rfl c11) rfl (yFb FL_49_4 (et rfl rfl)) ?_
      refine Y (wg rfl rfl rfl c11) rfl (yLb (u := h8.v) O_47 (et rfl rfl) hst mhR rfl) ?_
      refine Y (wg rfl rfl rfl c11) rfl (yLen SL_47 (et rfl rfl) hst (rdI q3)) ?_
      refine Y (wg rfl rfl rfl c11) rfl (ygtr (et rfl rfl) rfl) ?_
      refine Y wn rfl (ypf (v := .bool (decide ((60 : Int) < (x7.length : Int)))) (et rfl rfl) c11 (et rfl rfl)) ?_
      exact j1 _ _ ⟨rfl, (congrArg Value.bool (orF c11)), hst⟩
  clear hst
  rintro f w ⟨e10_1, e10_20, hst⟩
  refine Y wn rfl (ym (v := .bool ((decide ((60 : Int) < (x5.length : Int))) || (decide ((60 : Int) < (x7.length : Int))))) (et rfl e10_20)) ?_
  refine joinW 5 (fun f w => f 1 = .pointer (some ⟨b9, 0, none⟩) ∧ f 26 = .bool (((decide ((60 : Int) < (x5.length : Int))) || (decide ((60 : Int) < (x7.length : Int)))) || (decide ((20 : Int) < (x3.length : Int)))) ∧ St w0 (ros) (box b9 49 [.int .i64 x1, .int .i64 x2, h4.v, h6.v, h8.v] :: rs) w) (fun j2 => ?_) ?_
  · rcases Bool.eq_false_or_eq_true (((decide ((60 : Int) < (x5.length : Int))) || (decide ((60 : Int) < (x7.length : Int))))) with c13 | c13
    · refine Gn (wx rfl rfl rfl c13) rfl ?_
      refine Gn (wx rfl rfl rfl c13) rfl ?_
      refine Gn (wx rfl rfl rfl c13) rfl ?_
      refine Gn (wx rfl rfl rfl c13) rfl ?_
      refine Y wn rfl (ypt (v := .bool true) (et rfl rfl) c13 rfl) ?_
      exact j2 _ _ ⟨e10_1, (congrArg Value.bool (orT c13)), hst⟩
    · refine Y (wg rfl rfl rfl c13) rfl (yFb FL_49_2 (et rfl e10_1)) ?_
      refine Y (wg rfl rfl rfl c13) rfl (yLb (u := h4.v) O_22 (et rfl rfl) hst mhR rfl) ?_
      refine Y (wg rfl rfl rfl c13) rfl (yLen SL_22 (et rfl rfl) hst (rdI q1)) ?_
      refine Y (wg rfl rfl rfl c13) rfl (ygtr (et rfl rfl) rfl) ?_
      refine Y wn rfl (ypf (v := .bool (decide ((20 : Int) < (x3.length : Int)))) (et rfl rfl) c13 (et rfl rfl)) ?_
      exact j2 _ _ ⟨e10_1, (congrArg Value.bool (orF c13)), hst⟩
  clear hst
  rintro f w ⟨e12_1, e12_26, hst⟩
  refine Y wn rfl (ym (v := .bool (((decide ((60 : Int) < (x5.length : Int))) || (decide ((60 : Int) < (x7.length : Int)))) || (decide ((20 : Int) < (x3.length : Int))))) (et rfl e12_26)) ?_
  refine joinW 9 (fun f w => f 1 = .pointer (some ⟨b9, 0, none⟩) ∧ f 36 = .bool ((((decide ((60 : Int) < (x5.length : Int))) || (decide ((60 : Int) < (x7.length : Int)))) || (decide ((20 : Int) < (x3.length : Int)))) || ((decide ((12 : Int) < x1)) && (decide (x1 ≤ 200)))) ∧ St w0 (ros) (box b9 49 [.int .i64 x1, .int .i64 x2, h4.v, h6.v, h8.v] :: rs) w) (fun j4 => ?_) ?_
  · rcases Bool.eq_false_or_eq_true ((((decide ((60 : Int) < (x5.length : Int))) || (decide ((60 : Int) < (x7.length : Int)))) || (decide ((20 : Int) < (x3.length : Int))))) with c17 | c17
    · refine Gn (wx rfl rfl rfl c17) rfl ?_
      refine Gn (wx rfl rfl rfl c17) rfl ?_
      refine Gn (wx rfl rfl rfl c17) rfl ?_
      refine Gn (wx rfl rfl rfl c17) rfl ?_
      refine Gn (wxu rfl rfl rfl) rfl ?_
      refine Gn (wxu rfl rfl rfl) rfl ?_
      refine Gn (wxu rfl rfl rfl) rfl ?_
      refine Gn (wx rfl rfl rfl c17) rfl ?_
      refine Y wn rfl (ypt (v := .bool true) (et rfl rfl) c17 rfl) ?_
      exact j4 _ _ ⟨e12_1, (congrArg Value.bool (orT c17)), hst⟩
    · refine Y (wg rfl rfl rfl c17) rfl (yFb FL_49_0 (et rfl e12_1)) ?_
      refine Y (wg rfl rfl rfl c17) rfl (yLb (u := .int .i64 x1) O_3 (et rfl rfl) hst mhR rfl) ?_
      refine Y (wg rfl rfl rfl c17) rfl (ygtr (et rfl rfl) rfl) ?_
      refine Y (wg rfl rfl rfl c17) rfl (ym (v := .bool (decide ((12 : Int) < x1))) (et rfl rfl)) ?_
      refine joinW 4 (fun f w => f 1 = .pointer (some ⟨b9, 0, none⟩) ∧ f 27 = .bool (((decide ((60 : Int) < (x5.length : Int))) || (decide ((60 : Int) < (x7.length : Int)))) || (decide ((20 : Int) < (x3.length : Int)))) ∧ f 35 = .bool ((decide ((12 : Int) < x1)) && (decide (x1 ≤ 200))) ∧ St w0 (ros) (box b9 49 [.int .i64 x1, .int .i64 x2, h4.v, h6.v, h8.v] :: rs) w) (fun j5 => ?_) ?_
      · rcases Bool.eq_false_or_eq_true (decide ((12 : Int) < x1)) with c19 | c19
        · refine Y (wg rfl rfl rfl c19) rfl (yFb FL_49_0 (et rfl e12_1)) ?_
          refine Y (wg rfl rfl rfl c19) rfl (yLb (u := .int .i64 x1) O_3 (et rfl rfl) hst mhR rfl) ?_
          refine Y (wg rfl rfl rfl c19) rfl (yleq (et rfl rfl) rfl) ?_
          refine Y (wg rfl rfl rfl c17) rfl (ypt (v := .bool (decide (x1 ≤ 200))) (et rfl rfl) c19 (et rfl rfl)) ?_
          exact j5 _ _ ⟨e12_1, rfl, (congrArg Value.bool (andT c19)), hst⟩
        · refine Gn (wx rfl rfl rfl c19) rfl ?_
          refine Gn (wx rfl rfl rfl c19) rfl ?_
          refine Gn (wx rfl rfl rfl c19) rfl ?_
          refine Y (wg rfl rfl rfl c17) rfl (ypf (v := .bool false) (et rfl rfl) c19 rfl) ?_
          exact j5 _ _ ⟨e12_1, rfl, (congrArg Value.bool (andF c19)), hst⟩
      clear hst
      rintro f w ⟨e18_1, e18_27, e18_35, hst⟩
      refine Y wn rfl (ypf (v := .bool ((decide ((12 : Int) < x1)) && (decide (x1 ≤ 200)))) (et rfl e18_27) c17 (et rfl e18_35)) ?_
      exact j4 _ _ ⟨e18_1, (congrArg Value.bool (orF c17)), hst⟩
  clear hst
  rintro f w ⟨e16_1, e16_36, hst⟩
  refine Y wn rfl (ym (v := .bool ((((decide ((60 : Int) < (x5.length : Int))) || (decide ((60 : Int) < (x7.length : Int)))) || (decide ((20 : Int) < (x3.length : Int)))) || ((decide ((12 : Int) < x1)) && (decide (x1 ≤ 200))))) (et rfl e16_36)) ?_
  refine joinW 9 (fun f w => f 1 = .pointer (some ⟨b9, 0, none⟩) ∧ f 46 = .bool (((((decide ((60 : Int) < (x5.length : Int))) || (decide ((60 : Int) < (x7.length : Int)))) || (decide ((20 : Int) < (x3.length : Int)))) || ((decide ((12 : Int) < x1)) && (decide (x1 ≤ 200)))) || ((decide ((12 : Int) < x2)) && (decide (x2 ≤ 200)))) ∧ St w0 (ros) (box b9 49 [.int .i64 x1, .int .i64 x2, h4.v, h6.v, h8.v] :: rs) w) (fun j7 => ?_) ?_
  · rcases Bool.eq_false_or_eq_true (((((decide ((60 : Int) < (x5.length : Int))) || (decide ((60 : Int) < (x7.length : Int)))) || (decide ((20 : Int) < (x3.length : Int)))) || ((decide ((12 : Int) < x1)) && (decide (x1 ≤ 200))))) with c23 | c23
    · refine Gn (wx rfl rfl rfl c23) rfl ?_
      refine Gn (wx rfl rfl rfl c23) rfl ?_
      refine Gn (wx rfl rfl rfl c23) rfl ?_
      refine Gn (wx rfl rfl rfl c23) rfl ?_
      refine Gn (wxu rfl rfl rfl) rfl ?_
      refine Gn (wxu rfl rfl rfl) rfl ?_
      refine Gn (wxu rfl rfl rfl) rfl ?_
      refine Gn (wx rfl rfl rfl c23) rfl ?_
      refine Y wn rfl (ypt (v := .bool true) (et rfl rfl) c23 rfl) ?_
      exact j7 _ _ ⟨e16_1, (congrArg Value.bool (orT c23)), hst⟩
    · refine Y (wg rfl rfl rfl c23) rfl (yFb FL_49_1 (et rfl e16_1)) ?_
      refine Y (wg rfl rfl rfl c23) rfl (yLb (u := .int .i64 x2) O_3 (et rfl rfl) hst mhR rfl) ?_
      refine Y (wg rfl rfl rfl c23) rfl (ygtr (et rfl rfl) rfl) ?_
      refine Y (wg rfl rfl rfl c23) rfl (ym (v := .bool (decide ((12 : Int) < x2))) (et rfl rfl)) ?_
      refine joinW 4 (fun f w => f 1 = .pointer (some ⟨b9, 0, none⟩) ∧ f 37 = .bool ((((decide ((60 : Int) < (x5.length : Int))) || (decide ((60 : Int) < (x7.length : Int)))) || (decide ((20 : Int) < (x3.length : Int)))) || ((decide ((12 : Int) < x1)) && (decide (x1 ≤ 200)))) ∧ f 45 = .bool ((decide ((12 : Int) < x2)) && (decide (x2 ≤ 200))) ∧ St w0 (ros) (box b9 49 [.int .i64 x1, .int .i64 x2, h4.v, h6.v, h8.v] :: rs) w) (fun j8 => ?_) ?_
      · rcases Bool.eq_false_or_eq_true (decide ((12 : Int) < x2)) with c25 | c25
        · refine Y (wg rfl rfl rfl c25) rfl (yFb FL_49_1 (et rfl e16_1)) ?_
          refine Y (wg rfl rfl rfl c25) rfl (yLb (u := .int .i64 x2) O_3 (et rfl rfl) hst mhR rfl) ?_
          refine Y (wg rfl rfl rfl c25) rfl (yleq (et rfl rfl) rfl) ?_
          refine Y (wg rfl rfl rfl c23) rfl (ypt (v := .bool (decide (x2 ≤ 200))) (et rfl rfl) c25 (et rfl rfl)) ?_
          exact j8 _ _ ⟨e16_1, rfl, (congrArg Value.bool (andT c25)), hst⟩
        · refine Gn (wx rfl rfl rfl c25) rfl ?_
          refine Gn (wx rfl rfl rfl c25) rfl ?_
          refine Gn (wx rfl rfl rfl c25) rfl ?_
          refine Y (wg rfl rfl rfl c23) rfl (ypf (v := .bool false) (et rfl rfl) c25 rfl) ?_
          exact j8 _ _ ⟨e16_1, rfl, (congrArg Value.bool (andF c25)), hst⟩
      clear hst
      rintro f w ⟨e24_1, e24_37, e24_45, hst⟩
      refine Y wn rfl (ypf (v := .bool ((decide ((12 : Int) < x2)) && (decide (x2 ≤ 200)))) (et rfl e24_37) c23 (et rfl e24_45)) ?_
      exact j7 _ _ ⟨e24_1, (congrArg Value.bool (orF c23)), hst⟩
  clear hst
  rintro f w ⟨e22_1, e22_46, hst⟩
  refine wpList_nil ?_
  refine k3 _ _ ?_
  rcases iteS hM with ⟨c26, hM⟩ | ⟨c26, hM⟩
  · refine condT (et rfl e22_46) c26 ?_
    refine seqQ fun Q4 k4 z4 => ?_
    refine wp_region_lit ?_
    obtain ⟨r27, gr27, hM⟩ := bs hM
    refine Yc wn rfl (yCall FN_9 a0) (sparselaw12_awake_ok (hM := gr27) (hst := hst) ) ?_
    clear hst
    rintro _ w ⟨rfl, hst⟩
    refine ⟨_, rfl, ?_⟩
    refine Y wn rfl (ya (v := .bool r27) (et rfl rfl)) ?_
    refine wpList_nil ?_
    refine k4 _ _ ?_
    refine wp_ret ?_
    refine z2 _ _ _ rfl ?_
    obtain rfl := someI hM
    exact hQ _ _ _ (fin1r Try.results8 ⟨rfl, rfl⟩ ⟨rfl, (hst.pk 1 [] rfl)⟩)
  · refine condF (et rfl e22_46) (bfalse c26) ?_
    refine wp_skip ?_
    refine k2 _ _ ?_
    refine seqQ fun Q5 k5 z5 => ?_
    refine wp_region_lit ?_
    refine Y wn rfl (yLbs (us := [.int .i64 x1, .int .i64 x2, h4.v, h6.v, h8.v]) ST_49 (et rfl e22_1) hst mhR rfl rfl) ?_
    obtain ⟨r28, gr28, hM⟩ := bs hM
    refine Yc wn rfl (yCall FN_32 (a1 (et rfl rfl))) (graph_FromMatrix_ok (hM := gr28) (hst := hst) (q1 := q1) (q2 := q2) (q3 := q3)) ?_
    clear hst
    rintro _ w ⟨h29, rfl, hst⟩
    refine ⟨_, rfl, ?_⟩
    refine Y wn rfl (ym (v := .tuple #[.agg #[h29.v], .int .i64 r28.2]) (et rfl rfl)) ?_
    refine Y wn rfl (yx (v := .agg #[h29.v]) (et rfl rfl) rfl) ?_
    refine Y wn rfl (yx (v := .int .i64 r28.2) (et rfl rfl) rfl) ?_
    refine YB wn rfl (rAl hst ZT_27) ?_
    clear hst
    intro b30 w hst
    refine YT wn rfl (r_stbn (vals' := [h29.v]) (us := [h29.v]) hst ST_27 (et rfl rfl) (et rfl rfl) rfl rfl (one_of rfl) rfl) ?_
    clear hst
    intro w hst
    refine Y wn rfl (ya (v := .int .i64 r28.2) (et rfl rfl)) ?_
    refine wpList_nil ?_
    refine k5 _ _ ?_
    refine seqQ fun Q6 k6 z6 => ?_
    refine wp_region_lit ?_
    refine Y wn rfl (yLbs (us := [.int .i64 x1, .int .i64 x2, h4.v, h6.v, h8.v]) ST_49 (et rfl e22_1) hst (mtR (mtR mhR)) rfl rfl) ?_
    obtain ⟨r31, gr31, hM⟩ := bs hM
    refine Yc wn rfl (yCall FN_33 (a1 (et rfl rfl))) (sparseref12_FromMatrix_ok (hM := gr31) (hst := hst) (q1 := q1) (q2 := q2) (q3 := q3)) ?_
    clear hst
    rintro _ w ⟨h32, rfl, hst⟩
    refine ⟨_, rfl, ?_⟩
    refine Y wn rfl (ym (v := .tuple #[.agg #[h32.v], .int .i64 r31.2]) (et rfl rfl)) ?_
    refine Y wn rfl (yx (v := .agg #[h32.v]) (et rfl rfl) rfl) ?_
    refine Y wn rfl (yx (v := .int .i64 r31.2) (et rfl rfl) rfl) ?_
    refine YB wn rfl (rAl hst ZT_27) ?_
    clear hst
    intro b33 w hst
    refine YT wn rfl (r_stbn (vals' := [h32.v]) (us := [h32.v]) hst ST_27 (et rfl rfl) (et rfl rfl) rfl rfl (one_of rfl) rfl) ?_
    clear hst
    intro w hst
    refine Y wn rfl (ya (v := .int .i64 r31.2) (et rfl rfl)) ?_
    refine wpList_nil ?_
    refine k6 _ _ ?_
    refine seqQ fun Q7 k7 z7 => ?_
    refine wp_region_lit ?_
    refine Y wn rfl (yLbs (us := [.int .i64 x1, .int .i64 x2, h4.v, h6.v, h8.v]) ST_49 (et rfl e22_1) hst (mtR (mtR (mtR (mtR mhR)))) rfl rfl) ?_
    obtain ⟨r34, gr34, hM⟩ := bs hM
    refine Yc wn rfl (yCall FN_34 (a1 (et rfl rfl))) (graph_FromNormal_ok (hM := gr34) (hst := hst) (q1 := q1) (q2 := q2) (q3 := q3)) ?_
    clear hst
    rintro _ w ⟨h35, rfl, hst⟩
    refine ⟨_, rfl, ?_⟩
    refine Y wn rfl (ym (v := .tuple #[.agg #[h35.v], .int .i64 r34.2]) (et rfl rfl)) ?_
    refine Y wn rfl (yx (v := .agg #[h35.v]) (et rfl rfl) rfl) ?_
    refine Y wn rfl (yx (v := .int .i64 r34.2) (et rfl rfl) rfl) ?_
    refine YB wn rfl (rAl hst ZT_27) ?_
    clear hst
    intro b36 w hst
    refine YT wn rfl (r_stbn (vals' := [h35.v]) (us := [h35.v]) hst ST_27 (et rfl rfl) (et rfl rfl) rfl rfl (one_of rfl) rfl) ?_
    clear hst
    intro w hst
    refine Y wn rfl (ya (v := .int .i64 r34.2) (et rfl rfl)) ?_
    refine wpList_nil ?_
    refine k7 _ _ ?_
    refine seqQ fun Q8 k8 z8 => ?_
    refine wp_region_lit ?_
    refine Y wn rfl (yLbs (us := [.int .i64 x1, .int .i64 x2, h4.v, h6.v, h8.v]) ST_49 (et rfl e22_1) hst (mtR (mtR (mtR (mtR (mtR (mtR mhR)))))) rfl rfl) ?_
    obtain ⟨r37, gr37, hM⟩ := bs hM
    refine Yc wn rfl (yCall FN_35 (a1 (et rfl rfl))) (sparseref12_FromNormal_ok (hM := gr37) (hst := hst) (q1 := q1) (q2 := q2) (q3 := q3)) ?_
    clear hst
    rintro _ w ⟨h38, rfl, hst⟩
    refine ⟨_, rfl, ?_⟩
    refine Y wn rfl (ym (v := .tuple #[.agg #[h38.v], .int .i64 r37.2]) (et rfl rfl)) ?_
    refine Y wn rfl (yx (v := .agg #[h38.v]) (et rfl rfl) rfl) ?_
    refine Y wn rfl (yx (v := .int .i64 r37.2) (et rfl rfl) rfl) ?_
    refine YB wn rfl (rAl hst ZT_27) ?_
    clear hst
    intro b39 w hst
    refine YT wn rfl (r_stbn (vals' := [h38.v]) (us := [h38.v]) hst ST_27 (et rfl rfl) (et rfl rfl) rfl rfl (one_of rfl) rfl) ?_
    clear hst
    intro w hst
    refine Y wn rfl (ya (v := .int .i64 r37.2) (et rfl rfl)) ?_
    refine wpList_nil ?_
    refine k8 _ _ ?_
    refine seqQ fun Q9 k9 z9 => ?_
    refine wp_region_lit ?_
    refine Y wn rfl (yLbs (us := [h29.v]) ST_27 (et rfl rfl) hst (mtR (mtR (mtR (mtR (mtR (mtR mhR)))))) rfl rfl) ?_
    refine Y wn rfl (yLbs (us := [h32.v]) ST_27 (et rfl rfl) hst (mtR (mtR (mtR (mtR mhR)))) rfl rfl) ?_
    obtain ⟨r40, gr40, hM⟩ := bs hM
    replace hst := hst.pk 8 [7, 0, 0, 0, 0, 0, 0, 0] rfl
    replace hst := hst.fz
    replace hst := hst.pk 6 [5, 0, 0, 0, 0, 0] rfl
    replace hst := hst.fz
    refine Yc wn rfl (yCall FN_23 (a2 (et rfl rfl) (et rfl rfl))) (sparsekit_Graph_ok (hM := gr40) (hst := hst) (q1 := (mtF mhF)) (q2 := mhF)) ?_
    clear hst
    rintro _ w ⟨rfl, hst⟩
    refine ⟨_, rfl, ?_⟩
    refine Y wn rfl (ym (v := .bool r40) (et rfl rfl)) ?_
    refine joinW 4 (fun f w => f 7 = .pointer (some ⟨b36, 0, none⟩) ∧ f 8 = .int .i64 r34.2 ∧ f 9 = .pointer (some ⟨b39, 0, none⟩) ∧ f 10 = .int .i64 r37.2 ∧ f 75 = .bool (r40 && (decide (r28.2 = r31.2))) ∧ St w0 (ros) (row 22 (rS (rI .i64)) h35.v r34.1 :: box b36 27 [h35.v] :: row 22 (rS (rI .i64)) h38.v r37.1 :: box b39 27 [h38.v] :: rs) w) (fun j9 => ?_) ?_
    · rcases Bool.eq_false_or_eq_true (r40) with c42 | c42
      · refine Y (wg rfl rfl rfl c42) rfl (ym (v := .int .i64 r28.2) (et rfl rfl)) ?_
        refine Y (wg rfl rfl rfl c42) rfl (ym (v := .int .i64 r31.2) (et rfl rfl)) ?_
        refine Y (wg rfl rfl rfl c42) rfl (yeql (et rfl rfl) (et rfl rfl)) ?_
        refine Y wn rfl (ypt (v := .bool (decide (r28.2 = r31.2))) (et rfl rfl) c42 (et rfl rfl)) ?_
        exact j9 _ _ ⟨rfl, rfl, rfl, rfl, (congrArg Value.bool (andT c42)), ((hst.pk 7 [3, 2, 1, 0] rfl).facts (allT (allT allI)))⟩
      · refine Gn (wx rfl rfl rfl c42) rfl ?_
        refine Gn (wx rfl rfl rfl c42) rfl ?_
        refine Gn (wx rfl rfl rfl c42) rfl ?_
        refine Y wn rfl (ypf (v := .bool false) (et rfl rfl) c42 rfl) ?_
        exact j9 _ _ ⟨rfl, rfl, rfl, rfl, (congrArg Value.bool (andF c42)), ((hst.pk 7 [3, 2, 1, 0] rfl).facts (allT (allT allI)))⟩
    clear hst
    rintro f w ⟨e41_7, e41_8, e41_9, e41_10, e41_75, hst⟩
    refine Y wn rfl (ym (v := .bool (r40 && (decide (r28.2 = r31.2)))) (et rfl e41_75)) ?_
    obtain ⟨r44, gr44, hM⟩ := bs hM
    refine joinW 4 (fun f w => f 8 = .int .i64 r34.2 ∧ f 10 = .int .i64 r37.2 ∧ f 80 = .bool r44 ∧ St w0 (ros) (rs) w) (fun j10 => ?_) ?_
    · rcases iteS gr44 with ⟨c46, gr44⟩ | ⟨c46, gr44⟩
      · refine Y (wg rfl rfl rfl c46) rfl (yLbs (us := [h35.v]) ST_27 (et rfl e41_7) hst (mtR mhR) rfl rfl) ?_
        refine Y (wg rfl rfl rfl c46) rfl (yLbs (us := [h38.v]) ST_27 (et rfl e41_9) hst (mtR (mtR (mtR mhR))) rfl rfl) ?_
        obtain ⟨r47, gr47, gr44⟩ := bs gr44
        replace hst := hst.fz
        replace hst := hst.pk 2 [1, 0] rfl
        replace hst := hst.fz
        refine Yc (wg rfl rfl rfl c46) rfl (yCall FN_23 (a2 (et rfl rfl) (et rfl rfl))) (sparsekit_Graph_ok (hM := gr47) (hst := hst) (q1 := (mtF mhF)) (q2 := mhF)) ?_
        clear hst
        rintro _ w ⟨rfl, hst⟩
        refine ⟨_, rfl, ?_⟩
        refine Y wn rfl (ypt (v := .bool r47) (et rfl rfl) c46 (et rfl rfl)) ?_
        obtain rfl := someI gr44
        exact j10 _ _ ⟨e41_8, e41_10, rfl, ((hst.pk 2 [] rfl).facts (allT (allT allI)))⟩
      · refine Gn (wx rfl rfl rfl (bfalse c46)) rfl ?_
        refine Gn (wx rfl rfl rfl (bfalse c46)) rfl ?_
        refine Gn (wx rfl rfl rfl (bfalse c46)) rfl ?_
        refine Y wn rfl (ypf (v := .bool false) (et rfl rfl) (bfalse c46) rfl) ?_
        obtain rfl := someI gr44
        exact j10 _ _ ⟨e41_8, e41_10, rfl, (hst.pk 4 [] rfl)⟩
    clear hst
    rintro f w ⟨e45_8, e45_10, e45_80, hst⟩
    refine Y wn rfl (ym (v := .bool r44) (et rfl e45_80)) ?_
    refine joinW 4 (fun f w => f 85 = .bool (r44 && (decide (r34.2 = r37.2))) ∧ St w0 (ros) (rs) w) (fun j11 => ?_) ?_
    · rcases Bool.eq_false_or_eq_true (r44) with c49 | c49
      · refine Y (wg rfl rfl rfl c49) rfl (ym (v := .int .i64 r34.2) (et rfl e45_8)) ?_
        refine Y (wg rfl rfl rfl c49) rfl (ym (v := .int .i64 r37.2) (et rfl e45_10)) ?_
        refine Y (wg rfl rfl rfl c49) rfl (yeql (et rfl rfl) (et rfl rfl)) ?_
        refine Y wn rfl (ypt (v := .bool (decide (r34.2 = r37.2))) (et rfl rfl) c49 (et rfl rfl)) ?_
        exact j11 _ _ ⟨(congrArg Value.bool (andT c49)), hst⟩
      · refine Gn (wx rfl rfl rfl c49) rfl ?_
        refine Gn (wx rfl rfl rfl c49) rfl ?_
        refine Gn (wx rfl rfl rfl c49) rfl ?_
        refine Y wn rfl (ypf (v := .bool false) (et rfl rfl) c49 rfl) ?_
        exact j11 _ _ ⟨(congrArg Value.bool (andF c49)), hst⟩
    clear hst
    rintro f w ⟨e48_85, hst⟩
    refine Y wn rfl (ym (v := .bool (r44 && (decide (r34.2 = r37.2)))) (et rfl e48_85)) ?_
    obtain ⟨r51, gr51, hM⟩ := bs hM
    refine joinW 2 (fun f w => f 88 = .bool r51 ∧ St w0 (ros) (rs) w) (fun j12 => ?_) ?_
    · rcases iteS gr51 with ⟨c53, gr51⟩ | ⟨c53, gr51⟩
      · obtain ⟨r54, gr54, gr51⟩ := bs gr51
        refine Yc (wg rfl rfl rfl c53) rfl (yCall FN_9 a0) (sparselaw12_awake_ok (hM := gr54) (hst := hst) ) ?_
        clear hst
        rintro _ w ⟨rfl, hst⟩
        refine ⟨_, rfl, ?_⟩
        refine Y wn rfl (ypt (v := .bool r54) (et rfl rfl) c53 (et rfl rfl)) ?_
        obtain rfl := someI gr51
        exact j12 _ _ ⟨rfl, hst⟩
      · refine Gn (wx rfl rfl rfl (bfalse c53)) rfl ?_
        refine Y wn rfl (ypf (v := .bool false) (et rfl rfl) (bfalse c53) rfl) ?_
        obtain rfl := someI gr51
        exact j12 _ _ ⟨rfl, hst⟩
    clear hst
    rintro f w ⟨e52_88, hst⟩
    refine Y wn rfl (ya (v := .bool r51) (et rfl e52_88)) ?_
    refine wpList_nil ?_
    refine k9 _ _ ?_
    refine wp_ret ?_
    obtain rfl := someI hM
    exact hQ _ _ _ (fin1r Try.results8 ⟨rfl, rfl⟩ ⟨rfl, hst⟩)
end Go.Proofs.Ytcknmegldjnjjaa
