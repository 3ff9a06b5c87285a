/- Walks: each function computes its model, printed. -/
import Derived.Test.YtcknmegldjnjjaaW2
namespace Go.Proofs.Ytcknmegldjnjjaa
open Go Sx M
set_option maxRecDepth 100000
set_option maxHeartbeats 400000
set_option linter.unusedVariables false
attribute [local irreducible] wpList Code.wp Calls DR QR QS LA LS St
theorem graph_Relabel_ok {w0 : World} {ros : List Fact} {rs : List Res} {w : World} {x1 : List (List Int)} {x3 : List Int} {h2 : Hdr} {h4 : Hdr} {out : (List (List Int)) × Int} (hM : graph_Relabel x1 x3 = some out) (q1 : imm (rS (rI .i64)) h2.v x1 ∈ ros) (q2 : imm (rI .i64) h4.v x3 ∈ ros) (hst : St w0 ros (rs) w) :
    Calls Try.prog 20 #[.agg #[h2.v], h4.v] w (fun e w => ∃ (h100001 : Hdr), e = .returned (.tuple #[.agg #[h100001.v], .int .i64 out.2]) ∧ St w0 (ros) (row 22 (rS (rI .i64)) h100001.v out.1 :: rs) w) := by
  refine enterQ Try.func20 rfl Try.ntmps20 rfl fun Q hQ => ?_
  refine seqQ fun Q1 k1 z1 => ?_
  refine wp_region_lit ?_
  refine YB wn rfl (r_box (vals := [h2.v]) hst (et rfl rfl) rfl) ?_
  clear hst
  intro b5 w hst
  refine YB wn rfl (rAl hst ZT_27) ?_
  clear hst
  intro b6 w hst
  refine Y wn rfl (ya (v := .int .i64 0) rfl) ?_
  refine wpList_nil ?_
  refine k1 _ _ ?_
  refine seqQ fun Q2 k2 z2 => ?_
  refine wp_region_lit ?_
  refine Y wn rfl (yLbs (us := [h2.v]) ST_27 (et rfl rfl) hst (mtR mhR) rfl rfl) ?_
  refine Y wn rfl (ym (v := h4.v) (et rfl rfl)) ?_
  obtain ⟨r7, gr7, hM⟩ := bs hM
  refine Yc wn rfl (yCall FN_41 (a2 (et rfl rfl) (et rfl rfl))) (graph_Permuted_ok (hM := gr7) (hst := hst) (q1 := q1) (q2 := q2)) ?_
  clear hst
  rintro _ w ⟨rfl, hst⟩
  refine ⟨_, rfl, ?_⟩
  refine Y wn rfl (ya (v := .int .i64 r7) (et rfl rfl)) ?_
  refine wpList_nil ?_
  refine k2 _ _ ?_
  refine seqQ fun Q3 k3 z3 => ?_
  refine seqQ fun Q4 k4 z4 => ?_
  refine wp_region_lit ?_
  refine Y wn rfl (ym (v := .int .i64 r7) (et rfl rfl)) ?_
  refine Y wn rfl (yneq (et rfl rfl) rfl) ?_
  refine wpList_nil ?_
  refine k4 _ _ ?_
  rcases iteS hM with ⟨c8, hM⟩ | ⟨c8, hM⟩
  · refine condF (et rfl rfl) (nF (decide_eq_true c8)) ?_
    refine wp_skip ?_
    refine k3 _ _ ?_
    refine seqQ fun Q5 k5 z5 => ?_
    refine wp_region_lit ?_
    refine Y wn rfl (yLbs (us := [h2.v]) ST_27 (et rfl rfl) hst (mtR mhR) rfl rfl) ?_
    refine Y wn rfl (ym (v := h4.v) (et rfl rfl)) ?_
    obtain ⟨r9, gr9, hM⟩ := bs hM
    refine Yc wn rfl (yCall FN_42 (a2 (et rfl rfl) (et rfl rfl))) (graph_induced_ok (hM := gr9) (hst := hst) (q1 := q1) (q2 := q2)) ?_
    clear hst
    rintro _ w ⟨h10, rfl, hst⟩
    refine ⟨_, rfl, ?_⟩
    replace hst := hst.pk 2 [1, 0] rfl
    refine YT wn rfl (r_stbn (vals' := [h10.v]) (us := [h10.v]) hst ST_27 (et rfl rfl) (et rfl rfl) rfl rfl (one_of rfl) rfl) ?_
    clear hst
    intro w hst
    refine Y wn rfl (ya (v := .int .i64 0) rfl) ?_
    refine wpList_nil ?_
    refine k5 _ _ ?_
    refine wp_ret ?_
    obtain rfl := someI hM
    exact hQ _ _ _ (fin2r Try.results20 (rcs2 rfl rfl hst mhR ST_27 rfl) ⟨rfl, rfl⟩ ⟨_, rfl, (hst.pk 3 [1] rfl)⟩)
  · refine condT (et rfl rfl) (nT (decide_eq_false c8)) ?_
    refine seqQ fun Q6 k6 z6 => ?_
    refine wp_region_lit ?_
    refine Y wn rfl (ybuild (us := [hnil.v]) [] SO_27 bp0 rfl) ?_
    refine Y wn rfl (ym (v := .int .i64 r7) (et rfl rfl)) ?_
    refine YT wn rfl (r_stbn (vals' := [hnil.v]) (us := [hnil.v]) hst ST_27 (et rfl rfl) (et rfl rfl) rfl rfl (one_of rfl) rfl) ?_
    clear hst
    intro w hst
    refine Y wn rfl (ya (v := .int .i64 r7) (et rfl rfl)) ?_
    refine wpList_nil ?_
    refine k6 _ _ ?_
    refine wp_ret ?_
    refine z3 _ _ _ rfl ?_
    obtain rfl := someI hM
    replace hst := hst.rowNh 22 (rS (rI .i64))
    exact hQ _ _ _ (fin2r Try.results20 (rcs2 rfl rfl hst (mtR mhR) ST_27 rfl) ⟨rfl, rfl⟩ ⟨_, rfl, (hst.pk 3 [0] rfl)⟩)

theorem sparsekit_Ascending_ok {w0 : World} {ros : List Fact} {rs : List Res} {w : World} {x1 : List Int} {h2 : Hdr} {out : Bool} (hM : sparsekit_Ascending x1 = some out) (q1 : imm (rI .i64) h2.v x1 ∈ ros) (hst : St w0 ros (rs) w) :
    Calls Try.prog 13 #[h2.v] w (fun e w => e = .returned (.bool out) ∧ St w0 (ros) (rs) w) := by
  refine enterQ Try.func13 rfl Try.ntmps13 rfl fun Q hQ => ?_
  refine seqQ fun Q1 k1 z1 => ?_
  refine wp_region_lit ?_
  refine Y wn rfl (ya (v := .bool false) rfl) ?_
  refine wpList_nil ?_
  refine k1 _ _ ?_
  refine seqQ fun Q2 k2 z2 => ?_
  refine seqQ fun Q3 k3 z3 => ?_
  refine wp_region_lit ?_
  refine Y wn rfl (ya (v := .int .i64 1) rfl) ?_
  refine wpList_nil ?_
  refine k3 _ _ ?_
  refine blockQ fun Q4 qb4 => ?_
  obtain ⟨o1, go1, hM⟩ := bs hM
  have je1_0 : ∀ (f : Nat → Value) (w : World), St w0 (ros) (rs) w → .inl () = o1 → Q4 (.exit 0) (fr 20 f) w := by
    intro f w hst ho
    subst ho
    refine qb4 _ _ _ ?_
    refine k2 _ _ ?_
    refine seqQ fun Q17 k17 z17 => ?_
    refine wp_region_lit ?_
    refine Y wn rfl (ya (v := .bool true) rfl) ?_
    refine wpList_nil ?_
    refine k17 _ _ ?_
    refine wp_ret ?_
    obtain rfl := someI hM
    exact hQ _ _ _ (fin1r Try.results13 ⟨rfl, rfl⟩ ⟨rfl, hst⟩)
  have je1_1 : ∀ (f : Nat → Value) (w : World), f 2 = .bool false → St w0 (ros) (rs) w → .inr () = o1 → Q4 .ret (fr 20 f) w := by
    intro f w eje1_1_2 hst ho
    subst ho
    refine qb4 _ _ _ ?_
    refine z2 _ _ _ rfl ?_
    obtain rfl := someI hM
    exact hQ _ _ _ (fin1r Try.results13 ⟨rfl, eje1_1_2⟩ ⟨rfl, hst⟩)
  refine loopQ (fun s a w => ∃ (x7 : Int) (f : Nat → Value), x7 = s ∧ a = fr 20 f ∧ f 0 = h2.v ∧ f 3 = .int .i64 x7 ∧ St w0 (ros) (rs) w) go1 ⟨_, _, rfl, rfl, rfl, rfl, hst⟩ ?_
  clear hst
  rintro _ _ w r1_ ⟨x7, f, rfl, rfl, e1_0, e1_3, hst⟩ hM1 ho1 Q100001 n1 zz1
  refine seqQ fun Q18 k18 z18 => ?_
  refine seqQ fun Q19 k19 z19 => ?_
  refine wp_region_lit ?_
  refine Y wn rfl (ym (v := .int .i64 x7) (et rfl e1_3)) ?_
  refine Y wn rfl (ym (v := h2.v) (et rfl e1_0)) ?_
  refine Y wn rfl (yLen SL_22 (et rfl rfl) hst (rdI q1)) ?_
  refine Y wn rfl (ylss (et rfl rfl) (et rfl rfl)) ?_
  refine wpList_nil ?_
  refine k19 _ _ ?_
  rcases iteS hM1 with ⟨c13, hM1⟩ | ⟨c13, hM1⟩
  · refine condT (et rfl rfl) (decide_eq_true c13) ?_
    refine wp_skip ?_
    refine k18 _ _ ?_
    refine seqQ fun Q20 k20 z20 => ?_
    refine blockQ fun Q21 qb21 => ?_
    refine seqQ fun Q22 k22 z22 => ?_
    obtain ⟨x14, gx14, hM1⟩ := bs hM1
    obtain ⟨x15, gx15, hM1⟩ := bs hM1
    refine wp_drawR [0, 0, 3, 7, 0, 0, 32, 112, 240, 511] [] 0 folM (by kernel_rfl) (by kernel_rfl) (by kernel_rfl) ?_
    replace hst := hst.drew
    refine DRz (l1 := [0, 1, 2, 3, 4, 5, 6, 7, 8, 9]) (l2 := []) (by kernel_rfl) (by kernel_rfl) ?_
    refine Ry rfl rfl wn (ym (v := h2.v) (et rfl e1_0)) ?_
    refine Ry rfl rfl wn (ym (v := .int .i64 x7) (et rfl e1_3)) ?_
    refine Ry rfl rfl wn (yIa SL_22 (et rfl rfl) (et rfl rfl) hst (rdI q1) gx14) ?_
    refine Ry rfl rfl wn (yI O_3 (et rfl rfl) hst (rdI q1) gx14) ?_
    refine Ry rfl rfl wn (ym (v := h2.v) (et rfl e1_0)) ?_
    refine Ry rfl rfl wn (ym (v := .int .i64 x7) (et rfl e1_3)) ?_
    refine Ry rfl rfl wn (ysub (et rfl rfl) rfl) ?_
    refine Ry rfl rfl wn (yIa SL_22 (et rfl rfl) (et rfl rfl) hst (rdI q1) gx15) ?_
    refine Ry rfl rfl wn (yI O_3 (et rfl rfl) hst (rdI q1) gx15) ?_
    refine Ry rfl rfl wn (yleq (et rfl rfl) (et rfl rfl)) ?_
    refine Rn QSn ?_
    refine k22 _ _ ?_
    rcases iteS hM1 with ⟨c16, hM1⟩ | ⟨c16, hM1⟩
    · refine condT (et rfl rfl) (decide_eq_true c16) ?_
      refine seqQ fun Q23 k23 z23 => ?_
      refine wp_region_lit ?_
      refine Y wn rfl (ya (v := .bool false) rfl) ?_
      refine wpList_nil ?_
      refine k23 _ _ ?_
      refine wp_ret ?_
      refine qb21 _ _ _ ?_
      refine z20 _ _ _ rfl ?_
      obtain rfl := someI hM1
      refine zz1 _ _ _ _ rfl rfl ?_
      exact je1_1 _ _ rfl hst (ho1 _ rfl)
    · refine condF (et rfl rfl) (decide_eq_false c16) ?_
      refine wp_skip ?_
      refine qb21 _ _ _ ?_
      refine k20 _ _ ?_
      refine wp_region_lit ?_
      refine Y wn rfl (ym (v := .int .i64 x7) (et rfl e1_3)) ?_
      refine Y wn rfl (yadd (et rfl rfl) rfl) ?_
      refine Y wn rfl (ya (v := .int .i64 (wa .i64 x7 1)) (et rfl rfl)) ?_
      refine wpList_nil ?_
      obtain rfl := someI hM1
      exact n1 _ _ _ rfl ⟨_, _, rfl, rfl, e1_0, rfl, hst⟩
  · refine condF (et rfl rfl) (decide_eq_false c13) ?_
    refine wp_exit ?_
    refine z18 _ _ _ rfl ?_
    obtain rfl := someI hM1
    refine zz1 _ _ _ _ rfl rfl ?_
    exact je1_0 _ _ hst (ho1 _ rfl)

theorem sparseref12_Check_ok {w0 : World} {ros : List Fact} {rs : List Res} {w : World} {x1 : List (List Int)} {h2 : Hdr} {out : Int} (hM : sparseref12_Check x1 = some out) (q1 : imm (rS (rI .i64)) h2.v x1 ∈ ros) (hst : St w0 ros (rs) w) :
    Calls Try.prog 31 #[.agg #[h2.v]] w (fun e w => e = .returned (.int .i64 out) ∧ St w0 (ros) (rs) w) := by
  refine enterQ Try.func31 rfl Try.ntmps31 rfl fun Q hQ => ?_
  refine seqQ fun Q1 k1 z1 => ?_
  refine wp_region_lit ?_
  refine YB wn rfl (r_box (vals := [h2.v]) hst (et rfl rfl) rfl) ?_
  clear hst
  intro b3 w hst
  refine Y wn rfl (ya (v := .int .i64 0) rfl) ?_
  refine wpList_nil ?_
  refine k1 _ _ ?_
  refine seqQ fun Q2 k2 z2 => ?_
  refine wp_region_lit ?_
  refine Y wn rfl (yFb FL_27_0 (et rfl rfl)) ?_
  refine Y wn rfl (yLb (u := h2.v) O_25 (et rfl rfl) hst mhR rfl) ?_
  refine Y wn rfl (yLen SL_25 (et rfl rfl) hst (rdI q1)) ?_
  refine Y wn rfl (ya (v := .int .i64 (x1.length : Int)) (et rfl rfl)) ?_
  refine wpList_nil ?_
  refine k2 _ _ ?_
  refine seqQ fun Q3 k3 z3 => ?_
  refine seqQ fun Q4 k4 z4 => ?_
  refine wp_region_lit ?_
  refine Y wn rfl (ym (v := .int .i64 (x1.length : Int)) (et rfl rfl)) ?_
  refine Y wn rfl (ygtr (et rfl rfl) rfl) ?_
  refine wpList_nil ?_
  refine k4 _ _ ?_
  rcases iteS hM with ⟨c4, hM⟩ | ⟨c4, hM⟩
  · refine condT (et rfl rfl) (decide_eq_true c4) ?_
    refine seqQ fun Q5 k5 z5 => ?_
    refine wp_region_lit ?_
    refine Y wn rfl (ya (v := .int .i64 6) rfl) ?_
    refine wpList_nil ?_
    refine k5 _ _ ?_
    refine wp_ret ?_
    refine z3 _ _ _ rfl ?_
    obtain rfl := someI hM
    exact hQ _ _ _ (fin1r Try.results31 ⟨rfl, rfl⟩ ⟨rfl, (hst.pk 1 [] rfl)⟩)
  · refine condF (et rfl rfl) (decide_eq_false c4) ?_
    refine wp_skip ?_
    refine k3 _ _ ?_
    refine seqQ fun Q6 k6 z6 => ?_
    refine seqQ fun Q7 k7 z7 => ?_
    refine wp_region_lit ?_
    refine Y wn rfl (ya (v := .int .i64 0) rfl) ?_
    refine wpList_nil ?_
    refine k7 _ _ ?_
    refine blockQ fun Q8 qb8 => ?_
    obtain ⟨o21, go21, hM⟩ := bs hM
    have je21_0 : ∀ (f : Nat → Value) (w : World), St w0 (ros) (rs) w → .inl () = o21 → Q8 (.exit 0) (fr 64 f) w := by
      intro f w hst ho
      subst ho
      refine qb8 _ _ _ ?_
      refine k6 _ _ ?_
      refine seqQ fun Q69 k69 z69 => ?_
      refine wp_region_lit ?_
      refine Y wn rfl (ya (v := .int .i64 0) rfl) ?_
      refine wpList_nil ?_
      refine k69 _ _ ?_
      refine wp_ret ?_
      obtain rfl := someI hM
      exact hQ _ _ _ (fin1r Try.results31 ⟨rfl, rfl⟩ ⟨rfl, hst⟩)
    have je21_1 : ∀ (f : Nat → Value) (w : World), f 2 = .int .i64 1 → St w0 (ros) (rs) w → .inr () = o21 → Q8 .ret (fr 64 f) w := by
      intro f w eje21_1_2 hst ho
      subst ho
      refine qb8 _ _ _ ?_
      refine z6 _ _ _ rfl ?_
      obtain rfl := someI hM
      exact hQ _ _ _ (fin1r Try.results31 ⟨rfl, eje21_1_2⟩ ⟨rfl, hst⟩)
    refine loopQ (fun s a w => ∃ (x72 : Int) (f : Nat → Value), x72 = s ∧ a = fr 64 f ∧ f 1 = .pointer (some ⟨b3, 0, none⟩) ∧ f 3 = .int .i64 (x1.length : Int) ∧ f 4 = .int .i64 x72 ∧ St w0 (ros) (box b3 27 [h2.v] :: rs) w) go21 ⟨_, _, rfl, rfl, rfl, rfl, rfl, hst⟩ ?_
    clear hst
    rintro _ _ w r21_ ⟨x72, f, rfl, rfl, e21_1, e21_3, e21_4, hst⟩ hM21 ho21 Q100021 n21 zz21
    refine seqQ fun Q70 k70 z70 => ?_
    refine seqQ fun Q71 k71 z71 => ?_
    refine wp_region_lit ?_
    refine Y wn rfl (ym (v := .int .i64 x72) (et rfl e21_4)) ?_
    refine Y wn rfl (ym (v := .int .i64 (x1.length : Int)) (et rfl e21_3)) ?_
    refine Y wn rfl (ylss (et rfl rfl) (et rfl rfl)) ?_
    refine wpList_nil ?_
    refine k71 _ _ ?_
    rcases iteS hM21 with ⟨c141, hM21⟩ | ⟨c141, hM21⟩
    · refine condT (et rfl rfl) (decide_eq_true c141) ?_
      refine wp_skip ?_
      refine k70 _ _ ?_
      refine seqQ fun Q72 k72 z72 => ?_
      refine blockQ fun Q73 qb73 => ?_
      refine seqQ fun Q74 k74 z74 => ?_
      refine seqQ fun Q75 k75 z75 => ?_
      refine wp_region_lit ?_
      refine Y wn rfl (yFb FL_27_0 (et rfl e21_1)) ?_
      refine Y wn rfl (yLb (u := h2.v) O_25 (et rfl rfl) hst mhR rfl) ?_
      refine Y wn rfl (ym (v := .int .i64 x72) (et rfl e21_4)) ?_
      obtain ⟨x142, gx142, hM21⟩ := bs hM21
      refine Y wn rfl (yIa SL_25 (et rfl rfl) (et rfl rfl) hst (rdI q1) gx142) ?_
      obtain ⟨h143, hst⟩ := iLs hst q1 gx142
      refine Y wn rfl (yCt O_22 (et rfl rfl) hst (mtF mhF) rfl) ?_
      obtain ⟨r144, gr144, hM21⟩ := bs hM21
      refine Yc wn rfl (yCall FN_13 (a1 (et rfl rfl))) (sparsekit_Ascending_ok (hM := gr144) (hst := hst) (q1 := mhF)) ?_
      clear hst
      rintro _ w ⟨rfl, hst⟩
      refine ⟨_, rfl, ?_⟩
      refine Y wn rfl (ynot (et rfl rfl)) ?_
      refine wpList_nil ?_
      refine k75 _ _ ?_
      rcases iteS hM21 with ⟨c145, hM21⟩ | ⟨c145, hM21⟩
      · refine condF (et rfl rfl) (nF c145) ?_
        refine wp_skip ?_
        refine k74 _ _ ?_
        refine seqQ fun Q76 k76 z76 => ?_
        refine wp_region_lit ?_
        refine Y wn rfl (ya (v := .int .i64 0) rfl) ?_
        refine wpList_nil ?_
        refine k76 _ _ ?_
        refine blockQ fun Q77 qb77 => ?_
        obtain ⟨o28, go28, hM21⟩ := bs hM21
        have je28_0 : ∀ (f : Nat → Value) (w : World), f 1 = .pointer (some ⟨b3, 0, none⟩) → f 3 = .int .i64 (x1.length : Int) → f 4 = .int .i64 x72 → St w0 (ros) (box b3 27 [h2.v] :: rs) w → .inl () = o28 → Q77 (.exit 2) (fr 64 f) w := by
          intro f w eje28_0_1 eje28_0_3 eje28_0_4 hst ho
          subst ho
          refine qb77 _ _ _ ?_
          refine qb73 _ _ _ ?_
          refine k72 _ _ ?_
          refine wp_region_lit ?_
          refine Y wn rfl (ym (v := .int .i64 x72) (et rfl eje28_0_4)) ?_
          refine Y wn rfl (yadd (et rfl rfl) rfl) ?_
          refine Y wn rfl (ya (v := .int .i64 (wa .i64 x72 1)) (et rfl rfl)) ?_
          refine wpList_nil ?_
          obtain rfl := someI hM21
          exact n21 _ _ _ rfl ⟨_, _, rfl, rfl, eje28_0_1, eje28_0_3, rfl, hst⟩
        have je28_1 : ∀ (f : Nat → Value) (w : World), f 2 = .int .i64 1 → St w0 (ros) (rs) w → .inr () = o28 → Q77 .ret (fr 64 f) w := by
          intro f w eje28_1_2 hst ho
          subst ho
          refine qb77 _ _ _ ?_
          refine qb73 _ _ _ ?_
          refine z72 _ _ _ rfl ?_
          obtain rfl := someI hM21
          refine zz21 _ _ _ _ rfl rfl ?_
          exact je21_1 _ _ eje28_1_2 hst (ho21 _ rfl)
        refine loopQ (fun s a w => ∃ (x166 : Int) (f : Nat → Value), x166 = s ∧ a = fr 64 f ∧ f 1 = .pointer (some ⟨b3, 0, none⟩) ∧ f 3 = .int .i64 (x1.length : Int) ∧ f 4 = .int .i64 x72 ∧ f 5 = .int .i64 x166 ∧ St w0 (ros) (box b3 27 [h2.v] :: rs) w) go28 ⟨_, _, rfl, rfl, e21_1, e21_3, e21_4, rfl, (hst.facts (allT (allT allI)))⟩ ?_
        clear hst
        rintro _ _ w r28_ ⟨x166, f, rfl, rfl, e28_1, e28_3, e28_4, e28_5, hst⟩ hM28 ho28 Q100028 n28 zz28
        refine seqQ fun Q92 k92 z92 => ?_
        refine seqQ fun Q93 k93 z93 => ?_
        refine wp_region_lit ?_
        refine Y wn rfl (ym (v := .int .i64 x166) (et rfl e28_5)) ?_
        refine Y wn rfl (yFb FL_27_0 (et rfl e28_1)) ?_
        refine Y wn rfl (yLb (u := h2.v) O_25 (et rfl rfl) hst mhR rfl) ?_
        refine Y wn rfl (ym (v := .int .i64 x72) (et rfl e28_4)) ?_
        obtain ⟨x188, gx188, hM28⟩ := bs hM28
        refine Y wn rfl (yIa SL_25 (et rfl rfl) (et rfl rfl) hst (rdI q1) gx188) ?_
        obtain ⟨h189, hst⟩ := iLs hst q1 gx188
        refine Y wn rfl (yCt O_22 (et rfl rfl) hst (mtF mhF) rfl) ?_
        refine Y wn rfl (yLen SL_22 (et rfl rfl) hst (rdI mhF)) ?_
        refine Y wn rfl (ylss (et rfl rfl) (et rfl rfl)) ?_
        refine wpList_nil ?_
        refine k93 _ _ ?_
        rcases iteS hM28 with ⟨c190, hM28⟩ | ⟨c190, hM28⟩
        · refine condT (et rfl rfl) (decide_eq_true c190) ?_
          refine wp_skip ?_
          refine k92 _ _ ?_
          refine seqQ fun Q94 k94 z94 => ?_
          refine blockQ fun Q95 qb95 => ?_
          refine seqQ fun Q96 k96 z96 => ?_
          refine wp_region_lit ?_
          refine Y wn rfl (yFb FL_27_0 (et rfl e28_1)) ?_
          refine Y wn rfl (yLb (u := h2.v) O_25 (et rfl rfl) hst mhR rfl) ?_
          refine Y wn rfl (ym (v := .int .i64 x72) (et rfl e28_4)) ?_
          obtain ⟨x191, gx191, hM28⟩ := bs hM28
          refine Y wn rfl (yIa SL_25 (et rfl rfl) (et rfl rfl) hst (rdI (mtF (mtF q1))) gx191) ?_
          obtain ⟨h192, hst⟩ := iLs hst (mtF (mtF q1)) gx191
          refine Y wn rfl (yCt O_22 (et rfl rfl) hst (mtF mhF) rfl) ?_
          refine Y wn rfl (ym (v := .int .i64 x166) (et rfl e28_5)) ?_
          obtain ⟨x193, gx193, hM28⟩ := bs hM28
          refine Y wn rfl (yIa SL_22 (et rfl rfl) (et rfl rfl) hst (rdI mhF) gx193) ?_
          refine Y wn rfl (yI O_3 (et rfl rfl) hst (rdI mhF) gx193) ?_
          refine Y wn rfl (ya (v := .int .i64 x193) (et rfl rfl)) ?_
          refine wpList_nil ?_
          refine k96 _ _ ?_
          refine seqQ fun Q97 k97 z97 => ?_
          refine wp_region_lit ?_
          refine Y wn rfl (ym (v := .int .i64 x193) (et rfl rfl)) ?_
          refine Y wn rfl (ylss (et rfl rfl) rfl) ?_
          refine Y wn rfl (ym (v := .bool (decide (x193 < 0))) (et rfl rfl)) ?_
          refine joinW 4 (fun f w => f 1 = .pointer (some ⟨b3, 0, none⟩) ∧ f 3 = .int .i64 (x1.length : Int) ∧ f 4 = .int .i64 x72 ∧ f 5 = .int .i64 x166 ∧ f 6 = .int .i64 x193 ∧ f 48 = .bool ((decide (x193 < 0)) || (decide ((x1.length : Int) ≤ x193))) ∧ St w0 (ros) (box b3 27 [h2.v] :: rs) w) (fun j29 => ?_) ?_
          · rcases Bool.eq_false_or_eq_true (decide (x193 < 0)) with c195 | c195
            · refine Gn (wx rfl rfl rfl c195) rfl ?_
              refine Gn (wx rfl rfl rfl c195) rfl ?_
              refine Gn (wx rfl rfl rfl c195) rfl ?_
              refine Y wn rfl (ypt (v := .bool true) (et rfl rfl) c195 rfl) ?_
              exact j29 _ _ ⟨e28_1, e28_3, e28_4, e28_5, rfl, (congrArg Value.bool (orT c195)), (hst.facts (allT (allT (allT (allT allI)))))⟩
            · refine Y (wg rfl rfl rfl c195) rfl (ym (v := .int .i64 x193) (et rfl rfl)) ?_
              refine Y (wg rfl rfl rfl c195) rfl (ym (v := .int .i64 (x1.length : Int)) (et rfl e28_3)) ?_
              refine Y (wg rfl rfl rfl c195) rfl (ygeq (et rfl rfl) (et rfl rfl)) ?_
              refine Y wn rfl (ypf (v := .bool (decide ((x1.length : Int) ≤ x193))) (et rfl rfl) c195 (et rfl rfl)) ?_
              exact j29 _ _ ⟨e28_1, e28_3, e28_4, e28_5, rfl, (congrArg Value.bool (orF c195)), (hst.facts (allT (allT (allT (allT allI)))))⟩
          clear hst
          rintro f w ⟨e194_1, e194_3, e194_4, e194_5, e194_6, e194_48, hst⟩
          refine Y wn rfl (ym (v := .bool ((decide (x193 < 0)) || (decide ((x1.length : Int) ≤ x193)))) (et rfl e194_48)) ?_
          refine joinW 4 (fun f w => f 1 = .pointer (some ⟨b3, 0, none⟩) ∧ f 3 = .int .i64 (x1.length : Int) ∧ f 4 = .int .i64 x72 ∧ f 5 = .int .i64 x166 ∧ f 6 = .int .i64 x193 ∧ f 53 = .bool (((decide (x193 < 0)) || (decide ((x1.length : Int) ≤ x193))) || (decide (x193 = x72))) ∧ St w0 (ros) (box b3 27 [h2.v] :: rs) w) (fun j30 => ?_) ?_
          · rcases Bool.eq_false_or_eq_true (((decide (x193 < 0)) || (decide ((x1.length : Int) ≤ x193)))) with c197 | c197
            · refine Gn (wx rfl rfl rfl c197) rfl ?_
              refine Gn (wx rfl rfl rfl c197) rfl ?_
              refine Gn (wx rfl rfl rfl c197) rfl ?_
              refine Y wn rfl (ypt (v := .bool true) (et rfl rfl) c197 rfl) ?_
              exact j30 _ _ ⟨e194_1, e194_3, e194_4, e194_5, e194_6, (congrArg Value.bool (orT c197)), hst⟩
            · refine Y (wg rfl rfl rfl c197) rfl (ym (v := .int .i64 x193) (et rfl e194_6)) ?_
              refine Y (wg rfl rfl rfl c197) rfl (ym (v := .int .i64 x72) (et rfl e194_4)) ?_
              refine Y (wg rfl rfl rfl c197) rfl (yeql (et rfl rfl) (et rfl rfl)) ?_
              refine Y wn rfl (ypf (v := .bool (decide (x193 = x72))) (et rfl rfl) c197 (et rfl rfl)) ?_
              exact j30 _ _ ⟨e194_1, e194_3, e194_4, e194_5, e194_6, (congrArg Value.bool (orF c197)), hst⟩
          clear hst
          rintro f w ⟨e196_1, e196_3, e196_4, e196_5, e196_6, e196_53, hst⟩
          refine Y wn rfl (ym (v := .bool (((decide (x193 < 0)) || (decide ((x1.length : Int) ≤ x193))) || (decide (x193 = x72)))) (et rfl e196_53)) ?_
          obtain ⟨r201, gr201, hM28⟩ := bs hM28
          refine joinW 9 (fun f w => f 1 = .pointer (some ⟨b3, 0, none⟩) ∧ f 3 = .int .i64 (x1.length : Int) ∧ f 4 = .int .i64 x72 ∧ f 5 = .int .i64 x166 ∧ f 63 = .bool r201 ∧ St w0 (ros) (box b3 27 [h2.v] :: rs) w) (fun j31 => ?_) ?_
          · rcases iteS gr201 with ⟨c203, gr201⟩ | ⟨c203, gr201⟩
            · refine Gn (wx rfl rfl rfl c203) rfl ?_
              refine Gn (wx rfl rfl rfl c203) rfl ?_
              refine Gn (wx rfl rfl rfl c203) rfl ?_
              refine Gn (wx rfl rfl rfl c203) rfl ?_
              refine Gn (wx rfl rfl rfl c203) rfl ?_
              refine Gn (wx rfl rfl rfl c203) rfl ?_
              refine Gn (wx rfl rfl rfl c203) rfl ?_
              refine Gn (wx rfl rfl rfl c203) rfl ?_
              refine Y wn rfl (ypt (v := .bool true) (et rfl rfl) c203 rfl) ?_
              obtain rfl := someI gr201
              exact j31 _ _ ⟨e196_1, e196_3, e196_4, e196_5, rfl, hst⟩
            · refine Y (wg rfl rfl rfl (bfalse c203)) rfl (yFb FL_27_0 (et rfl e196_1)) ?_
              refine Y (wg rfl rfl rfl (bfalse c203)) rfl (yLb (u := h2.v) O_25 (et rfl rfl) hst mhR rfl) ?_
              refine Y (wg rfl rfl rfl (bfalse c203)) rfl (ym (v := .int .i64 x193) (et rfl e196_6)) ?_
              obtain ⟨x204, gx204, gr201⟩ := bs gr201
              refine Y (wg rfl rfl rfl (bfalse c203)) rfl (yIa SL_25 (et rfl rfl) (et rfl rfl) hst (rdI q1) gx204) ?_
              obtain ⟨h205, hst⟩ := iLs hst q1 gx204
              refine Y (wg rfl rfl rfl (bfalse c203)) rfl (yCt O_22 (et rfl rfl) hst (mtF mhF) rfl) ?_
              refine Y (wg rfl rfl rfl (bfalse c203)) rfl (ym (v := .int .i64 x72) (et rfl e196_4)) ?_
              obtain ⟨r206, gr206, gr201⟩ := bs gr201
              refine Yc (wg rfl rfl rfl (bfalse c203)) rfl (yCall FN_18 (a2 (et rfl rfl) (et rfl rfl))) (sparsekit_In_ok (hM := gr206) (hst := hst) (q1 := mhF)) ?_
              clear hst
              rintro _ w ⟨rfl, hst⟩
              refine ⟨_, rfl, ?_⟩
              refine Y (wg rfl rfl rfl (bfalse c203)) rfl (ynot (et rfl rfl)) ?_
              refine Y wn rfl (ypf (v := .bool (!(r206))) (et rfl rfl) (bfalse c203) (et rfl rfl)) ?_
              obtain rfl := someI gr201
              exact j31 _ _ ⟨e196_1, e196_3, e196_4, e196_5, rfl, (hst.facts (allT (allT allI)))⟩
          clear hst
          rintro f w ⟨e202_1, e202_3, e202_4, e202_5, e202_63, hst⟩
          refine wpList_nil ?_
          refine k97 _ _ ?_
          rcases iteS hM28 with ⟨c207, hM28⟩ | ⟨c207, hM28⟩
          · refine condT (et rfl e202_63) c207 ?_
            refine seqQ fun Q98 k98 z98 => ?_
            refine wp_region_lit ?_
            refine Y wn rfl (ya (v := .int .i64 1) rfl) ?_
            refine wpList_nil ?_
            refine k98 _ _ ?_
            refine wp_ret ?_
            refine qb95 _ _ _ ?_
            refine z94 _ _ _ rfl ?_
            obtain rfl := someI hM28
            refine zz28 _ _ _ _ rfl rfl ?_
            exact je28_1 _ _ rfl (hst.pk 1 [] rfl) (ho28 _ rfl)
          · refine condF (et rfl e202_63) (bfalse c207) ?_
            refine wp_skip ?_
            refine qb95 _ _ _ ?_
            refine k94 _ _ ?_
            refine wp_region_lit ?_
            refine Y wn rfl (ym (v := .int .i64 x166) (et rfl e202_5)) ?_
            refine Y wn rfl (yadd (et rfl rfl) rfl) ?_
            refine Y wn rfl (ya (v := .int .i64 (wa .i64 x166 1)) (et rfl rfl)) ?_
            refine wpList_nil ?_
            obtain rfl := someI hM28
            exact n28 _ _ _ rfl ⟨_, _, rfl, rfl, e202_1, e202_3, e202_4, rfl, hst⟩
        · refine condF (et rfl rfl) (decide_eq_false c190) ?_
          refine wp_exit ?_
          refine z92 _ _ _ rfl ?_
          obtain rfl := someI hM28
          refine zz28 _ _ _ _ rfl rfl ?_
          exact je28_0 _ _ e28_1 e28_3 e28_4 (hst.facts (allT (allT allI))) (ho28 _ rfl)
      · refine condT (et rfl rfl) (nT (bfalse c145)) ?_
        refine seqQ fun Q99 k99 z99 => ?_
        refine wp_region_lit ?_
        refine Y wn rfl (ya (v := .int .i64 1) rfl) ?_
        refine wpList_nil ?_
        refine k99 _ _ ?_
        refine wp_ret ?_
        refine z74 _ _ _ rfl ?_
        refine qb73 _ _ _ ?_
        refine z72 _ _ _ rfl ?_
        obtain rfl := someI hM21
        refine zz21 _ _ _ _ rfl rfl ?_
        exact je21_1 _ _ rfl ((hst.pk 1 [] rfl).facts (allT (allT allI))) (ho21 _ rfl)
    · refine condF (et rfl rfl) (decide_eq_false c141) ?_
      refine wp_exit ?_
      refine z70 _ _ _ rfl ?_
      obtain rfl := someI hM21
      refine zz21 _ _ _ _ rfl rfl ?_
      exact je21_0 _ _ (hst.pk 1 [] rfl) (ho21 _ rfl)

theorem sparsekit_Perm_ok {w0 : World} {ros : List Fact} {rs : List Res} {w : World} {x1 : List Int} {x3 : Int} {h2 : Hdr} {out : Bool} (hM : sparsekit_Perm x1 x3 = some out) (q1 : imm (rI .i64) h2.v x1 ∈ ros) (hst : St w0 ros (rs) w) :
    Calls Try.prog 16 #[h2.v, .int .i64 x3] w (fun e w => e = .returned (.bool out) ∧ St w0 (ros) (rs) w) := by
  refine enterQ Try.func16 rfl Try.ntmps16 rfl fun Q hQ => ?_
  refine seqQ fun Q1 k1 z1 => ?_
  refine wp_region_lit ?_
  refine Y wn rfl (ya (v := .bool false) rfl) ?_
  refine wpList_nil ?_
  refine k1 _ _ ?_
  refine seqQ fun Q2 k2 z2 => ?_
  refine seqQ fun Q3 k3 z3 => ?_
  refine wp_region_lit ?_
  refine Y wn rfl (ym (v := h2.v) (et rfl rfl)) ?_
  refine Y wn rfl (yLen SL_22 (et rfl rfl) hst (rdI q1)) ?_
  refine Y wn rfl (ym (v := .int .i64 x3) (et rfl rfl)) ?_
  refine Y wn rfl (yneq (et rfl rfl) (et rfl rfl)) ?_
  refine wpList_nil ?_
  refine k3 _ _ ?_
  rcases iteS hM with ⟨c4, hM⟩ | ⟨c4, hM⟩
  · refine condF (et rfl rfl) (nF (decide_eq_true c4)) ?_
    refine wp_skip ?_
    refine k2 _ _ ?_
    refine seqQ fun Q4 k4 z4 => ?_
    refine wp_region_lit ?_
    refine Y wn rfl (ym (v := .int .i64 x3) (et rfl rfl)) ?_
    obtain ⟨x7, gx7, hM⟩ := bs hM
    refine YH wn rfl (rMk hst SL_54 (et rfl rfl) gx7) ?_
    clear hst
    intro h5 w hst
    refine Y wn rfl (ya (v := h5.v) (et rfl rfl)) ?_
    refine wpList_nil ?_
    refine k4 _ _ ?_
    refine seqQ fun Q5 k5 z5 => ?_
    refine seqQ fun Q6 k6 z6 => ?_
    refine wp_region_lit ?_
    refine Y wn rfl (ya (v := .int .i64 0) rfl) ?_
    refine wpList_nil ?_
    refine k6 _ _ ?_
    refine blockQ fun Q7 qb7 => ?_
    obtain ⟨o5, go5, hM⟩ := bs hM
    have je5_0 : ∀ (f : Nat → Value) (w : World), St w0 (ros) (rs) w → .inl () = o5 → Q7 (.exit 0) (fr 46 f) w := by
      intro f w hst ho
      subst ho
      refine qb7 _ _ _ ?_
      refine k5 _ _ ?_
      refine seqQ fun Q22 k22 z22 => ?_
      refine wp_region_lit ?_
      refine Y wn rfl (ya (v := .bool true) rfl) ?_
      refine wpList_nil ?_
      refine k22 _ _ ?_
      refine wp_ret ?_
      obtain rfl := someI hM
      exact hQ _ _ _ (fin1r Try.results16 ⟨rfl, rfl⟩ ⟨rfl, hst⟩)
    have je5_1 : ∀ (f : Nat → Value) (w : World), f 4 = .bool false → St w0 (ros) (rs) w → .inr () = o5 → Q7 .ret (fr 46 f) w := by
      intro f w eje5_1_4 hst ho
      subst ho
      refine qb7 _ _ _ ?_
      refine z5 _ _ _ rfl ?_
      obtain rfl := someI hM
      exact hQ _ _ _ (fin1r Try.results16 ⟨rfl, eje5_1_4⟩ ⟨rfl, hst⟩)
    refine loopQ (fun s a w => ∃ (x25 : List Bool) (x26 : Int) (f : Nat → Value), (x25, x26) = s ∧ a = fr 46 f ∧ f 0 = h2.v ∧ f 1 = .int .i64 x3 ∧ f 5 = h5.v ∧ f 6 = .int .i64 x26 ∧ St w0 (ros) (row 4 rB h5.v x25 :: rs) w) go5 ⟨_, _, _, rfl, rfl, rfl, rfl, rfl, rfl, hst⟩ ?_
    clear hst
    rintro _ _ w r5_ ⟨x25, x26, f, rfl, rfl, e5_0, e5_1, e5_5, e5_6, hst⟩ hM5 ho5 Q100005 n5 zz5
    refine seqQ fun Q23 k23 z23 => ?_
    refine seqQ fun Q24 k24 z24 => ?_
    refine wp_region_lit ?_
    refine Y wn rfl (ym (v := .int .i64 x26) (et rfl e5_6)) ?_
    refine Y wn rfl (ym (v := .int .i64 x3) (et rfl e5_1)) ?_
    refine Y wn rfl (ylss (et rfl rfl) (et rfl rfl)) ?_
    refine wpList_nil ?_
    refine k24 _ _ ?_
    rcases iteS hM5 with ⟨c46, hM5⟩ | ⟨c46, hM5⟩
    · refine condT (et rfl rfl) (decide_eq_true c46) ?_
      refine wp_skip ?_
      refine k23 _ _ ?_
      refine seqQ fun Q25 k25 z25 => ?_
      refine blockQ fun Q26 qb26 => ?_
      refine seqQ fun Q27 k27 z27 => ?_
      refine seqQ fun Q28 k28 z28 => ?_
      refine wp_region_lit ?_
      refine Y wn rfl (ym (v := h2.v) (et rfl e5_0)) ?_
      refine Y wn rfl (ym (v := .int .i64 x26) (et rfl e5_6)) ?_
      obtain ⟨x47, gx47, hM5⟩ := bs hM5
      refine Y wn rfl (yIa SL_22 (et rfl rfl) (et rfl rfl) hst (rdI q1) gx47) ?_
      refine Y wn rfl (yI O_3 (et rfl rfl) hst (rdI q1) gx47) ?_
      refine Y wn rfl (ylss (et rfl rfl) rfl) ?_
      refine Y wn rfl (ym (v := .bool (decide (x47 < 0))) (et rfl rfl)) ?_
      obtain ⟨r49, gr49, hM5⟩ := bs hM5
      refine joinW 7 (fun f w => f 0 = h2.v ∧ f 1 = .int .i64 x3 ∧ f 5 = h5.v ∧ f 6 = .int .i64 x26 ∧ f 30 = .bool r49 ∧ St w0 (ros) (row 4 rB h5.v x25 :: rs) w) (fun j6 => ?_) ?_
      · rcases iteS gr49 with ⟨c51, gr49⟩ | ⟨c51, gr49⟩
        · refine Gn (wx rfl rfl rfl (decide_eq_true c51)) rfl ?_
          refine Gn (wx rfl rfl rfl (decide_eq_true c51)) rfl ?_
          refine Gn (wx rfl rfl rfl (decide_eq_true c51)) rfl ?_
          refine Gn (wx rfl rfl rfl (decide_eq_true c51)) rfl ?_
          refine Gn (wx rfl rfl rfl (decide_eq_true c51)) rfl ?_
          refine Gn (wx rfl rfl rfl (decide_eq_true c51)) rfl ?_
          refine Y wn rfl (ypt (v := .bool true) (et rfl rfl) (decide_eq_true c51) rfl) ?_
          obtain rfl := someI gr49
          exact j6 _ _ ⟨e5_0, e5_1, e5_5, e5_6, rfl, hst⟩
        · refine Y (wg rfl rfl rfl (decide_eq_false c51)) rfl (ym (v := h2.v) (et rfl e5_0)) ?_
          refine Y (wg rfl rfl rfl (decide_eq_false c51)) rfl (ym (v := .int .i64 x26) (et rfl e5_6)) ?_
          obtain ⟨x52, gx52, gr49⟩ := bs gr49
          refine Y (wg rfl rfl rfl (decide_eq_false c51)) rfl (yIa SL_22 (et rfl rfl) (et rfl rfl) hst (rdI q1) gx52) ?_
          refine Y (wg rfl rfl rfl (decide_eq_false c51)) rfl (yI O_3 (et rfl rfl) hst (rdI q1) gx52) ?_
          refine Y (wg rfl rfl rfl (decide_eq_false c51)) rfl (ym (v := .int .i64 x3) (et rfl e5_1)) ?_
          refine Y (wg rfl rfl rfl (decide_eq_false c51)) rfl (ygeq (et rfl rfl) (et rfl rfl)) ?_
          refine Y wn rfl (ypf (v := .bool (decide (x3 ≤ x52))) (et rfl rfl) (decide_eq_false c51) (et rfl rfl)) ?_
          obtain rfl := someI gr49
          exact j6 _ _ ⟨e5_0, e5_1, e5_5, e5_6, rfl, hst⟩
      clear hst
      rintro f w ⟨e50_0, e50_1, e50_5, e50_6, e50_30, hst⟩
      refine Y wn rfl (ym (v := .bool r49) (et rfl e50_30)) ?_
      obtain ⟨r55, gr55, hM5⟩ := bs hM5
      refine joinW 8 (fun f w => f 0 = h2.v ∧ f 1 = .int .i64 x3 ∧ f 5 = h5.v ∧ f 6 = .int .i64 x26 ∧ f 39 = .bool r55 ∧ St w0 (ros) (row 4 rB h5.v x25 :: rs) w) (fun j7 => ?_) ?_
      · rcases iteS gr55 with ⟨c57, gr55⟩ | ⟨c57, gr55⟩
        · refine Gn (wx rfl rfl rfl c57) rfl ?_
          refine Gn (wx rfl rfl rfl c57) rfl ?_
          refine Gn (wx rfl rfl rfl c57) rfl ?_
          refine Gn (wx rfl rfl rfl c57) rfl ?_
          refine Gn (wx rfl rfl rfl c57) rfl ?_
          refine Gn (wx rfl rfl rfl c57) rfl ?_
          refine Gn (wx rfl rfl rfl c57) rfl ?_
          refine Y wn rfl (ypt (v := .bool true) (et rfl rfl) c57 rfl) ?_
          obtain rfl := someI gr55
          exact j7 _ _ ⟨e50_0, e50_1, e50_5, e50_6, rfl, hst⟩
        · refine Y (wg rfl rfl rfl (bfalse c57)) rfl (ym (v := h5.v) (et rfl e50_5)) ?_
          refine Y (wg rfl rfl rfl (bfalse c57)) rfl (ym (v := h2.v) (et rfl e50_0)) ?_
          refine Y (wg rfl rfl rfl (bfalse c57)) rfl (ym (v := .int .i64 x26) (et rfl e50_6)) ?_
          obtain ⟨x58, gx58, gr55⟩ := bs gr55
          refine Y (wg rfl rfl rfl (bfalse c57)) rfl (yIa SL_22 (et rfl rfl) (et rfl rfl) hst (rdI q1) gx58) ?_
          refine Y (wg rfl rfl rfl (bfalse c57)) rfl (yI O_3 (et rfl rfl) hst (rdI q1) gx58) ?_
          obtain ⟨x59, gx59, gr55⟩ := bs gr55
          refine Y (wg rfl rfl rfl (bfalse c57)) rfl (yIa SL_54 (et rfl rfl) (et rfl rfl) hst (rdO mhR) gx59) ?_
          refine Y (wg rfl rfl rfl (bfalse c57)) rfl (yB O_4 (et rfl rfl) hst (rdO mhR) gx59) ?_
          refine Y wn rfl (ypf (v := .bool x59) (et rfl rfl) (bfalse c57) (et rfl rfl)) ?_
          obtain rfl := someI gr55
          exact j7 _ _ ⟨e50_0, e50_1, e50_5, e50_6, rfl, hst⟩
      clear hst
      rintro f w ⟨e56_0, e56_1, e56_5, e56_6, e56_39, hst⟩
      refine wpList_nil ?_
      refine k28 _ _ ?_
      rcases iteS hM5 with ⟨c60, hM5⟩ | ⟨c60, hM5⟩
      · refine condT (et rfl e56_39) c60 ?_
        refine seqQ fun Q29 k29 z29 => ?_
        refine wp_region_lit ?_
        refine Y wn rfl (ya (v := .bool false) rfl) ?_
        refine wpList_nil ?_
        refine k29 _ _ ?_
        refine wp_ret ?_
        refine z27 _ _ _ rfl ?_
        refine qb26 _ _ _ ?_
        refine z25 _ _ _ rfl ?_
        obtain rfl := someI hM5
        refine zz5 _ _ _ _ rfl rfl ?_
        exact je5_1 _ _ rfl (hst.pk 1 [] rfl) (ho5 _ rfl)
      · refine condF (et rfl e56_39) (bfalse c60) ?_
        refine wp_skip ?_
        refine k27 _ _ ?_
        refine wp_region_lit ?_
        refine Y wn rfl (ym (v := h5.v) (et rfl e56_5)) ?_
        refine Y wn rfl (ym (v := h2.v) (et rfl e56_0)) ?_
        refine Y wn rfl (ym (v := .int .i64 x26) (et rfl e56_6)) ?_
        obtain ⟨x61, gx61, hM5⟩ := bs hM5
        refine Y wn rfl (yIa SL_22 (et rfl rfl) (et rfl rfl) hst (rdI q1) gx61) ?_
        refine Y wn rfl (yI O_3 (et rfl rfl) hst (rdI q1) gx61) ?_
        obtain ⟨x62, gx62, hM5⟩ := bs hM5
        refine Y wn rfl (yIs SL_54 (et rfl rfl) (et rfl rfl) hst (rdO mhR) gx62) ?_
        refine YT wn rfl (r_sti (cs := [.bool true]) hst O_4 rfl (et rfl rfl) rfl rfl mkB gx62) ?_
        clear hst
        intro w hst
        refine wpList_nil ?_
        refine qb26 _ _ _ ?_
        refine k25 _ _ ?_
        refine wp_region_lit ?_
        refine Y wn rfl (ym (v := .int .i64 x26) (et rfl e56_6)) ?_
        refine Y wn rfl (yadd (et rfl rfl) rfl) ?_
        refine Y wn rfl (ya (v := .int .i64 (wa .i64 x26 1)) (et rfl rfl)) ?_
        refine wpList_nil ?_
        obtain rfl := someI hM5
        exact n5 _ _ _ rfl ⟨_, _, _, rfl, rfl, e56_0, e56_1, e56_5, rfl, hst⟩
    · refine condF (et rfl rfl) (decide_eq_false c46) ?_
      refine wp_exit ?_
      refine z23 _ _ _ rfl ?_
      obtain rfl := someI hM5
      refine zz5 _ _ _ _ rfl rfl ?_
      exact je5_0 _ _ (hst.pk 1 [] rfl) (ho5 _ rfl)
  · refine condT (et rfl rfl) (nT (decide_eq_false c4)) ?_
    refine seqQ fun Q30 k30 z30 => ?_
    refine wp_region_lit ?_
    refine Y wn rfl (ya (v := .bool false) rfl) ?_
    refine wpList_nil ?_
    refine k30 _ _ ?_
    refine wp_ret ?_
    refine z2 _ _ _ rfl ?_
    obtain rfl := someI hM
    exact hQ _ _ _ (fin1r Try.results16 ⟨rfl, rfl⟩ ⟨rfl, hst⟩)

theorem sparseref09_Range_ok {w0 : World} {ros : List Fact} {rs : List Res} {w : World} {x1 : List Int} {x3 : Int} {h2 : Hdr} {out : Bool} (hM : sparseref09_Range x1 x3 = some out) (q1 : imm (rI .i64) h2.v x1 ∈ ros) (hst : St w0 ros (rs) w) :
    Calls Try.prog 50 #[h2.v, .int .i64 x3] w (fun e w => e = .returned (.bool out) ∧ St w0 (ros) (rs) w) := by
  refine enterQ Try.func50 rfl Try.ntmps50 rfl fun Q hQ => ?_
  refine seqQ fun Q1 k1 z1 => ?_
  refine wp_region_lit ?_
  refine Y wn rfl (ya (v := .bool false) rfl) ?_
  refine wpList_nil ?_
  refine k1 _ _ ?_
  refine seqQ fun Q2 k2 z2 => ?_
  refine seqQ fun Q3 k3 z3 => ?_
  refine wp_region_lit ?_
  refine Y wn rfl (ya (v := .int .i64 0) rfl) ?_
  refine wpList_nil ?_
  refine k3 _ _ ?_
  refine blockQ fun Q4 qb4 => ?_
  obtain ⟨o3, go3, hM⟩ := bs hM
  have je3_0 : ∀ (f : Nat → Value) (w : World), St w0 (ros) (rs) w → .inl () = o3 → Q4 (.exit 0) (fr 25 f) w := by
    intro f w hst ho
    subst ho
    refine qb4 _ _ _ ?_
    refine k2 _ _ ?_
    refine seqQ fun Q17 k17 z17 => ?_
    refine wp_region_lit ?_
    refine Y wn rfl (ya (v := .bool true) rfl) ?_
    refine wpList_nil ?_
    refine k17 _ _ ?_
    refine wp_ret ?_
    obtain rfl := someI hM
    exact hQ _ _ _ (fin1r Try.results50 ⟨rfl, rfl⟩ ⟨rfl, hst⟩)
  have je3_1 : ∀ (f : Nat → Value) (w : World), f 4 = .bool false → St w0 (ros) (rs) w → .inr () = o3 → Q4 .ret (fr 25 f) w := by
    intro f w eje3_1_4 hst ho
    subst ho
    refine qb4 _ _ _ ?_
    refine z2 _ _ _ rfl ?_
    obtain rfl := someI hM
    exact hQ _ _ _ (fin1r Try.results50 ⟨rfl, eje3_1_4⟩ ⟨rfl, hst⟩)
  refine loopQ (fun s a w => ∃ (x12 : Int) (f : Nat → Value), x12 = s ∧ a = fr 25 f ∧ f 0 = h2.v ∧ f 1 = .int .i64 x3 ∧ f 5 = .int .i64 x12 ∧ St w0 (ros) (rs) w) go3 ⟨_, _, rfl, rfl, rfl, rfl, rfl, hst⟩ ?_
  clear hst
  rintro _ _ w r3_ ⟨x12, f, rfl, rfl, e3_0, e3_1, e3_5, hst⟩ hM3 ho3 Q100003 n3 zz3
  refine seqQ fun Q18 k18 z18 => ?_
  refine seqQ fun Q19 k19 z19 => ?_
  refine wp_region_lit ?_
  refine Y wn rfl (ym (v := .int .i64 x12) (et rfl e3_5)) ?_
  refine Y wn rfl (ym (v := h2.v) (et rfl e3_0)) ?_
  refine Y wn rfl (yLen SL_22 (et rfl rfl) hst (rdI q1)) ?_
  refine Y wn rfl (ylss (et rfl rfl) (et rfl rfl)) ?_
  refine wpList_nil ?_
  refine k19 _ _ ?_
  rcases iteS hM3 with ⟨c22, hM3⟩ | ⟨c22, hM3⟩
  · refine condT (et rfl rfl) (decide_eq_true c22) ?_
    refine wp_skip ?_
    refine k18 _ _ ?_
    refine seqQ fun Q20 k20 z20 => ?_
    refine blockQ fun Q21 qb21 => ?_
    refine seqQ fun Q22 k22 z22 => ?_
    refine wp_region_lit ?_
    refine Y wn rfl (ym (v := h2.v) (et rfl e3_0)) ?_
    refine Y wn rfl (ym (v := .int .i64 x12) (et rfl e3_5)) ?_
    obtain ⟨x23, gx23, hM3⟩ := bs hM3
    refine Y wn rfl (yIa SL_22 (et rfl rfl) (et rfl rfl) hst (rdI q1) gx23) ?_
    refine Y wn rfl (yI O_3 (et rfl rfl) hst (rdI q1) gx23) ?_
    refine Y wn rfl (ylss (et rfl rfl) rfl) ?_
    refine Y wn rfl (ym (v := .bool (decide (x23 < 0))) (et rfl rfl)) ?_
    obtain ⟨r25, gr25, hM3⟩ := bs hM3
    refine joinW 7 (fun f w => f 0 = h2.v ∧ f 1 = .int .i64 x3 ∧ f 5 = .int .i64 x12 ∧ f 24 = .bool r25 ∧ St w0 (ros) (rs) w) (fun j4 => ?_) ?_
    · rcases iteS gr25 with ⟨c27, gr25⟩ | ⟨c27, gr25⟩
      · refine Gn (wx rfl rfl rfl (decide_eq_true c27)) rfl ?_
        refine Gn (wx rfl rfl rfl (decide_eq_true c27)) rfl ?_
        refine Gn (wx rfl rfl rfl (decide_eq_true c27)) rfl ?_
        refine Gn (wx rfl rfl rfl (decide_eq_true c27)) rfl ?_
        refine Gn (wx rfl rfl rfl (decide_eq_true c27)) rfl ?_
        refine Gn (wx rfl rfl rfl (decide_eq_true c27)) rfl ?_
        refine Y wn rfl (ypt (v := .bool true) (et rfl rfl) (decide_eq_true c27) rfl) ?_
        obtain rfl := someI gr25
        exact j4 _ _ ⟨e3_0, e3_1, e3_5, rfl, hst⟩
      · refine Y (wg rfl rfl rfl (decide_eq_false c27)) rfl (ym (v := h2.v) (et rfl e3_0)) ?_
        refine Y (wg rfl rfl rfl (decide_eq_false c27)) rfl (ym (v := .int .i64 x12) (et rfl e3_5)) ?_
        obtain ⟨x28, gx28, gr25⟩ := bs gr25
        refine Y (wg rfl rfl rfl (decide_eq_false c27)) rfl (yIa SL_22 (et rfl rfl) (et rfl rfl) hst (rdI q1) gx28) ?_
        refine Y (wg rfl rfl rfl (decide_eq_false c27)) rfl (yI O_3 (et rfl rfl) hst (rdI q1) gx28) ?_
        refine Y (wg rfl rfl rfl (decide_eq_false c27)) rfl (ym (v := .int .i64 x3) (et rfl e3_1)) ?_
        refine Y (wg rfl rfl rfl (decide_eq_false c27)) rfl (ygeq (et rfl rfl) (et rfl rfl)) ?_
        refine Y wn rfl (ypf (v := .bool (decide (x3 ≤ x28))) (et rfl rfl) (decide_eq_false c27) (et rfl rfl)) ?_
        obtain rfl := someI gr25
        exact j4 _ _ ⟨e3_0, e3_1, e3_5, rfl, hst⟩
    clear hst
    rintro f w ⟨e26_0, e26_1, e26_5, e26_24, hst⟩
    refine wpList_nil ?_
    refine k22 _ _ ?_
    rcases iteS hM3 with ⟨c29, hM3⟩ | ⟨c29, hM3⟩
    · refine condT (et rfl e26_24) c29 ?_
      refine seqQ fun Q23 k23 z23 => ?_
      refine wp_region_lit ?_
      refine Y wn rfl (ya (v := .bool false) rfl) ?_
      refine wpList_nil ?_
      refine k23 _ _ ?_
      refine wp_ret ?_
      refine qb21 _ _ _ ?_
      refine z20 _ _ _ rfl ?_
      obtain rfl := someI hM3
      refine zz3 _ _ _ _ rfl rfl ?_
      exact je3_1 _ _ rfl hst (ho3 _ rfl)
    · refine condF (et rfl e26_24) (bfalse c29) ?_
      refine wp_skip ?_
      refine qb21 _ _ _ ?_
      refine k20 _ _ ?_
      refine wp_region_lit ?_
      refine Y wn rfl (ym (v := .int .i64 x12) (et rfl e26_5)) ?_
      refine Y wn rfl (yadd (et rfl rfl) rfl) ?_
      refine Y wn rfl (ya (v := .int .i64 (wa .i64 x12 1)) (et rfl rfl)) ?_
      refine wpList_nil ?_
      obtain rfl := someI hM3
      exact n3 _ _ _ rfl ⟨_, _, rfl, rfl, e26_0, e26_1, rfl, hst⟩
  · refine condF (et rfl rfl) (decide_eq_false c22) ?_
    refine wp_exit ?_
    refine z18 _ _ _ rfl ?_
    obtain rfl := someI hM3
    refine zz3 _ _ _ _ rfl rfl ?_
    exact je3_0 _ _ hst (ho3 _ rfl)

theorem sparseref09_Twice_ok {w0 : World} {ros : List Fact} {rs : List Res} {w : World} {x1 : List Int} {h2 : Hdr} {out : Bool} (hM : sparseref09_Twice x1 = some out) (q1 : imm (rI .i64) h2.v x1 ∈ ros) (hst : St w0 ros (rs) w) :
    Calls Try.prog 51 #[h2.v] w (fun e w => e = .returned (.bool out) ∧ St w0 (ros) (rs) w) := by
  refine enterQ Try.func51 rfl Try.ntmps51 rfl fun Q hQ => ?_
  refine seqQ fun Q1 k1 z1 => ?_
  refine wp_region_lit ?_
  refine Y wn rfl (ya (v := .bool false) rfl) ?_
  refine wpList_nil ?_
  refine k1 _ _ ?_
  refine seqQ fun Q2 k2 z2 => ?_
  refine seqQ fun Q3 k3 z3 => ?_
  refine wp_region_lit ?_
  refine Y wn rfl (ya (v := .int .i64 0) rfl) ?_
  refine wpList_nil ?_
  refine k3 _ _ ?_
  refine blockQ fun Q4 qb4 => ?_
  obtain ⟨o1, go1, hM⟩ := bs hM
  have je1_0 : ∀ (f : Nat → Value) (w : World), St w0 (ros) (rs) w → .inl () = o1 → Q4 (.exit 0) (fr 18 f) w := by
    intro f w hst ho
    subst ho
    refine qb4 _ _ _ ?_
    refine k2 _ _ ?_
    refine seqQ fun Q17 k17 z17 => ?_
    refine wp_region_lit ?_
    refine Y wn rfl (ya (v := .bool false) rfl) ?_
    refine wpList_nil ?_
    refine k17 _ _ ?_
    refine wp_ret ?_
    obtain rfl := someI hM
    exact hQ _ _ _ (fin1r Try.results51 ⟨rfl, rfl⟩ ⟨rfl, hst⟩)
  have je1_1 : ∀ (f : Nat → Value) (w : World), f 2 = .bool true → St w0 (ros) (rs) w → .inr () = o1 → Q4 .ret (fr 18 f) w := by
    intro f w eje1_1_2 hst ho
    subst ho
    refine qb4 _ _ _ ?_
    refine z2 _ _ _ rfl ?_
    obtain rfl := someI hM
    exact hQ _ _ _ (fin1r Try.results51 ⟨rfl, eje1_1_2⟩ ⟨rfl, hst⟩)
  refine loopQ (fun s a w => ∃ (x8 : Int) (f : Nat → Value), x8 = s ∧ a = fr 18 f ∧ f 0 = h2.v ∧ f 3 = .int .i64 x8 ∧ St w0 (ros) (rs) w) go1 ⟨_, _, rfl, rfl, rfl, rfl, hst⟩ ?_
  clear hst
  rintro _ _ w r1_ ⟨x8, f, rfl, rfl, e1_0, e1_3, hst⟩ hM1 ho1 Q100001 n1 zz1
  refine seqQ fun Q18 k18 z18 => ?_
  refine seqQ fun Q19 k19 z19 => ?_
  refine wp_region_lit ?_
  refine Y wn rfl (ym (v := .int .i64 x8) (et rfl e1_3)) ?_
  refine Y wn rfl (ym (v := h2.v) (et rfl e1_0)) ?_
  refine Y wn rfl (yLen SL_22 (et rfl rfl) hst (rdI q1)) ?_
  refine Y wn rfl (ylss (et rfl rfl) (et rfl rfl)) ?_
  refine wpList_nil ?_
  refine k19 _ _ ?_
  rcases iteS hM1 with ⟨c15, hM1⟩ | ⟨c15, hM1⟩
  · refine condT (et rfl rfl) (decide_eq_true c15) ?_
    refine wp_skip ?_
    refine k18 _ _ ?_
    refine seqQ fun Q20 k20 z20 => ?_
    refine blockQ fun Q21 qb21 => ?_
    refine seqQ fun Q22 k22 z22 => ?_
    obtain ⟨x16, gx16, hM1⟩ := bs hM1
    obtain ⟨x17, gx17, hM1⟩ := bs hM1
    obtain ⟨r18, gr18, hM1⟩ := bs hM1
    refine wp_drawR [0, 0, 3, 0, 0, 24, 56, 127] [7] 1 folM (by kernel_rfl) (by kernel_rfl) (by kernel_rfl) ?_
    replace hst := hst.drew
    refine DRn (l1 := [0, 1, 2, 3, 4, 5, 6]) (l2 := []) (lc := [7]) (by kernel_rfl) (by kernel_rfl) (by kernel_rfl) ?_
    refine Ry rfl rfl wn (ym (v := h2.v) (et rfl e1_0)) ?_
    refine Ry rfl rfl wn (ym (v := .int .i64 x8) (et rfl e1_3)) ?_
    refine Ry rfl rfl wn (ySl (k1 := .i64) SL_22 (et rfl rfl) hst (rdI q1) (.inr ⟨rfl, rfl⟩) (.inl (congrArg some (et rfl rfl))) gx16) ?_
    replace hst := hst.sub q1 gx16
    refine Ry rfl rfl wn (ym (v := h2.v) (et rfl e1_0)) ?_
    refine Ry rfl rfl wn (ym (v := .int .i64 x8) (et rfl e1_3)) ?_
    refine Ry rfl rfl wn (yIa SL_22 (et rfl rfl) (et rfl rfl) hst (rdI (mtF q1)) gx17) ?_
    refine Ry rfl rfl wn (yI O_3 (et rfl rfl) hst (rdI (mtF q1)) gx17) ?_
    refine Rn QSn ?_
    refine Lc rfl ?_ LAn
    refine Lk wn (yCall FN_18 (a2 (et rfl rfl) (et rfl rfl))) (sparsekit_In_ok (hM := gr18) (hst := hst) (q1 := mhF)) ?_
    clear hst
    rintro _ w ⟨rfl, hst⟩
    refine ⟨_, rfl, ?_⟩
    refine DRz (l1 := []) (l2 := []) (by kernel_rfl) (by kernel_rfl) ?_
    refine Rn QSn ?_
    refine k22 _ _ ?_
    rcases iteS hM1 with ⟨c19, hM1⟩ | ⟨c19, hM1⟩
    · refine condT (et rfl rfl) c19 ?_
      refine seqQ fun Q23 k23 z23 => ?_
      refine wp_region_lit ?_
      refine Y wn rfl (ya (v := .bool true) rfl) ?_
      refine wpList_nil ?_
      refine k23 _ _ ?_
      refine wp_ret ?_
      refine qb21 _ _ _ ?_
      refine z20 _ _ _ rfl ?_
      obtain rfl := someI hM1
      refine zz1 _ _ _ _ rfl rfl ?_
      exact je1_1 _ _ rfl (hst.facts (allT allI)) (ho1 _ rfl)
    · refine condF (et rfl rfl) (bfalse c19) ?_
      refine wp_skip ?_
      refine qb21 _ _ _ ?_
      refine k20 _ _ ?_
      refine wp_region_lit ?_
      refine Y wn rfl (ym (v := .int .i64 x8) (et rfl e1_3)) ?_
      refine Y wn rfl (yadd (et rfl rfl) rfl) ?_
      refine Y wn rfl (ya (v := .int .i64 (wa .i64 x8 1)) (et rfl rfl)) ?_
      refine wpList_nil ?_
      obtain rfl := someI hM1
      exact n1 _ _ _ rfl ⟨_, _, rfl, rfl, e1_0, rfl, (hst.facts (allT allI))⟩
  · refine condF (et rfl rfl) (decide_eq_false c15) ?_
    refine wp_exit ?_
    refine z18 _ _ _ rfl ?_
    obtain rfl := someI hM1
    refine zz1 _ _ _ _ rfl rfl ?_
    exact je1_0 _ _ hst (ho1 _ rfl)

theorem sparseref12_Table_ok {w0 : World} {ros : List Fact} {rs : List Res} {w : World} {x1 : List (List Int)} {h2 : Hdr} {out : (List (List Bool))} (hM : sparseref12_Table x1 = some out) (q1 : imm (rS (rI .i64)) h2.v x1 ∈ ros) (hst : St w0 ros (rs) w) :
    Calls Try.prog 52 #[.agg #[h2.v]] w (fun e w => ∃ (h100001 : Hdr) (y100002 : List Hdr), e = .returned (h100001.v) ∧ St w0 (ros) (row 54 rH h100001.v y100002 :: fam 4 rB y100002 out :: rs) w) := by
  refine enterQ Try.func52 rfl Try.ntmps52 rfl fun Q hQ => ?_
  refine seqQ fun Q1 k1 z1 => ?_
  refine wp_region_lit ?_
  refine YB wn rfl (r_box (vals := [h2.v]) hst (et rfl rfl) rfl) ?_
  clear hst
  intro b3 w hst
  refine Y wn rfl (ya (v := hnil.v) rfl) ?_
  refine wpList_nil ?_
  refine k1 _ _ ?_
  refine seqQ fun Q2 k2 z2 => ?_
  refine wp_region_lit ?_
  refine Y wn rfl (yFb FL_27_0 (et rfl rfl)) ?_
  refine Y wn rfl (yLb (u := h2.v) O_25 (et rfl rfl) hst mhR rfl) ?_
  refine Y wn rfl (yLen SL_25 (et rfl rfl) hst (rdI q1)) ?_
  refine Y wn rfl (ya (v := .int .i64 (x1.length : Int)) (et rfl rfl)) ?_
  refine wpList_nil ?_
  refine k2 _ _ ?_
  refine seqQ fun Q3 k3 z3 => ?_
  refine wp_region_lit ?_
  refine Y wn rfl (ya (v := hnil.v) rfl) ?_
  refine wpList_nil ?_
  refine k3 _ _ ?_
  refine seqQ fun Q4 k4 z4 => ?_
  refine seqQ fun Q5 k5 z5 => ?_
  refine wp_region_lit ?_
  refine Y wn rfl (ya (v := .int .i64 0) rfl) ?_
  refine wpList_nil ?_
  refine k5 _ _ ?_
  refine blockQ fun Q6 qb6 => ?_
  obtain ⟨o3, go3, hM⟩ := bs hM
  have je3_0 : ∀ (x84 : List (List Bool)) (h82 : Hdr) (y83 : List Hdr) (f : Nat → Value) (w : World), f 4 = h82.v → St w0 (ros) (row 54 rH h82.v y83 :: fam 4 rB y83 x84 :: rs) w → x84 = o3 → Q6 (.exit 0) (fr 43 f) w := by
    intro x84 h82 y83 f w eje3_0_4 hst ho
    subst ho
    refine qb6 _ _ _ ?_
    refine k4 _ _ ?_
    refine seqQ fun Q47 k47 z47 => ?_
    refine wp_region_lit ?_
    refine Y wn rfl (ym (v := h82.v) (et rfl eje3_0_4)) ?_
    refine Y wn rfl (ya (v := h82.v) (et rfl rfl)) ?_
    refine wpList_nil ?_
    refine k47 _ _ ?_
    refine wp_ret ?_
    obtain rfl := someI hM
    exact hQ _ _ _ (fin1r Try.results52 ⟨rfl, rfl⟩ ⟨_, _, rfl, hst⟩)
  replace hst := ((hst.rowNh 54 rH).fNew 4 rB).pk 2 [1, 0] rfl
  refine loopQ (fun s a w => ∃ (x41 : List (List Bool)) (x42 : Int) (f : Nat → Value) (h39 : Hdr) (y40 : List Hdr), (x41, x42) = s ∧ a = fr 43 f ∧ f 1 = .pointer (some ⟨b3, 0, none⟩) ∧ f 3 = .int .i64 (x1.length : Int) ∧ f 4 = h39.v ∧ f 5 = .int .i64 x42 ∧ St w0 (ros) (box b3 27 [h2.v] :: row 54 rH h39.v y40 :: fam 4 rB y40 x41 :: rs) w) go3 ⟨_, _, _, _, _, rfl, rfl, rfl, rfl, rfl, rfl, (hst.pk 3 [2, 0, 0] rfl)⟩ ?_
  clear hst
  rintro _ _ w r3_ ⟨x41, x42, f, h39, y40, rfl, rfl, e3_1, e3_3, e3_4, e3_5, hst⟩ hM3 ho3 Q100003 n3 zz3
  refine seqQ fun Q48 k48 z48 => ?_
  refine seqQ fun Q49 k49 z49 => ?_
  refine wp_region_lit ?_
  refine Y wn rfl (ym (v := .int .i64 x42) (et rfl e3_5)) ?_
  refine Y wn rfl (ym (v := .int .i64 (x1.length : Int)) (et rfl e3_3)) ?_
  refine Y wn rfl (ylss (et rfl rfl) (et rfl rfl)) ?_
  refine wpList_nil ?_
  refine k49 _ _ ?_
  rcases iteS hM3 with ⟨c85, hM3⟩ | ⟨c85, hM3⟩
  · refine condT (et rfl rfl) (decide_eq_true c85) ?_
    refine wp_skip ?_
    refine k48 _ _ ?_
    refine seqQ fun Q50 k50 z50 => ?_
    refine blockQ fun Q51 qb51 => ?_
    refine seqQ fun Q52 k52 z52 => ?_
    refine wp_region_lit ?_
    refine Y wn rfl (ym (v := .int .i64 (x1.length : Int)) (et rfl e3_3)) ?_
    obtain ⟨x88, gx88, hM3⟩ := bs hM3
    refine YH wn rfl (rMk hst SL_54 (et rfl rfl) gx88) ?_
    clear hst
    intro h86 w hst
    refine Y wn rfl (ya (v := h86.v) (et rfl rfl)) ?_
    refine wpList_nil ?_
    refine k52 _ _ ?_
    refine seqQ fun Q53 k53 z53 => ?_
    refine seqQ fun Q54 k54 z54 => ?_
    refine wp_region_lit ?_
    refine Y wn rfl (ya (v := .int .i64 0) rfl) ?_
    refine wpList_nil ?_
    refine k54 _ _ ?_
    refine blockQ fun Q55 qb55 => ?_
    obtain ⟨o4, go4, hM3⟩ := bs hM3
    have je4_0 : ∀ (x107 : List Bool) (f : Nat → Value) (w : World), f 1 = .pointer (some ⟨b3, 0, none⟩) → f 3 = .int .i64 (x1.length : Int) → f 4 = h39.v → f 5 = .int .i64 x42 → f 6 = h86.v → St w0 (ros) (box b3 27 [h2.v] :: row 54 rH h39.v y40 :: fam 4 rB y40 x41 :: row 4 rB h86.v x107 :: rs) w → x107 = o4 → Q55 (.exit 2) (fr 43 f) w := by
      intro x107 f w eje4_0_1 eje4_0_3 eje4_0_4 eje4_0_5 eje4_0_6 hst ho
      subst ho
      refine qb55 _ _ _ ?_
      refine k53 _ _ ?_
      refine wp_region_lit ?_
      refine Y wn rfl (ym (v := h39.v) (et rfl eje4_0_4)) ?_
      refine Y wn rfl (ym (v := h86.v) (et rfl eje4_0_6)) ?_
      refine YH wn rfl (rLt (n := 1) (l := [h86]) hst SLH_53 [h86.v] (bp1 (et rfl rfl)) rfl rfl (mks1 rfl (mkF rfl) mks0)) ?_
      clear hst
      intro h108 w hst
      obtain ⟨x111, gx111, hM3⟩ := bs hM3
      replace hst := hst.pk 3 [2, 0, 0] rfl
      obtain ⟨y112, ey112, gy112⟩ := app_rep gx111 (hst.famL (mtR (mtR (mtR mhR)))) (show [h86].length = [x107].length from rfl)
      refine YH wn rfl (rAp hst SLH_53 (et rfl rfl) (et rfl rfl) (rdO (mtR mhR)) gy112) ?_
      clear hst
      intro h110 w hst
      replace hst := hst.pk 5 [4, 3, 0, 0, 0] rfl
      replace hst := hst.fPush
      rw [← ey112, ← (app_some gx111).1] at hst
      refine Y wn rfl (ya (v := h110.v) (et rfl rfl)) ?_
      refine wpList_nil ?_
      refine qb51 _ _ _ ?_
      refine k50 _ _ ?_
      refine wp_region_lit ?_
      refine Y wn rfl (ym (v := .int .i64 x42) (et rfl eje4_0_5)) ?_
      refine Y wn rfl (yadd (et rfl rfl) rfl) ?_
      refine Y wn rfl (ya (v := .int .i64 (wa .i64 x42 1)) (et rfl rfl)) ?_
      refine wpList_nil ?_
      obtain rfl := someI hM3
      exact n3 _ _ _ rfl ⟨_, _, _, _, _, rfl, rfl, eje4_0_1, eje4_0_3, rfl, rfl, (hst.pk 4 [3, 1, 0] rfl)⟩
    refine loopQ (fun s a w => ∃ (x96 : List Bool) (x97 : Int) (f : Nat → Value), (x96, x97) = s ∧ a = fr 43 f ∧ f 1 = .pointer (some ⟨b3, 0, none⟩) ∧ f 3 = .int .i64 (x1.length : Int) ∧ f 4 = h39.v ∧ f 5 = .int .i64 x42 ∧ f 6 = h86.v ∧ f 7 = .int .i64 x97 ∧ St w0 (ros) (box b3 27 [h2.v] :: row 54 rH h39.v y40 :: fam 4 rB y40 x41 :: row 4 rB h86.v x96 :: rs) w) go4 ⟨_, _, _, rfl, rfl, e3_1, e3_3, e3_4, e3_5, rfl, rfl, (hst.pk 4 [1, 1, 1, 0] rfl)⟩ ?_
    clear hst
    rintro _ _ w r4_ ⟨x96, x97, f, rfl, rfl, e4_1, e4_3, e4_4, e4_5, e4_6, e4_7, hst⟩ hM4 ho4 Q100004 n4 zz4
    refine seqQ fun Q64 k64 z64 => ?_
    refine seqQ fun Q65 k65 z65 => ?_
    refine wp_region_lit ?_
    refine Y wn rfl (ym (v := .int .i64 x97) (et rfl e4_7)) ?_
    refine Y wn rfl (yFb FL_27_0 (et rfl e4_1)) ?_
    refine Y wn rfl (yLb (u := h2.v) O_25 (et rfl rfl) hst mhR rfl) ?_
    refine Y wn rfl (ym (v := .int .i64 x42) (et rfl e4_5)) ?_
    obtain ⟨x113, gx113, hM4⟩ := bs hM4
    refine Y wn rfl (yIa SL_25 (et rfl rfl) (et rfl rfl) hst (rdI q1) gx113) ?_
    obtain ⟨h114, hst⟩ := iLs hst q1 gx113
    refine Y wn rfl (yCt O_22 (et rfl rfl) hst (mtF mhF) rfl) ?_
    refine Y wn rfl (yLen SL_22 (et rfl rfl) hst (rdI mhF)) ?_
    refine Y wn rfl (ylss (et rfl rfl) (et rfl rfl)) ?_
    refine wpList_nil ?_
    refine k65 _ _ ?_
    rcases iteS hM4 with ⟨c115, hM4⟩ | ⟨c115, hM4⟩
    · refine condT (et rfl rfl) (decide_eq_true c115) ?_
      refine wp_skip ?_
      refine k64 _ _ ?_
      refine seqQ fun Q66 k66 z66 => ?_
      refine blockQ fun Q67 qb67 => ?_
      refine wp_region_lit ?_
      refine Y wn rfl (ym (v := h86.v) (et rfl e4_6)) ?_
      refine Y wn rfl (yFb FL_27_0 (et rfl e4_1)) ?_
      refine Y wn rfl (yLb (u := h2.v) O_25 (et rfl rfl) hst mhR rfl) ?_
      refine Y wn rfl (ym (v := .int .i64 x42) (et rfl e4_5)) ?_
      obtain ⟨x116, gx116, hM4⟩ := bs hM4
      refine Y wn rfl (yIa SL_25 (et rfl rfl) (et rfl rfl) hst (rdI (mtF (mtF q1))) gx116) ?_
      obtain ⟨h117, hst⟩ := iLs hst (mtF (mtF q1)) gx116
      refine Y wn rfl (yCt O_22 (et rfl rfl) hst (mtF mhF) rfl) ?_
      refine Y wn rfl (ym (v := .int .i64 x97) (et rfl e4_7)) ?_
      obtain ⟨x118, gx118, hM4⟩ := bs hM4
      refine Y wn rfl (yIa SL_22 (et rfl rfl) (et rfl rfl) hst (rdI mhF) gx118) ?_
      refine Y wn rfl (yI O_3 (et rfl rfl) hst (rdI mhF) gx118) ?_
      obtain ⟨x119, gx119, hM4⟩ := bs hM4
      refine Y wn rfl (yIs SL_54 (et rfl rfl) (et rfl rfl) hst (rdO (mtR (mtR (mtR mhR)))) gx119) ?_
      replace hst := hst.pk 4 [3, 0, 0, 0] rfl
      refine YT wn rfl (r_sti (cs := [.bool true]) hst O_4 rfl (et rfl rfl) rfl rfl mkB gx119) ?_
      clear hst
      intro w hst
      refine wpList_nil ?_
      refine qb67 _ _ _ ?_
      refine k66 _ _ ?_
      refine wp_region_lit ?_
      refine Y wn rfl (ym (v := .int .i64 x97) (et rfl e4_7)) ?_
      refine Y wn rfl (yadd (et rfl rfl) rfl) ?_
      refine Y wn rfl (ya (v := .int .i64 (wa .i64 x97 1)) (et rfl rfl)) ?_
      refine wpList_nil ?_
      obtain rfl := someI hM4
      exact n4 _ _ _ rfl ⟨_, _, _, rfl, rfl, e4_1, e4_3, e4_4, e4_5, e4_6, rfl, ((hst.pk 4 [1, 1, 1, 0] rfl).facts (allT (allT (allT (allT allI)))))⟩
    · refine condF (et rfl rfl) (decide_eq_false c115) ?_
      refine wp_exit ?_
      refine z64 _ _ _ rfl ?_
      obtain rfl := someI hM4
      refine zz4 _ _ _ _ rfl rfl ?_
      exact je4_0 _ _ _ e4_1 e4_3 e4_4 e4_5 e4_6 (hst.facts (allT (allT allI))) (ho4 _ rfl)
  · refine condF (et rfl rfl) (decide_eq_false c85) ?_
    refine wp_exit ?_
    refine z48 _ _ _ rfl ?_
    obtain rfl := someI hM3
    refine zz3 _ _ _ _ rfl rfl ?_
    exact je3_0 _ _ _ _ _ e3_4 (hst.pk 3 [1, 1] rfl) (ho3 _ rfl)

theorem sparseref12_empty_ok {w0 : World} {ros : List Fact} {rs : List Res} {w : World} {x1 : Int} {out : (List (List Bool))} (hM : sparseref12_empty x1 = some out) (hst : St w0 ros (rs) w) :
    Calls Try.prog 53 #[.int .i64 x1] w (fun e w => ∃ (h100001 : Hdr) (y100002 : List Hdr), e = .returned (h100001.v) ∧ St w0 (ros) (row 54 rH h100001.v y100002 :: fam 4 rB y100002 out :: rs) w) := by
  refine enterQ Try.func53 rfl Try.ntmps53 rfl fun Q hQ => ?_
  refine seqQ fun Q1 k1 z1 => ?_
  refine wp_region_lit ?_
  refine Y wn rfl (ya (v := hnil.v) rfl) ?_
  refine wpList_nil ?_
  refine k1 _ _ ?_
  refine seqQ fun Q2 k2 z2 => ?_
  refine wp_region_lit ?_
  refine Y wn rfl (ya (v := hnil.v) rfl) ?_
  refine wpList_nil ?_
  refine k2 _ _ ?_
  refine seqQ fun Q3 k3 z3 => ?_
  refine seqQ fun Q4 k4 z4 => ?_
  refine wp_region_lit ?_
  refine Y wn rfl (ya (v := .int .i64 0) rfl) ?_
  refine wpList_nil ?_
  refine k4 _ _ ?_
  refine blockQ fun Q5 qb5 => ?_
  obtain ⟨o1, go1, hM⟩ := bs hM
  have je1_0 : ∀ (x30 : List (List Bool)) (h28 : Hdr) (y29 : List Hdr) (f : Nat → Value) (w : World), f 3 = h28.v → St w0 (ros) (row 54 rH h28.v y29 :: fam 4 rB y29 x30 :: rs) w → x30 = o1 → Q5 (.exit 0) (fr 16 f) w := by
    intro x30 h28 y29 f w eje1_0_3 hst ho
    subst ho
    refine qb5 _ _ _ ?_
    refine k3 _ _ ?_
    refine seqQ fun Q14 k14 z14 => ?_
    refine wp_region_lit ?_
    refine Y wn rfl (ym (v := h28.v) (et rfl eje1_0_3)) ?_
    refine Y wn rfl (ya (v := h28.v) (et rfl rfl)) ?_
    refine wpList_nil ?_
    refine k14 _ _ ?_
    refine wp_ret ?_
    obtain rfl := someI hM
    exact hQ _ _ _ (fin1r Try.results53 ⟨rfl, rfl⟩ ⟨_, _, rfl, hst⟩)
  replace hst := ((hst.rowNh 54 rH).fNew 4 rB).pk 2 [1, 0] rfl
  refine loopQ (fun s a w => ∃ (x13 : List (List Bool)) (x14 : Int) (f : Nat → Value) (h11 : Hdr) (y12 : List Hdr), (x13, x14) = s ∧ a = fr 16 f ∧ f 0 = .int .i64 x1 ∧ f 3 = h11.v ∧ f 4 = .int .i64 x14 ∧ St w0 (ros) (row 54 rH h11.v y12 :: fam 4 rB y12 x13 :: rs) w) go1 ⟨_, _, _, _, _, rfl, rfl, rfl, rfl, rfl, hst⟩ ?_
  clear hst
  rintro _ _ w r1_ ⟨x13, x14, f, h11, y12, rfl, rfl, e1_0, e1_3, e1_4, hst⟩ hM1 ho1 Q100001 n1 zz1
  refine seqQ fun Q15 k15 z15 => ?_
  refine seqQ fun Q16 k16 z16 => ?_
  refine wp_region_lit ?_
  refine Y wn rfl (ym (v := .int .i64 x14) (et rfl e1_4)) ?_
  refine Y wn rfl (ym (v := .int .i64 x1) (et rfl e1_0)) ?_
  refine Y wn rfl (ylss (et rfl rfl) (et rfl rfl)) ?_
  refine wpList_nil ?_
  refine k16 _ _ ?_
  rcases iteS hM1 with ⟨c31, hM1⟩ | ⟨c31, hM1⟩
  · refine condT (et rfl rfl) (decide_eq_true c31) ?_
    refine wp_skip ?_
    refine k15 _ _ ?_
    refine seqQ fun Q17 k17 z17 => ?_
    refine blockQ fun Q18 qb18 => ?_
    refine wp_region_lit ?_
    refine Y wn rfl (ym (v := h11.v) (et rfl e1_3)) ?_
    refine Y wn rfl (ym (v := .int .i64 x1) (et rfl e1_0)) ?_
    obtain ⟨x34, gx34, hM1⟩ := bs hM1
    refine YH wn rfl (rMk hst SL_54 (et rfl rfl) gx34) ?_
    clear hst
    intro h32 w hst
    refine YH wn rfl (rLt (n := 1) (l := [h32]) hst SLH_53 [h32.v] (bp1 (et rfl rfl)) rfl rfl (mks1 rfl (mkF rfl) mks0)) ?_
    clear hst
    intro h35 w hst
    obtain ⟨x38, gx38, hM1⟩ := bs hM1
    replace hst := hst.pk 3 [2, 0, 0] rfl
    obtain ⟨y39, ey39, gy39⟩ := app_rep gx38 (hst.famL (mtR (mtR (mtR mhR)))) (show [h32].length = [x34].length from rfl)
    refine YH wn rfl (rAp hst SLH_53 (et rfl rfl) (et rfl rfl) (rdO (mtR mhR)) gy39) ?_
    clear hst
    intro h37 w hst
    replace hst := hst.pk 4 [2, 2, 0, 0] rfl
    replace hst := hst.fPush
    rw [← ey39, ← (app_some gx38).1] at hst
    refine Y wn rfl (ya (v := h37.v) (et rfl rfl)) ?_
    refine wpList_nil ?_
    refine qb18 _ _ _ ?_
    refine k17 _ _ ?_
    refine wp_region_lit ?_
    refine Y wn rfl (ym (v := .int .i64 x14) (et rfl e1_4)) ?_
    refine Y wn rfl (yadd (et rfl rfl) rfl) ?_
    refine Y wn rfl (ya (v := .int .i64 (wa .i64 x14 1)) (et rfl rfl)) ?_
    refine wpList_nil ?_
    obtain rfl := someI hM1
    exact n1 _ _ _ rfl ⟨_, _, _, _, _, rfl, rfl, e1_0, rfl, rfl, (hst.pk 3 [1, 0] rfl)⟩
  · refine condF (et rfl rfl) (decide_eq_false c31) ?_
    refine wp_exit ?_
    refine z15 _ _ _ rfl ?_
    obtain rfl := someI hM1
    refine zz1 _ _ _ _ rfl rfl ?_
    exact je1_0 _ _ _ _ _ e1_3 hst (ho1 _ rfl)

theorem sparseref12_Induced_ok {w0 : World} {ros : List Fact} {rs : List Res} {w : World} {x1 : List (List Int)} {x3 : List Int} {h2 : Hdr} {h4 : Hdr} {out : (List (List Int)) × Int} (hM : sparseref12_Induced x1 x3 = some out) (q1 : imm (rS (rI .i64)) h2.v x1 ∈ ros) (q2 : imm (rI .i64) h4.v x3 ∈ ros) (hst : St w0 ros (rs) w) :
    Calls Try.prog 30 #[.agg #[h2.v], h4.v] w (fun e w => ∃ (h100001 : Hdr), e = .returned (.tuple #[.agg #[h100001.v], .int .i64 out.2]) ∧ St w0 (ros) (row 22 (rS (rI .i64)) h100001.v out.1 :: rs) w) := by
  refine enterQ Try.func30 rfl Try.ntmps30 rfl fun Q hQ => ?_
  refine seqQ fun Q1 k1 z1 => ?_
  refine wp_region_lit ?_
  refine YB wn rfl (r_box (vals := [h2.v]) hst (et rfl rfl) rfl) ?_
  clear hst
  intro b5 w hst
  refine YB wn rfl (rAl hst ZT_27) ?_
  clear hst
  intro b6 w hst
  refine Y wn rfl (ya (v := .int .i64 0) rfl) ?_
  refine wpList_nil ?_
  refine k1 _ _ ?_
  refine seqQ fun Q2 k2 z2 => ?_
  refine seqQ fun Q3 k3 z3 => ?_
  refine wp_region_lit ?_
  refine Y wn rfl (yLbs (us := [h2.v]) ST_27 (et rfl rfl) hst (mtR mhR) rfl rfl) ?_
  obtain ⟨r7, gr7, hM⟩ := bs hM
  refine Yc wn rfl (yCall FN_31 (a1 (et rfl rfl))) (sparseref12_Check_ok (hM := gr7) (hst := hst) (q1 := q1)) ?_
  clear hst
  rintro _ w ⟨rfl, hst⟩
  refine ⟨_, rfl, ?_⟩
  refine Y wn rfl (ya (v := .int .i64 r7) (et rfl rfl)) ?_
  refine wpList_nil ?_
  refine k3 _ _ ?_
  refine seqQ fun Q4 k4 z4 => ?_
  refine wp_region_lit ?_
  refine Y wn rfl (ym (v := .int .i64 r7) (et rfl rfl)) ?_
  refine Y wn rfl (yneq (et rfl rfl) rfl) ?_
  refine wpList_nil ?_
  refine k4 _ _ ?_
  rcases iteS hM with ⟨c8, hM⟩ | ⟨c8, hM⟩
  · refine condF (et rfl rfl) (nF (decide_eq_true c8)) ?_
    refine wp_skip ?_
    refine k2 _ _ ?_
    refine seqQ fun Q5 k5 z5 => ?_
    refine seqQ fun Q6 k6 z6 => ?_
    refine wp_region_lit ?_
    refine Y wn rfl (ym (v := h4.v) (et rfl rfl)) ?_
    refine Y wn rfl (yFb FL_27_0 (et rfl rfl)) ?_
    refine Y wn rfl (yLb (u := h2.v) O_25 (et rfl rfl) hst (mtR mhR) rfl) ?_
    refine Y wn rfl (yLen SL_25 (et rfl rfl) hst (rdI q1)) ?_
    obtain ⟨r9, gr9, hM⟩ := bs hM
    refine Yc wn rfl (yCall FN_50 (a2 (et rfl rfl) (et rfl rfl))) (sparseref09_Range_ok (hM := gr9) (hst := hst) (q1 := q2)) ?_
    clear hst
    rintro _ w ⟨rfl, hst⟩
    refine ⟨_, rfl, ?_⟩
    refine Y wn rfl (ynot (et rfl rfl)) ?_
    refine wpList_nil ?_
    refine k6 _ _ ?_
    rcases iteS hM with ⟨c10, hM⟩ | ⟨c10, hM⟩
    · refine condF (et rfl rfl) (nF c10) ?_
      refine wp_skip ?_
      refine k5 _ _ ?_
      refine seqQ fun Q7 k7 z7 => ?_
      refine seqQ fun Q8 k8 z8 => ?_
      refine wp_region_lit ?_
      refine Y wn rfl (ym (v := h4.v) (et rfl rfl)) ?_
      obtain ⟨r11, gr11, hM⟩ := bs hM
      refine Yc wn rfl (yCall FN_51 (a1 (et rfl rfl))) (sparseref09_Twice_ok (hM := gr11) (hst := hst) (q1 := q2)) ?_
      clear hst
      rintro _ w ⟨rfl, hst⟩
      refine ⟨_, rfl, ?_⟩
      refine wpList_nil ?_
      refine k8 _ _ ?_
      rcases iteS hM with ⟨c12, hM⟩ | ⟨c12, hM⟩
      · refine condT (et rfl rfl) c12 ?_
        refine seqQ fun Q9 k9 z9 => ?_
        refine wp_region_lit ?_
        refine Y wn rfl (ybuild (us := [hnil.v]) [] SO_27 bp0 rfl) ?_
        refine YT wn rfl (r_stbn (vals' := [hnil.v]) (us := [hnil.v]) hst ST_27 (et rfl rfl) (et rfl rfl) rfl rfl (one_of rfl) rfl) ?_
        clear hst
        intro w hst
        refine Y wn rfl (ya (v := .int .i64 90) rfl) ?_
        refine wpList_nil ?_
        refine k9 _ _ ?_
        refine wp_ret ?_
        refine z7 _ _ _ rfl ?_
        obtain rfl := someI hM
        replace hst := hst.rowNh 22 (rS (rI .i64))
        exact hQ _ _ _ (fin2r Try.results30 (rcs2 rfl rfl hst (mtR mhR) ST_27 rfl) ⟨rfl, rfl⟩ ⟨_, rfl, (hst.pk 3 [0] rfl)⟩)
      · refine condF (et rfl rfl) (bfalse c12) ?_
        refine wp_skip ?_
        refine k7 _ _ ?_
        refine seqQ fun Q10 k10 z10 => ?_
        refine wp_region_lit ?_
        refine Y wn rfl (yLbs (us := [h2.v]) ST_27 (et rfl rfl) hst (mtR mhR) rfl rfl) ?_
        obtain ⟨r13, gr13, hM⟩ := bs hM
        refine Yc wn rfl (yCall FN_52 (a1 (et rfl rfl))) (sparseref12_Table_ok (hM := gr13) (hst := hst) (q1 := q1)) ?_
        clear hst
        rintro _ w ⟨h14, y15, rfl, hst⟩
        refine ⟨_, rfl, ?_⟩
        refine Y wn rfl (ya (v := h14.v) (et rfl rfl)) ?_
        refine wpList_nil ?_
        refine k10 _ _ ?_
        refine seqQ fun Q11 k11 z11 => ?_
        refine wp_region_lit ?_
        refine Y wn rfl (ym (v := h4.v) (et rfl rfl)) ?_
        refine Y wn rfl (yLen SL_22 (et rfl rfl) hst (rdI q2)) ?_
        obtain ⟨r16, gr16, hM⟩ := bs hM
        refine Yc wn rfl (yCall FN_53 (a1 (et rfl rfl))) (sparseref12_empty_ok (hM := gr16) (hst := hst) ) ?_
        clear hst
        rintro _ w ⟨h17, y18, rfl, hst⟩
        refine ⟨_, rfl, ?_⟩
        refine Y wn rfl (ya (v := h17.v) (et rfl rfl)) ?_
        refine wpList_nil ?_
        refine k11 _ _ ?_
        refine seqQ fun Q12 k12 z12 => ?_
        refine seqQ fun Q13 k13 z13 => ?_
        refine wp_region_lit ?_
        refine Y wn rfl (ya (v := .int .i64 0) rfl) ?_
        refine wpList_nil ?_
        refine k13 _ _ ?_
        refine blockQ fun Q14 qb14 => ?_
        obtain ⟨o3, go3, hM⟩ := bs hM
        have je3_0 : ∀ (x95 : List (List Bool)) (f : Nat → Value) (w : World), f 4 = .pointer (some ⟨b6, 0, none⟩) → f 8 = h17.v → St w0 (ros) (box b6 27 [hnil.v] :: row 54 rH h17.v y18 :: fam 4 rB y18 x95 :: rs) w → x95 = o3 → Q14 (.exit 0) (fr 65 f) w := by
          intro x95 f w eje3_0_4 eje3_0_8 hst ho
          subst ho
          refine qb14 _ _ _ ?_
          refine k12 _ _ ?_
          refine seqQ fun Q51 k51 z51 => ?_
          refine wp_region_lit ?_
          refine Y wn rfl (ym (v := h17.v) (et rfl eje3_0_8)) ?_
          obtain ⟨r96, gr96, hM⟩ := bs hM
          replace hst := hst.pk 3 [1, 1, 0] rfl
          replace hst := hst.ffz
          refine Yc wn rfl (yCall FN_36 (a1 (et rfl rfl))) (sparseref12_FromTable_ok (hM := gr96) (hst := hst) (q1 := mhF)) ?_
          clear hst
          rintro _ w ⟨h97, rfl, hst⟩
          refine ⟨_, rfl, ?_⟩
          replace hst := hst.pk 2 [1, 0] rfl
          refine YT wn rfl (r_stbn (vals' := [h97.v]) (us := [h97.v]) hst ST_27 (et rfl eje3_0_4) (et rfl rfl) rfl rfl (one_of rfl) rfl) ?_
          clear hst
          intro w hst
          refine Y wn rfl (ya (v := .int .i64 0) rfl) ?_
          refine wpList_nil ?_
          refine k51 _ _ ?_
          refine wp_ret ?_
          obtain rfl := someI hM
          exact hQ _ _ _ (fin2r Try.results30 (rcs2 rfl eje3_0_4 hst mhR ST_27 rfl) ⟨rfl, rfl⟩ ⟨_, rfl, ((hst.pk 2 [1] rfl).facts (allT allI))⟩)
        refine loopQ (fun s a w => ∃ (x55 : List (List Bool)) (x56 : Int) (f : Nat → Value), (x55, x56) = s ∧ a = fr 65 f ∧ f 1 = h4.v ∧ f 4 = .pointer (some ⟨b6, 0, none⟩) ∧ f 7 = h14.v ∧ f 8 = h17.v ∧ f 9 = .int .i64 x56 ∧ St w0 (ros) (box b6 27 [hnil.v] :: row 54 rH h14.v y15 :: fam 4 rB y15 r13 :: row 54 rH h17.v y18 :: fam 4 rB y18 x55 :: rs) w) go3 ⟨_, _, _, rfl, rfl, rfl, rfl, rfl, rfl, rfl, (hst.pk 6 [4, 2, 2, 0, 0] rfl)⟩ ?_
        clear hst
        rintro _ _ w r3_ ⟨x55, x56, f, rfl, rfl, e3_1, e3_4, e3_7, e3_8, e3_9, hst⟩ hM3 ho3 Q100003 n3 zz3
        refine seqQ fun Q52 k52 z52 => ?_
        refine seqQ fun Q53 k53 z53 => ?_
        refine wp_region_lit ?_
        refine Y wn rfl (ym (v := .int .i64 x56) (et rfl e3_9)) ?_
        refine Y wn rfl (ym (v := h4.v) (et rfl e3_1)) ?_
        refine Y wn rfl (yLen SL_22 (et rfl rfl) hst (rdI q2)) ?_
        refine Y wn rfl (ylss (et rfl rfl) (et rfl rfl)) ?_
        refine wpList_nil ?_
        refine k53 _ _ ?_
        rcases iteS hM3 with ⟨c98, hM3⟩ | ⟨c98, hM3⟩
        · refine condT (et rfl rfl) (decide_eq_true c98) ?_
          refine wp_skip ?_
          refine k52 _ _ ?_
          refine seqQ fun Q54 k54 z54 => ?_
          refine blockQ fun Q55 qb55 => ?_
          refine seqQ fun Q56 k56 z56 => ?_
          refine wp_region_lit ?_
          refine Y wn rfl (ya (v := .int .i64 0) rfl) ?_
          refine wpList_nil ?_
          refine k56 _ _ ?_
          refine blockQ fun Q57 qb57 => ?_
          obtain ⟨o4, go4, hM3⟩ := bs hM3
          have je4_0 : ∀ (x123 : List (List Bool)) (f : Nat → Value) (w : World), f 1 = h4.v → f 4 = .pointer (some ⟨b6, 0, none⟩) → f 7 = h14.v → f 8 = h17.v → f 9 = .int .i64 x56 → St w0 (ros) (box b6 27 [hnil.v] :: row 54 rH h14.v y15 :: fam 4 rB y15 r13 :: row 54 rH h17.v y18 :: fam 4 rB y18 x123 :: rs) w → x123 = o4 → Q57 (.exit 2) (fr 65 f) w := by
            intro x123 f w eje4_0_1 eje4_0_4 eje4_0_7 eje4_0_8 eje4_0_9 hst ho
            subst ho
            refine qb57 _ _ _ ?_
            refine qb55 _ _ _ ?_
            refine k54 _ _ ?_
            refine wp_region_lit ?_
            refine Y wn rfl (ym (v := .int .i64 x56) (et rfl eje4_0_9)) ?_
            refine Y wn rfl (yadd (et rfl rfl) rfl) ?_
            refine Y wn rfl (ya (v := .int .i64 (wa .i64 x56 1)) (et rfl rfl)) ?_
            refine wpList_nil ?_
            obtain rfl := someI hM3
            exact n3 _ _ _ rfl ⟨_, _, _, rfl, rfl, eje4_0_1, eje4_0_4, eje4_0_7, eje4_0_8, rfl, hst⟩
          refine loopQ (fun s a w => ∃ (x109 : List (List Bool)) (x110 : Int) (f : Nat → Value), (x109, x110) = s ∧ a = fr 65 f ∧ f 1 = h4.v ∧ f 4 = .pointer (some ⟨b6, 0, none⟩) ∧ f 7 = h14.v ∧ f 8 = h17.v ∧ f 9 = .int .i64 x56 ∧ f 10 = .int .i64 x110 ∧ St w0 (ros) (box b6 27 [hnil.v] :: row 54 rH h14.v y15 :: fam 4 rB y15 r13 :: row 54 rH h17.v y18 :: fam 4 rB y18 x109 :: rs) w) go4 ⟨_, _, _, rfl, rfl, e3_1, e3_4, e3_7, e3_8, e3_9, rfl, hst⟩ ?_
          clear hst
          rintro _ _ w r4_ ⟨x109, x110, f, rfl, rfl, e4_1, e4_4, e4_7, e4_8, e4_9, e4_10, hst⟩ hM4 ho4 Q100004 n4 zz4
          refine seqQ fun Q66 k66 z66 => ?_
          refine seqQ fun Q67 k67 z67 => ?_
          refine wp_region_lit ?_
          refine Y wn rfl (ym (v := .int .i64 x110) (et rfl e4_10)) ?_
          refine Y wn rfl (ym (v := h4.v) (et rfl e4_1)) ?_
          refine Y wn rfl (yLen SL_22 (et rfl rfl) hst (rdI q2)) ?_
          refine Y wn rfl (ylss (et rfl rfl) (et rfl rfl)) ?_
          refine wpList_nil ?_
          refine k67 _ _ ?_
          rcases iteS hM4 with ⟨c124, hM4⟩ | ⟨c124, hM4⟩
          · refine condT (et rfl rfl) (decide_eq_true c124) ?_
            refine wp_skip ?_
            refine k66 _ _ ?_
            refine seqQ fun Q68 k68 z68 => ?_
            refine blockQ fun Q69 qb69 => ?_
            obtain ⟨x125, gx125, hM4⟩ := bs hM4
            obtain ⟨x127, gx127, hM4⟩ := bs hM4
            obtain ⟨x128, gx128, hM4⟩ := bs hM4
            obtain ⟨x130, gx130, hM4⟩ := bs hM4
            obtain ⟨x131, gx131, hM4⟩ := bs hM4
            obtain ⟨x132, gx132, hM4⟩ := bs hM4
            obtain ⟨x133, gx133, hM4⟩ := bs hM4
            refine wp_drawR [0, 0, 3, 7, 0, 0, 0, 0, 192, 448, 992, 2016, 0, 0, 12288, 28672, 65504, 131040, 262143, 524287] [19] 1 folM (by kernel_rfl) (by kernel_rfl) (by kernel_rfl) ?_
            replace hst := hst.drew
            refine DRn (l1 := [0, 1, 2, 3, 4, 5, 6, 7, 8, 9, 10, 11, 12, 13, 14, 15, 16, 17, 18]) (l2 := []) (lc := [19]) (by kernel_rfl) (by kernel_rfl) (by kernel_rfl) ?_
            refine Ry rfl rfl wn (ym (v := h17.v) (et rfl e4_8)) ?_
            refine Ry rfl rfl wn (ym (v := .int .i64 x56) (et rfl e4_9)) ?_
            obtain ⟨h126, gh126⟩ := hst.famI (mtR (mtR (mtR (mtR mhR)))) gx125
            refine Ry rfl rfl wn (yIa SLH_53 (et rfl rfl) (et rfl rfl) hst (rdO (mtR (mtR (mtR mhR)))) gh126) ?_
            refine Ry rfl rfl wn (yF1 O_54 (et rfl rfl) hst (rdO (mtR (mtR (mtR mhR)))) gh126 rfl) ?_
            refine Ry rfl rfl wn (ym (v := .int .i64 x110) (et rfl e4_10)) ?_
            refine Ry rfl rfl wn (ym (v := h14.v) (et rfl e4_7)) ?_
            refine Ry rfl rfl wn (ym (v := h4.v) (et rfl e4_1)) ?_
            refine Ry rfl rfl wn (ym (v := .int .i64 x56) (et rfl e4_9)) ?_
            refine Ry rfl rfl wn (yIa SL_22 (et rfl rfl) (et rfl rfl) hst (rdI q2) gx127) ?_
            refine Ry rfl rfl wn (yI O_3 (et rfl rfl) hst (rdI q2) gx127) ?_
            obtain ⟨h129, gh129⟩ := hst.famI (mtR (mtR mhR)) gx128
            refine Ry rfl rfl wn (yIa SLH_53 (et rfl rfl) (et rfl rfl) hst (rdO (mtR mhR)) gh129) ?_
            refine Ry rfl rfl wn (yF1 O_54 (et rfl rfl) hst (rdO (mtR mhR)) gh129 rfl) ?_
            refine Ry rfl rfl wn (ym (v := h4.v) (et rfl e4_1)) ?_
            refine Ry rfl rfl wn (ym (v := .int .i64 x110) (et rfl e4_10)) ?_
            refine Ry rfl rfl wn (yIa SL_22 (et rfl rfl) (et rfl rfl) hst (rdI q2) gx130) ?_
            refine Ry rfl rfl wn (yI O_3 (et rfl rfl) hst (rdI q2) gx130) ?_
            refine Ry rfl rfl wn (yIa SL_54 (et rfl rfl) (et rfl rfl) hst (rdF (mtR (mtR mhR)) gh129 gx128) gx131) ?_
            refine Ry rfl rfl wn (yB O_4 (et rfl rfl) hst (rdF (mtR (mtR mhR)) gh129 gx128) gx131) ?_
            refine Ry rfl rfl wn (yIs SL_54 (et rfl rfl) (et rfl rfl) hst (rdF (mtR (mtR (mtR (mtR mhR)))) gh126 gx125) gx132) ?_
            refine Rn QSn ?_
            refine Lc rfl ?_ LAn
            replace hst := hst.pk 5 [4, 0, 0, 0, 0] rfl
            refine LT wn (r_sti (cs := [.bool x131]) (hst.foc gh126 gx125) O_4 rfl (et rfl rfl) (et rfl rfl) rfl mkB gx132) ?_
            clear hst
            intro w hst
            replace hst := hst.unfoc' gh126 gx133
            refine DRz (l1 := []) (l2 := []) (by kernel_rfl) (by kernel_rfl) ?_
            refine Rn QSn ?_
            refine qb69 _ _ _ ?_
            refine k68 _ _ ?_
            refine wp_region_lit ?_
            refine Y wn rfl (ym (v := .int .i64 x110) (et rfl e4_10)) ?_
            refine Y wn rfl (yadd (et rfl rfl) rfl) ?_
            refine Y wn rfl (ya (v := .int .i64 (wa .i64 x110 1)) (et rfl rfl)) ?_
            refine wpList_nil ?_
            obtain rfl := someI hM4
            exact n4 _ _ _ rfl ⟨_, _, _, rfl, rfl, e4_1, e4_4, e4_7, e4_8, e4_9, rfl, (hst.pk 5 [1, 1, 1, 1, 0] rfl)⟩
          · refine condF (et rfl rfl) (decide_eq_false c124) ?_
            refine wp_exit ?_
            refine z66 _ _ _ rfl ?_
            obtain rfl := someI hM4
            refine zz4 _ _ _ _ rfl rfl ?_
            exact je4_0 _ _ _ e4_1 e4_4 e4_7 e4_8 e4_9 hst (ho4 _ rfl)
        · refine condF (et rfl rfl) (decide_eq_false c98) ?_
          refine wp_exit ?_
          refine z52 _ _ _ rfl ?_
          obtain rfl := someI hM3
          refine zz3 _ _ _ _ rfl rfl ?_
          exact je3_0 _ _ _ e3_4 e3_8 (hst.pk 5 [0, 2, 2] rfl) (ho3 _ rfl)
    · refine condT (et rfl rfl) (nT (bfalse c10)) ?_
      refine seqQ fun Q70 k70 z70 => ?_
      refine wp_region_lit ?_
      refine Y wn rfl (ybuild (us := [hnil.v]) [] SO_27 bp0 rfl) ?_
      refine YT wn rfl (r_stbn (vals' := [hnil.v]) (us := [hnil.v]) hst ST_27 (et rfl rfl) (et rfl rfl) rfl rfl (one_of rfl) rfl) ?_
      clear hst
      intro w hst
      refine Y wn rfl (ya (v := .int .i64 3) rfl) ?_
      refine wpList_nil ?_
      refine k70 _ _ ?_
      refine wp_ret ?_
      refine z5 _ _ _ rfl ?_
      obtain rfl := someI hM
      replace hst := hst.rowNh 22 (rS (rI .i64))
      exact hQ _ _ _ (fin2r Try.results30 (rcs2 rfl rfl hst (mtR mhR) ST_27 rfl) ⟨rfl, rfl⟩ ⟨_, rfl, (hst.pk 3 [0] rfl)⟩)
  · refine condT (et rfl rfl) (nT (decide_eq_false c8)) ?_
    refine seqQ fun Q71 k71 z71 => ?_
    refine wp_region_lit ?_
    refine Y wn rfl (ybuild (us := [hnil.v]) [] SO_27 bp0 rfl) ?_
    refine Y wn rfl (ym (v := .int .i64 r7) (et rfl rfl)) ?_
    refine YT wn rfl (r_stbn (vals' := [hnil.v]) (us := [hnil.v]) hst ST_27 (et rfl rfl) (et rfl rfl) rfl rfl (one_of rfl) rfl) ?_
    clear hst
    intro w hst
    refine Y wn rfl (ya (v := .int .i64 r7) (et rfl rfl)) ?_
    refine wpList_nil ?_
    refine k71 _ _ ?_
    refine wp_ret ?_
    refine z2 _ _ _ rfl ?_
    obtain rfl := someI hM
    replace hst := hst.rowNh 22 (rS (rI .i64))
    exact hQ _ _ _ (fin2r Try.results30 (rcs2 rfl rfl hst (mtR mhR) ST_27 rfl) ⟨rfl, rfl⟩ ⟨_, rfl, (hst.pk 3 [0] rfl)⟩)

theorem sparseref12_Relabel_ok {w0 : World} {ros : List Fact} {rs : List Res} {w : World} {x1 : List (List Int)} {x3 : List Int} {h2 : Hdr} {h4 : Hdr} {out : (List (List Int)) × Int} (hM : sparseref12_Relabel x1 x3 = some out) (q1 : imm (rS (rI .i64)) h2.v x1 ∈ ros) (q2 : imm (rI .i64) h4.v x3 ∈ ros) (hst : St w0 ros (rs) w) :
    Calls Try.prog 21 #[.agg #[h2.v], h4.v] w (fun e w => ∃ (h100001 : Hdr), e = .returned (.tuple #[.agg #[h100001.v], .int .i64 out.2]) ∧ St w0 (ros) (row 22 (rS (rI .i64)) h100001.v out.1 :: rs) w) := by
  refine enterQ Try.func21 rfl Try.ntmps21 rfl fun Q hQ => ?_
  refine seqQ fun Q1 k1 z1 => ?_
  refine wp_region_lit ?_
  refine YB wn rfl (r_box (vals := [h2.v]) hst (et rfl rfl) rfl) ?_
  clear hst
  intro b5 w hst
  refine YB wn rfl (rAl hst ZT_27) ?_
  clear hst
  intro b6 w hst
  refine Y wn rfl (ya (v := .int .i64 0) rfl) ?_
  refine wpList_nil ?_
  refine k1 _ _ ?_
  refine seqQ fun Q2 k2 z2 => ?_
  refine seqQ fun Q3 k3 z3 => ?_
  refine wp_region_lit ?_
  refine Y wn rfl (yLbs (us := [h2.v]) ST_27 (et rfl rfl) hst (mtR mhR) rfl rfl) ?_
  obtain ⟨r7, gr7, hM⟩ := bs hM
  refine Yc wn rfl (yCall FN_31 (a1 (et rfl rfl))) (sparseref12_Check_ok (hM := gr7) (hst := hst) (q1 := q1)) ?_
  clear hst
  rintro _ w ⟨rfl, hst⟩
  refine ⟨_, rfl, ?_⟩
  refine Y wn rfl (ya (v := .int .i64 r7) (et rfl rfl)) ?_
  refine wpList_nil ?_
  refine k3 _ _ ?_
  refine seqQ fun Q4 k4 z4 => ?_
  refine wp_region_lit ?_
  refine Y wn rfl (ym (v := .int .i64 r7) (et rfl rfl)) ?_
  refine Y wn rfl (yneq (et rfl rfl) rfl) ?_
  refine wpList_nil ?_
  refine k4 _ _ ?_
  rcases iteS hM with ⟨c8, hM⟩ | ⟨c8, hM⟩
  · refine condF (et rfl rfl) (nF (decide_eq_true c8)) ?_
    refine wp_skip ?_
    refine k2 _ _ ?_
    refine seqQ fun Q5 k5 z5 => ?_
    refine seqQ fun Q6 k6 z6 => ?_
    refine wp_region_lit ?_
    refine Y wn rfl (ym (v := h4.v) (et rfl rfl)) ?_
    refine Y wn rfl (yLen SL_22 (et rfl rfl) hst (rdI q2)) ?_
    refine Y wn rfl (yFb FL_27_0 (et rfl rfl)) ?_
    refine Y wn rfl (yLb (u := h2.v) O_25 (et rfl rfl) hst (mtR mhR) rfl) ?_
    refine Y wn rfl (yLen SL_25 (et rfl rfl) hst (rdI q1)) ?_
    refine Y wn rfl (yneq (et rfl rfl) (et rfl rfl)) ?_
    refine wpList_nil ?_
    refine k6 _ _ ?_
    rcases iteS hM with ⟨c9, hM⟩ | ⟨c9, hM⟩
    · refine condF (et rfl rfl) (nF (decide_eq_true c9)) ?_
      refine wp_skip ?_
      refine k5 _ _ ?_
      refine seqQ fun Q7 k7 z7 => ?_
      refine seqQ fun Q8 k8 z8 => ?_
      refine wp_region_lit ?_
      refine Y wn rfl (ym (v := h4.v) (et rfl rfl)) ?_
      refine Y wn rfl (yFb FL_27_0 (et rfl rfl)) ?_
      refine Y wn rfl (yLb (u := h2.v) O_25 (et rfl rfl) hst (mtR mhR) rfl) ?_
      refine Y wn rfl (yLen SL_25 (et rfl rfl) hst (rdI q1)) ?_
      obtain ⟨r10, gr10, hM⟩ := bs hM
      refine Yc wn rfl (yCall FN_16 (a2 (et rfl rfl) (et rfl rfl))) (sparsekit_Perm_ok (hM := gr10) (hst := hst) (q1 := q2)) ?_
      clear hst
      rintro _ w ⟨rfl, hst⟩
      refine ⟨_, rfl, ?_⟩
      refine Y wn rfl (ynot (et rfl rfl)) ?_
      refine wpList_nil ?_
      refine k8 _ _ ?_
      rcases iteS hM with ⟨c11, hM⟩ | ⟨c11, hM⟩
      · refine condF (et rfl rfl) (nF c11) ?_
        refine wp_skip ?_
        refine k7 _ _ ?_
        refine seqQ fun Q9 k9 z9 => ?_
        refine wp_region_lit ?_
        refine Y wn rfl (yLbs (us := [h2.v]) ST_27 (et rfl rfl) hst (mtR mhR) rfl rfl) ?_
        refine Y wn rfl (ym (v := h4.v) (et rfl rfl)) ?_
        obtain ⟨r12, gr12, hM⟩ := bs hM
        refine Yc wn rfl (yCall FN_30 (a2 (et rfl rfl) (et rfl rfl))) (sparseref12_Induced_ok (hM := gr12) (hst := hst) (q1 := q1) (q2 := q2)) ?_
        clear hst
        rintro _ w ⟨h13, rfl, hst⟩
        refine ⟨_, rfl, ?_⟩
        refine Y wn rfl (yx (v := .agg #[h13.v]) (et rfl rfl) rfl) ?_
        refine Y wn rfl (yx (v := .int .i64 r12.2) (et rfl rfl) rfl) ?_
        replace hst := hst.pk 2 [1, 0] rfl
        refine YT wn rfl (r_stbn (vals' := [h13.v]) (us := [h13.v]) hst ST_27 (et rfl rfl) (et rfl rfl) rfl rfl (one_of rfl) rfl) ?_
        clear hst
        intro w hst
        refine Y wn rfl (ya (v := .int .i64 r12.2) (et rfl rfl)) ?_
        refine wpList_nil ?_
        refine k9 _ _ ?_
        refine wp_ret ?_
        obtain rfl := someI hM
        exact hQ _ _ _ (fin2r Try.results21 (rcs2 rfl rfl hst mhR ST_27 rfl) ⟨rfl, rfl⟩ ⟨_, rfl, (hst.pk 3 [1] rfl)⟩)
      · refine condT (et rfl rfl) (nT (bfalse c11)) ?_
        refine seqQ fun Q10 k10 z10 => ?_
        refine wp_region_lit ?_
        refine Y wn rfl (ybuild (us := [hnil.v]) [] SO_27 bp0 rfl) ?_
        refine YT wn rfl (r_stbn (vals' := [hnil.v]) (us := [hnil.v]) hst ST_27 (et rfl rfl) (et rfl rfl) rfl rfl (one_of rfl) rfl) ?_
        clear hst
        intro w hst
        refine Y wn rfl (ya (v := .int .i64 90) rfl) ?_
        refine wpList_nil ?_
        refine k10 _ _ ?_
        refine wp_ret ?_
        refine z7 _ _ _ rfl ?_
        obtain rfl := someI hM
        replace hst := hst.rowNh 22 (rS (rI .i64))
        exact hQ _ _ _ (fin2r Try.results21 (rcs2 rfl rfl hst (mtR mhR) ST_27 rfl) ⟨rfl, rfl⟩ ⟨_, rfl, (hst.pk 3 [0] rfl)⟩)
    · refine condT (et rfl rfl) (nT (decide_eq_false c9)) ?_
      refine seqQ fun Q11 k11 z11 => ?_
      refine wp_region_lit ?_
      refine Y wn rfl (ybuild (us := [hnil.v]) [] SO_27 bp0 rfl) ?_
      refine YT wn rfl (r_stbn (vals' := [hnil.v]) (us := [hnil.v]) hst ST_27 (et rfl rfl) (et rfl rfl) rfl rfl (one_of rfl) rfl) ?_
      clear hst
      intro w hst
      refine Y wn rfl (ya (v := .int .i64 2) rfl) ?_
      refine wpList_nil ?_
      refine k11 _ _ ?_
      refine wp_ret ?_
      refine z5 _ _ _ rfl ?_
      obtain rfl := someI hM
      replace hst := hst.rowNh 22 (rS (rI .i64))
      exact hQ _ _ _ (fin2r Try.results21 (rcs2 rfl rfl hst (mtR mhR) ST_27 rfl) ⟨rfl, rfl⟩ ⟨_, rfl, (hst.pk 3 [0] rfl)⟩)
  · refine condT (et rfl rfl) (nT (decide_eq_false c8)) ?_
    refine seqQ fun Q12 k12 z12 => ?_
    refine wp_region_lit ?_
    refine Y wn rfl (ybuild (us := [hnil.v]) [] SO_27 bp0 rfl) ?_
    refine Y wn rfl (ym (v := .int .i64 r7) (et rfl rfl)) ?_
    refine YT wn rfl (r_stbn (vals' := [hnil.v]) (us := [hnil.v]) hst ST_27 (et rfl rfl) (et rfl rfl) rfl rfl (one_of rfl) rfl) ?_
    clear hst
    intro w hst
    refine Y wn rfl (ya (v := .int .i64 r7) (et rfl rfl)) ?_
    refine wpList_nil ?_
    refine k12 _ _ ?_
    refine wp_ret ?_
    refine z2 _ _ _ rfl ?_
    obtain rfl := someI hM
    replace hst := hst.rowNh 22 (rS (rI .i64))
    exact hQ _ _ _ (fin2r Try.results21 (rcs2 rfl rfl hst (mtR mhR) ST_27 rfl) ⟨rfl, rfl⟩ ⟨_, rfl, (hst.pk 3 [0] rfl)⟩)

theorem sparsekit_Graph_ok {w0 : World} {ros : List Fact} {rs : List Res} {w : World} {x1 : List (List Int)} {x3 : List (List Int)} {h2 : Hdr} {h4 : Hdr} {out : Bool} (hM : sparsekit_Graph x1 x3 = some out) (q1 : imm (rS (rI .i64)) h2.v x1 ∈ ros) (q2 : imm (rS (rI .i64)) h4.v x3 ∈ ros) (hst : St w0 ros (rs) w) :
    Calls Try.prog 23 #[.agg #[h2.v], .agg #[h4.v]] w (fun e w => e = .returned (.bool out) ∧ St w0 (ros) (rs) w) := by
  refine enterQ Try.func23 rfl Try.ntmps23 rfl fun Q hQ => ?_
  refine seqQ fun Q1 k1 z1 => ?_
  refine wp_region_lit ?_
  refine YB wn rfl (r_box (vals := [h2.v]) hst (et rfl rfl) rfl) ?_
  clear hst
  intro b5 w hst
  refine YB wn rfl (r_box (vals := [h4.v]) hst (et rfl rfl) rfl) ?_
  clear hst
  intro b6 w hst
  refine Y wn rfl (ya (v := .bool false) rfl) ?_
  refine wpList_nil ?_
  refine k1 _ _ ?_
  refine seqQ fun Q2 k2 z2 => ?_
  refine wp_region_lit ?_
  refine Y wn rfl (yFb FL_27_0 (et rfl rfl)) ?_
  refine Y wn rfl (yLb (u := h2.v) O_25 (et rfl rfl) hst (mtR mhR) rfl) ?_
  refine Y wn rfl (yFb FL_27_0 (et rfl rfl)) ?_
  refine Y wn rfl (yLb (u := h4.v) O_25 (et rfl rfl) hst mhR rfl) ?_
  obtain ⟨r7, gr7, hM⟩ := bs hM
  refine Yc wn rfl (yCall FN_24 (a2 (et rfl rfl) (et rfl rfl))) (sparsekit_Lists_ok (hM := gr7) (hst := hst) (q1 := q1) (q2 := q2)) ?_
  clear hst
  rintro _ w ⟨rfl, hst⟩
  refine ⟨_, rfl, ?_⟩
  refine Y wn rfl (ya (v := .bool r7) (et rfl rfl)) ?_
  refine wpList_nil ?_
  refine k2 _ _ ?_
  refine wp_ret ?_
  obtain rfl := someI hM
  exact hQ _ _ _ (fin1r Try.results23 ⟨rfl, rfl⟩ ⟨rfl, (hst.pk 2 [] rfl)⟩)

theorem sparseref12_Levels_ok {w0 : World} {ros : List Fact} {rs : List Res} {w : World} {x1 : List (List Int)} {x3 : Int} {h2 : Hdr} {out : (List (List Int))} (hM : sparseref12_Levels x1 x3 = some out) (q1 : imm (rS (rI .i64)) h2.v x1 ∈ ros) (hst : St w0 ros (rs) w) :
    Calls Try.prog 15 #[.agg #[h2.v], .int .i64 x3] w (fun e w => ∃ (h100001 : Hdr), e = .returned (h100001.v) ∧ St w0 (ros) (row 22 (rS (rI .i64)) h100001.v out :: rs) w) := by
  refine enterQ Try.func15 rfl Try.ntmps15 rfl fun Q hQ => ?_
  refine seqQ fun Q1 k1 z1 => ?_
  refine wp_region_lit ?_
  refine YB wn rfl (r_box (vals := [h2.v]) hst (et rfl rfl) rfl) ?_
  clear hst
  intro b4 w hst
  refine Y wn rfl (ya (v := hnil.v) rfl) ?_
  refine wpList_nil ?_
  refine k1 _ _ ?_
  refine seqQ fun Q2 k2 z2 => ?_
  refine wp_region_lit ?_
  refine Y wn rfl (yFb FL_27_0 (et rfl rfl)) ?_
  refine Y wn rfl (yLb (u := h2.v) O_25 (et rfl rfl) hst mhR rfl) ?_
  refine Y wn rfl (yLen SL_25 (et rfl rfl) hst (rdI q1)) ?_
  refine Y wn rfl (ya (v := .int .i64 (x1.length : Int)) (et rfl rfl)) ?_
  refine wpList_nil ?_
  refine k2 _ _ ?_
  refine seqQ fun Q3 k3 z3 => ?_
  refine seqQ fun Q4 k4 z4 => ?_
  refine wp_region_lit ?_
  refine Y wn rfl (yLbs (us := [h2.v]) ST_27 (et rfl rfl) hst mhR rfl rfl) ?_
  obtain ⟨r5, gr5, hM⟩ := bs hM
  refine Yc wn rfl (yCall FN_31 (a1 (et rfl rfl))) (sparseref12_Check_ok (hM := gr5) (hst := hst) (q1 := q1)) ?_
  clear hst
  rintro _ w ⟨rfl, hst⟩
  refine ⟨_, rfl, ?_⟩
  refine Y wn rfl (yneq (et rfl rfl) rfl) ?_
  refine Y wn rfl (ym (v := .bool (!(decide (r5 = 0)))) (et rfl rfl)) ?_
  refine joinW 3 (fun f w => f 1 = .int .i64 x3 ∧ f 2 = .pointer (some ⟨b4, 0, none⟩) ∧ f 5 = .int .i64 (x1.length : Int) ∧ f 24 = .bool ((!(decide (r5 = 0))) || (decide (x3 < 0))) ∧ St w0 (ros) (box b4 27 [h2.v] :: rs) w) (fun j1 => ?_) ?_
  · rcases Bool.eq_false_or_eq_true (!(decide (r5 = 0))) with c7 | c7
    · refine Gn (wx rfl rfl rfl c7) rfl ?_
      refine Gn (wx rfl rfl rfl c7) rfl ?_
      refine Y wn rfl (ypt (v := .bool true) (et rfl rfl) c7 rfl) ?_
      exact j1 _ _ ⟨rfl, rfl, rfl, (congrArg Value.bool (orT c7)), hst⟩
    · refine Y (wg rfl rfl rfl c7) rfl (ym (v := .int .i64 x3) (et rfl rfl)) ?_
      refine Y (wg rfl rfl rfl c7) rfl (ylss (et rfl rfl) rfl) ?_
      refine Y wn rfl (ypf (v := .bool (decide (x3 < 0))) (et rfl rfl) c7 (et rfl rfl)) ?_
      exact j1 _ _ ⟨rfl, rfl, rfl, (congrArg Value.bool (orF c7)), hst⟩
  clear hst
  rintro f w ⟨e6_1, e6_2, e6_5, e6_24, hst⟩
  refine Y wn rfl (ym (v := .bool ((!(decide (r5 = 0))) || (decide (x3 < 0)))) (et rfl e6_24)) ?_
  refine joinW 4 (fun f w => f 1 = .int .i64 x3 ∧ f 2 = .pointer (some ⟨b4, 0, none⟩) ∧ f 5 = .int .i64 (x1.length : Int) ∧ f 29 = .bool (((!(decide (r5 = 0))) || (decide (x3 < 0))) || (decide ((x1.length : Int) ≤ x3))) ∧ St w0 (ros) (box b4 27 [h2.v] :: rs) w) (fun j2 => ?_) ?_
  · rcases Bool.eq_false_or_eq_true (((!(decide (r5 = 0))) || (decide (x3 < 0)))) with c9 | c9
    · refine Gn (wx rfl rfl rfl c9) rfl ?_
      refine Gn (wx rfl rfl rfl c9) rfl ?_
      refine Gn (wx rfl rfl rfl c9) rfl ?_
      refine Y wn rfl (ypt (v := .bool true) (et rfl rfl) c9 rfl) ?_
      exact j2 _ _ ⟨e6_1, e6_2, e6_5, (congrArg Value.bool (orT c9)), hst⟩
    · refine Y (wg rfl rfl rfl c9) rfl (ym (v := .int .i64 x3) (et rfl e6_1)) ?_
      refine Y (wg rfl rfl rfl c9) rfl (ym (v := .int .i64 (x1.length : Int)) (et rfl e6_5)) ?_
      refine Y (wg rfl rfl rfl c9) rfl (ygeq (et rfl rfl) (et rfl rfl)) ?_
      refine Y wn rfl (ypf (v := .bool (decide ((x1.length : Int) ≤ x3))) (et rfl rfl) c9 (et rfl rfl)) ?_
      exact j2 _ _ ⟨e6_1, e6_2, e6_5, (congrArg Value.bool (orF c9)), hst⟩
  clear hst
  rintro f w ⟨e8_1, e8_2, e8_5, e8_29, hst⟩
  refine wpList_nil ?_
  refine k4 _ _ ?_
  rcases iteS hM with ⟨c10, hM⟩ | ⟨c10, hM⟩
  · refine condT (et rfl e8_29) c10 ?_
    refine seqQ fun Q5 k5 z5 => ?_
    refine wp_region_lit ?_
    refine Y wn rfl (ya (v := hnil.v) rfl) ?_
    refine wpList_nil ?_
    refine k5 _ _ ?_
    refine wp_ret ?_
    refine z3 _ _ _ rfl ?_
    obtain rfl := someI hM
    replace hst := hst.rowNh 22 (rS (rI .i64))
    exact hQ _ _ _ (fin1r Try.results15 ⟨rfl, rfl⟩ ⟨_, rfl, (hst.pk 2 [0] rfl)⟩)
  · refine condF (et rfl e8_29) (bfalse c10) ?_
    refine wp_skip ?_
    refine k3 _ _ ?_
    refine seqQ fun Q6 k6 z6 => ?_
    refine wp_region_lit ?_
    refine Y wn rfl (ym (v := .int .i64 (x1.length : Int)) (et rfl e8_5)) ?_
    obtain ⟨x13, gx13, hM⟩ := bs hM
    refine YH wn rfl (rMk hst SL_54 (et rfl rfl) gx13) ?_
    clear hst
    intro h11 w hst
    refine Y wn rfl (ya (v := h11.v) (et rfl rfl)) ?_
    refine wpList_nil ?_
    refine k6 _ _ ?_
    refine seqQ fun Q7 k7 z7 => ?_
    refine wp_region_lit ?_
    refine Y wn rfl (ym (v := h11.v) (et rfl rfl)) ?_
    refine Y wn rfl (ym (v := .int .i64 x3) (et rfl e8_1)) ?_
    obtain ⟨x14, gx14, hM⟩ := bs hM
    refine Y wn rfl (yIs SL_54 (et rfl rfl) (et rfl rfl) hst (rdO mhR) gx14) ?_
    refine YT wn rfl (r_sti (cs := [.bool true]) hst O_4 rfl (et rfl rfl) rfl rfl mkB gx14) ?_
    clear hst
    intro w hst
    refine wpList_nil ?_
    refine k7 _ _ ?_
    refine seqQ fun Q8 k8 z8 => ?_
    refine wp_region_lit ?_
    refine Y wn rfl (ym (v := .int .i64 x3) (et rfl e8_1)) ?_
    refine YH wn rfl (rLt (n := 1) (l := [x3]) hst SL_22 [.int .i64 x3] (bp1 (et rfl rfl)) rfl rfl (mks1 (cs := [.int .i64 x3]) rfl mkI mks0)) ?_
    clear hst
    intro h15 w hst
    refine Y wn rfl (ya (v := h15.v) (et rfl rfl)) ?_
    refine wpList_nil ?_
    refine k8 _ _ ?_
    refine seqQ fun Q9 k9 z9 => ?_
    refine wp_region_lit ?_
    refine Y wn rfl (ya (v := hnil.v) rfl) ?_
    refine wpList_nil ?_
    refine k9 _ _ ?_
    refine seqQ fun Q10 k10 z10 => ?_
    refine blockQ fun Q11 qb11 => ?_
    obtain ⟨o73, go73, hM⟩ := bs hM
    have je73_0 : ∀ (x391 : List (List Int)) (h390 : Hdr) (f : Nat → Value) (w : World), f 8 = h390.v → St w0 (ros) (row 22 (rS (rI .i64)) h390.v x391 :: rs) w → x391 = o73 → Q11 (.exit 0) (fr 107 f) w := by
      intro x391 h390 f w eje73_0_8 hst ho
      subst ho
      refine qb11 _ _ _ ?_
      refine k10 _ _ ?_
      refine seqQ fun Q192 k192 z192 => ?_
      refine wp_region_lit ?_
      refine Y wn rfl (ym (v := h390.v) (et rfl eje73_0_8)) ?_
      refine Y wn rfl (ya (v := h390.v) (et rfl rfl)) ?_
      refine wpList_nil ?_
      refine k192 _ _ ?_
      refine wp_ret ?_
      obtain rfl := someI hM
      exact hQ _ _ _ (fin1r Try.results15 ⟨rfl, rfl⟩ ⟨_, rfl, hst⟩)
    replace hst := hst.rowNh 22 (rS (rI .i64))
    refine loopQ (fun s a w => ∃ (x198 : List Bool) (x200 : List Int) (x202 : List (List Int)) (f : Nat → Value) (h199 : Hdr) (h201 : Hdr), (x198, x200, x202) = s ∧ a = fr 107 f ∧ f 2 = .pointer (some ⟨b4, 0, none⟩) ∧ f 5 = .int .i64 (x1.length : Int) ∧ f 6 = h11.v ∧ f 7 = h199.v ∧ f 8 = h201.v ∧ St w0 (ros) (box b4 27 [h2.v] :: row 4 rB h11.v x198 :: row 3 (rI .i64) h199.v x200 :: row 22 (rS (rI .i64)) h201.v x202 :: rs) w) go73 ⟨_, _, _, _, _, _, rfl, rfl, e8_2, e8_5, rfl, rfl, rfl, (hst.pk 4 [3, 2, 1, 0] rfl)⟩ ?_
    clear hst
    rintro _ _ w r73_ ⟨x198, x200, x202, f, h199, h201, rfl, rfl, e73_2, e73_5, e73_6, e73_7, e73_8, hst⟩ hM73 ho73 Q100073 n73 zz73
    refine seqQ fun Q193 k193 z193 => ?_
    refine seqQ fun Q194 k194 z194 => ?_
    refine wp_region_lit ?_
    refine Y wn rfl (ym (v := h199.v) (et rfl e73_7)) ?_
    refine Y wn rfl (yLen SL_22 (et rfl rfl) hst (rdO (mtR (mtR mhR)))) ?_
    refine Y wn rfl (ygtr (et rfl rfl) rfl) ?_
    refine wpList_nil ?_
    refine k194 _ _ ?_
    rcases iteS hM73 with ⟨c392, hM73⟩ | ⟨c392, hM73⟩
    · refine condT (et rfl rfl) (decide_eq_true c392) ?_
      refine wp_skip ?_
      refine k193 _ _ ?_
      refine blockQ fun Q195 qb195 => ?_
      refine seqQ fun Q196 k196 z196 => ?_
      refine wp_region_lit ?_
      refine Y wn rfl (ym (v := h201.v) (et rfl e73_8)) ?_
      refine Y wn rfl (ym (v := h199.v) (et rfl e73_7)) ?_
      replace hst := hst.pk 3 [2, 0, 0] rfl
      replace hst := hst.fz
      refine YH wn rfl (rLt (n := 1) (l := [x200]) hst SL_25 [h199.v] (bp1 (et rfl rfl)) rfl rfl (mks1 (cs := [h199.v]) rfl (mkS mhF) mks0)) ?_
      clear hst
      intro h393 w hst
      obtain ⟨x395, gx395, hM73⟩ := bs hM73
      replace hst := hst.pk 4 [3, 0, 0, 0] rfl
      refine YH wn rfl (rAp hst SL_25 (et rfl rfl) (et rfl rfl) (rdO (mtR mhR)) gx395) ?_
      clear hst
      intro h394 w hst
      refine Y wn rfl (ya (v := h394.v) (et rfl rfl)) ?_
      refine wpList_nil ?_
      refine k196 _ _ ?_
      refine seqQ fun Q197 k197 z197 => ?_
      refine wp_region_lit ?_
      refine Y wn rfl (ym (v := .int .i64 (x1.length : Int)) (et rfl e73_5)) ?_
      obtain ⟨x398, gx398, hM73⟩ := bs hM73
      refine YH wn rfl (rMk hst SL_54 (et rfl rfl) gx398) ?_
      clear hst
      intro h396 w hst
      refine Y wn rfl (ya (v := h396.v) (et rfl rfl)) ?_
      refine wpList_nil ?_
      refine k197 _ _ ?_
      refine seqQ fun Q198 k198 z198 => ?_
      refine seqQ fun Q199 k199 z199 => ?_
      refine wp_region_lit ?_
      refine Y wn rfl (ya (v := .int .i64 0) rfl) ?_
      refine wpList_nil ?_
      refine k199 _ _ ?_
      refine blockQ fun Q200 qb200 => ?_
      obtain ⟨o94, go94, hM73⟩ := bs hM73
      have je94_0 : ∀ (x481 : List Bool) (f : Nat → Value) (w : World), f 2 = .pointer (some ⟨b4, 0, none⟩) → f 5 = .int .i64 (x1.length : Int) → f 6 = h11.v → f 8 = h394.v → f 9 = h396.v → St w0 (ros) (box b4 27 [h2.v] :: row 4 rB h11.v x198 :: row 22 (rS (rI .i64)) h394.v x395 :: row 4 rB h396.v x481 :: rs) w → x481 = o94 → Q200 (.exit 2) (fr 107 f) w := by
        intro x481 f w eje94_0_2 eje94_0_5 eje94_0_6 eje94_0_8 eje94_0_9 hst ho
        subst ho
        refine qb200 _ _ _ ?_
        refine k198 _ _ ?_
        refine seqQ fun Q239 k239 z239 => ?_
        refine wp_region_lit ?_
        refine Y wn rfl (ya (v := hnil.v) rfl) ?_
        refine wpList_nil ?_
        refine k239 _ _ ?_
        refine seqQ fun Q240 k240 z240 => ?_
        refine seqQ fun Q241 k241 z241 => ?_
        refine wp_region_lit ?_
        refine Y wn rfl (ya (v := .int .i64 0) rfl) ?_
        refine wpList_nil ?_
        refine k241 _ _ ?_
        refine blockQ fun Q242 qb242 => ?_
        obtain ⟨o97, go97, hM73⟩ := bs hM73
        have je97_0 : ∀ (x518 : List Bool) (x520 : List Int) (h519 : Hdr) (f : Nat → Value) (w : World), f 2 = .pointer (some ⟨b4, 0, none⟩) → f 5 = .int .i64 (x1.length : Int) → f 6 = h11.v → f 8 = h394.v → f 13 = h519.v → St w0 (ros) (box b4 27 [h2.v] :: row 4 rB h11.v x518 :: row 22 (rS (rI .i64)) h394.v x395 :: row 3 (rI .i64) h519.v x520 :: rs) w → (x518, x520) = o97 → Q242 (.exit 6) (fr 107 f) w := by
          intro x518 x520 h519 f w eje97_0_2 eje97_0_5 eje97_0_6 eje97_0_8 eje97_0_13 hst ho
          subst ho
          refine qb242 _ _ _ ?_
          refine k240 _ _ ?_
          refine wp_region_lit ?_
          refine Y wn rfl (ym (v := h519.v) (et rfl eje97_0_13)) ?_
          refine Y wn rfl (ya (v := h519.v) (et rfl rfl)) ?_
          refine wpList_nil ?_
          refine qb195 _ _ _ ?_
          obtain rfl := someI hM73
          exact n73 _ _ _ rfl ⟨_, _, _, _, _, _, rfl, rfl, eje97_0_2, eje97_0_5, eje97_0_6, rfl, eje97_0_8, (hst.pk 4 [0, 0, 1, 0] rfl)⟩
        replace hst := hst.rowNh 3 (rI .i64)
        refine loopQ (fun s a w => ∃ (x496 : List Bool) (x498 : List Int) (x499 : Int) (f : Nat → Value) (h497 : Hdr), (x496, x498, x499) = s ∧ a = fr 107 f ∧ f 2 = .pointer (some ⟨b4, 0, none⟩) ∧ f 5 = .int .i64 (x1.length : Int) ∧ f 6 = h11.v ∧ f 8 = h394.v ∧ f 9 = h396.v ∧ f 13 = h497.v ∧ f 14 = .int .i64 x499 ∧ St w0 (ros) (box b4 27 [h2.v] :: row 4 rB h11.v x496 :: row 22 (rS (rI .i64)) h394.v x395 :: row 4 rB h396.v x481 :: row 3 (rI .i64) h497.v x498 :: rs) w) go97 ⟨_, _, _, _, _, rfl, rfl, eje94_0_2, eje94_0_5, eje94_0_6, eje94_0_8, eje94_0_9, rfl, rfl, (hst.pk 5 [1, 1, 1, 1, 0] rfl)⟩ ?_
        clear hst
        rintro _ _ w r97_ ⟨x496, x498, x499, f, h497, rfl, rfl, e97_2, e97_5, e97_6, e97_8, e97_9, e97_13, e97_14, hst⟩ hM97 ho97 Q100097 n97 zz97
        refine seqQ fun Q257 k257 z257 => ?_
        refine seqQ fun Q258 k258 z258 => ?_
        refine wp_region_lit ?_
        refine Y wn rfl (ym (v := .int .i64 x499) (et rfl e97_14)) ?_
        refine Y wn rfl (ym (v := .int .i64 (x1.length : Int)) (et rfl e97_5)) ?_
        refine Y wn rfl (ylss (et rfl rfl) (et rfl rfl)) ?_
        refine wpList_nil ?_
        refine k258 _ _ ?_
        rcases iteS hM97 with ⟨c521, hM97⟩ | ⟨c521, hM97⟩
        · refine condT (et rfl rfl) (decide_eq_true c521) ?_
          refine wp_skip ?_
          refine k257 _ _ ?_
          refine seqQ fun Q259 k259 z259 => ?_
          refine blockQ fun Q260 qb260 => ?_
          refine seqQ fun Q261 k261 z261 => ?_
          refine wp_region_lit ?_
          refine Y wn rfl (ym (v := h396.v) (et rfl e97_9)) ?_
          refine Y wn rfl (ym (v := .int .i64 x499) (et rfl e97_14)) ?_
          obtain ⟨x522, gx522, hM97⟩ := bs hM97
          refine Y wn rfl (yIa SL_54 (et rfl rfl) (et rfl rfl) hst (rdO (mtR (mtR (mtR mhR)))) gx522) ?_
          refine Y wn rfl (yB O_4 (et rfl rfl) hst (rdO (mtR (mtR (mtR mhR)))) gx522) ?_
          refine wpList_nil ?_
          refine k261 _ _ ?_
          have j98 : ∀ (x527 : List Bool) (x529 : List Int) (h528 : Hdr) (f : Nat → Value) (w : World), f 2 = .pointer (some ⟨b4, 0, none⟩) → f 5 = .int .i64 (x1.length : Int) → f 6 = h11.v → f 8 = h394.v → f 9 = h396.v → f 13 = h528.v → f 14 = .int .i64 x499 → St w0 (ros) (box b4 27 [h2.v] :: row 4 rB h11.v x527 :: row 22 (rS (rI .i64)) h394.v x395 :: row 4 rB h396.v x481 :: row 3 (rI .i64) h528.v x529 :: rs) w → sparseref12_Levels_j98 x499 x527 x529 = some r97_ → Q260 .normal (fr 107 f) w := by
            intro x527 x529 h528 f w ej98_2 ej98_5 ej98_6 ej98_8 ej98_9 ej98_13 ej98_14 hst hM
            refine qb260 _ _ _ ?_
            refine k259 _ _ ?_
            refine wp_region_lit ?_
            refine Y wn rfl (ym (v := .int .i64 x499) (et rfl ej98_14)) ?_
            refine Y wn rfl (yadd (et rfl rfl) rfl) ?_
            refine Y wn rfl (ya (v := .int .i64 (wa .i64 x499 1)) (et rfl rfl)) ?_
            refine wpList_nil ?_
            obtain rfl := someI hM
            exact n97 _ _ _ rfl ⟨_, _, _, _, _, rfl, rfl, ej98_2, ej98_5, ej98_6, ej98_8, ej98_9, ej98_13, rfl, hst⟩
          rcases iteS hM97 with ⟨c530, hM97⟩ | ⟨c530, hM97⟩
          · refine condT (et rfl rfl) c530 ?_
            refine seqQ fun Q263 k263 z263 => ?_
            refine wp_region_lit ?_
            refine Y wn rfl (ym (v := h497.v) (et rfl e97_13)) ?_
            refine Y wn rfl (ym (v := .int .i64 x499) (et rfl e97_14)) ?_
            refine YH wn rfl (rLt (n := 1) (l := [x499]) hst SL_22 [.int .i64 x499] (bp1 (et rfl rfl)) rfl rfl (mks1 (cs := [.int .i64 x499]) rfl mkI mks0)) ?_
            clear hst
            intro h531 w hst
            obtain ⟨x533, gx533, hM97⟩ := bs hM97
            replace hst := hst.pk 6 [5, 0, 0, 0, 0, 0] rfl
            refine YH wn rfl (rAp hst SL_22 (et rfl rfl) (et rfl rfl) (rdO (mtR mhR)) gx533) ?_
            clear hst
            intro h532 w hst
            refine Y wn rfl (ya (v := h532.v) (et rfl rfl)) ?_
            refine wpList_nil ?_
            refine k263 _ _ ?_
            refine wp_region_lit ?_
            refine Y wn rfl (ym (v := h11.v) (et rfl e97_6)) ?_
            refine Y wn rfl (ym (v := .int .i64 x499) (et rfl e97_14)) ?_
            obtain ⟨x534, gx534, hM97⟩ := bs hM97
            refine Y wn rfl (yIs SL_54 (et rfl rfl) (et rfl rfl) hst (rdO (mtR (mtR (mtR mhR)))) gx534) ?_
            replace hst := hst.pk 4 [3, 0, 0, 0] rfl
            refine YT wn rfl (r_sti (cs := [.bool true]) hst O_4 rfl (et rfl rfl) rfl rfl mkB gx534) ?_
            clear hst
            intro w hst
            refine wpList_nil ?_
            exact j98 _ _ _ _ _ e97_2 e97_5 e97_6 e97_8 e97_9 rfl e97_14 (hst.pk 6 [3, 0, 2, 2, 0] rfl) hM97
          · refine condF (et rfl rfl) (bfalse c530) ?_
            refine wp_skip ?_
            exact j98 _ _ _ _ _ e97_2 e97_5 e97_6 e97_8 e97_9 e97_13 e97_14 hst hM97
        · refine condF (et rfl rfl) (decide_eq_false c521) ?_
          refine wp_exit ?_
          refine z257 _ _ _ rfl ?_
          obtain rfl := someI hM97
          refine zz97 _ _ _ _ rfl rfl ?_
          exact je97_0 _ _ _ _ _ e97_2 e97_5 e97_6 e97_8 e97_13 (hst.pk 5 [0, 0, 0, 1] rfl) (ho97 _ rfl)
      refine loopQ (fun s a w => ∃ (x438 : List Bool) (x439 : Int) (f : Nat → Value), (x438, x439) = s ∧ a = fr 107 f ∧ f 2 = .pointer (some ⟨b4, 0, none⟩) ∧ f 5 = .int .i64 (x1.length : Int) ∧ f 6 = h11.v ∧ f 7 = h199.v ∧ f 8 = h394.v ∧ f 9 = h396.v ∧ f 10 = .int .i64 x439 ∧ St w0 (imm (rI .i64) h199.v x200 :: ros) (box b4 27 [h2.v] :: row 4 rB h11.v x198 :: row 22 (rS (rI .i64)) h394.v x395 :: row 4 rB h396.v x438 :: rs) w) go94 ⟨_, _, _, rfl, rfl, e73_2, e73_5, e73_6, e73_7, rfl, rfl, rfl, (hst.pk 5 [3, 3, 1, 0] rfl)⟩ ?_
      clear hst
      rintro _ _ w r94_ ⟨x438, x439, f, rfl, rfl, e94_2, e94_5, e94_6, e94_7, e94_8, e94_9, e94_10, hst⟩ hM94 ho94 Q100094 n94 zz94
      refine seqQ fun Q264 k264 z264 => ?_
      refine seqQ fun Q265 k265 z265 => ?_
      refine wp_region_lit ?_
      refine Y wn rfl (ym (v := .int .i64 x439) (et rfl e94_10)) ?_
      refine Y wn rfl (ym (v := h199.v) (et rfl e94_7)) ?_
      refine Y wn rfl (yLen SL_22 (et rfl rfl) hst (rdI mhF)) ?_
      refine Y wn rfl (ylss (et rfl rfl) (et rfl rfl)) ?_
      refine wpList_nil ?_
      refine k265 _ _ ?_
      rcases iteS hM94 with ⟨c535, hM94⟩ | ⟨c535, hM94⟩
      · refine condT (et rfl rfl) (decide_eq_true c535) ?_
        refine wp_skip ?_
        refine k264 _ _ ?_
        refine seqQ fun Q266 k266 z266 => ?_
        refine blockQ fun Q267 qb267 => ?_
        refine seqQ fun Q268 k268 z268 => ?_
        obtain ⟨x536, gx536, hM94⟩ := bs hM94
        obtain ⟨x537, gx537, hM94⟩ := bs hM94
        refine wp_drawR [0, 1, 0, 0, 12, 28, 63, 127, 255] [8] 1 folM (by kernel_rfl) (by kernel_rfl) (by kernel_rfl) ?_
        replace hst := hst.drew
        refine DRn (l1 := [0, 1, 2, 3, 4, 5, 6, 7]) (l2 := []) (lc := [8]) (by kernel_rfl) (by kernel_rfl) (by kernel_rfl) ?_
        refine Ry rfl rfl wn (yFb FL_27_0 (et rfl e94_2)) ?_
        refine Ry rfl rfl wn (yLb (u := h2.v) O_25 (et rfl rfl) hst mhR rfl) ?_
        refine Ry rfl rfl wn (ym (v := h199.v) (et rfl e94_7)) ?_
        refine Ry rfl rfl wn (ym (v := .int .i64 x439) (et rfl e94_10)) ?_
        refine Ry rfl rfl wn (yIa SL_22 (et rfl rfl) (et rfl rfl) hst (rdI mhF) gx536) ?_
        refine Ry rfl rfl wn (yI O_3 (et rfl rfl) hst (rdI mhF) gx536) ?_
        refine Ry rfl rfl wn (yIa SL_25 (et rfl rfl) (et rfl rfl) hst (rdI (mtF q1)) gx537) ?_
        obtain ⟨h538, hst⟩ := iLs hst (mtF q1) gx537
        refine Ry rfl rfl wn (yCt O_22 (et rfl rfl) hst (mtF mhF) rfl) ?_
        refine Rn QSn ?_
        refine Lc rfl ?_ LAn
        refine Ly wn (ya (v := h538.v) (et rfl rfl)) ?_
        refine DRz (l1 := []) (l2 := []) (by kernel_rfl) (by kernel_rfl) ?_
        refine Rn QSn ?_
        refine k268 _ _ ?_
        refine seqQ fun Q269 k269 z269 => ?_
        refine wp_region_lit ?_
        refine Y wn rfl (ya (v := .int .i64 0) rfl) ?_
        refine wpList_nil ?_
        refine k269 _ _ ?_
        refine blockQ fun Q270 qb270 => ?_
        obtain ⟨o105, go105, hM94⟩ := bs hM94
        have je105_0 : ∀ (x563 : List Bool) (f : Nat → Value) (w : World), f 2 = .pointer (some ⟨b4, 0, none⟩) → f 5 = .int .i64 (x1.length : Int) → f 6 = h11.v → f 7 = h199.v → f 8 = h394.v → f 9 = h396.v → f 10 = .int .i64 x439 → St w0 (imm (rI .i64) h199.v x200 :: ros) (box b4 27 [h2.v] :: row 4 rB h11.v x198 :: row 22 (rS (rI .i64)) h394.v x395 :: row 4 rB h396.v x563 :: rs) w → x563 = o105 → Q270 (.exit 4) (fr 107 f) w := by
          intro x563 f w eje105_0_2 eje105_0_5 eje105_0_6 eje105_0_7 eje105_0_8 eje105_0_9 eje105_0_10 hst ho
          subst ho
          refine qb270 _ _ _ ?_
          refine qb267 _ _ _ ?_
          refine k266 _ _ ?_
          refine wp_region_lit ?_
          refine Y wn rfl (ym (v := .int .i64 x439) (et rfl eje105_0_10)) ?_
          refine Y wn rfl (yadd (et rfl rfl) rfl) ?_
          refine Y wn rfl (ya (v := .int .i64 (wa .i64 x439 1)) (et rfl rfl)) ?_
          refine wpList_nil ?_
          obtain rfl := someI hM94
          exact n94 _ _ _ rfl ⟨_, _, _, rfl, rfl, eje105_0_2, eje105_0_5, eje105_0_6, eje105_0_7, eje105_0_8, eje105_0_9, rfl, hst⟩
        refine loopQ (fun s a w => ∃ (x549 : List Bool) (x550 : Int) (f : Nat → Value), (x549, x550) = s ∧ a = fr 107 f ∧ f 2 = .pointer (some ⟨b4, 0, none⟩) ∧ f 5 = .int .i64 (x1.length : Int) ∧ f 6 = h11.v ∧ f 7 = h199.v ∧ f 8 = h394.v ∧ f 9 = h396.v ∧ f 10 = .int .i64 x439 ∧ f 11 = h538.v ∧ f 12 = .int .i64 x550 ∧ St w0 (imm (rI .i64) h199.v x200 :: imm (rI .i64) h538.v x537 :: ros) (box b4 27 [h2.v] :: row 4 rB h11.v x198 :: row 22 (rS (rI .i64)) h394.v x395 :: row 4 rB h396.v x549 :: rs) w) go105 ⟨_, _, _, rfl, rfl, e94_2, e94_5, e94_6, e94_7, e94_8, e94_9, e94_10, rfl, rfl, (hst.facts (allC (mtF (mtF mhF)) (allC mhF (allT (allT (allT allI))))))⟩ ?_
        clear hst
        rintro _ _ w r105_ ⟨x549, x550, f, rfl, rfl, e105_2, e105_5, e105_6, e105_7, e105_8, e105_9, e105_10, e105_11, e105_12, hst⟩ hM105 ho105 Q100105 n105 zz105
        refine seqQ fun Q279 k279 z279 => ?_
        refine seqQ fun Q280 k280 z280 => ?_
        refine wp_region_lit ?_
        refine Y wn rfl (ym (v := .int .i64 x550) (et rfl e105_12)) ?_
        refine Y wn rfl (ym (v := h538.v) (et rfl e105_11)) ?_
        refine Y wn rfl (yLen SL_22 (et rfl rfl) hst (rdI (mtF mhF))) ?_
        refine Y wn rfl (ylss (et rfl rfl) (et rfl rfl)) ?_
        refine wpList_nil ?_
        refine k280 _ _ ?_
        rcases iteS hM105 with ⟨c564, hM105⟩ | ⟨c564, hM105⟩
        · refine condT (et rfl rfl) (decide_eq_true c564) ?_
          refine wp_skip ?_
          refine k279 _ _ ?_
          refine seqQ fun Q281 k281 z281 => ?_
          refine blockQ fun Q282 qb282 => ?_
          obtain ⟨x565, gx565, hM105⟩ := bs hM105
          obtain ⟨x566, gx566, hM105⟩ := bs hM105
          obtain ⟨x567, gx567, hM105⟩ := bs hM105
          obtain ⟨r568, gr568, hM105⟩ := bs hM105
          obtain ⟨x569, gx569, hM105⟩ := bs hM105
          refine joinN (n := 107) (fun f w => f 2 = .pointer (some ⟨b4, 0, none⟩) ∧ f 5 = .int .i64 (x1.length : Int) ∧ f 6 = h11.v ∧ f 7 = h199.v ∧ f 8 = h394.v ∧ f 9 = h396.v ∧ f 10 = .int .i64 x439 ∧ f 11 = h538.v ∧ f 12 = .int .i64 x550 ∧ St w0 (imm (rI .i64) h199.v x200 :: imm (rI .i64) h538.v x537 :: ros) (box b4 27 [h2.v] :: row 4 rB h11.v x198 :: row 22 (rS (rI .i64)) h394.v x395 :: row 4 rB h396.v x569 :: rs) w) (fun j106 => ?_) ?_
          · rcases iteS gr568 with ⟨c571, gr568⟩ | ⟨c571, gr568⟩
            · have hr107 := someI gr568
              refine wp_drawR [0, 0, 0, 6, 14, 0, 0, 0, 192, 448, 992, 2016, 4064, 8160, 8160, 8160, 57312, 122848, 262112, 524256, 1048544, 2097120, 4194303, 8388607] [23] 1 folM (by kernel_rfl) (by kernel_rfl) (by kernel_rfl) ?_
              replace hst := hst.drew
              refine DRn (l1 := [0, 1, 2, 3, 4, 5, 6, 7, 8, 9, 10, 11, 12, 13, 14, 15, 16, 17, 18, 19, 20, 21, 22]) (l2 := []) (lc := [23]) (by kernel_rfl) (by kernel_rfl) (by kernel_rfl) ?_
              refine Ry rfl rfl wn (ym (v := h396.v) (et rfl e105_9)) ?_
              refine Ry rfl rfl wn (ym (v := h538.v) (et rfl e105_11)) ?_
              refine Ry rfl rfl wn (ym (v := .int .i64 x550) (et rfl e105_12)) ?_
              refine Ry rfl rfl wn (yIa SL_22 (et rfl rfl) (et rfl rfl) hst (rdI (mtF mhF)) gx565) ?_
              refine Ry rfl rfl wn (yI O_3 (et rfl rfl) hst (rdI (mtF mhF)) gx565) ?_
              refine Ry rfl rfl wn (ym (v := h396.v) (et rfl e105_9)) ?_
              refine Ry rfl rfl wn (ym (v := h538.v) (et rfl e105_11)) ?_
              refine Ry rfl rfl wn (ym (v := .int .i64 x550) (et rfl e105_12)) ?_
              refine Ry rfl rfl wn (yIa SL_22 (et rfl rfl) (et rfl rfl) hst (rdI (mtF mhF)) gx566) ?_
              refine Ry rfl rfl wn (yI O_3 (et rfl rfl) hst (rdI (mtF mhF)) gx566) ?_
              refine Ry rfl rfl wn (yIa SL_54 (et rfl rfl) (et rfl rfl) hst (rdO (mtR (mtR (mtR mhR)))) gx567) ?_
              refine Ry rfl rfl wn (yB O_4 (et rfl rfl) hst (rdO (mtR (mtR (mtR mhR)))) gx567) ?_
              refine Ry rfl rfl wn (ym (v := .bool x567) (et rfl rfl)) ?_
              refine Rx rfl rfl (wx rfl rfl rfl c571) ?_
              refine Rx rfl rfl (wx rfl rfl rfl c571) ?_
              refine Rx rfl rfl (wx rfl rfl rfl c571) ?_
              refine Rx rfl rfl (wx rfl rfl rfl c571) ?_
              refine Rx rfl rfl (wx rfl rfl rfl c571) ?_
              refine Rx rfl rfl (wx rfl rfl rfl c571) ?_
              refine Rx rfl rfl (wx rfl rfl rfl c571) ?_
              refine Rx rfl rfl (wx rfl rfl rfl c571) ?_
              refine Ry rfl rfl wn (ypt (v := .bool r568) (et rfl rfl) c571 (eqv hr107 rfl)) ?_
              refine Ry rfl rfl wn (yIs SL_54 (et rfl rfl) (et rfl rfl) hst (rdO (mtR (mtR (mtR mhR)))) gx569) ?_
              refine Rn QSn ?_
              refine Lc rfl ?_ LAn
              replace hst := hst.pk 4 [3, 0, 0, 0] rfl
              refine LT wn (r_sti (cs := [.bool r568]) hst O_4 rfl (et rfl rfl) (et rfl rfl) rfl mkB gx569) ?_
              clear hst
              intro w hst
              refine DRz (l1 := []) (l2 := []) (by kernel_rfl) (by kernel_rfl) ?_
              refine Rn QSn ?_
              exact j106 _ _ ⟨e105_2, e105_5, e105_6, e105_7, e105_8, e105_9, e105_10, e105_11, e105_12, (hst.pk 4 [1, 1, 1, 0] rfl)⟩
            · obtain ⟨x572, gx572, gr568⟩ := bs gr568
              obtain ⟨x573, gx573, gr568⟩ := bs gr568
              have hr108 := someI gr568
              refine wp_drawR [0, 0, 0, 6, 14, 0, 0, 0, 192, 448, 992, 2016, 4064, 8160, 8160, 8160, 57312, 122848, 262112, 524256, 1048544, 2097120, 4194303, 8388607] [23] 1 folM (by kernel_rfl) (by kernel_rfl) (by kernel_rfl) ?_
              replace hst := hst.drew
              refine DRn (l1 := [0, 1, 2, 3, 4, 5, 6, 7, 8, 9, 10, 11, 12, 13, 14, 15, 16, 17, 18, 19, 20, 21, 22]) (l2 := []) (lc := [23]) (by kernel_rfl) (by kernel_rfl) (by kernel_rfl) ?_
              refine Ry rfl rfl wn (ym (v := h396.v) (et rfl e105_9)) ?_
              refine Ry rfl rfl wn (ym (v := h538.v) (et rfl e105_11)) ?_
              refine Ry rfl rfl wn (ym (v := .int .i64 x550) (et rfl e105_12)) ?_
              refine Ry rfl rfl wn (yIa SL_22 (et rfl rfl) (et rfl rfl) hst (rdI (mtF mhF)) gx565) ?_
              refine Ry rfl rfl wn (yI O_3 (et rfl rfl) hst (rdI (mtF mhF)) gx565) ?_
              refine Ry rfl rfl wn (ym (v := h396.v) (et rfl e105_9)) ?_
              refine Ry rfl rfl wn (ym (v := h538.v) (et rfl e105_11)) ?_
              refine Ry rfl rfl wn (ym (v := .int .i64 x550) (et rfl e105_12)) ?_
              refine Ry rfl rfl wn (yIa SL_22 (et rfl rfl) (et rfl rfl) hst (rdI (mtF mhF)) gx566) ?_
              refine Ry rfl rfl wn (yI O_3 (et rfl rfl) hst (rdI (mtF mhF)) gx566) ?_
              refine Ry rfl rfl wn (yIa SL_54 (et rfl rfl) (et rfl rfl) hst (rdO (mtR (mtR (mtR mhR)))) gx567) ?_
              refine Ry rfl rfl wn (yB O_4 (et rfl rfl) hst (rdO (mtR (mtR (mtR mhR)))) gx567) ?_
              refine Ry rfl rfl wn (ym (v := .bool x567) (et rfl rfl)) ?_
              refine Ry rfl rfl (wg rfl rfl rfl (bfalse c571)) (ym (v := h11.v) (et rfl e105_6)) ?_
              refine Ry rfl rfl (wg rfl rfl rfl (bfalse c571)) (ym (v := h538.v) (et rfl e105_11)) ?_
              refine Ry rfl rfl (wg rfl rfl rfl (bfalse c571)) (ym (v := .int .i64 x550) (et rfl e105_12)) ?_
              refine Ry rfl rfl (wg rfl rfl rfl (bfalse c571)) (yIa SL_22 (et rfl rfl) (et rfl rfl) hst (rdI (mtF mhF)) gx572) ?_
              refine Ry rfl rfl (wg rfl rfl rfl (bfalse c571)) (yI O_3 (et rfl rfl) hst (rdI (mtF mhF)) gx572) ?_
              refine Ry rfl rfl (wg rfl rfl rfl (bfalse c571)) (yIa SL_54 (et rfl rfl) (et rfl rfl) hst (rdO (mtR mhR)) gx573) ?_
              refine Ry rfl rfl (wg rfl rfl rfl (bfalse c571)) (yB O_4 (et rfl rfl) hst (rdO (mtR mhR)) gx573) ?_
              refine Ry rfl rfl (wg rfl rfl rfl (bfalse c571)) (ynot (et rfl rfl)) ?_
              refine Ry rfl rfl wn (ypf (v := .bool r568) (et rfl rfl) (bfalse c571) (eqv hr108 (et rfl rfl))) ?_
              refine Ry rfl rfl wn (yIs SL_54 (et rfl rfl) (et rfl rfl) hst (rdO (mtR (mtR (mtR mhR)))) gx569) ?_
              refine Rn QSn ?_
              refine Lc rfl ?_ LAn
              replace hst := hst.pk 4 [3, 0, 0, 0] rfl
              refine LT wn (r_sti (cs := [.bool r568]) hst O_4 rfl (et rfl rfl) (et rfl rfl) rfl mkB gx569) ?_
              clear hst
              intro w hst
              refine DRz (l1 := []) (l2 := []) (by kernel_rfl) (by kernel_rfl) ?_
              refine Rn QSn ?_
              exact j106 _ _ ⟨e105_2, e105_5, e105_6, e105_7, e105_8, e105_9, e105_10, e105_11, e105_12, (hst.pk 4 [1, 1, 1, 0] rfl)⟩
          clear hst
          rintro f w ⟨e570_2, e570_5, e570_6, e570_7, e570_8, e570_9, e570_10, e570_11, e570_12, hst⟩
          refine qb282 _ _ _ ?_
          refine k281 _ _ ?_
          refine wp_region_lit ?_
          refine Y wn rfl (ym (v := .int .i64 x550) (et rfl e570_12)) ?_
          refine Y wn rfl (yadd (et rfl rfl) rfl) ?_
          refine Y wn rfl (ya (v := .int .i64 (wa .i64 x550 1)) (et rfl rfl)) ?_
          refine wpList_nil ?_
          obtain rfl := someI hM105
          exact n105 _ _ _ rfl ⟨_, _, _, rfl, rfl, e570_2, e570_5, e570_6, e570_7, e570_8, e570_9, e570_10, e570_11, rfl, hst⟩
        · refine condF (et rfl rfl) (decide_eq_false c564) ?_
          refine wp_exit ?_
          refine z279 _ _ _ rfl ?_
          obtain rfl := someI hM105
          refine zz105 _ _ _ _ rfl rfl ?_
          exact je105_0 _ _ _ e105_2 e105_5 e105_6 e105_7 e105_8 e105_9 e105_10 (hst.facts (allC mhF (allT (allT allI)))) (ho105 _ rfl)
      · refine condF (et rfl rfl) (decide_eq_false c535) ?_
        refine wp_exit ?_
        refine z264 _ _ _ rfl ?_
        obtain rfl := someI hM94
        refine zz94 _ _ _ _ rfl rfl ?_
        exact je94_0 _ _ _ e94_2 e94_5 e94_6 e94_8 e94_9 (hst.facts (allT allI)) (ho94 _ rfl)
    · refine condF (et rfl rfl) (decide_eq_false c392) ?_
      refine wp_exit ?_
      refine z193 _ _ _ rfl ?_
      obtain rfl := someI hM73
      refine zz73 _ _ _ _ rfl rfl ?_
      exact je73_0 _ _ _ _ e73_8 (hst.pk 4 [3] rfl) (ho73 _ rfl)
end Go.Proofs.Ytcknmegldjnjjaa
