/- Walks: each function computes its model, printed. -/
import Derived.Test.YtcknmegldjnjjaaGreatDoorW1
namespace Go.Proofs.YtcknmegldjnjjaaGreatDoor
open Go Sx M
set_option maxRecDepth 100000
set_option maxHeartbeats 400000
set_option linter.unusedVariables false
attribute [local irreducible] wpList Code.wp Calls DR QR QS LA LS St
theorem sparseref01_Abs_ok {w0 : World} {ros : List Fact} {rs : List Res} {w : World} {x1 : Bool} {x2 : List Int} {h3 : Hdr} {out : Bool × (List Int)} (hM : sparseref01_Abs x1 x2 = some out) (q1 : imm (rI .u32) h3.v x2 ∈ ros) (hst : St w0 ros (rs) w) :
    Calls Tryz.prog 65 #[.agg #[.bool x1, h3.v]] w (fun e w => ∃ (h100002 : Hdr), e = .returned (.agg #[.bool out.1, h100002.v]) ∧ St w0 (ros) (row 127 (rI .u32) h100002.v out.2 :: rs) w) := by
  refine enterQ Tryz.func65 rfl Tryz.ntmps65 rfl fun Q hQ => ?_
  refine seqQ fun Q1 k1 z1 => ?_
  refine wp_region_lit ?_
  refine YB wn rfl (r_box (vals := [.bool x1, h3.v]) hst (et rfl rfl) rfl) ?_
  clear hst
  intro b4 w hst
  refine YB wn rfl (rAl hst ZT_82) ?_
  clear hst
  intro b5 w hst
  refine wpList_nil ?_
  refine k1 _ _ ?_
  refine seqQ fun Q2 k2 z2 => ?_
  refine wp_region_lit ?_
  refine Y wn rfl (yFb FL_82_1 (et rfl rfl)) ?_
  refine Y wn rfl (yLb (u := h3.v) O_80 (et rfl rfl) hst (mtR mhR) rfl) ?_
  obtain ⟨r6, gr6, hM⟩ := bs hM
  refine Yc wn rfl (yCall FN_100 (a2 rfl (et rfl rfl))) (sparseref01_make1_ok (hM := gr6) (hst := hst) (q1 := q1)) ?_
  clear hst
  rintro _ w ⟨h7, rfl, hst⟩
  refine ⟨_, rfl, ?_⟩
  replace hst := hst.pk 2 [1, 0] rfl
  refine YT wn rfl (r_stbn (vals' := [.bool r6.1, h7.v]) (us := [.bool r6.1, h7.v]) hst ST_82 (et rfl rfl) (et rfl rfl) rfl rfl (one_of rfl) rfl) ?_
  clear hst
  intro w hst
  refine wpList_nil ?_
  refine k2 _ _ ?_
  refine wp_ret ?_
  obtain rfl := someI hM
  exact hQ _ _ _ (fin1r Tryz.results65 (rcs2 rfl rfl hst mhR ST_82 rfl) ⟨_, rfl, (hst.pk 3 [1] rfl)⟩)

theorem sparseref01_shl_ok {w0 : World} {ros : List Fact} {rs : List Res} {w : World} {x1 : List Int} {x3 : Int} {h2 : Hdr} {out : (List Int)} (hM : sparseref01_shl x1 x3 = some out) (q1 : imm (rI .u32) h2.v x1 ∈ ros) (hst : St w0 ros (rs) w) :
    Calls Tryz.prog 116 #[h2.v, .int .i64 x3] w (fun e w => ∃ (h100001 : Hdr), e = .returned (h100001.v) ∧ St w0 (ros) (row 127 (rI .u32) h100001.v out :: rs) w) := by
  refine enterQ Tryz.func116 rfl Tryz.ntmps116 rfl fun Q hQ => ?_
  refine seqQ fun Q1 k1 z1 => ?_
  refine wp_region_lit ?_
  refine Y wn rfl (ya (v := hnil.v) rfl) ?_
  refine wpList_nil ?_
  refine k1 _ _ ?_
  refine seqQ fun Q2 k2 z2 => ?_
  refine wp_region_lit ?_
  refine Y wn rfl (ym (v := .int .i64 x3) (et rfl rfl)) ?_
  refine Y wn rfl (yquoc (et rfl rfl) rfl (by decide)) ?_
  obtain ⟨x6, gx6, hM⟩ := bs hM
  refine YH wn rfl (rMk hst SL_80 (et rfl rfl) gx6) ?_
  clear hst
  intro h4 w hst
  refine Y wn rfl (ya (v := h4.v) (et rfl rfl)) ?_
  refine wpList_nil ?_
  refine k2 _ _ ?_
  refine seqQ fun Q3 k3 z3 => ?_
  refine wp_region_lit ?_
  refine Y wn rfl (ya (v := .int .u64 0) rfl) ?_
  refine wpList_nil ?_
  refine k3 _ _ ?_
  refine seqQ fun Q4 k4 z4 => ?_
  refine seqQ fun Q5 k5 z5 => ?_
  refine wp_region_lit ?_
  refine Y wn rfl (ya (v := .int .i64 0) rfl) ?_
  refine wpList_nil ?_
  refine k5 _ _ ?_
  refine blockQ fun Q6 qb6 => ?_
  obtain ⟨o1, go1, hM⟩ := bs hM
  have je1_0 : ∀ (x28 : List Int) (x29 : Int) (h27 : Hdr) (f : Nat → Value) (w : World), f 5 = h27.v → f 6 = .int .u64 x29 → St w0 (ros) (row 127 (rI .u32) h27.v x28 :: rs) w → (x28, x29) = o1 → Q6 (.exit 0) (fr 39 f) w := by
    intro x28 x29 h27 f w eje1_0_5 eje1_0_6 hst ho
    subst ho
    refine qb6 _ _ _ ?_
    refine k4 _ _ ?_
    refine seqQ fun Q19 k19 z19 => ?_
    refine wp_region_lit ?_
    refine Y wn rfl (ym (v := h27.v) (et rfl eje1_0_5)) ?_
    refine Y wn rfl (ym (v := .int .u64 x29) (et rfl eje1_0_6)) ?_
    refine Y wn rfl (ycv (k' := .u32) (by kernel_rfl) (by kernel_rfl) (et rfl rfl)) ?_
    refine YH wn rfl (rLt (n := 1) (l := [wc .u32 x29]) hst SL_80 [.int .u32 (wc .u32 x29)] (bp1 (et rfl rfl)) rfl rfl (mks1 (cs := [.int .u32 (wc .u32 x29)]) rfl mkI mks0)) ?_
    clear hst
    intro h30 w hst
    obtain ⟨x32, gx32, hM⟩ := bs hM
    replace hst := hst.pk 2 [1, 0] rfl
    refine YH wn rfl (rAp hst SL_80 (et rfl rfl) (et rfl rfl) (rdO (mtR mhR)) gx32) ?_
    clear hst
    intro h31 w hst
    refine Y wn rfl (ya (v := h31.v) (et rfl rfl)) ?_
    refine wpList_nil ?_
    refine k19 _ _ ?_
    refine wp_ret ?_
    obtain rfl := someI hM
    exact hQ _ _ _ (fin1r Tryz.results116 ⟨rfl, rfl⟩ ⟨_, rfl, (hst.pk 2 [0] rfl)⟩)
  refine loopQ (fun s a w => ∃ (x14 : List Int) (x15 : Int) (x16 : Int) (f : Nat → Value) (h13 : Hdr), (x14, x15, x16) = s ∧ a = fr 39 f ∧ f 0 = h2.v ∧ f 1 = .int .i64 x3 ∧ f 5 = h13.v ∧ f 6 = .int .u64 x15 ∧ f 7 = .int .i64 x16 ∧ St w0 (ros) (row 127 (rI .u32) h13.v x14 :: rs) w) go1 ⟨_, _, _, _, _, rfl, rfl, rfl, rfl, rfl, rfl, rfl, hst⟩ ?_
  clear hst
  rintro _ _ w r1_ ⟨x14, x15, x16, f, h13, rfl, rfl, e1_0, e1_1, e1_5, e1_6, e1_7, hst⟩ hM1 ho1 Q100001 n1 zz1
  refine seqQ fun Q20 k20 z20 => ?_
  refine seqQ fun Q21 k21 z21 => ?_
  refine wp_region_lit ?_
  refine Y wn rfl (ym (v := .int .i64 x16) (et rfl e1_7)) ?_
  refine Y wn rfl (ym (v := h2.v) (et rfl e1_0)) ?_
  refine Y wn rfl (yLen SL_80 (et rfl rfl) hst (rdI q1)) ?_
  refine Y wn rfl (ylss (et rfl rfl) (et rfl rfl)) ?_
  refine wpList_nil ?_
  refine k21 _ _ ?_
  rcases iteS hM1 with ⟨c33, hM1⟩ | ⟨c33, hM1⟩
  · refine condT (et rfl rfl) (decide_eq_true c33) ?_
    refine wp_skip ?_
    refine k20 _ _ ?_
    refine seqQ fun Q22 k22 z22 => ?_
    refine blockQ fun Q23 qb23 => ?_
    refine seqQ fun Q24 k24 z24 => ?_
    refine wp_region_lit ?_
    refine Y wn rfl (ym (v := .int .u64 x15) (et rfl e1_6)) ?_
    refine Y wn rfl (ym (v := h2.v) (et rfl e1_0)) ?_
    refine Y wn rfl (ym (v := .int .i64 x16) (et rfl e1_7)) ?_
    obtain ⟨x34, gx34, hM1⟩ := bs hM1
    refine Y wn rfl (yIa SL_80 (et rfl rfl) (et rfl rfl) hst (rdI q1) gx34) ?_
    refine Y wn rfl (yI O_127 (et rfl rfl) hst (rdI q1) gx34) ?_
    refine Y wn rfl (ycv (k' := .u64) (by kernel_rfl) (by kernel_rfl) (et rfl rfl)) ?_
    refine Y wn rfl (ym (v := .int .i64 x3) (et rfl e1_1)) ?_
    refine Y wn rfl (yremc (et rfl rfl) rfl (by decide)) ?_
    obtain ⟨x35, gx35, hM1⟩ := bs hM1
    refine Y wn rfl (yshl (et rfl rfl) (et rfl rfl) gx35) ?_
    refine Y wn rfl (yor (et rfl rfl) (et rfl rfl)) ?_
    refine Y wn rfl (ya (v := .int .u64 (wor .u64 x15 x35)) (et rfl rfl)) ?_
    refine wpList_nil ?_
    refine k24 _ _ ?_
    refine seqQ fun Q25 k25 z25 => ?_
    refine wp_region_lit ?_
    refine Y wn rfl (ym (v := h13.v) (et rfl e1_5)) ?_
    refine Y wn rfl (ym (v := .int .u64 (wor .u64 x15 x35)) (et rfl rfl)) ?_
    refine Y wn rfl (ycv (k' := .u32) (by kernel_rfl) (by kernel_rfl) (et rfl rfl)) ?_
    refine YH wn rfl (rLt (n := 1) (l := [wc .u32 (wor .u64 x15 x35)]) hst SL_80 [.int .u32 (wc .u32 (wor .u64 x15 x35))] (bp1 (et rfl rfl)) rfl rfl (mks1 (cs := [.int .u32 (wc .u32 (wor .u64 x15 x35))]) rfl mkI mks0)) ?_
    clear hst
    intro h36 w hst
    obtain ⟨x38, gx38, hM1⟩ := bs hM1
    replace hst := hst.pk 2 [1, 0] rfl
    refine YH wn rfl (rAp hst SL_80 (et rfl rfl) (et rfl rfl) (rdO (mtR mhR)) gx38) ?_
    clear hst
    intro h37 w hst
    refine Y wn rfl (ya (v := h37.v) (et rfl rfl)) ?_
    refine wpList_nil ?_
    refine k25 _ _ ?_
    refine wp_region_lit ?_
    refine Y wn rfl (ym (v := .int .u64 (wor .u64 x15 x35)) (et rfl rfl)) ?_
    refine Y wn rfl (yshrc (et rfl rfl) rfl) ?_
    refine Y wn rfl (ya (v := .int .u64 (wsrc .u64 (wor .u64 x15 x35) 32)) (et rfl rfl)) ?_
    refine wpList_nil ?_
    refine qb23 _ _ _ ?_
    refine k22 _ _ ?_
    refine wp_region_lit ?_
    refine Y wn rfl (ym (v := .int .i64 x16) (et rfl e1_7)) ?_
    refine Y wn rfl (yadd (et rfl rfl) rfl) ?_
    refine Y wn rfl (ya (v := .int .i64 (wa .i64 x16 1)) (et rfl rfl)) ?_
    refine wpList_nil ?_
    obtain rfl := someI hM1
    exact n1 _ _ _ rfl ⟨_, _, _, _, _, rfl, rfl, e1_0, e1_1, rfl, rfl, rfl, (hst.pk 2 [0] rfl)⟩
  · refine condF (et rfl rfl) (decide_eq_false c33) ?_
    refine wp_exit ?_
    refine z20 _ _ _ rfl ?_
    obtain rfl := someI hM1
    refine zz1 _ _ _ _ rfl rfl ?_
    exact je1_0 _ _ _ _ _ e1_5 e1_6 hst (ho1 _ rfl)

theorem sparseref01_shr_ok {w0 : World} {ros : List Fact} {rs : List Res} {w : World} {x1 : List Int} {x3 : Int} {h2 : Hdr} {out : (List Int) × Bool} (hM : sparseref01_shr x1 x3 = some out) (q1 : imm (rI .u32) h2.v x1 ∈ ros) (hst : St w0 ros (rs) w) :
    Calls Tryz.prog 117 #[h2.v, .int .i64 x3] w (fun e w => ∃ (h100001 : Hdr), e = .returned (.tuple #[h100001.v, .bool out.2]) ∧ St w0 (ros) (row 127 (rI .u32) h100001.v out.1 :: rs) w) := by
  refine enterQ Tryz.func117 rfl Tryz.ntmps117 rfl fun Q hQ => ?_
  refine seqQ fun Q1 k1 z1 => ?_
  refine wp_region_lit ?_
  refine Y wn rfl (ya (v := hnil.v) rfl) ?_
  refine Y wn rfl (ya (v := .bool false) rfl) ?_
  refine wpList_nil ?_
  refine k1 _ _ ?_
  refine seqQ fun Q2 k2 z2 => ?_
  refine wp_region_lit ?_
  refine Y wn rfl (ya (v := .bool false) rfl) ?_
  refine wpList_nil ?_
  refine k2 _ _ ?_
  refine seqQ fun Q3 k3 z3 => ?_
  refine seqQ fun Q4 k4 z4 => ?_
  refine wp_region_lit ?_
  refine Y wn rfl (ya (v := .int .i64 0) rfl) ?_
  refine wpList_nil ?_
  refine k4 _ _ ?_
  refine blockQ fun Q5 qb5 => ?_
  obtain ⟨o4, go4, hM⟩ := bs hM
  have je4_0 : ∀ (x20 : Bool) (f : Nat → Value) (w : World), f 0 = h2.v → f 1 = .int .i64 x3 → f 6 = .bool x20 → St w0 (ros) (rs) w → x20 = o4 → Q5 (.exit 0) (fr 85 f) w := by
    intro x20 f w eje4_0_0 eje4_0_1 eje4_0_6 hst ho
    subst ho
    refine qb5 _ _ _ ?_
    refine k3 _ _ ?_
    refine seqQ fun Q14 k14 z14 => ?_
    refine wp_region_lit ?_
    refine Y wn rfl (ya (v := hnil.v) rfl) ?_
    refine wpList_nil ?_
    refine k14 _ _ ?_
    refine seqQ fun Q15 k15 z15 => ?_
    refine wp_region_lit ?_
    refine Y wn rfl (ym (v := .int .i64 x3) (et rfl eje4_0_1)) ?_
    refine Y wn rfl (yremc (et rfl rfl) rfl (by decide)) ?_
    refine Y wn rfl (ya (v := .int .i64 (wrc x3 32)) (et rfl rfl)) ?_
    refine wpList_nil ?_
    refine k15 _ _ ?_
    refine seqQ fun Q16 k16 z16 => ?_
    refine seqQ fun Q17 k17 z17 => ?_
    refine wp_region_lit ?_
    refine Y wn rfl (ym (v := .int .i64 x3) (et rfl eje4_0_1)) ?_
    refine Y wn rfl (yquoc (et rfl rfl) rfl (by decide)) ?_
    refine Y wn rfl (ya (v := .int .i64 (wqc .i64 x3 32)) (et rfl rfl)) ?_
    refine wpList_nil ?_
    refine k17 _ _ ?_
    refine blockQ fun Q18 qb18 => ?_
    obtain ⟨o15, go15, hM⟩ := bs hM
    have je15_0 : ∀ (x63 : Bool) (x65 : List Int) (h64 : Hdr) (f : Nat → Value) (w : World), f 6 = .bool x63 → f 8 = h64.v → St w0 (ros) (row 127 (rI .u32) h64.v x65 :: rs) w → (x63, x65) = o15 → Q18 (.exit 2) (fr 85 f) w := by
      intro x63 x65 h64 f w eje15_0_6 eje15_0_8 hst ho
      subst ho
      refine qb18 _ _ _ ?_
      refine k16 _ _ ?_
      refine seqQ fun Q37 k37 z37 => ?_
      refine wp_region_lit ?_
      refine Y wn rfl (ym (v := h64.v) (et rfl eje15_0_8)) ?_
      refine Y wn rfl (ym (v := .bool x63) (et rfl eje15_0_6)) ?_
      refine Y wn rfl (ya (v := h64.v) (et rfl rfl)) ?_
      refine Y wn rfl (ya (v := .bool x63) (et rfl rfl)) ?_
      refine wpList_nil ?_
      refine k37 _ _ ?_
      refine wp_ret ?_
      obtain rfl := someI hM
      exact hQ _ _ _ (fin2r Tryz.results117 ⟨rfl, rfl⟩ ⟨rfl, rfl⟩ ⟨_, rfl, hst⟩)
    replace hst := hst.rowNh 127 (rI .u32)
    refine loopQ (fun s a w => ∃ (x38 : Bool) (x40 : List Int) (x41 : Int) (f : Nat → Value) (h39 : Hdr), (x38, x40, x41) = s ∧ a = fr 85 f ∧ f 0 = h2.v ∧ f 1 = .int .i64 x3 ∧ f 6 = .bool x38 ∧ f 8 = h39.v ∧ f 9 = .int .i64 (wrc x3 32) ∧ f 10 = .int .i64 x41 ∧ St w0 (ros) (row 127 (rI .u32) h39.v x40 :: rs) w) go15 ⟨_, _, _, _, _, rfl, rfl, eje4_0_0, eje4_0_1, eje4_0_6, rfl, rfl, rfl, hst⟩ ?_
    clear hst
    rintro _ _ w r15_ ⟨x38, x40, x41, f, h39, rfl, rfl, e15_0, e15_1, e15_6, e15_8, e15_9, e15_10, hst⟩ hM15 ho15 Q100015 n15 zz15
    refine seqQ fun Q38 k38 z38 => ?_
    refine seqQ fun Q39 k39 z39 => ?_
    refine wp_region_lit ?_
    refine Y wn rfl (ym (v := .int .i64 x41) (et rfl e15_10)) ?_
    refine Y wn rfl (ym (v := h2.v) (et rfl e15_0)) ?_
    refine Y wn rfl (yLen SL_80 (et rfl rfl) hst (rdI q1)) ?_
    refine Y wn rfl (ylss (et rfl rfl) (et rfl rfl)) ?_
    refine wpList_nil ?_
    refine k39 _ _ ?_
    rcases iteS hM15 with ⟨c66, hM15⟩ | ⟨c66, hM15⟩
    · refine condT (et rfl rfl) (decide_eq_true c66) ?_
      refine wp_skip ?_
      refine k38 _ _ ?_
      refine seqQ fun Q40 k40 z40 => ?_
      refine blockQ fun Q41 qb41 => ?_
      refine seqQ fun Q42 k42 z42 => ?_
      refine wp_region_lit ?_
      refine Y wn rfl (ym (v := h2.v) (et rfl e15_0)) ?_
      refine Y wn rfl (ym (v := .int .i64 x41) (et rfl e15_10)) ?_
      obtain ⟨x67, gx67, hM15⟩ := bs hM15
      refine Y wn rfl (yIa SL_80 (et rfl rfl) (et rfl rfl) hst (rdI q1) gx67) ?_
      refine Y wn rfl (yI O_127 (et rfl rfl) hst (rdI q1) gx67) ?_
      refine Y wn rfl (ycv (k' := .u64) (by kernel_rfl) (by kernel_rfl) (et rfl rfl)) ?_
      refine Y wn rfl (ya (v := .int .u64 (wc .u64 x67)) (et rfl rfl)) ?_
      refine wpList_nil ?_
      refine k42 _ _ ?_
      refine seqQ fun Q43 k43 z43 => ?_
      refine seqQ fun Q44 k44 z44 => ?_
      refine wp_region_lit ?_
      refine Y wn rfl (ym (v := .int .i64 x41) (et rfl e15_10)) ?_
      refine Y wn rfl (yadd (et rfl rfl) rfl) ?_
      refine Y wn rfl (ym (v := h2.v) (et rfl e15_0)) ?_
      refine Y wn rfl (yLen SL_80 (et rfl rfl) hst (rdI q1)) ?_
      refine Y wn rfl (ylss (et rfl rfl) (et rfl rfl)) ?_
      refine wpList_nil ?_
      refine k44 _ _ ?_
      have j16 : ∀ (x69 : Int) (f : Nat → Value) (w : World), f 0 = h2.v → f 1 = .int .i64 x3 → f 6 = .bool x38 → f 8 = h39.v → f 9 = .int .i64 (wrc x3 32) → f 10 = .int .i64 x41 → f 11 = .int .u64 x69 → St w0 (ros) (row 127 (rI .u32) h39.v x40 :: rs) w → sparseref01_shr_j16 x41 x3 x1 x40 x38 x69 = some r15_ → Q43 .normal (fr 85 f) w := by
        intro x69 f w ej16_0 ej16_1 ej16_6 ej16_8 ej16_9 ej16_10 ej16_11 hst hM
        refine k43 _ _ ?_
        refine seqQ fun Q45 k45 z45 => ?_
        refine seqQ fun Q46 k46 z46 => ?_
        obtain ⟨r70, gr70, hM⟩ := bs hM
        refine joinN (n := 85) (fun f w => f 0 = h2.v ∧ f 1 = .int .i64 x3 ∧ f 6 = .bool x38 ∧ f 8 = h39.v ∧ f 9 = .int .i64 (wrc x3 32) ∧ f 10 = .int .i64 x41 ∧ f 11 = .int .u64 x69 ∧ f 75 = .bool r70 ∧ St w0 (ros) (row 127 (rI .u32) h39.v x40 :: rs) w) (fun j17 => ?_) ?_
        · rcases iteS gr70 with ⟨c72, gr70⟩ | ⟨c72, gr70⟩
          · obtain ⟨x73, gx73, gr70⟩ := bs gr70
            obtain ⟨x74, gx74, gr70⟩ := bs gr70
            have hr18 := someI gr70
            refine wp_drawR [0, 0, 2, 7, 15, 31, 31, 127, 255, 31, 543, 1567, 4095, 8191, 16383] [] 0 folM (by kernel_rfl) (by kernel_rfl) (by kernel_rfl) ?_
            replace hst := hst.drew
            refine DRz (l1 := [0, 1, 2, 3, 4, 5, 6, 7, 8, 9, 10, 11, 12, 13, 14]) (l2 := []) (by kernel_rfl) (by kernel_rfl) ?_
            refine Ry rfl rfl wn (ym (v := .int .i64 x41) (et rfl ej16_10)) ?_
            refine Ry rfl rfl wn (ym (v := .int .i64 x3) (et rfl ej16_1)) ?_
            refine Ry rfl rfl wn (yquoc (et rfl rfl) rfl (by decide)) ?_
            refine Ry rfl rfl wn (yeql (et rfl rfl) (et rfl rfl)) ?_
            refine Ry rfl rfl wn (ym (v := .bool (decide (x41 = (wqc .i64 x3 32)))) (et rfl rfl)) ?_
            refine Ry rfl rfl (wg rfl rfl rfl (decide_eq_true c72)) (ym (v := h2.v) (et rfl ej16_0)) ?_
            refine Ry rfl rfl (wg rfl rfl rfl (decide_eq_true c72)) (ym (v := .int .i64 x41) (et rfl ej16_10)) ?_
            refine Ry rfl rfl (wg rfl rfl rfl (decide_eq_true c72)) (yIa SL_80 (et rfl rfl) (et rfl rfl) hst (rdI q1) gx73) ?_
            refine Ry rfl rfl (wg rfl rfl rfl (decide_eq_true c72)) (yI O_127 (et rfl rfl) hst (rdI q1) gx73) ?_
            refine Ry rfl rfl (wg rfl rfl rfl (decide_eq_true c72)) (ym (v := .int .i64 (wrc x3 32)) (et rfl ej16_9)) ?_
            refine Ry rfl rfl (wg rfl rfl rfl (decide_eq_true c72)) (yshl rfl (et rfl rfl) gx74) ?_
            refine Ry rfl rfl (wg rfl rfl rfl (decide_eq_true c72)) (ysub (et rfl rfl) rfl) ?_
            refine Ry rfl rfl (wg rfl rfl rfl (decide_eq_true c72)) (yand (et rfl rfl) (et rfl rfl)) ?_
            refine Ry rfl rfl (wg rfl rfl rfl (decide_eq_true c72)) (yneq (et rfl rfl) rfl) ?_
            refine Ry rfl rfl wn (ypt (v := .bool r70) (et rfl rfl) (decide_eq_true c72) (eqv hr18 (et rfl rfl))) ?_
            refine Rn QSn ?_
            exact j17 _ _ ⟨ej16_0, ej16_1, ej16_6, ej16_8, ej16_9, ej16_10, ej16_11, rfl, hst⟩
          · have hr19 := someI gr70
            refine wp_drawR [0, 0, 2, 7, 15, 31, 31, 127, 255, 31, 543, 1567, 4095, 8191, 16383] [] 0 folM (by kernel_rfl) (by kernel_rfl) (by kernel_rfl) ?_
            replace hst := hst.drew
            refine DRz (l1 := [0, 1, 2, 3, 4, 5, 6, 7, 8, 9, 10, 11, 12, 13, 14]) (l2 := []) (by kernel_rfl) (by kernel_rfl) ?_
            refine Ry rfl rfl wn (ym (v := .int .i64 x41) (et rfl ej16_10)) ?_
            refine Ry rfl rfl wn (ym (v := .int .i64 x3) (et rfl ej16_1)) ?_
            refine Ry rfl rfl wn (yquoc (et rfl rfl) rfl (by decide)) ?_
            refine Ry rfl rfl wn (yeql (et rfl rfl) (et rfl rfl)) ?_
            refine Ry rfl rfl wn (ym (v := .bool (decide (x41 = (wqc .i64 x3 32)))) (et rfl rfl)) ?_
            refine Rx rfl rfl (wx rfl rfl rfl (decide_eq_false c72)) ?_
            refine Rx rfl rfl (wx rfl rfl rfl (decide_eq_false c72)) ?_
            refine Rx rfl rfl (wx rfl rfl rfl (decide_eq_false c72)) ?_
            refine Rx rfl rfl (wx rfl rfl rfl (decide_eq_false c72)) ?_
            refine Rx rfl rfl (wx rfl rfl rfl (decide_eq_false c72)) ?_
            refine Rx rfl rfl (wx rfl rfl rfl (decide_eq_false c72)) ?_
            refine Rx rfl rfl (wx rfl rfl rfl (decide_eq_false c72)) ?_
            refine Rx rfl rfl (wx rfl rfl rfl (decide_eq_false c72)) ?_
            refine Rx rfl rfl (wx rfl rfl rfl (decide_eq_false c72)) ?_
            refine Ry rfl rfl wn (ypf (v := .bool r70) (et rfl rfl) (decide_eq_false c72) (eqv hr19 rfl)) ?_
            refine Rn QSn ?_
            exact j17 _ _ ⟨ej16_0, ej16_1, ej16_6, ej16_8, ej16_9, ej16_10, ej16_11, rfl, hst⟩
        clear hst
        rintro f w ⟨e71_0, e71_1, e71_6, e71_8, e71_9, e71_10, e71_11, e71_75, hst⟩
        refine k46 _ _ ?_
        have j20 : ∀ (x75 : Bool) (f : Nat → Value) (w : World), f 0 = h2.v → f 1 = .int .i64 x3 → f 6 = .bool x75 → f 8 = h39.v → f 9 = .int .i64 (wrc x3 32) → f 10 = .int .i64 x41 → f 11 = .int .u64 x69 → St w0 (ros) (row 127 (rI .u32) h39.v x40 :: rs) w → sparseref01_shr_j20 x69 x3 x40 x41 x75 = some r15_ → Q45 .normal (fr 85 f) w := by
          intro x75 f w ej20_0 ej20_1 ej20_6 ej20_8 ej20_9 ej20_10 ej20_11 hst hM
          refine k45 _ _ ?_
          refine wp_region_lit ?_
          refine Y wn rfl (ym (v := h39.v) (et rfl ej20_8)) ?_
          refine Y wn rfl (ym (v := .int .u64 x69) (et rfl ej20_11)) ?_
          refine Y wn rfl (ym (v := .int .i64 (wrc x3 32)) (et rfl ej20_9)) ?_
          obtain ⟨x76, gx76, hM⟩ := bs hM
          refine Y wn rfl (yshr (et rfl rfl) (et rfl rfl) gx76) ?_
          refine Y wn rfl (ycv (k' := .u32) (by kernel_rfl) (by kernel_rfl) (et rfl rfl)) ?_
          refine YH wn rfl (rLt (n := 1) (l := [wc .u32 x76]) hst SL_80 [.int .u32 (wc .u32 x76)] (bp1 (et rfl rfl)) rfl rfl (mks1 (cs := [.int .u32 (wc .u32 x76)]) rfl mkI mks0)) ?_
          clear hst
          intro h77 w hst
          obtain ⟨x79, gx79, hM⟩ := bs hM
          replace hst := hst.pk 2 [1, 0] rfl
          refine YH wn rfl (rAp hst SL_80 (et rfl rfl) (et rfl rfl) (rdO (mtR mhR)) gx79) ?_
          clear hst
          intro h78 w hst
          refine Y wn rfl (ya (v := h78.v) (et rfl rfl)) ?_
          refine wpList_nil ?_
          refine qb41 _ _ _ ?_
          refine k40 _ _ ?_
          refine wp_region_lit ?_
          refine Y wn rfl (ym (v := .int .i64 x41) (et rfl ej20_10)) ?_
          refine Y wn rfl (yadd (et rfl rfl) rfl) ?_
          refine Y wn rfl (ya (v := .int .i64 (wa .i64 x41 1)) (et rfl rfl)) ?_
          refine wpList_nil ?_
          obtain rfl := someI hM
          exact n15 _ _ _ rfl ⟨_, _, _, _, _, rfl, rfl, ej20_0, ej20_1, ej20_6, rfl, ej20_9, rfl, (hst.pk 2 [0] rfl)⟩
        rcases iteS hM with ⟨c80, hM⟩ | ⟨c80, hM⟩
        · refine condT (et rfl e71_75) c80 ?_
          refine wp_region_lit ?_
          refine Y wn rfl (ya (v := .bool true) rfl) ?_
          refine wpList_nil ?_
          exact j20 _ _ _ e71_0 e71_1 rfl e71_8 e71_9 e71_10 e71_11 hst hM
        · refine condF (et rfl e71_75) (bfalse c80) ?_
          refine wp_skip ?_
          exact j20 _ _ _ e71_0 e71_1 e71_6 e71_8 e71_9 e71_10 e71_11 hst hM
      rcases iteS hM15 with ⟨c81, hM15⟩ | ⟨c81, hM15⟩
      · refine condT (et rfl rfl) (decide_eq_true c81) ?_
        refine wp_region_lit ?_
        refine Y wn rfl (ym (v := .int .u64 (wc .u64 x67)) (et rfl rfl)) ?_
        refine Y wn rfl (ym (v := h2.v) (et rfl e15_0)) ?_
        refine Y wn rfl (ym (v := .int .i64 x41) (et rfl e15_10)) ?_
        refine Y wn rfl (yadd (et rfl rfl) rfl) ?_
        obtain ⟨x82, gx82, hM15⟩ := bs hM15
        refine Y wn rfl (yIa SL_80 (et rfl rfl) (et rfl rfl) hst (rdI q1) gx82) ?_
        refine Y wn rfl (yI O_127 (et rfl rfl) hst (rdI q1) gx82) ?_
        refine Y wn rfl (ycv (k' := .u64) (by kernel_rfl) (by kernel_rfl) (et rfl rfl)) ?_
        refine Y wn rfl (yshlc (et rfl rfl) rfl) ?_
        refine Y wn rfl (yor (et rfl rfl) (et rfl rfl)) ?_
        refine Y wn rfl (ya (v := .int .u64 (wor .u64 (wc .u64 x67) (wslc .u64 (wc .u64 x82) 32))) (et rfl rfl)) ?_
        refine wpList_nil ?_
        exact j16 _ _ _ e15_0 e15_1 e15_6 e15_8 e15_9 e15_10 rfl hst hM15
      · refine condF (et rfl rfl) (decide_eq_false c81) ?_
        refine wp_skip ?_
        exact j16 _ _ _ e15_0 e15_1 e15_6 e15_8 e15_9 e15_10 rfl hst hM15
    · refine condF (et rfl rfl) (decide_eq_false c66) ?_
      refine wp_exit ?_
      refine z38 _ _ _ rfl ?_
      obtain rfl := someI hM15
      refine zz15 _ _ _ _ rfl rfl ?_
      exact je15_0 _ _ _ _ _ e15_6 e15_8 hst (ho15 _ rfl)
  refine loopQ (fun s a w => ∃ (x8 : Bool) (x9 : Int) (f : Nat → Value), (x8, x9) = s ∧ a = fr 85 f ∧ f 0 = h2.v ∧ f 1 = .int .i64 x3 ∧ f 6 = .bool x8 ∧ f 7 = .int .i64 x9 ∧ St w0 (ros) (rs) w) go4 ⟨_, _, _, rfl, rfl, rfl, rfl, rfl, rfl, hst⟩ ?_
  clear hst
  rintro _ _ w r4_ ⟨x8, x9, f, rfl, rfl, e4_0, e4_1, e4_6, e4_7, hst⟩ hM4 ho4 Q100004 n4 zz4
  refine seqQ fun Q47 k47 z47 => ?_
  refine seqQ fun Q48 k48 z48 => ?_
  refine wp_region_lit ?_
  refine Y wn rfl (ym (v := .int .i64 x9) (et rfl e4_7)) ?_
  refine Y wn rfl (ym (v := .int .i64 x3) (et rfl e4_1)) ?_
  refine Y wn rfl (yquoc (et rfl rfl) rfl (by decide)) ?_
  refine Y wn rfl (ylss (et rfl rfl) (et rfl rfl)) ?_
  refine Y wn rfl (ym (v := .bool (decide (x9 < (wqc .i64 x3 32)))) (et rfl rfl)) ?_
  refine joinW 5 (fun f w => f 0 = h2.v ∧ f 1 = .int .i64 x3 ∧ f 6 = .bool x8 ∧ f 7 = .int .i64 x9 ∧ f 21 = .bool ((decide (x9 < (wqc .i64 x3 32))) && (decide (x9 < (x1.length : Int)))) ∧ St w0 (ros) (rs) w) (fun j21 => ?_) ?_
  · rcases Bool.eq_false_or_eq_true (decide (x9 < (wqc .i64 x3 32))) with c84 | c84
    · refine Y (wg rfl rfl rfl c84) rfl (ym (v := .int .i64 x9) (et rfl e4_7)) ?_
      refine Y (wg rfl rfl rfl c84) rfl (ym (v := h2.v) (et rfl e4_0)) ?_
      refine Y (wg rfl rfl rfl c84) rfl (yLen SL_80 (et rfl rfl) hst (rdI q1)) ?_
      refine Y (wg rfl rfl rfl c84) rfl (ylss (et rfl rfl) (et rfl rfl)) ?_
      refine Y wn rfl (ypt (v := .bool (decide (x9 < (x1.length : Int)))) (et rfl rfl) c84 (et rfl rfl)) ?_
      exact j21 _ _ ⟨e4_0, e4_1, e4_6, e4_7, (congrArg Value.bool (andT c84)), hst⟩
    · refine Gn (wx rfl rfl rfl c84) rfl ?_
      refine Gn (wx rfl rfl rfl c84) rfl ?_
      refine Gn (wx rfl rfl rfl c84) rfl ?_
      refine Gn (wx rfl rfl rfl c84) rfl ?_
      refine Y wn rfl (ypf (v := .bool false) (et rfl rfl) c84 rfl) ?_
      exact j21 _ _ ⟨e4_0, e4_1, e4_6, e4_7, (congrArg Value.bool (andF c84)), hst⟩
  clear hst
  rintro f w ⟨e83_0, e83_1, e83_6, e83_7, e83_21, hst⟩
  refine wpList_nil ?_
  refine k48 _ _ ?_
  rcases iteS hM4 with ⟨c85, hM4⟩ | ⟨c85, hM4⟩
  · refine condT (et rfl e83_21) c85 ?_
    refine wp_skip ?_
    refine k47 _ _ ?_
    refine seqQ fun Q49 k49 z49 => ?_
    refine blockQ fun Q50 qb50 => ?_
    refine wp_region_lit ?_
    refine Y wn rfl (ym (v := .bool x8) (et rfl e83_6)) ?_
    refine Y wn rfl (ym (v := .bool x8) (et rfl rfl)) ?_
    obtain ⟨r87, gr87, hM4⟩ := bs hM4
    refine joinW 6 (fun f w => f 0 = h2.v ∧ f 1 = .int .i64 x3 ∧ f 7 = .int .i64 x9 ∧ f 31 = .bool r87 ∧ St w0 (ros) (rs) w) (fun j22 => ?_) ?_
    · rcases iteS gr87 with ⟨c89, gr87⟩ | ⟨c89, gr87⟩
      · refine Gn (wx rfl rfl rfl c89) rfl ?_
        refine Gn (wx rfl rfl rfl c89) rfl ?_
        refine Gn (wx rfl rfl rfl c89) rfl ?_
        refine Gn (wx rfl rfl rfl c89) rfl ?_
        refine Gn (wx rfl rfl rfl c89) rfl ?_
        refine Y wn rfl (ypt (v := .bool true) (et rfl rfl) c89 rfl) ?_
        obtain rfl := someI gr87
        exact j22 _ _ ⟨e83_0, e83_1, e83_7, rfl, hst⟩
      · refine Y (wg rfl rfl rfl (bfalse c89)) rfl (ym (v := h2.v) (et rfl e83_0)) ?_
        refine Y (wg rfl rfl rfl (bfalse c89)) rfl (ym (v := .int .i64 x9) (et rfl e83_7)) ?_
        obtain ⟨x90, gx90, gr87⟩ := bs gr87
        refine Y (wg rfl rfl rfl (bfalse c89)) rfl (yIa SL_80 (et rfl rfl) (et rfl rfl) hst (rdI q1) gx90) ?_
        refine Y (wg rfl rfl rfl (bfalse c89)) rfl (yI O_127 (et rfl rfl) hst (rdI q1) gx90) ?_
        refine Y (wg rfl rfl rfl (bfalse c89)) rfl (yneq (et rfl rfl) rfl) ?_
        refine Y wn rfl (ypf (v := .bool (!(decide (x90 = 0)))) (et rfl rfl) (bfalse c89) (et rfl rfl)) ?_
        obtain rfl := someI gr87
        exact j22 _ _ ⟨e83_0, e83_1, e83_7, rfl, hst⟩
    clear hst
    rintro f w ⟨e88_0, e88_1, e88_7, e88_31, hst⟩
    refine Y wn rfl (ya (v := .bool r87) (et rfl e88_31)) ?_
    refine wpList_nil ?_
    refine qb50 _ _ _ ?_
    refine k49 _ _ ?_
    refine wp_region_lit ?_
    refine Y wn rfl (ym (v := .int .i64 x9) (et rfl e88_7)) ?_
    refine Y wn rfl (yadd (et rfl rfl) rfl) ?_
    refine Y wn rfl (ya (v := .int .i64 (wa .i64 x9 1)) (et rfl rfl)) ?_
    refine wpList_nil ?_
    obtain rfl := someI hM4
    exact n4 _ _ _ rfl ⟨_, _, _, rfl, rfl, e88_0, e88_1, rfl, rfl, hst⟩
  · refine condF (et rfl e83_21) (bfalse c85) ?_
    refine wp_exit ?_
    refine z47 _ _ _ rfl ?_
    obtain rfl := someI hM4
    refine zz4 _ _ _ _ rfl rfl ?_
    exact je4_0 _ _ _ e83_0 e83_1 e83_6 hst (ho4 _ rfl)

theorem sparseref01_Neg_ok {w0 : World} {ros : List Fact} {rs : List Res} {w : World} {x1 : Bool} {x2 : List Int} {h3 : Hdr} {out : Bool × (List Int)} (hM : sparseref01_Neg x1 x2 = some out) (q1 : imm (rI .u32) h3.v x2 ∈ ros) (hst : St w0 ros (rs) w) :
    Calls Tryz.prog 127 #[.agg #[.bool x1, h3.v]] w (fun e w => ∃ (h100002 : Hdr), e = .returned (.agg #[.bool out.1, h100002.v]) ∧ St w0 (ros) (row 127 (rI .u32) h100002.v out.2 :: rs) w) := by
  refine enterQ Tryz.func127 rfl Tryz.ntmps127 rfl fun Q hQ => ?_
  refine seqQ fun Q1 k1 z1 => ?_
  refine wp_region_lit ?_
  refine YB wn rfl (r_box (vals := [.bool x1, h3.v]) hst (et rfl rfl) rfl) ?_
  clear hst
  intro b4 w hst
  refine YB wn rfl (rAl hst ZT_82) ?_
  clear hst
  intro b5 w hst
  refine wpList_nil ?_
  refine k1 _ _ ?_
  refine seqQ fun Q2 k2 z2 => ?_
  refine wp_region_lit ?_
  refine Y wn rfl (yFb FL_82_0 (et rfl rfl)) ?_
  refine Y wn rfl (yLb (u := .bool x1) O_4 (et rfl rfl) hst (mtR mhR) rfl) ?_
  refine Y wn rfl (ynot (et rfl rfl)) ?_
  refine Y wn rfl (yFb FL_82_1 (et rfl rfl)) ?_
  refine Y wn rfl (yLb (u := h3.v) O_80 (et rfl rfl) hst (mtR mhR) rfl) ?_
  obtain ⟨r6, gr6, hM⟩ := bs hM
  refine Yc wn rfl (yCall FN_100 (a2 (et rfl rfl) (et rfl rfl))) (sparseref01_make1_ok (hM := gr6) (hst := hst) (q1 := q1)) ?_
  clear hst
  rintro _ w ⟨h7, rfl, hst⟩
  refine ⟨_, rfl, ?_⟩
  replace hst := hst.pk 2 [1, 0] rfl
  refine YT wn rfl (r_stbn (vals' := [.bool r6.1, h7.v]) (us := [.bool r6.1, h7.v]) hst ST_82 (et rfl rfl) (et rfl rfl) rfl rfl (one_of rfl) rfl) ?_
  clear hst
  intro w hst
  refine wpList_nil ?_
  refine k2 _ _ ?_
  refine wp_ret ?_
  obtain rfl := someI hM
  exact hQ _ _ _ (fin1r Tryz.results127 (rcs2 rfl rfl hst mhR ST_82 rfl) ⟨_, rfl, (hst.pk 3 [1] rfl)⟩)

theorem sparseref01_addMag_ok {w0 : World} {ros : List Fact} {rs : List Res} {w : World} {x1 : List Int} {x3 : List Int} {h2 : Hdr} {h4 : Hdr} {out : (List Int)} (hM : sparseref01_addMag x1 x3 = some out) (q1 : imm (rI .u32) h2.v x1 ∈ ros) (q2 : imm (rI .u32) h4.v x3 ∈ ros) (hst : St w0 ros (rs) w) :
    Calls Tryz.prog 124 #[h2.v, h4.v] w (fun e w => ∃ (h100001 : Hdr), e = .returned (h100001.v) ∧ St w0 (ros) (row 127 (rI .u32) h100001.v out :: rs) w) := by
  refine enterQ Tryz.func124 rfl Tryz.ntmps124 rfl fun Q hQ => ?_
  refine seqQ fun Q1 k1 z1 => ?_
  refine wp_region_lit ?_
  refine Y wn rfl (ya (v := hnil.v) rfl) ?_
  refine wpList_nil ?_
  refine k1 _ _ ?_
  refine seqQ fun Q2 k2 z2 => ?_
  refine wp_region_lit ?_
  refine Y wn rfl (ya (v := hnil.v) rfl) ?_
  refine wpList_nil ?_
  refine k2 _ _ ?_
  refine seqQ fun Q3 k3 z3 => ?_
  refine wp_region_lit ?_
  refine Y wn rfl (ya (v := .int .u64 0) rfl) ?_
  refine wpList_nil ?_
  refine k3 _ _ ?_
  refine seqQ fun Q4 k4 z4 => ?_
  refine seqQ fun Q5 k5 z5 => ?_
  refine wp_region_lit ?_
  refine Y wn rfl (ya (v := .int .i64 0) rfl) ?_
  refine wpList_nil ?_
  refine k5 _ _ ?_
  refine blockQ fun Q6 qb6 => ?_
  obtain ⟨o5, go5, hM⟩ := bs hM
  have je5_0 : ∀ (x38 : List Int) (x39 : Int) (h37 : Hdr) (f : Nat → Value) (w : World), f 5 = h37.v → f 6 = .int .u64 x39 → St w0 (ros) (row 127 (rI .u32) h37.v x38 :: rs) w → (x38, x39) = o5 → Q6 (.exit 0) (fr 51 f) w := by
    intro x38 x39 h37 f w eje5_0_5 eje5_0_6 hst ho
    subst ho
    refine qb6 _ _ _ ?_
    refine k4 _ _ ?_
    refine seqQ fun Q25 k25 z25 => ?_
    refine wp_region_lit ?_
    refine Y wn rfl (ym (v := h37.v) (et rfl eje5_0_5)) ?_
    refine Y wn rfl (ym (v := .int .u64 x39) (et rfl eje5_0_6)) ?_
    refine Y wn rfl (ycv (k' := .u32) (by kernel_rfl) (by kernel_rfl) (et rfl rfl)) ?_
    refine YH wn rfl (rLt (n := 1) (l := [wc .u32 x39]) hst SL_80 [.int .u32 (wc .u32 x39)] (bp1 (et rfl rfl)) rfl rfl (mks1 (cs := [.int .u32 (wc .u32 x39)]) rfl mkI mks0)) ?_
    clear hst
    intro h40 w hst
    obtain ⟨x42, gx42, hM⟩ := bs hM
    replace hst := hst.pk 2 [1, 0] rfl
    refine YH wn rfl (rAp hst SL_80 (et rfl rfl) (et rfl rfl) (rdO (mtR mhR)) gx42) ?_
    clear hst
    intro h41 w hst
    refine Y wn rfl (ya (v := h41.v) (et rfl rfl)) ?_
    refine wpList_nil ?_
    refine k25 _ _ ?_
    refine wp_ret ?_
    obtain rfl := someI hM
    exact hQ _ _ _ (fin1r Tryz.results124 ⟨rfl, rfl⟩ ⟨_, rfl, (hst.pk 2 [0] rfl)⟩)
  replace hst := hst.rowNh 127 (rI .u32)
  refine loopQ (fun s a w => ∃ (x18 : List Int) (x19 : Int) (x20 : Int) (f : Nat → Value) (h17 : Hdr), (x18, x19, x20) = s ∧ a = fr 51 f ∧ f 0 = h2.v ∧ f 1 = h4.v ∧ f 5 = h17.v ∧ f 6 = .int .u64 x19 ∧ f 7 = .int .i64 x20 ∧ St w0 (ros) (row 127 (rI .u32) h17.v x18 :: rs) w) go5 ⟨_, _, _, _, _, rfl, rfl, rfl, rfl, rfl, rfl, rfl, hst⟩ ?_
  clear hst
  rintro _ _ w r5_ ⟨x18, x19, x20, f, h17, rfl, rfl, e5_0, e5_1, e5_5, e5_6, e5_7, hst⟩ hM5 ho5 Q100005 n5 zz5
  refine seqQ fun Q26 k26 z26 => ?_
  refine seqQ fun Q27 k27 z27 => ?_
  refine wp_region_lit ?_
  refine Y wn rfl (ym (v := .int .i64 x20) (et rfl e5_7)) ?_
  refine Y wn rfl (ym (v := h2.v) (et rfl e5_0)) ?_
  refine Y wn rfl (yLen SL_80 (et rfl rfl) hst (rdI q1)) ?_
  refine Y wn rfl (ym (v := h4.v) (et rfl e5_1)) ?_
  refine Y wn rfl (yLen SL_80 (et rfl rfl) hst (rdI q2)) ?_
  refine Y wn rfl (ymax (et rfl rfl) (et rfl rfl)) ?_
  refine Y wn rfl (ylss (et rfl rfl) (et rfl rfl)) ?_
  refine wpList_nil ?_
  refine k27 _ _ ?_
  rcases iteS hM5 with ⟨c43, hM5⟩ | ⟨c43, hM5⟩
  · refine condT (et rfl rfl) (decide_eq_true c43) ?_
    refine wp_skip ?_
    refine k26 _ _ ?_
    refine seqQ fun Q28 k28 z28 => ?_
    refine blockQ fun Q29 qb29 => ?_
    refine seqQ fun Q30 k30 z30 => ?_
    refine seqQ fun Q31 k31 z31 => ?_
    refine wp_region_lit ?_
    refine Y wn rfl (ym (v := .int .i64 x20) (et rfl e5_7)) ?_
    refine Y wn rfl (ym (v := h2.v) (et rfl e5_0)) ?_
    refine Y wn rfl (yLen SL_80 (et rfl rfl) hst (rdI q1)) ?_
    refine Y wn rfl (ylss (et rfl rfl) (et rfl rfl)) ?_
    refine wpList_nil ?_
    refine k31 _ _ ?_
    have j6 : ∀ (x45 : Int) (f : Nat → Value) (w : World), f 0 = h2.v → f 1 = h4.v → f 5 = h17.v → f 6 = .int .u64 x45 → f 7 = .int .i64 x20 → St w0 (ros) (row 127 (rI .u32) h17.v x18 :: rs) w → sparseref01_addMag_j6 x20 x3 x18 x45 = some r5_ → Q30 .normal (fr 51 f) w := by
      intro x45 f w ej6_0 ej6_1 ej6_5 ej6_6 ej6_7 hst hM
      refine k30 _ _ ?_
      refine seqQ fun Q32 k32 z32 => ?_
      refine seqQ fun Q33 k33 z33 => ?_
      refine wp_region_lit ?_
      refine Y wn rfl (ym (v := .int .i64 x20) (et rfl ej6_7)) ?_
      refine Y wn rfl (ym (v := h4.v) (et rfl ej6_1)) ?_
      refine Y wn rfl (yLen SL_80 (et rfl rfl) hst (rdI q2)) ?_
      refine Y wn rfl (ylss (et rfl rfl) (et rfl rfl)) ?_
      refine wpList_nil ?_
      refine k33 _ _ ?_
      have j7 : ∀ (x47 : Int) (f : Nat → Value) (w : World), f 0 = h2.v → f 1 = h4.v → f 5 = h17.v → f 6 = .int .u64 x47 → f 7 = .int .i64 x20 → St w0 (ros) (row 127 (rI .u32) h17.v x18 :: rs) w → sparseref01_addMag_j7 x18 x20 x47 = some r5_ → Q32 .normal (fr 51 f) w := by
        intro x47 f w ej7_0 ej7_1 ej7_5 ej7_6 ej7_7 hst hM
        refine k32 _ _ ?_
        refine seqQ fun Q34 k34 z34 => ?_
        refine wp_region_lit ?_
        refine Y wn rfl (ym (v := h17.v) (et rfl ej7_5)) ?_
        refine Y wn rfl (ym (v := .int .u64 x47) (et rfl ej7_6)) ?_
        refine Y wn rfl (ycv (k' := .u32) (by kernel_rfl) (by kernel_rfl) (et rfl rfl)) ?_
        refine YH wn rfl (rLt (n := 1) (l := [wc .u32 x47]) hst SL_80 [.int .u32 (wc .u32 x47)] (bp1 (et rfl rfl)) rfl rfl (mks1 (cs := [.int .u32 (wc .u32 x47)]) rfl mkI mks0)) ?_
        clear hst
        intro h48 w hst
        obtain ⟨x50, gx50, hM⟩ := bs hM
        replace hst := hst.pk 2 [1, 0] rfl
        refine YH wn rfl (rAp hst SL_80 (et rfl rfl) (et rfl rfl) (rdO (mtR mhR)) gx50) ?_
        clear hst
        intro h49 w hst
        refine Y wn rfl (ya (v := h49.v) (et rfl rfl)) ?_
        refine wpList_nil ?_
        refine k34 _ _ ?_
        refine wp_region_lit ?_
        refine Y wn rfl (ym (v := .int .u64 x47) (et rfl ej7_6)) ?_
        refine Y wn rfl (yshrc (et rfl rfl) rfl) ?_
        refine Y wn rfl (ya (v := .int .u64 (wsrc .u64 x47 32)) (et rfl rfl)) ?_
        refine wpList_nil ?_
        refine qb29 _ _ _ ?_
        refine k28 _ _ ?_
        refine wp_region_lit ?_
        refine Y wn rfl (ym (v := .int .i64 x20) (et rfl ej7_7)) ?_
        refine Y wn rfl (yadd (et rfl rfl) rfl) ?_
        refine Y wn rfl (ya (v := .int .i64 (wa .i64 x20 1)) (et rfl rfl)) ?_
        refine wpList_nil ?_
        obtain rfl := someI hM
        exact n5 _ _ _ rfl ⟨_, _, _, _, _, rfl, rfl, ej7_0, ej7_1, rfl, rfl, rfl, (hst.pk 2 [0] rfl)⟩
      rcases iteS hM with ⟨c51, hM⟩ | ⟨c51, hM⟩
      · refine condT (et rfl rfl) (decide_eq_true c51) ?_
        refine wp_region_lit ?_
        refine Y wn rfl (ym (v := .int .u64 x45) (et rfl ej6_6)) ?_
        refine Y wn rfl (ym (v := h4.v) (et rfl ej6_1)) ?_
        refine Y wn rfl (ym (v := .int .i64 x20) (et rfl ej6_7)) ?_
        obtain ⟨x52, gx52, hM⟩ := bs hM
        refine Y wn rfl (yIa SL_80 (et rfl rfl) (et rfl rfl) hst (rdI q2) gx52) ?_
        refine Y wn rfl (yI O_127 (et rfl rfl) hst (rdI q2) gx52) ?_
        refine Y wn rfl (ycv (k' := .u64) (by kernel_rfl) (by kernel_rfl) (et rfl rfl)) ?_
        refine Y wn rfl (yadd (et rfl rfl) (et rfl rfl)) ?_
        refine Y wn rfl (ya (v := .int .u64 (wa .u64 x45 (wc .u64 x52))) (et rfl rfl)) ?_
        refine wpList_nil ?_
        exact j7 _ _ _ ej6_0 ej6_1 ej6_5 rfl ej6_7 hst hM
      · refine condF (et rfl rfl) (decide_eq_false c51) ?_
        refine wp_skip ?_
        exact j7 _ _ _ ej6_0 ej6_1 ej6_5 ej6_6 ej6_7 hst hM
    rcases iteS hM5 with ⟨c53, hM5⟩ | ⟨c53, hM5⟩
    · refine condT (et rfl rfl) (decide_eq_true c53) ?_
      refine wp_region_lit ?_
      refine Y wn rfl (ym (v := .int .u64 x19) (et rfl e5_6)) ?_
      refine Y wn rfl (ym (v := h2.v) (et rfl e5_0)) ?_
      refine Y wn rfl (ym (v := .int .i64 x20) (et rfl e5_7)) ?_
      obtain ⟨x54, gx54, hM5⟩ := bs hM5
      refine Y wn rfl (yIa SL_80 (et rfl rfl) (et rfl rfl) hst (rdI q1) gx54) ?_
      refine Y wn rfl (yI O_127 (et rfl rfl) hst (rdI q1) gx54) ?_
      refine Y wn rfl (ycv (k' := .u64) (by kernel_rfl) (by kernel_rfl) (et rfl rfl)) ?_
      refine Y wn rfl (yadd (et rfl rfl) (et rfl rfl)) ?_
      refine Y wn rfl (ya (v := .int .u64 (wa .u64 x19 (wc .u64 x54))) (et rfl rfl)) ?_
      refine wpList_nil ?_
      exact j6 _ _ _ e5_0 e5_1 e5_5 rfl e5_7 hst hM5
    · refine condF (et rfl rfl) (decide_eq_false c53) ?_
      refine wp_skip ?_
      exact j6 _ _ _ e5_0 e5_1 e5_5 e5_6 e5_7 hst hM5
  · refine condF (et rfl rfl) (decide_eq_false c43) ?_
    refine wp_exit ?_
    refine z26 _ _ _ rfl ?_
    obtain rfl := someI hM5
    refine zz5 _ _ _ _ rfl rfl ?_
    exact je5_0 _ _ _ _ _ e5_5 e5_6 hst (ho5 _ rfl)

theorem sparseref01_cmpMag_ok {w0 : World} {ros : List Fact} {rs : List Res} {w : World} {x1 : List Int} {x3 : List Int} {h2 : Hdr} {h4 : Hdr} {out : Int} (hM : sparseref01_cmpMag x1 x3 = some out) (q1 : imm (rI .u32) h2.v x1 ∈ ros) (q2 : imm (rI .u32) h4.v x3 ∈ ros) (hst : St w0 ros (rs) w) :
    Calls Tryz.prog 125 #[h2.v, h4.v] w (fun e w => e = .returned (.int .i64 out) ∧ St w0 (ros) (rs) w) := by
  refine enterQ Tryz.func125 rfl Tryz.ntmps125 rfl fun Q hQ => ?_
  refine seqQ fun Q1 k1 z1 => ?_
  refine wp_region_lit ?_
  refine Y wn rfl (ya (v := .int .i64 0) rfl) ?_
  refine wpList_nil ?_
  refine k1 _ _ ?_
  refine seqQ fun Q2 k2 z2 => ?_
  refine seqQ fun Q3 k3 z3 => ?_
  refine wp_region_lit ?_
  refine Y wn rfl (ym (v := h2.v) (et rfl rfl)) ?_
  refine Y wn rfl (yLen SL_80 (et rfl rfl) hst (rdI q1)) ?_
  refine Y wn rfl (ym (v := h4.v) (et rfl rfl)) ?_
  refine Y wn rfl (yLen SL_80 (et rfl rfl) hst (rdI q2)) ?_
  refine Y wn rfl (yneq (et rfl rfl) (et rfl rfl)) ?_
  refine wpList_nil ?_
  refine k3 _ _ ?_
  rcases iteS hM with ⟨c5, hM⟩ | ⟨c5, hM⟩
  · refine condF (et rfl rfl) (nF (decide_eq_true c5)) ?_
    refine wp_skip ?_
    refine k2 _ _ ?_
    refine seqQ fun Q4 k4 z4 => ?_
    refine seqQ fun Q5 k5 z5 => ?_
    refine wp_region_lit ?_
    refine Y wn rfl (ym (v := h2.v) (et rfl rfl)) ?_
    refine Y wn rfl (yLen SL_80 (et rfl rfl) hst (rdI q1)) ?_
    refine Y wn rfl (ysub (et rfl rfl) rfl) ?_
    refine Y wn rfl (ya (v := .int .i64 (ws .i64 (x1.length : Int) 1)) (et rfl rfl)) ?_
    refine wpList_nil ?_
    refine k5 _ _ ?_
    refine blockQ fun Q6 qb6 => ?_
    obtain ⟨o1, go1, hM⟩ := bs hM
    have je1_0 : ∀ (f : Nat → Value) (w : World), St w0 (ros) (rs) w → .inl () = o1 → Q6 (.exit 0) (fr 41 f) w := by
      intro f w hst ho
      subst ho
      refine qb6 _ _ _ ?_
      refine k4 _ _ ?_
      refine seqQ fun Q25 k25 z25 => ?_
      refine wp_region_lit ?_
      refine Y wn rfl (ya (v := .int .i64 0) rfl) ?_
      refine wpList_nil ?_
      refine k25 _ _ ?_
      refine wp_ret ?_
      obtain rfl := someI hM
      exact hQ _ _ _ (fin1r Tryz.results125 ⟨rfl, rfl⟩ ⟨rfl, hst⟩)
    have je1_1 : ∀ (x22 : Int) (f : Nat → Value) (w : World), f 4 = .int .i64 x22 → St w0 (ros) (rs) w → .inr x22 = o1 → Q6 .ret (fr 41 f) w := by
      intro x22 f w eje1_1_4 hst ho
      subst ho
      refine qb6 _ _ _ ?_
      refine z4 _ _ _ rfl ?_
      obtain rfl := someI hM
      exact hQ _ _ _ (fin1r Tryz.results125 ⟨rfl, eje1_1_4⟩ ⟨rfl, hst⟩)
    refine loopQ (fun s a w => ∃ (x13 : Int) (f : Nat → Value), x13 = s ∧ a = fr 41 f ∧ f 0 = h2.v ∧ f 1 = h4.v ∧ f 5 = .int .i64 x13 ∧ St w0 (ros) (rs) w) go1 ⟨_, _, rfl, rfl, rfl, rfl, rfl, hst⟩ ?_
    clear hst
    rintro _ _ w r1_ ⟨x13, f, rfl, rfl, e1_0, e1_1, e1_5, hst⟩ hM1 ho1 Q100001 n1 zz1
    refine seqQ fun Q26 k26 z26 => ?_
    refine seqQ fun Q27 k27 z27 => ?_
    refine wp_region_lit ?_
    refine Y wn rfl (ym (v := .int .i64 x13) (et rfl e1_5)) ?_
    refine Y wn rfl (ygeq (et rfl rfl) rfl) ?_
    refine wpList_nil ?_
    refine k27 _ _ ?_
    rcases iteS hM1 with ⟨c23, hM1⟩ | ⟨c23, hM1⟩
    · refine condT (et rfl rfl) (decide_eq_true c23) ?_
      refine wp_skip ?_
      refine k26 _ _ ?_
      refine seqQ fun Q28 k28 z28 => ?_
      refine blockQ fun Q29 qb29 => ?_
      refine seqQ fun Q30 k30 z30 => ?_
      obtain ⟨x24, gx24, hM1⟩ := bs hM1
      obtain ⟨x25, gx25, hM1⟩ := bs hM1
      refine wp_drawR [0, 0, 3, 7, 0, 0, 48, 112, 255] [] 0 folM (by kernel_rfl) (by kernel_rfl) (by kernel_rfl) ?_
      replace hst := hst.drew
      refine DRz (l1 := [0, 1, 2, 3, 4, 5, 6, 7, 8]) (l2 := []) (by kernel_rfl) (by kernel_rfl) ?_
      refine Ry rfl rfl wn (ym (v := h2.v) (et rfl e1_0)) ?_
      refine Ry rfl rfl wn (ym (v := .int .i64 x13) (et rfl e1_5)) ?_
      refine Ry rfl rfl wn (yIa SL_80 (et rfl rfl) (et rfl rfl) hst (rdI q1) gx24) ?_
      refine Ry rfl rfl wn (yI O_127 (et rfl rfl) hst (rdI q1) gx24) ?_
      refine Ry rfl rfl wn (ym (v := h4.v) (et rfl e1_1)) ?_
      refine Ry rfl rfl wn (ym (v := .int .i64 x13) (et rfl e1_5)) ?_
      refine Ry rfl rfl wn (yIa SL_80 (et rfl rfl) (et rfl rfl) hst (rdI q2) gx25) ?_
      refine Ry rfl rfl wn (yI O_127 (et rfl rfl) hst (rdI q2) gx25) ?_
      refine Ry rfl rfl wn (yneq (et rfl rfl) (et rfl rfl)) ?_
      refine Rn QSn ?_
      refine k30 _ _ ?_
      rcases iteS hM1 with ⟨c26, hM1⟩ | ⟨c26, hM1⟩
      · refine condF (et rfl rfl) (nF (decide_eq_true c26)) ?_
        refine wp_skip ?_
        refine qb29 _ _ _ ?_
        refine k28 _ _ ?_
        refine wp_region_lit ?_
        refine Y wn rfl (ym (v := .int .i64 x13) (et rfl e1_5)) ?_
        refine Y wn rfl (ysub (et rfl rfl) rfl) ?_
        refine Y wn rfl (ya (v := .int .i64 (ws .i64 x13 1)) (et rfl rfl)) ?_
        refine wpList_nil ?_
        obtain rfl := someI hM1
        exact n1 _ _ _ rfl ⟨_, _, rfl, rfl, e1_0, e1_1, rfl, hst⟩
      · refine condT (et rfl rfl) (nT (decide_eq_false c26)) ?_
        refine seqQ fun Q31 k31 z31 => ?_
        refine seqQ fun Q32 k32 z32 => ?_
        obtain ⟨x27, gx27, hM1⟩ := bs hM1
        obtain ⟨x28, gx28, hM1⟩ := bs hM1
        refine wp_drawR [0, 0, 3, 7, 0, 0, 48, 112, 255] [] 0 folM (by kernel_rfl) (by kernel_rfl) (by kernel_rfl) ?_
        replace hst := hst.drew
        refine DRz (l1 := [0, 1, 2, 3, 4, 5, 6, 7, 8]) (l2 := []) (by kernel_rfl) (by kernel_rfl) ?_
        refine Ry rfl rfl wn (ym (v := h2.v) (et rfl e1_0)) ?_
        refine Ry rfl rfl wn (ym (v := .int .i64 x13) (et rfl e1_5)) ?_
        refine Ry rfl rfl wn (yIa SL_80 (et rfl rfl) (et rfl rfl) hst (rdI q1) gx27) ?_
        refine Ry rfl rfl wn (yI O_127 (et rfl rfl) hst (rdI q1) gx27) ?_
        refine Ry rfl rfl wn (ym (v := h4.v) (et rfl e1_1)) ?_
        refine Ry rfl rfl wn (ym (v := .int .i64 x13) (et rfl e1_5)) ?_
        refine Ry rfl rfl wn (yIa SL_80 (et rfl rfl) (et rfl rfl) hst (rdI q2) gx28) ?_
        refine Ry rfl rfl wn (yI O_127 (et rfl rfl) hst (rdI q2) gx28) ?_
        refine Ry rfl rfl wn (ylss (et rfl rfl) (et rfl rfl)) ?_
        refine Rn QSn ?_
        refine k32 _ _ ?_
        rcases iteS hM1 with ⟨c29, hM1⟩ | ⟨c29, hM1⟩
        · refine condT (et rfl rfl) (decide_eq_true c29) ?_
          refine seqQ fun Q33 k33 z33 => ?_
          refine wp_region_lit ?_
          refine Y wn rfl (ya (v := .int .i64 (-1)) rfl) ?_
          refine wpList_nil ?_
          refine k33 _ _ ?_
          refine wp_ret ?_
          refine z31 _ _ _ rfl ?_
          refine qb29 _ _ _ ?_
          refine z28 _ _ _ rfl ?_
          obtain rfl := someI hM1
          refine zz1 _ _ _ _ rfl rfl ?_
          exact je1_1 _ _ _ rfl hst (ho1 _ rfl)
        · refine condF (et rfl rfl) (decide_eq_false c29) ?_
          refine wp_skip ?_
          refine k31 _ _ ?_
          refine seqQ fun Q34 k34 z34 => ?_
          refine wp_region_lit ?_
          refine Y wn rfl (ya (v := .int .i64 1) rfl) ?_
          refine wpList_nil ?_
          refine k34 _ _ ?_
          refine wp_ret ?_
          refine qb29 _ _ _ ?_
          refine z28 _ _ _ rfl ?_
          obtain rfl := someI hM1
          refine zz1 _ _ _ _ rfl rfl ?_
          exact je1_1 _ _ _ rfl hst (ho1 _ rfl)
    · refine condF (et rfl rfl) (decide_eq_false c23) ?_
      refine wp_exit ?_
      refine z26 _ _ _ rfl ?_
      obtain rfl := someI hM1
      refine zz1 _ _ _ _ rfl rfl ?_
      exact je1_0 _ _ hst (ho1 _ rfl)
  · refine condT (et rfl rfl) (nT (decide_eq_false c5)) ?_
    refine seqQ fun Q35 k35 z35 => ?_
    refine seqQ fun Q36 k36 z36 => ?_
    refine wp_region_lit ?_
    refine Y wn rfl (ym (v := h2.v) (et rfl rfl)) ?_
    refine Y wn rfl (yLen SL_80 (et rfl rfl) hst (rdI q1)) ?_
    refine Y wn rfl (ym (v := h4.v) (et rfl rfl)) ?_
    refine Y wn rfl (yLen SL_80 (et rfl rfl) hst (rdI q2)) ?_
    refine Y wn rfl (ylss (et rfl rfl) (et rfl rfl)) ?_
    refine wpList_nil ?_
    refine k36 _ _ ?_
    rcases iteS hM with ⟨c30, hM⟩ | ⟨c30, hM⟩
    · refine condT (et rfl rfl) (decide_eq_true c30) ?_
      refine seqQ fun Q37 k37 z37 => ?_
      refine wp_region_lit ?_
      refine Y wn rfl (ya (v := .int .i64 (-1)) rfl) ?_
      refine wpList_nil ?_
      refine k37 _ _ ?_
      refine wp_ret ?_
      refine z35 _ _ _ rfl ?_
      refine z2 _ _ _ rfl ?_
      obtain rfl := someI hM
      exact hQ _ _ _ (fin1r Tryz.results125 ⟨rfl, rfl⟩ ⟨rfl, hst⟩)
    · refine condF (et rfl rfl) (decide_eq_false c30) ?_
      refine wp_skip ?_
      refine k35 _ _ ?_
      refine seqQ fun Q38 k38 z38 => ?_
      refine wp_region_lit ?_
      refine Y wn rfl (ya (v := .int .i64 1) rfl) ?_
      refine wpList_nil ?_
      refine k38 _ _ ?_
      refine wp_ret ?_
      refine z2 _ _ _ rfl ?_
      obtain rfl := someI hM
      exact hQ _ _ _ (fin1r Tryz.results125 ⟨rfl, rfl⟩ ⟨rfl, hst⟩)

theorem sparseref01_subMag_ok {w0 : World} {ros : List Fact} {rs : List Res} {w : World} {x1 : List Int} {x3 : List Int} {h2 : Hdr} {h4 : Hdr} {out : (List Int)} (hM : sparseref01_subMag x1 x3 = some out) (q1 : imm (rI .u32) h2.v x1 ∈ ros) (q2 : imm (rI .u32) h4.v x3 ∈ ros) (hst : St w0 ros (rs) w) :
    Calls Tryz.prog 126 #[h2.v, h4.v] w (fun e w => ∃ (h100001 : Hdr), e = .returned (h100001.v) ∧ St w0 (ros) (row 127 (rI .u32) h100001.v out :: rs) w) := by
  refine enterQ Tryz.func126 rfl Tryz.ntmps126 rfl fun Q hQ => ?_
  refine seqQ fun Q1 k1 z1 => ?_
  refine wp_region_lit ?_
  refine Y wn rfl (ya (v := hnil.v) rfl) ?_
  refine wpList_nil ?_
  refine k1 _ _ ?_
  refine seqQ fun Q2 k2 z2 => ?_
  refine wp_region_lit ?_
  refine Y wn rfl (ya (v := hnil.v) rfl) ?_
  refine wpList_nil ?_
  refine k2 _ _ ?_
  refine seqQ fun Q3 k3 z3 => ?_
  refine wp_region_lit ?_
  refine Y wn rfl (ya (v := .int .u64 0) rfl) ?_
  refine wpList_nil ?_
  refine k3 _ _ ?_
  refine seqQ fun Q4 k4 z4 => ?_
  refine seqQ fun Q5 k5 z5 => ?_
  refine wp_region_lit ?_
  refine Y wn rfl (ya (v := .int .i64 0) rfl) ?_
  refine wpList_nil ?_
  refine k5 _ _ ?_
  refine blockQ fun Q6 qb6 => ?_
  obtain ⟨o3, go3, hM⟩ := bs hM
  have je3_0 : ∀ (x32 : List Int) (h31 : Hdr) (f : Nat → Value) (w : World), f 5 = h31.v → St w0 (ros) (row 127 (rI .u32) h31.v x32 :: rs) w → x32 = o3 → Q6 (.exit 0) (fr 41 f) w := by
    intro x32 h31 f w eje3_0_5 hst ho
    subst ho
    refine qb6 _ _ _ ?_
    refine k4 _ _ ?_
    refine seqQ fun Q23 k23 z23 => ?_
    refine wp_region_lit ?_
    refine Y wn rfl (ym (v := h31.v) (et rfl eje3_0_5)) ?_
    refine Y wn rfl (ya (v := h31.v) (et rfl rfl)) ?_
    refine wpList_nil ?_
    refine k23 _ _ ?_
    refine wp_ret ?_
    obtain rfl := someI hM
    exact hQ _ _ _ (fin1r Tryz.results126 ⟨rfl, rfl⟩ ⟨_, rfl, hst⟩)
  replace hst := hst.rowNh 127 (rI .u32)
  refine loopQ (fun s a w => ∃ (x15 : List Int) (x16 : Int) (x17 : Int) (f : Nat → Value) (h14 : Hdr), (x15, x16, x17) = s ∧ a = fr 41 f ∧ f 0 = h2.v ∧ f 1 = h4.v ∧ f 5 = h14.v ∧ f 6 = .int .u64 x16 ∧ f 7 = .int .i64 x17 ∧ St w0 (ros) (row 127 (rI .u32) h14.v x15 :: rs) w) go3 ⟨_, _, _, _, _, rfl, rfl, rfl, rfl, rfl, rfl, rfl, hst⟩ ?_
  clear hst
  rintro _ _ w r3_ ⟨x15, x16, x17, f, h14, rfl, rfl, e3_0, e3_1, e3_5, e3_6, e3_7, hst⟩ hM3 ho3 Q100003 n3 zz3
  refine seqQ fun Q24 k24 z24 => ?_
  refine seqQ fun Q25 k25 z25 => ?_
  refine wp_region_lit ?_
  refine Y wn rfl (ym (v := .int .i64 x17) (et rfl e3_7)) ?_
  refine Y wn rfl (ym (v := h2.v) (et rfl e3_0)) ?_
  refine Y wn rfl (yLen SL_80 (et rfl rfl) hst (rdI q1)) ?_
  refine Y wn rfl (ylss (et rfl rfl) (et rfl rfl)) ?_
  refine wpList_nil ?_
  refine k25 _ _ ?_
  rcases iteS hM3 with ⟨c33, hM3⟩ | ⟨c33, hM3⟩
  · refine condT (et rfl rfl) (decide_eq_true c33) ?_
    refine wp_skip ?_
    refine k24 _ _ ?_
    refine seqQ fun Q26 k26 z26 => ?_
    refine blockQ fun Q27 qb27 => ?_
    refine seqQ fun Q28 k28 z28 => ?_
    refine wp_region_lit ?_
    refine Y wn rfl (ym (v := h2.v) (et rfl e3_0)) ?_
    refine Y wn rfl (ym (v := .int .i64 x17) (et rfl e3_7)) ?_
    obtain ⟨x34, gx34, hM3⟩ := bs hM3
    refine Y wn rfl (yIa SL_80 (et rfl rfl) (et rfl rfl) hst (rdI q1) gx34) ?_
    refine Y wn rfl (yI O_127 (et rfl rfl) hst (rdI q1) gx34) ?_
    refine Y wn rfl (ycv (k' := .u64) (by kernel_rfl) (by kernel_rfl) (et rfl rfl)) ?_
    refine Y wn rfl (ym (v := .int .u64 x16) (et rfl e3_6)) ?_
    refine Y wn rfl (ysub (et rfl rfl) (et rfl rfl)) ?_
    refine Y wn rfl (ya (v := .int .u64 (ws .u64 (wc .u64 x34) x16)) (et rfl rfl)) ?_
    refine wpList_nil ?_
    refine k28 _ _ ?_
    refine seqQ fun Q29 k29 z29 => ?_
    refine seqQ fun Q30 k30 z30 => ?_
    refine wp_region_lit ?_
    refine Y wn rfl (ym (v := .int .i64 x17) (et rfl e3_7)) ?_
    refine Y wn rfl (ym (v := h4.v) (et rfl e3_1)) ?_
    refine Y wn rfl (yLen SL_80 (et rfl rfl) hst (rdI q2)) ?_
    refine Y wn rfl (ylss (et rfl rfl) (et rfl rfl)) ?_
    refine wpList_nil ?_
    refine k30 _ _ ?_
    have j4 : ∀ (x36 : Int) (f : Nat → Value) (w : World), f 0 = h2.v → f 1 = h4.v → f 5 = h14.v → f 7 = .int .i64 x17 → f 8 = .int .u64 x36 → St w0 (ros) (row 127 (rI .u32) h14.v x15 :: rs) w → sparseref01_subMag_j4 x15 x17 x36 = some r3_ → Q29 .normal (fr 41 f) w := by
      intro x36 f w ej4_0 ej4_1 ej4_5 ej4_7 ej4_8 hst hM
      refine k29 _ _ ?_
      refine seqQ fun Q31 k31 z31 => ?_
      refine wp_region_lit ?_
      refine Y wn rfl (ym (v := h14.v) (et rfl ej4_5)) ?_
      refine Y wn rfl (ym (v := .int .u64 x36) (et rfl ej4_8)) ?_
      refine Y wn rfl (ycv (k' := .u32) (by kernel_rfl) (by kernel_rfl) (et rfl rfl)) ?_
      refine YH wn rfl (rLt (n := 1) (l := [wc .u32 x36]) hst SL_80 [.int .u32 (wc .u32 x36)] (bp1 (et rfl rfl)) rfl rfl (mks1 (cs := [.int .u32 (wc .u32 x36)]) rfl mkI mks0)) ?_
      clear hst
      intro h37 w hst
      obtain ⟨x39, gx39, hM⟩ := bs hM
      replace hst := hst.pk 2 [1, 0] rfl
      refine YH wn rfl (rAp hst SL_80 (et rfl rfl) (et rfl rfl) (rdO (mtR mhR)) gx39) ?_
      clear hst
      intro h38 w hst
      refine Y wn rfl (ya (v := h38.v) (et rfl rfl)) ?_
      refine wpList_nil ?_
      refine k31 _ _ ?_
      refine wp_region_lit ?_
      refine Y wn rfl (ym (v := .int .u64 x36) (et rfl ej4_8)) ?_
      refine Y wn rfl (yshrc (et rfl rfl) rfl) ?_
      refine Y wn rfl (ya (v := .int .u64 (wsrc .u64 x36 63)) (et rfl rfl)) ?_
      refine wpList_nil ?_
      refine qb27 _ _ _ ?_
      refine k26 _ _ ?_
      refine wp_region_lit ?_
      refine Y wn rfl (ym (v := .int .i64 x17) (et rfl ej4_7)) ?_
      refine Y wn rfl (yadd (et rfl rfl) rfl) ?_
      refine Y wn rfl (ya (v := .int .i64 (wa .i64 x17 1)) (et rfl rfl)) ?_
      refine wpList_nil ?_
      obtain rfl := someI hM
      exact n3 _ _ _ rfl ⟨_, _, _, _, _, rfl, rfl, ej4_0, ej4_1, rfl, rfl, rfl, (hst.pk 2 [0] rfl)⟩
    rcases iteS hM3 with ⟨c40, hM3⟩ | ⟨c40, hM3⟩
    · refine condT (et rfl rfl) (decide_eq_true c40) ?_
      refine wp_region_lit ?_
      refine Y wn rfl (ym (v := .int .u64 (ws .u64 (wc .u64 x34) x16)) (et rfl rfl)) ?_
      refine Y wn rfl (ym (v := h4.v) (et rfl e3_1)) ?_
      refine Y wn rfl (ym (v := .int .i64 x17) (et rfl e3_7)) ?_
      obtain ⟨x41, gx41, hM3⟩ := bs hM3
      refine Y wn rfl (yIa SL_80 (et rfl rfl) (et rfl rfl) hst (rdI q2) gx41) ?_
      refine Y wn rfl (yI O_127 (et rfl rfl) hst (rdI q2) gx41) ?_
      refine Y wn rfl (ycv (k' := .u64) (by kernel_rfl) (by kernel_rfl) (et rfl rfl)) ?_
      refine Y wn rfl (ysub (et rfl rfl) (et rfl rfl)) ?_
      refine Y wn rfl (ya (v := .int .u64 (ws .u64 (ws .u64 (wc .u64 x34) x16) (wc .u64 x41))) (et rfl rfl)) ?_
      refine wpList_nil ?_
      exact j4 _ _ _ e3_0 e3_1 e3_5 e3_7 rfl hst hM3
    · refine condF (et rfl rfl) (decide_eq_false c40) ?_
      refine wp_skip ?_
      exact j4 _ _ _ e3_0 e3_1 e3_5 e3_7 rfl hst hM3
  · refine condF (et rfl rfl) (decide_eq_false c33) ?_
    refine wp_exit ?_
    refine z24 _ _ _ rfl ?_
    obtain rfl := someI hM3
    refine zz3 _ _ _ _ rfl rfl ?_
    exact je3_0 _ _ _ _ e3_5 hst (ho3 _ rfl)

theorem sparseref01_Add_ok {w0 : World} {ros : List Fact} {rs : List Res} {w : World} {x1 : Bool} {x2 : List Int} {x4 : Bool} {x5 : List Int} {h3 : Hdr} {h6 : Hdr} {out : Bool × (List Int)} (hM : sparseref01_Add x1 x2 x4 x5 = some out) (q1 : imm (rI .u32) h3.v x2 ∈ ros) (q2 : imm (rI .u32) h6.v x5 ∈ ros) (hst : St w0 ros (rs) w) :
    Calls Tryz.prog 115 #[.agg #[.bool x1, h3.v], .agg #[.bool x4, h6.v]] w (fun e w => ∃ (h100002 : Hdr), e = .returned (.agg #[.bool out.1, h100002.v]) ∧ St w0 (ros) (row 127 (rI .u32) h100002.v out.2 :: rs) w) := by
  refine enterQ Tryz.func115 rfl Tryz.ntmps115 rfl fun Q hQ => ?_
  refine seqQ fun Q1 k1 z1 => ?_
  refine wp_region_lit ?_
  refine YB wn rfl (r_box (vals := [.bool x1, h3.v]) hst (et rfl rfl) rfl) ?_
  clear hst
  intro b7 w hst
  refine YB wn rfl (r_box (vals := [.bool x4, h6.v]) hst (et rfl rfl) rfl) ?_
  clear hst
  intro b8 w hst
  refine YB wn rfl (rAl hst ZT_82) ?_
  clear hst
  intro b9 w hst
  refine wpList_nil ?_
  refine k1 _ _ ?_
  refine seqQ fun Q2 k2 z2 => ?_
  obtain ⟨r10, gr10, hM⟩ := bs hM
  obtain ⟨r12, gr12, hM⟩ := bs hM
  refine wp_drawR [0, 1, 3, 0, 8, 31, 63, 127] [2, 5, 6, 7] 4 folM (by kernel_rfl) (by kernel_rfl) (by kernel_rfl) ?_
  replace hst := hst.drew
  refine DRn (l1 := [0, 1, 3, 4]) (l2 := []) (lc := [2]) (by kernel_rfl) (by kernel_rfl) (by kernel_rfl) ?_
  refine Ry rfl rfl wn (yFb FL_82_1 (et rfl rfl)) ?_
  refine Ry rfl rfl wn (yLb (u := h3.v) O_80 (et rfl rfl) hst (mtR (mtR mhR)) rfl) ?_
  refine Ry rfl rfl wn (yFb FL_82_1 (et rfl rfl)) ?_
  refine Ry rfl rfl wn (yLb (u := h6.v) O_80 (et rfl rfl) hst (mtR mhR) rfl) ?_
  refine Rn QSn ?_
  refine Lc rfl ?_ LAn
  refine Lk wn (yCall FN_112 (a1 (et rfl rfl))) (sparseref01_trim_ok (hM := gr10) (hst := hst) (q1 := q1)) ?_
  clear hst
  rintro _ w ⟨h11, rfl, hst⟩
  refine ⟨_, rfl, ?_⟩
  refine DRn (l1 := []) (l2 := [3, 4]) (lc := [5]) (by kernel_rfl) (by kernel_rfl) (by kernel_rfl) ?_
  refine Rn (Sy rfl rfl wn (yFb FL_82_1 (et rfl rfl)) rfl (Sy rfl rfl wn (yLb (u := h6.v) O_80 (et rfl rfl) hst (mtR (mtR mhR)) rfl) rfl QSn)) ?_
  refine Lc rfl ?_ LAn
  refine Lk wn (yCall FN_112 (a1 (et rfl rfl))) (sparseref01_trim_ok (hM := gr12) (hst := hst) (q1 := q2)) ?_
  clear hst
  rintro _ w ⟨h13, rfl, hst⟩
  refine ⟨_, rfl, ?_⟩
  refine DRn (l1 := []) (l2 := []) (lc := [6]) (by kernel_rfl) (by kernel_rfl) (by kernel_rfl) ?_
  refine Rn QSn ?_
  refine Lc rfl ?_ LAn
  refine Ly wn (ya (v := h11.v) (et rfl rfl)) ?_
  refine DRn (l1 := []) (l2 := []) (lc := [7]) (by kernel_rfl) (by kernel_rfl) (by kernel_rfl) ?_
  refine Rn QSn ?_
  refine Lc rfl ?_ LAn
  refine Ly wn (ya (v := h13.v) (et rfl rfl)) ?_
  refine DRz (l1 := []) (l2 := []) (by kernel_rfl) (by kernel_rfl) ?_
  refine Rn QSn ?_
  refine k2 _ _ ?_
  refine seqQ fun Q3 k3 z3 => ?_
  refine seqQ fun Q4 k4 z4 => ?_
  refine wp_region_lit ?_
  refine Y wn rfl (yFb FL_82_0 (et rfl rfl)) ?_
  refine Y wn rfl (yLb (u := .bool x1) O_4 (et rfl rfl) hst (mtR (mtR (mtR (mtR mhR)))) rfl) ?_
  refine Y wn rfl (yFb FL_82_0 (et rfl rfl)) ?_
  refine Y wn rfl (yLb (u := .bool x4) O_4 (et rfl rfl) hst (mtR (mtR (mtR mhR))) rfl) ?_
  refine Y wn rfl (yeqb (by kernel_rfl) (et rfl rfl) (et rfl rfl)) ?_
  refine wpList_nil ?_
  refine k4 _ _ ?_
  rcases iteS hM with ⟨c14, hM⟩ | ⟨c14, hM⟩
  · refine condT (et rfl rfl) c14 ?_
    refine seqQ fun Q5 k5 z5 => ?_
    obtain ⟨r15, gr15, hM⟩ := bs hM
    obtain ⟨r17, gr17, hM⟩ := bs hM
    refine wp_drawR [0, 1, 0, 0, 12, 31, 63] [4, 5, 6] 3 folM (by kernel_rfl) (by kernel_rfl) (by kernel_rfl) ?_
    replace hst := hst.drew
    refine DRn (l1 := [0, 1, 2, 3]) (l2 := []) (lc := [4]) (by kernel_rfl) (by kernel_rfl) (by kernel_rfl) ?_
    refine Ry rfl rfl wn (yFb FL_82_0 (et rfl rfl)) ?_
    refine Ry rfl rfl wn (yLb (u := .bool x1) O_4 (et rfl rfl) hst (mtR (mtR (mtR (mtR mhR)))) rfl) ?_
    refine Ry rfl rfl wn (ym (v := h11.v) (et rfl rfl)) ?_
    refine Ry rfl rfl wn (ym (v := h13.v) (et rfl rfl)) ?_
    refine Rn QSn ?_
    refine Lc rfl ?_ LAn
    replace hst := hst.pk 2 [1, 0] rfl
    replace hst := hst.fz
    replace hst := hst.fz
    refine Lk wn (yCall FN_124 (a2 (et rfl rfl) (et rfl rfl))) (sparseref01_addMag_ok (hM := gr15) (hst := hst) (q1 := (mtF mhF)) (q2 := mhF)) ?_
    clear hst
    rintro _ w ⟨h16, rfl, hst⟩
    refine ⟨_, rfl, ?_⟩
    refine DRn (l1 := []) (l2 := [0, 1]) (lc := [5]) (by kernel_rfl) (by kernel_rfl) (by kernel_rfl) ?_
    refine Rn (Sy rfl rfl wn (yFb FL_82_0 (et rfl rfl)) rfl (Sy rfl rfl wn (yLb (u := .bool x1) O_4 (et rfl rfl) hst (mtR (mtR (mtR mhR))) rfl) rfl QSn)) ?_
    refine Lc rfl ?_ LAn
    replace hst := hst.fz
    refine Lk wn (yCall FN_100 (a2 (et rfl rfl) (et rfl rfl))) (sparseref01_make1_ok (hM := gr17) (hst := hst) (q1 := mhF)) ?_
    clear hst
    rintro _ w ⟨h18, rfl, hst⟩
    refine ⟨_, rfl, ?_⟩
    refine DRn (l1 := []) (l2 := []) (lc := [6]) (by kernel_rfl) (by kernel_rfl) (by kernel_rfl) ?_
    refine Rn QSn ?_
    refine Lc rfl ?_ LAn
    replace hst := hst.pk 2 [1, 0] rfl
    refine LT wn (r_stbn (vals' := [.bool r17.1, h18.v]) (us := [.bool r17.1, h18.v]) hst ST_82 (et rfl rfl) (et rfl rfl) rfl rfl (one_of rfl) rfl) ?_
    clear hst
    intro w hst
    refine DRz (l1 := []) (l2 := []) (by kernel_rfl) (by kernel_rfl) ?_
    refine Rn QSn ?_
    refine k5 _ _ ?_
    refine wp_ret ?_
    refine z3 _ _ _ rfl ?_
    obtain rfl := someI hM
    exact hQ _ _ _ (fin1r Tryz.results115 (rcs2 rfl rfl hst mhR ST_82 rfl) ⟨_, rfl, ((hst.pk 4 [1] rfl).facts (allT (allT (allT allI))))⟩)
  · refine condF (et rfl rfl) (bfalse c14) ?_
    refine wp_skip ?_
    refine k3 _ _ ?_
    refine seqQ fun Q6 k6 z6 => ?_
    refine seqQ fun Q7 k7 z7 => ?_
    refine wp_region_lit ?_
    refine Y wn rfl (ym (v := h11.v) (et rfl rfl)) ?_
    refine Y wn rfl (ym (v := h13.v) (et rfl rfl)) ?_
    obtain ⟨r19, gr19, hM⟩ := bs hM
    replace hst := hst.pk 2 [1, 0] rfl
    replace hst := hst.fz
    replace hst := hst.fz
    refine Yc wn rfl (yCall FN_125 (a2 (et rfl rfl) (et rfl rfl))) (sparseref01_cmpMag_ok (hM := gr19) (hst := hst) (q1 := (mtF mhF)) (q2 := mhF)) ?_
    clear hst
    rintro _ w ⟨rfl, hst⟩
    refine ⟨_, rfl, ?_⟩
    refine Y wn rfl (ygeq (et rfl rfl) rfl) ?_
    refine wpList_nil ?_
    refine k7 _ _ ?_
    rcases iteS hM with ⟨c20, hM⟩ | ⟨c20, hM⟩
    · refine condT (et rfl rfl) (decide_eq_true c20) ?_
      refine seqQ fun Q8 k8 z8 => ?_
      obtain ⟨r21, gr21, hM⟩ := bs hM
      obtain ⟨r23, gr23, hM⟩ := bs hM
      refine wp_drawR [0, 1, 0, 0, 12, 31, 63] [4, 5, 6] 3 folM (by kernel_rfl) (by kernel_rfl) (by kernel_rfl) ?_
      replace hst := hst.drew
      refine DRn (l1 := [0, 1, 2, 3]) (l2 := []) (lc := [4]) (by kernel_rfl) (by kernel_rfl) (by kernel_rfl) ?_
      refine Ry rfl rfl wn (yFb FL_82_0 (et rfl rfl)) ?_
      refine Ry rfl rfl wn (yLb (u := .bool x1) O_4 (et rfl rfl) hst (mtR (mtR mhR)) rfl) ?_
      refine Ry rfl rfl wn (ym (v := h11.v) (et rfl rfl)) ?_
      refine Ry rfl rfl wn (ym (v := h13.v) (et rfl rfl)) ?_
      refine Rn QSn ?_
      refine Lc rfl ?_ LAn
      refine Lk wn (yCall FN_126 (a2 (et rfl rfl) (et rfl rfl))) (sparseref01_subMag_ok (hM := gr21) (hst := hst) (q1 := (mtF mhF)) (q2 := mhF)) ?_
      clear hst
      rintro _ w ⟨h22, rfl, hst⟩
      refine ⟨_, rfl, ?_⟩
      refine DRn (l1 := []) (l2 := [0, 1]) (lc := [5]) (by kernel_rfl) (by kernel_rfl) (by kernel_rfl) ?_
      refine Rn (Sy rfl rfl wn (yFb FL_82_0 (et rfl rfl)) rfl (Sy rfl rfl wn (yLb (u := .bool x1) O_4 (et rfl rfl) hst (mtR (mtR (mtR mhR))) rfl) rfl QSn)) ?_
      refine Lc rfl ?_ LAn
      replace hst := hst.fz
      refine Lk wn (yCall FN_100 (a2 (et rfl rfl) (et rfl rfl))) (sparseref01_make1_ok (hM := gr23) (hst := hst) (q1 := mhF)) ?_
      clear hst
      rintro _ w ⟨h24, rfl, hst⟩
      refine ⟨_, rfl, ?_⟩
      refine DRn (l1 := []) (l2 := []) (lc := [6]) (by kernel_rfl) (by kernel_rfl) (by kernel_rfl) ?_
      refine Rn QSn ?_
      refine Lc rfl ?_ LAn
      replace hst := hst.pk 2 [1, 0] rfl
      refine LT wn (r_stbn (vals' := [.bool r23.1, h24.v]) (us := [.bool r23.1, h24.v]) hst ST_82 (et rfl rfl) (et rfl rfl) rfl rfl (one_of rfl) rfl) ?_
      clear hst
      intro w hst
      refine DRz (l1 := []) (l2 := []) (by kernel_rfl) (by kernel_rfl) ?_
      refine Rn QSn ?_
      refine k8 _ _ ?_
      refine wp_ret ?_
      refine z6 _ _ _ rfl ?_
      obtain rfl := someI hM
      exact hQ _ _ _ (fin1r Tryz.results115 (rcs2 rfl rfl hst mhR ST_82 rfl) ⟨_, rfl, ((hst.pk 4 [1] rfl).facts (allT (allT (allT allI))))⟩)
    · refine condF (et rfl rfl) (decide_eq_false c20) ?_
      refine wp_skip ?_
      refine k6 _ _ ?_
      refine seqQ fun Q9 k9 z9 => ?_
      obtain ⟨r25, gr25, hM⟩ := bs hM
      obtain ⟨r27, gr27, hM⟩ := bs hM
      refine wp_drawR [0, 1, 0, 0, 12, 31, 63] [4, 5, 6] 3 folM (by kernel_rfl) (by kernel_rfl) (by kernel_rfl) ?_
      replace hst := hst.drew
      refine DRn (l1 := [0, 1, 2, 3]) (l2 := []) (lc := [4]) (by kernel_rfl) (by kernel_rfl) (by kernel_rfl) ?_
      refine Ry rfl rfl wn (yFb FL_82_0 (et rfl rfl)) ?_
      refine Ry rfl rfl wn (yLb (u := .bool x4) O_4 (et rfl rfl) hst (mtR mhR) rfl) ?_
      refine Ry rfl rfl wn (ym (v := h13.v) (et rfl rfl)) ?_
      refine Ry rfl rfl wn (ym (v := h11.v) (et rfl rfl)) ?_
      refine Rn QSn ?_
      refine Lc rfl ?_ LAn
      refine Lk wn (yCall FN_126 (a2 (et rfl rfl) (et rfl rfl))) (sparseref01_subMag_ok (hM := gr25) (hst := hst) (q1 := mhF) (q2 := (mtF mhF))) ?_
      clear hst
      rintro _ w ⟨h26, rfl, hst⟩
      refine ⟨_, rfl, ?_⟩
      refine DRn (l1 := []) (l2 := [0, 1]) (lc := [5]) (by kernel_rfl) (by kernel_rfl) (by kernel_rfl) ?_
      refine Rn (Sy rfl rfl wn (yFb FL_82_0 (et rfl rfl)) rfl (Sy rfl rfl wn (yLb (u := .bool x4) O_4 (et rfl rfl) hst (mtR (mtR mhR)) rfl) rfl QSn)) ?_
      refine Lc rfl ?_ LAn
      replace hst := hst.fz
      refine Lk wn (yCall FN_100 (a2 (et rfl rfl) (et rfl rfl))) (sparseref01_make1_ok (hM := gr27) (hst := hst) (q1 := mhF)) ?_
      clear hst
      rintro _ w ⟨h28, rfl, hst⟩
      refine ⟨_, rfl, ?_⟩
      refine DRn (l1 := []) (l2 := []) (lc := [6]) (by kernel_rfl) (by kernel_rfl) (by kernel_rfl) ?_
      refine Rn QSn ?_
      refine Lc rfl ?_ LAn
      replace hst := hst.pk 2 [1, 0] rfl
      refine LT wn (r_stbn (vals' := [.bool r27.1, h28.v]) (us := [.bool r27.1, h28.v]) hst ST_82 (et rfl rfl) (et rfl rfl) rfl rfl (one_of rfl) rfl) ?_
      clear hst
      intro w hst
      refine DRz (l1 := []) (l2 := []) (by kernel_rfl) (by kernel_rfl) ?_
      refine Rn QSn ?_
      refine k9 _ _ ?_
      refine wp_ret ?_
      obtain rfl := someI hM
      exact hQ _ _ _ (fin1r Tryz.results115 (rcs2 rfl rfl hst mhR ST_82 rfl) ⟨_, rfl, ((hst.pk 4 [1] rfl).facts (allT (allT (allT allI))))⟩)

theorem sparseref01_Sub_ok {w0 : World} {ros : List Fact} {rs : List Res} {w : World} {x1 : Bool} {x2 : List Int} {x4 : Bool} {x5 : List Int} {h3 : Hdr} {h6 : Hdr} {out : Bool × (List Int)} (hM : sparseref01_Sub x1 x2 x4 x5 = some out) (q1 : imm (rI .u32) h3.v x2 ∈ ros) (q2 : imm (rI .u32) h6.v x5 ∈ ros) (hst : St w0 ros (rs) w) :
    Calls Tryz.prog 118 #[.agg #[.bool x1, h3.v], .agg #[.bool x4, h6.v]] w (fun e w => ∃ (h100002 : Hdr), e = .returned (.agg #[.bool out.1, h100002.v]) ∧ St w0 (ros) (row 127 (rI .u32) h100002.v out.2 :: rs) w) := by
  refine enterQ Tryz.func118 rfl Tryz.ntmps118 rfl fun Q hQ => ?_
  refine seqQ fun Q1 k1 z1 => ?_
  refine wp_region_lit ?_
  refine YB wn rfl (r_box (vals := [.bool x1, h3.v]) hst (et rfl rfl) rfl) ?_
  clear hst
  intro b7 w hst
  refine YB wn rfl (r_box (vals := [.bool x4, h6.v]) hst (et rfl rfl) rfl) ?_
  clear hst
  intro b8 w hst
  refine YB wn rfl (rAl hst ZT_82) ?_
  clear hst
  intro b9 w hst
  refine wpList_nil ?_
  refine k1 _ _ ?_
  refine seqQ fun Q2 k2 z2 => ?_
  obtain ⟨r10, gr10, hM⟩ := bs hM
  obtain ⟨r12, gr12, hM⟩ := bs hM
  refine wp_drawR [0, 0, 2, 7, 15] [2, 3, 4] 3 folM (by kernel_rfl) (by kernel_rfl) (by kernel_rfl) ?_
  replace hst := hst.drew
  refine DRn (l1 := [0, 1]) (l2 := []) (lc := [2]) (by kernel_rfl) (by kernel_rfl) (by kernel_rfl) ?_
  refine Ry rfl rfl wn (yLbs (us := [.bool x1, h3.v]) ST_82 (et rfl rfl) hst (mtR (mtR mhR)) rfl rfl) ?_
  refine Ry rfl rfl wn (yLbs (us := [.bool x4, h6.v]) ST_82 (et rfl rfl) hst (mtR mhR) rfl rfl) ?_
  refine Rn QSn ?_
  refine Lc rfl ?_ LAn
  refine Lk wn (yCall FN_127 (a1 (et rfl rfl))) (sparseref01_Neg_ok (hM := gr10) (hst := hst) (q1 := q2)) ?_
  clear hst
  rintro _ w ⟨h11, rfl, hst⟩
  refine ⟨_, rfl, ?_⟩
  refine DRn (l1 := []) (l2 := [0]) (lc := [3]) (by kernel_rfl) (by kernel_rfl) (by kernel_rfl) ?_
  refine Rn (Sy rfl rfl wn (yLbs (us := [.bool x1, h3.v]) ST_82 (et rfl rfl) hst (mtR (mtR (mtR mhR))) rfl rfl) rfl QSn) ?_
  refine Lc rfl ?_ LAn
  replace hst := hst.fz
  refine Lk wn (yCall FN_115 (a2 (et rfl rfl) (et rfl rfl))) (sparseref01_Add_ok (hM := gr12) (hst := hst) (q1 := (mtF q1)) (q2 := mhF)) ?_
  clear hst
  rintro _ w ⟨h13, rfl, hst⟩
  refine ⟨_, rfl, ?_⟩
  refine DRn (l1 := []) (l2 := []) (lc := [4]) (by kernel_rfl) (by kernel_rfl) (by kernel_rfl) ?_
  refine Rn QSn ?_
  refine Lc rfl ?_ LAn
  replace hst := hst.pk 2 [1, 0] rfl
  refine LT wn (r_stbn (vals' := [.bool r12.1, h13.v]) (us := [.bool r12.1, h13.v]) hst ST_82 (et rfl rfl) (et rfl rfl) rfl rfl (one_of rfl) rfl) ?_
  clear hst
  intro w hst
  refine DRz (l1 := []) (l2 := []) (by kernel_rfl) (by kernel_rfl) ?_
  refine Rn QSn ?_
  refine k2 _ _ ?_
  refine wp_ret ?_
  obtain rfl := someI hM
  exact hQ _ _ _ (fin1r Tryz.results118 (rcs2 rfl rfl hst mhR ST_82 rfl) ⟨_, rfl, ((hst.pk 4 [1] rfl).facts (allT allI))⟩)

theorem sparseref01_Shift_ok {w0 : World} {ros : List Fact} {rs : List Res} {w : World} {x1 : Bool} {x2 : List Int} {x4 : Int} {h3 : Hdr} {out : Bool × (List Int)} (hM : sparseref01_Shift x1 x2 x4 = some out) (q1 : imm (rI .u32) h3.v x2 ∈ ros) (hst : St w0 ros (rs) w) :
    Calls Tryz.prog 97 #[.agg #[.bool x1, h3.v], .int .i64 x4] w (fun e w => ∃ (h100002 : Hdr), e = .returned (.agg #[.bool out.1, h100002.v]) ∧ St w0 (ros) (row 127 (rI .u32) h100002.v out.2 :: rs) w) := by
  refine enterQ Tryz.func97 rfl Tryz.ntmps97 rfl fun Q hQ => ?_
  refine seqQ fun Q1 k1 z1 => ?_
  refine wp_region_lit ?_
  refine YB wn rfl (r_box (vals := [.bool x1, h3.v]) hst (et rfl rfl) rfl) ?_
  clear hst
  intro b5 w hst
  refine YB wn rfl (rAl hst ZT_82) ?_
  clear hst
  intro b6 w hst
  refine wpList_nil ?_
  refine k1 _ _ ?_
  refine seqQ fun Q2 k2 z2 => ?_
  refine wp_region_lit ?_
  refine Y wn rfl (yLbs (us := [.bool x1, h3.v]) ST_82 (et rfl rfl) hst (mtR mhR) rfl rfl) ?_
  obtain ⟨r7, gr7, hM⟩ := bs hM
  refine Yc wn rfl (yCall FN_93 (a1 (et rfl rfl))) (sparseref01_Norm_ok (hM := gr7) (hst := hst) (q1 := q1)) ?_
  clear hst
  rintro _ w ⟨h8, rfl, hst⟩
  refine ⟨_, rfl, ?_⟩
  replace hst := hst.pk 3 [2, 0, 0] rfl
  refine YT wn rfl (r_stbn (vals' := [.bool r7.1, h8.v]) (us := [.bool r7.1, h8.v]) hst ST_82 (et rfl rfl) (et rfl rfl) rfl rfl (one_of rfl) rfl) ?_
  clear hst
  intro w hst
  refine wpList_nil ?_
  refine k2 _ _ ?_
  refine seqQ fun Q3 k3 z3 => ?_
  refine seqQ fun Q4 k4 z4 => ?_
  refine wp_region_lit ?_
  refine Y wn rfl (ym (v := .int .i64 x4) (et rfl rfl)) ?_
  refine Y wn rfl (ygeq (et rfl rfl) rfl) ?_
  refine wpList_nil ?_
  refine k4 _ _ ?_
  rcases iteS hM with ⟨c9, hM⟩ | ⟨c9, hM⟩
  · refine condT (et rfl rfl) (decide_eq_true c9) ?_
    refine seqQ fun Q5 k5 z5 => ?_
    obtain ⟨r10, gr10, hM⟩ := bs hM
    obtain ⟨r12, gr12, hM⟩ := bs hM
    refine wp_drawR [0, 1, 0, 4, 0, 28, 63, 127] [5, 6, 7] 3 folM (by kernel_rfl) (by kernel_rfl) (by kernel_rfl) ?_
    replace hst := hst.drew
    refine DRn (l1 := [0, 1, 2, 3, 4]) (l2 := []) (lc := [5]) (by kernel_rfl) (by kernel_rfl) (by kernel_rfl) ?_
    refine Ry rfl rfl wn (yFb FL_82_0 (et rfl rfl)) ?_
    refine Ry rfl rfl wn (yLb (u := .bool r7.1) O_4 (et rfl rfl) hst mhR rfl) ?_
    refine Ry rfl rfl wn (yFb FL_82_1 (et rfl rfl)) ?_
    refine Ry rfl rfl wn (yLb (u := h8.v) O_80 (et rfl rfl) hst mhR rfl) ?_
    refine Ry rfl rfl wn (ym (v := .int .i64 x4) (et rfl rfl)) ?_
    refine Rn QSn ?_
    refine Lc rfl ?_ LAn
    replace hst := hst.pk 2 [1, 0] rfl
    replace hst := hst.fz
    refine Lk wn (yCall FN_116 (a2 (et rfl rfl) (et rfl rfl))) (sparseref01_shl_ok (hM := gr10) (hst := hst) (q1 := mhF)) ?_
    clear hst
    rintro _ w ⟨h11, rfl, hst⟩
    refine ⟨_, rfl, ?_⟩
    refine DRn (l1 := []) (l2 := [0, 1]) (lc := [6]) (by kernel_rfl) (by kernel_rfl) (by kernel_rfl) ?_
    refine Rn (Sy rfl rfl wn (yFb FL_82_0 (et rfl rfl)) rfl (Sy rfl rfl wn (yLb (u := .bool r7.1) O_4 (et rfl rfl) hst (mtR mhR) rfl) rfl QSn)) ?_
    refine Lc rfl ?_ LAn
    replace hst := hst.fz
    refine Lk wn (yCall FN_100 (a2 (et rfl rfl) (et rfl rfl))) (sparseref01_make1_ok (hM := gr12) (hst := hst) (q1 := mhF)) ?_
    clear hst
    rintro _ w ⟨h13, rfl, hst⟩
    refine ⟨_, rfl, ?_⟩
    refine DRn (l1 := []) (l2 := []) (lc := [7]) (by kernel_rfl) (by kernel_rfl) (by kernel_rfl) ?_
    refine Rn QSn ?_
    refine Lc rfl ?_ LAn
    replace hst := hst.pk 3 [2, 0, 0] rfl
    refine LT wn (r_stbn (vals' := [.bool r12.1, h13.v]) (us := [.bool r12.1, h13.v]) hst ST_82 (et rfl rfl) (et rfl rfl) rfl rfl (one_of rfl) rfl) ?_
    clear hst
    intro w hst
    refine DRz (l1 := []) (l2 := []) (by kernel_rfl) (by kernel_rfl) ?_
    refine Rn QSn ?_
    refine k5 _ _ ?_
    refine wp_ret ?_
    refine z3 _ _ _ rfl ?_
    obtain rfl := someI hM
    exact hQ _ _ _ (fin1r Tryz.results97 (rcs2 rfl rfl hst mhR ST_82 rfl) ⟨_, rfl, ((hst.pk 3 [1] rfl).facts (allT (allT allI)))⟩)
  · refine condF (et rfl rfl) (decide_eq_false c9) ?_
    refine wp_skip ?_
    refine k3 _ _ ?_
    refine seqQ fun Q6 k6 z6 => ?_
    refine wp_region_lit ?_
    refine Y wn rfl (yFb FL_82_1 (et rfl rfl)) ?_
    refine Y wn rfl (yLb (u := h8.v) O_80 (et rfl rfl) hst mhR rfl) ?_
    refine Y wn rfl (ym (v := .int .i64 x4) (et rfl rfl)) ?_
    refine Y wn rfl (yneg (et rfl rfl)) ?_
    obtain ⟨r14, gr14, hM⟩ := bs hM
    replace hst := hst.pk 2 [1, 0] rfl
    replace hst := hst.fz
    refine Yc wn rfl (yCall FN_117 (a2 (et rfl rfl) (et rfl rfl))) (sparseref01_shr_ok (hM := gr14) (hst := hst) (q1 := mhF)) ?_
    clear hst
    rintro _ w ⟨h15, rfl, hst⟩
    refine ⟨_, rfl, ?_⟩
    refine Y wn rfl (ym (v := .tuple #[h15.v, .bool r14.2]) (et rfl rfl)) ?_
    refine Y wn rfl (yx (v := h15.v) (et rfl rfl) rfl) ?_
    refine Y wn rfl (yx (v := .bool r14.2) (et rfl rfl) rfl) ?_
    refine Y wn rfl (ya (v := h15.v) (et rfl rfl)) ?_
    refine Y wn rfl (ya (v := .bool r14.2) (et rfl rfl)) ?_
    refine wpList_nil ?_
    refine k6 _ _ ?_
    refine seqQ fun Q7 k7 z7 => ?_
    refine wp_region_lit ?_
    refine Y wn rfl (yFb FL_82_0 (et rfl rfl)) ?_
    refine Y wn rfl (yLb (u := .bool r7.1) O_4 (et rfl rfl) hst (mtR mhR) rfl) ?_
    refine Y wn rfl (ym (v := h15.v) (et rfl rfl)) ?_
    obtain ⟨r16, gr16, hM⟩ := bs hM
    replace hst := hst.fz
    refine Yc wn rfl (yCall FN_100 (a2 (et rfl rfl) (et rfl rfl))) (sparseref01_make1_ok (hM := gr16) (hst := hst) (q1 := mhF)) ?_
    clear hst
    rintro _ w ⟨h17, rfl, hst⟩
    refine ⟨_, rfl, ?_⟩
    refine YB wn rfl (rAl hst ZT_82) ?_
    clear hst
    intro b18 w hst
    refine YT wn rfl (r_stbn (vals' := [.bool r16.1, h17.v]) (us := [.bool r16.1, h17.v]) hst ST_82 (et rfl rfl) (et rfl rfl) rfl rfl (one_of rfl) rfl) ?_
    clear hst
    intro w hst
    refine wpList_nil ?_
    refine k7 _ _ ?_
    refine seqQ fun Q8 k8 z8 => ?_
    refine seqQ fun Q9 k9 z9 => ?_
    refine wp_region_lit ?_
    refine Y wn rfl (yFb FL_82_0 (et rfl rfl)) ?_
    refine Y wn rfl (yLb (u := .bool r7.1) O_4 (et rfl rfl) hst (mtR (mtR mhR)) rfl) ?_
    refine Y wn rfl (ym (v := .bool r7.1) (et rfl rfl)) ?_
    refine joinW 2 (fun f w => f 4 = .pointer (some ⟨b6, 0, none⟩) ∧ f 7 = .pointer (some ⟨b18, 0, none⟩) ∧ f 35 = .bool (r7.1 && r14.2) ∧ St w0 (ros) (box b6 82 [.bool false, hnil.v] :: row 127 (rI .u32) h17.v r16.2 :: box b18 82 [.bool r16.1, h17.v] :: rs) w) (fun j1 => ?_) ?_
    · rcases Bool.eq_false_or_eq_true (r7.1) with c20 | c20
      · refine Y (wg rfl rfl rfl c20) rfl (ym (v := .bool r14.2) (et rfl rfl)) ?_
        refine Y wn rfl (ypt (v := .bool r14.2) (et rfl rfl) c20 (et rfl rfl)) ?_
        exact j1 _ _ ⟨rfl, rfl, (congrArg Value.bool (andT c20)), ((hst.pk 4 [3, 1, 0] rfl).facts (allT (allT allI)))⟩
      · refine Gn (wx rfl rfl rfl c20) rfl ?_
        refine Y wn rfl (ypf (v := .bool false) (et rfl rfl) c20 rfl) ?_
        exact j1 _ _ ⟨rfl, rfl, (congrArg Value.bool (andF c20)), ((hst.pk 4 [3, 1, 0] rfl).facts (allT (allT allI)))⟩
    clear hst
    rintro f w ⟨e19_4, e19_7, e19_35, hst⟩
    refine wpList_nil ?_
    refine k9 _ _ ?_
    have j2 : ∀ (x25 : Bool) (x27 : List Int) (h26 : Hdr) (f : Nat → Value) (w : World), f 4 = .pointer (some ⟨b6, 0, none⟩) → f 7 = .pointer (some ⟨b18, 0, none⟩) → St w0 (ros) (box b6 82 [.bool false, hnil.v] :: row 127 (rI .u32) h26.v x27 :: box b18 82 [.bool x25, h26.v] :: rs) w → sparseref01_Shift_j2 x25 x27 = some out → Q8 .normal (fr 40 f) w := by
      intro x25 x27 h26 f w ej2_4 ej2_7 hst hM
      refine k8 _ _ ?_
      refine seqQ fun Q10 k10 z10 => ?_
      refine wp_region_lit ?_
      refine Y wn rfl (yLbs (us := [.bool x25, h26.v]) ST_82 (et rfl ej2_7) hst (mtR (mtR mhR)) rfl rfl) ?_
      refine YT wn rfl (r_stbn (vals' := [.bool x25, h26.v]) (us := [.bool x25, h26.v]) hst ST_82 (et rfl ej2_4) (et rfl rfl) rfl rfl (one_of rfl) rfl) ?_
      clear hst
      intro w hst
      refine wpList_nil ?_
      refine k10 _ _ ?_
      refine wp_ret ?_
      obtain rfl := someI hM
      exact hQ _ _ _ (fin1r Tryz.results97 (rcs2 rfl ej2_4 hst mhR ST_82 rfl) ⟨_, rfl, (hst.pk 3 [1] rfl)⟩)
    rcases iteS hM with ⟨c28, hM⟩ | ⟨c28, hM⟩
    · refine condT (et rfl e19_35) c28 ?_
      obtain ⟨r29, gr29, hM⟩ := bs hM
      obtain ⟨r31, gr31, hM⟩ := bs hM
      refine wp_drawR [0, 0, 3, 7] [1, 2, 3] 3 folM (by kernel_rfl) (by kernel_rfl) (by kernel_rfl) ?_
      replace hst := hst.drew
      refine DRn (l1 := [0]) (l2 := []) (lc := [1]) (by kernel_rfl) (by kernel_rfl) (by kernel_rfl) ?_
      refine Ry rfl rfl wn (yLbs (us := [.bool r16.1, h17.v]) ST_82 (et rfl e19_7) hst (mtR (mtR mhR)) rfl rfl) ?_
      refine Rn QSn ?_
      refine Lc rfl ?_ LAn
      refine Lk wn (yCall FN_68 (a1 rfl)) (sparseref01_FromInt_ok (hM := gr29) (hst := hst) ) ?_
      clear hst
      rintro _ w ⟨h30, rfl, hst⟩
      refine ⟨_, rfl, ?_⟩
      refine DRn (l1 := []) (l2 := [0]) (lc := [2]) (by kernel_rfl) (by kernel_rfl) (by kernel_rfl) ?_
      refine Rn (Sy rfl rfl wn (yLbs (us := [.bool r16.1, h17.v]) ST_82 (et rfl e19_7) hst (mtR (mtR (mtR mhR))) rfl rfl) rfl QSn) ?_
      refine Lc rfl ?_ LAn
      replace hst := hst.pk 3 [2, 0, 0] rfl
      replace hst := hst.fz
      replace hst := hst.fz
      refine Lk wn (yCall FN_118 (a2 (et rfl rfl) (et rfl rfl))) (sparseref01_Sub_ok (hM := gr31) (hst := hst) (q1 := (mtF mhF)) (q2 := mhF)) ?_
      clear hst
      rintro _ w ⟨h32, rfl, hst⟩
      refine ⟨_, rfl, ?_⟩
      refine DRn (l1 := []) (l2 := []) (lc := [3]) (by kernel_rfl) (by kernel_rfl) (by kernel_rfl) ?_
      refine Rn QSn ?_
      refine Lc rfl ?_ LAn
      replace hst := hst.pk 3 [2, 0, 0] rfl
      refine LT wn (r_stbn (vals' := [.bool r31.1, h32.v]) (us := [.bool r31.1, h32.v]) hst ST_82 (et rfl e19_7) (et rfl rfl) rfl rfl (one_of rfl) rfl) ?_
      clear hst
      intro w hst
      refine DRz (l1 := []) (l2 := []) (by kernel_rfl) (by kernel_rfl) ?_
      refine Rn QSn ?_
      exact j2 _ _ _ _ _ e19_4 e19_7 ((hst.pk 3 [2, 1, 0] rfl).facts (allT (allT allI))) hM
    · refine condF (et rfl e19_35) (bfalse c28) ?_
      refine wp_skip ?_
      exact j2 _ _ _ _ _ e19_4 e19_7 hst hM

theorem sparseref02_down_ok {w0 : World} {ros : List Fact} {rs : List Res} {w : World} {x1 : Bool} {x2 : List Int} {x4 : Int} {h3 : Hdr} {out : Bool × (List Int)} (hM : sparseref02_down x1 x2 x4 = some out) (q1 : imm (rI .u32) h3.v x2 ∈ ros) (hst : St w0 ros (rs) w) :
    Calls Tryz.prog 102 #[.agg #[.bool x1, h3.v], .int .i64 x4] w (fun e w => ∃ (h100002 : Hdr), e = .returned (.agg #[.bool out.1, h100002.v]) ∧ St w0 (ros) (row 127 (rI .u32) h100002.v out.2 :: rs) w) := by
  refine enterQ Tryz.func102 rfl Tryz.ntmps102 rfl fun Q hQ => ?_
  refine seqQ fun Q1 k1 z1 => ?_
  refine wp_region_lit ?_
  refine YB wn rfl (r_box (vals := [.bool x1, h3.v]) hst (et rfl rfl) rfl) ?_
  clear hst
  intro b5 w hst
  refine YB wn rfl (rAl hst ZT_82) ?_
  clear hst
  intro b6 w hst
  refine wpList_nil ?_
  refine k1 _ _ ?_
  refine seqQ fun Q2 k2 z2 => ?_
  refine blockQ fun Q3 qb3 => ?_
  obtain ⟨o1, go1, hM⟩ := bs hM
  have je1_0 : ∀ (x21 : Int) (x22 : Bool) (x24 : List Int) (h23 : Hdr) (f : Nat → Value) (w : World), f 1 = .int .i64 x21 → f 2 = .pointer (some ⟨b5, 0, none⟩) → f 4 = .pointer (some ⟨b6, 0, none⟩) → St w0 (imm (rI .u32) h23.v x24 :: ros) (box b5 82 [.bool x22, h23.v] :: box b6 82 [.bool false, hnil.v] :: rs) w → (x21, x22, x24) = o1 → Q3 (.exit 0) (fr 15 f) w := by
    intro x21 x22 x24 h23 f w eje1_0_1 eje1_0_2 eje1_0_4 hst ho
    subst ho
    refine qb3 _ _ _ ?_
    refine k2 _ _ ?_
    refine seqQ fun Q12 k12 z12 => ?_
    refine wp_region_lit ?_
    refine Y wn rfl (yLbs (us := [.bool x22, h23.v]) ST_82 (et rfl eje1_0_2) hst mhR rfl rfl) ?_
    refine Y wn rfl (ym (v := .int .i64 x21) (et rfl eje1_0_1)) ?_
    refine Y wn rfl (yneg (et rfl rfl)) ?_
    obtain ⟨r25, gr25, hM⟩ := bs hM
    refine Yc wn rfl (yCall FN_97 (a2 (et rfl rfl) (et rfl rfl))) (sparseref01_Shift_ok (hM := gr25) (hst := hst) (q1 := mhF)) ?_
    clear hst
    rintro _ w ⟨h26, rfl, hst⟩
    refine ⟨_, rfl, ?_⟩
    replace hst := hst.pk 3 [2, 0, 0] rfl
    refine YT wn rfl (r_stbn (vals' := [.bool r25.1, h26.v]) (us := [.bool r25.1, h26.v]) hst ST_82 (et rfl eje1_0_4) (et rfl rfl) rfl rfl (one_of rfl) rfl) ?_
    clear hst
    intro w hst
    refine wpList_nil ?_
    refine k12 _ _ ?_
    refine wp_ret ?_
    obtain rfl := someI hM
    exact hQ _ _ _ (fin1r Tryz.results102 (rcs2 rfl eje1_0_4 hst mhR ST_82 rfl) ⟨_, rfl, ((hst.pk 3 [1] rfl).facts (allT allI))⟩)
  refine loopQ (fun s a w => ∃ (x10 : Int) (x11 : Bool) (x13 : List Int) (f : Nat → Value) (h12 : Hdr), (x10, x11, x13) = s ∧ a = fr 15 f ∧ f 1 = .int .i64 x10 ∧ f 2 = .pointer (some ⟨b5, 0, none⟩) ∧ f 4 = .pointer (some ⟨b6, 0, none⟩) ∧ St w0 (imm (rI .u32) h12.v x13 :: ros) (box b5 82 [.bool x11, h12.v] :: box b6 82 [.bool false, hnil.v] :: rs) w) go1 ⟨_, _, _, _, _, rfl, rfl, rfl, rfl, rfl, ((hst.pk 2 [1, 0] rfl).facts (allC q1 allI))⟩ ?_
  clear hst
  rintro _ _ w r1_ ⟨x10, x11, x13, f, h12, rfl, rfl, e1_1, e1_2, e1_4, hst⟩ hM1 ho1 Q100001 n1 zz1
  refine seqQ fun Q13 k13 z13 => ?_
  refine seqQ fun Q14 k14 z14 => ?_
  refine wp_region_lit ?_
  refine Y wn rfl (ym (v := .int .i64 x10) (et rfl e1_1)) ?_
  refine Y wn rfl (ygtr (et rfl rfl) rfl) ?_
  refine wpList_nil ?_
  refine k14 _ _ ?_
  rcases iteS hM1 with ⟨c27, hM1⟩ | ⟨c27, hM1⟩
  · refine condT (et rfl rfl) (decide_eq_true c27) ?_
    refine wp_skip ?_
    refine k13 _ _ ?_
    refine blockQ fun Q15 qb15 => ?_
    refine seqQ fun Q16 k16 z16 => ?_
    refine wp_region_lit ?_
    refine Y wn rfl (yLbs (us := [.bool x11, h12.v]) ST_82 (et rfl e1_2) hst mhR rfl rfl) ?_
    obtain ⟨r28, gr28, hM1⟩ := bs hM1
    refine Yc wn rfl (yCall FN_97 (a2 (et rfl rfl) rfl)) (sparseref01_Shift_ok (hM := gr28) (hst := hst) (q1 := mhF)) ?_
    clear hst
    rintro _ w ⟨h29, rfl, hst⟩
    refine ⟨_, rfl, ?_⟩
    replace hst := hst.pk 2 [1, 0] rfl
    refine YT wn rfl (r_stbn (vals' := [.bool r28.1, h29.v]) (us := [.bool r28.1, h29.v]) hst ST_82 (et rfl e1_2) (et rfl rfl) rfl rfl (one_of rfl) rfl) ?_
    clear hst
    intro w hst
    refine wpList_nil ?_
    refine k16 _ _ ?_
    refine wp_region_lit ?_
    refine Y wn rfl (ym (v := .int .i64 x10) (et rfl e1_1)) ?_
    refine Y wn rfl (ysub (et rfl rfl) rfl) ?_
    refine Y wn rfl (ya (v := .int .i64 (ws .i64 x10 1048576)) (et rfl rfl)) ?_
    refine wpList_nil ?_
    refine qb15 _ _ _ ?_
    replace hst := hst.pk 2 [1, 0] rfl
    replace hst := hst.fz
    obtain rfl := someI hM1
    exact n1 _ _ _ rfl ⟨_, _, _, _, _, rfl, rfl, rfl, e1_2, e1_4, (hst.facts (allC mhF (allT (allT allI))))⟩
  · refine condF (et rfl rfl) (decide_eq_false c27) ?_
    refine wp_exit ?_
    refine z13 _ _ _ rfl ?_
    obtain rfl := someI hM1
    refine zz1 _ _ _ _ rfl rfl ?_
    exact je1_0 _ _ _ _ _ _ e1_1 e1_2 e1_4 hst (ho1 _ rfl)

theorem math_bits_Len32_ok {w0 : World} {ros : List Fact} {rs : List Res} {w : World} {x1 : Int} {out : Int} (hM : math_bits_Len32 x1 = some out) (hst : St w0 ros (rs) w) :
    Calls Tryz.prog 91 #[.int .u32 x1] w (fun e w => e = .returned (.int .i64 out) ∧ St w0 (ros) (rs) w) := by
  refine enterQ Tryz.func91 rfl Tryz.ntmps91 rfl fun Q hQ => ?_
  refine seqQ fun Q1 k1 z1 => ?_
  refine wp_region_lit ?_
  refine Y wn rfl (ya (v := .int .i64 0) rfl) ?_
  refine wpList_nil ?_
  refine k1 _ _ ?_
  refine seqQ fun Q2 k2 z2 => ?_
  refine seqQ fun Q3 k3 z3 => ?_
  refine wp_region_lit ?_
  refine Y wn rfl (ym (v := .int .u32 x1) (et rfl rfl)) ?_
  refine Y wn rfl (ygeq (et rfl rfl) rfl) ?_
  refine wpList_nil ?_
  refine k3 _ _ ?_
  have j1 : ∀ (x2 : Int) (x3 : Int) (f : Nat → Value) (w : World), f 0 = .int .u32 x2 → f 2 = .int .i64 x3 → St w0 (ros) (rs) w → math_bits_Len32_j1 x2 x3 = some out → Q2 .normal (fr 19 f) w := by
    intro x2 x3 f w ej1_0 ej1_2 hst hM
    refine k2 _ _ ?_
    refine seqQ fun Q5 k5 z5 => ?_
    refine seqQ fun Q6 k6 z6 => ?_
    refine wp_region_lit ?_
    refine Y wn rfl (ym (v := .int .u32 x2) (et rfl ej1_0)) ?_
    refine Y wn rfl (ygeq (et rfl rfl) rfl) ?_
    refine wpList_nil ?_
    refine k6 _ _ ?_
    have j2 : ∀ (x4 : Int) (x5 : Int) (f : Nat → Value) (w : World), f 0 = .int .u32 x4 → f 2 = .int .i64 x5 → St w0 (ros) (rs) w → math_bits_Len32_j2 x4 x5 = some out → Q5 .normal (fr 19 f) w := by
      intro x4 x5 f w ej2_0 ej2_2 hst hM
      refine k5 _ _ ?_
      refine seqQ fun Q8 k8 z8 => ?_
      refine wp_region_lit ?_
      refine Y wn rfl (ym (v := .int .i64 x5) (et rfl ej2_2)) ?_
      refine Y wn rfl (ym (v := .int .u32 x4) (et rfl ej2_0)) ?_
      refine Y wn rfl (ycv (k' := .u8) (by kernel_rfl) (by kernel_rfl) (et rfl rfl)) ?_
      obtain ⟨x6, gx6, hM⟩ := bs hM
      refine Y wn rfl (yixs (by kernel_rfl) rfl (et rfl rfl) (by kernel_rfl) gx6) ?_
      refine Y wn rfl (ycv (k' := .i64) (by kernel_rfl) (by kernel_rfl) (et rfl rfl)) ?_
      refine Y wn rfl (yadd (et rfl rfl) (et rfl rfl)) ?_
      refine Y wn rfl (ya (v := .int .i64 (wa .i64 x5 (wc .i64 x6))) (et rfl rfl)) ?_
      refine wpList_nil ?_
      refine k8 _ _ ?_
      refine wp_ret ?_
      obtain rfl := someI hM
      exact hQ _ _ _ (fin1r Tryz.results91 ⟨rfl, rfl⟩ ⟨rfl, hst⟩)
    rcases iteS hM with ⟨c7, hM⟩ | ⟨c7, hM⟩
    · refine condT (et rfl rfl) (decide_eq_true c7) ?_
      refine seqQ fun Q9 k9 z9 => ?_
      refine wp_region_lit ?_
      refine Y wn rfl (ym (v := .int .u32 x2) (et rfl ej1_0)) ?_
      refine Y wn rfl (yshrc (et rfl rfl) rfl) ?_
      refine Y wn rfl (ya (v := .int .u32 (wsrc .u32 x2 8)) (et rfl rfl)) ?_
      refine wpList_nil ?_
      refine k9 _ _ ?_
      refine wp_region_lit ?_
      refine Y wn rfl (ym (v := .int .i64 x3) (et rfl ej1_2)) ?_
      refine Y wn rfl (yadd (et rfl rfl) rfl) ?_
      refine Y wn rfl (ya (v := .int .i64 (wa .i64 x3 8)) (et rfl rfl)) ?_
      refine wpList_nil ?_
      exact j2 _ _ _ _ rfl rfl hst hM
    · refine condF (et rfl rfl) (decide_eq_false c7) ?_
      refine wp_skip ?_
      exact j2 _ _ _ _ ej1_0 ej1_2 hst hM
  rcases iteS hM with ⟨c8, hM⟩ | ⟨c8, hM⟩
  · refine condT (et rfl rfl) (decide_eq_true c8) ?_
    refine seqQ fun Q10 k10 z10 => ?_
    refine wp_region_lit ?_
    refine Y wn rfl (ym (v := .int .u32 x1) (et rfl rfl)) ?_
    refine Y wn rfl (yshrc (et rfl rfl) rfl) ?_
    refine Y wn rfl (ya (v := .int .u32 (wsrc .u32 x1 16)) (et rfl rfl)) ?_
    refine wpList_nil ?_
    refine k10 _ _ ?_
    refine wp_region_lit ?_
    refine Y wn rfl (ya (v := .int .i64 16) rfl) ?_
    refine wpList_nil ?_
    exact j1 _ _ _ _ rfl rfl hst hM
  · refine condF (et rfl rfl) (decide_eq_false c8) ?_
    refine wp_skip ?_
    exact j1 _ _ _ _ rfl rfl hst hM
end Go.Proofs.YtcknmegldjnjjaaGreatDoor
