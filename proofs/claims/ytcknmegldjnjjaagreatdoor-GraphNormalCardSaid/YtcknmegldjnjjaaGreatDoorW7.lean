/- Walks: each function computes its model, printed. -/
import Derived.Test.YtcknmegldjnjjaaGreatDoorW6
namespace Go.Proofs.YtcknmegldjnjjaaGreatDoor
open Go Sx M
set_option maxRecDepth 100000
set_option maxHeartbeats 400000
set_option linter.unusedVariables false
attribute [local irreducible] wpList Code.wp Calls DR QR QS LA LS St
theorem sparsekit_In_ok {w0 : World} {ros : List Fact} {rs : List Res} {w : World} {x1 : List Int} {x3 : Int} {h2 : Hdr} {out : Bool} (hM : sparsekit_In x1 x3 = some out) (q1 : imm (rI .i64) h2.v x1 ∈ ros) (hst : St w0 ros (rs) w) :
    Calls Tryz.prog 13 #[h2.v, .int .i64 x3] w (fun e w => e = .returned (.bool out) ∧ St w0 (ros) (rs) w) := by
  refine enterQ Tryz.func13 rfl Tryz.ntmps13 rfl fun Q hQ => ?_
  refine seqQ fun Q1 k1 z1 => ?_
  refine wp_region_lit ?_
  refine Y wn rfl (ya (v := .bool false) rfl) ?_
  refine wpList_nil ?_
  refine k1 _ _ ?_
  refine seqQ fun Q2 k2 z2 => ?_
  refine seqQ fun Q3 k3 z3 => ?_
  refine wp_region_lit ?_
  refine Y wn rfl (ya (v := .int .i64 0) rfl) ?_
  refine wpList_nil ?_
  refine k3 _ _ ?_
  refine blockQ fun Q4 qb4 => ?_
  obtain ⟨o1, go1, hM⟩ := bs hM
  have je1_0 : ∀ (f : Nat → Value) (w : World), St w0 (ros) (rs) w → .inl () = o1 → Q4 (.exit 0) (fr 18 f) w := by
    intro f w hst ho
    subst ho
    refine qb4 _ _ _ ?_
    refine k2 _ _ ?_
    refine seqQ fun Q17 k17 z17 => ?_
    refine wp_region_lit ?_
    refine Y wn rfl (ya (v := .bool false) rfl) ?_
    refine wpList_nil ?_
    refine k17 _ _ ?_
    refine wp_ret ?_
    obtain rfl := someI hM
    exact hQ _ _ _ (fin1r Tryz.results13 ⟨rfl, rfl⟩ ⟨rfl, hst⟩)
  have je1_1 : ∀ (f : Nat → Value) (w : World), f 4 = .bool true → St w0 (ros) (rs) w → .inr () = o1 → Q4 .ret (fr 18 f) w := by
    intro f w eje1_1_4 hst ho
    subst ho
    refine qb4 _ _ _ ?_
    refine z2 _ _ _ rfl ?_
    obtain rfl := someI hM
    exact hQ _ _ _ (fin1r Tryz.results13 ⟨rfl, eje1_1_4⟩ ⟨rfl, hst⟩)
  refine loopQ (fun s a w => ∃ (x7 : Int) (f : Nat → Value), x7 = s ∧ a = fr 18 f ∧ f 0 = h2.v ∧ f 1 = .int .i64 x3 ∧ f 5 = .int .i64 x7 ∧ St w0 (ros) (rs) w) go1 ⟨_, _, rfl, rfl, rfl, rfl, rfl, hst⟩ ?_
  clear hst
  rintro _ _ w r1_ ⟨x7, f, rfl, rfl, e1_0, e1_1, e1_5, hst⟩ hM1 ho1 Q100001 n1 zz1
  refine seqQ fun Q18 k18 z18 => ?_
  refine seqQ fun Q19 k19 z19 => ?_
  refine wp_region_lit ?_
  refine Y wn rfl (ym (v := .int .i64 x7) (et rfl e1_5)) ?_
  refine Y wn rfl (ym (v := h2.v) (et rfl e1_0)) ?_
  refine Y wn rfl (yLen SL_22 (et rfl rfl) hst (rdI q1)) ?_
  refine Y wn rfl (ylss (et rfl rfl) (et rfl rfl)) ?_
  refine wpList_nil ?_
  refine k19 _ _ ?_
  rcases iteS hM1 with ⟨c12, hM1⟩ | ⟨c12, hM1⟩
  · refine condT (et rfl rfl) (decide_eq_true c12) ?_
    refine wp_skip ?_
    refine k18 _ _ ?_
    refine seqQ fun Q20 k20 z20 => ?_
    refine blockQ fun Q21 qb21 => ?_
    refine seqQ fun Q22 k22 z22 => ?_
    refine wp_region_lit ?_
    refine Y wn rfl (ym (v := h2.v) (et rfl e1_0)) ?_
    refine Y wn rfl (ym (v := .int .i64 x7) (et rfl e1_5)) ?_
    obtain ⟨x13, gx13, hM1⟩ := bs hM1
    refine Y wn rfl (yIa SL_22 (et rfl rfl) (et rfl rfl) hst (rdI q1) gx13) ?_
    refine Y wn rfl (yI O_3 (et rfl rfl) hst (rdI q1) gx13) ?_
    refine Y wn rfl (ym (v := .int .i64 x3) (et rfl e1_1)) ?_
    refine Y wn rfl (yeql (et rfl rfl) (et rfl rfl)) ?_
    refine wpList_nil ?_
    refine k22 _ _ ?_
    rcases iteS hM1 with ⟨c14, hM1⟩ | ⟨c14, hM1⟩
    · refine condT (et rfl rfl) (decide_eq_true c14) ?_
      refine seqQ fun Q23 k23 z23 => ?_
      refine wp_region_lit ?_
      refine Y wn rfl (ya (v := .bool true) rfl) ?_
      refine wpList_nil ?_
      refine k23 _ _ ?_
      refine wp_ret ?_
      refine qb21 _ _ _ ?_
      refine z20 _ _ _ rfl ?_
      obtain rfl := someI hM1
      refine zz1 _ _ _ _ rfl rfl ?_
      exact je1_1 _ _ rfl hst (ho1 _ rfl)
    · refine condF (et rfl rfl) (decide_eq_false c14) ?_
      refine wp_skip ?_
      refine qb21 _ _ _ ?_
      refine k20 _ _ ?_
      refine wp_region_lit ?_
      refine Y wn rfl (ym (v := .int .i64 x7) (et rfl e1_5)) ?_
      refine Y wn rfl (yadd (et rfl rfl) rfl) ?_
      refine Y wn rfl (ya (v := .int .i64 (wa .i64 x7 1)) (et rfl rfl)) ?_
      refine wpList_nil ?_
      obtain rfl := someI hM1
      exact n1 _ _ _ rfl ⟨_, _, rfl, rfl, e1_0, e1_1, rfl, hst⟩
  · refine condF (et rfl rfl) (decide_eq_false c12) ?_
    refine wp_exit ?_
    refine z18 _ _ _ rfl ?_
    obtain rfl := someI hM1
    refine zz1 _ _ _ _ rfl rfl ?_
    exact je1_0 _ _ hst (ho1 _ rfl)

theorem sparselaw12_GraphNormal_ok {w0 : World} {ros : List Fact} {rs : List Res} {w : World} {x1 : Int} {x2 : Int} {x3 : List Int} {x5 : List Int} {h4 : Hdr} {h6 : Hdr} {out : Bool} (hM : sparselaw12_GraphNormal x1 x2 x3 x5 = some out) (q1 : imm (rI .i64) h4.v x3 ∈ ros) (q2 : imm (rI .i64) h6.v x5 ∈ ros) (q3 : globF ∈ ros) (hst : St w0 ros (rs) w) :
    Calls Tryz.prog 3 #[.int .i64 x1, .int .i64 x2, h4.v, h6.v] w (fun e w => e = .returned (.bool out) ∧ St w0 (ros) (rs) w) := by
  refine enterQ Tryz.func3 rfl Tryz.ntmps3 rfl fun Q hQ => ?_
  refine seqQ fun Q1 k1 z1 => ?_
  refine wp_region_lit ?_
  refine Y wn rfl (ya (v := .bool false) rfl) ?_
  refine wpList_nil ?_
  refine k1 _ _ ?_
  refine seqQ fun Q2 k2 z2 => ?_
  refine seqQ fun Q3 k3 z3 => ?_
  refine wp_region_lit ?_
  refine Y wn rfl (ym (v := h4.v) (et rfl rfl)) ?_
  refine Y wn rfl (yLen SL_22 (et rfl rfl) hst (rdI q1)) ?_
  refine Y wn rfl (ygtr (et rfl rfl) rfl) ?_
  refine wpList_nil ?_
  refine k3 _ _ ?_
  rcases iteS hM with ⟨c7, hM⟩ | ⟨c7, hM⟩
  · refine condT (et rfl rfl) (decide_eq_true c7) ?_
    refine seqQ fun Q4 k4 z4 => ?_
    refine wp_region_lit ?_
    obtain ⟨r8, gr8, hM⟩ := bs hM
    refine Yc wn rfl (yCall FN_5 a0) (sparselaw12_awake_ok (hM := gr8) (hst := hst) ) ?_
    clear hst
    rintro _ w ⟨rfl, hst⟩
    refine ⟨_, rfl, ?_⟩
    refine Y wn rfl (ya (v := .bool r8) (et rfl rfl)) ?_
    refine wpList_nil ?_
    refine k4 _ _ ?_
    refine wp_ret ?_
    refine z2 _ _ _ rfl ?_
    obtain rfl := someI hM
    exact hQ _ _ _ (fin1r Tryz.results3 ⟨rfl, rfl⟩ ⟨rfl, hst⟩)
  · refine condF (et rfl rfl) (decide_eq_false c7) ?_
    refine wp_skip ?_
    refine k2 _ _ ?_
    refine seqQ fun Q5 k5 z5 => ?_
    refine wp_region_lit ?_
    refine Y wn rfl (ym (v := .int .i64 x1) (et rfl rfl)) ?_
    obtain ⟨r9, gr9, hM⟩ := bs hM
    refine Yc wn rfl (yCall FN_6 (a2 (et rfl rfl) rfl)) (sparsekit_Place_ok (hM := gr9) (hst := hst) ) ?_
    clear hst
    rintro _ w ⟨rfl, hst⟩
    refine ⟨_, rfl, ?_⟩
    refine Y wn rfl (ym (v := .int .i64 x2) (et rfl rfl)) ?_
    obtain ⟨r10, gr10, hM⟩ := bs hM
    refine Yc wn rfl (yCall FN_6 (a2 (et rfl rfl) rfl)) (sparsekit_Place_ok (hM := gr10) (hst := hst) ) ?_
    clear hst
    rintro _ w ⟨rfl, hst⟩
    refine ⟨_, rfl, ?_⟩
    refine Y wn rfl (ya (v := .int .i64 r9) (et rfl rfl)) ?_
    refine Y wn rfl (ya (v := .int .i64 r10) (et rfl rfl)) ?_
    refine wpList_nil ?_
    refine k5 _ _ ?_
    refine seqQ fun Q6 k6 z6 => ?_
    refine wp_region_lit ?_
    refine Y wn rfl (ym (v := .int .i64 r9) (et rfl rfl)) ?_
    refine Y wn rfl (ym (v := .int .i64 r10) (et rfl rfl)) ?_
    refine Y wn rfl (ym (v := h4.v) (et rfl rfl)) ?_
    obtain ⟨r11, gr11, hM⟩ := bs hM
    refine Yc wn rfl (yCall FN_7 (a3 (et rfl rfl) (et rfl rfl) (et rfl rfl))) (sparsemake_Matrix_ok (hM := gr11) (hst := hst) (q1 := q1) (q2 := q3)) ?_
    clear hst
    rintro _ w ⟨h12, h13, h14, rfl, hst⟩
    refine ⟨_, rfl, ?_⟩
    refine YB wn rfl (rAl hst ZT_27) ?_
    clear hst
    intro b15 w hst
    refine YT wn rfl (r_stbn (vals' := [.int .i64 r11.1, .int .i64 r11.2.1, h12.v, h13.v, h14.v]) (us := [.int .i64 r11.1, .int .i64 r11.2.1, h12.v, h13.v, h14.v]) hst ST_27 (et rfl rfl) (et rfl rfl) rfl rfl (one_of rfl) rfl) ?_
    clear hst
    intro w hst
    refine wpList_nil ?_
    refine k6 _ _ ?_
    refine seqQ fun Q7 k7 z7 => ?_
    refine wp_region_lit ?_
    refine Y wn rfl (yLbs (us := [.int .i64 r11.1, .int .i64 r11.2.1, h12.v, h13.v, h14.v]) ST_27 (et rfl rfl) hst mhR rfl rfl) ?_
    obtain ⟨r16, gr16, hM⟩ := bs hM
    replace hst := hst.pk 2 [1, 0] rfl
    replace hst := hst.fz
    replace hst := hst.pk 2 [1, 0] rfl
    replace hst := hst.fz
    replace hst := hst.pk 2 [1, 0] rfl
    replace hst := hst.fz
    refine Yc wn rfl (yCall FN_8 (a1 (et rfl rfl))) (graph_FromNormal_ok (hM := gr16) (hst := hst) (q1 := (mtF (mtF mhF))) (q2 := (mtF mhF)) (q3 := mhF)) ?_
    clear hst
    rintro _ w ⟨h17, rfl, hst⟩
    refine ⟨_, rfl, ?_⟩
    refine Y wn rfl (ym (v := .tuple #[.agg #[h17.v], .int .i64 r16.2]) (et rfl rfl)) ?_
    refine Y wn rfl (yx (v := .agg #[h17.v]) (et rfl rfl) rfl) ?_
    refine Y wn rfl (yx (v := .int .i64 r16.2) (et rfl rfl) rfl) ?_
    refine YB wn rfl (rAl hst ZT_31) ?_
    clear hst
    intro b18 w hst
    refine YT wn rfl (r_stbn (vals' := [h17.v]) (us := [h17.v]) hst ST_31 (et rfl rfl) (et rfl rfl) rfl rfl (one_of rfl) rfl) ?_
    clear hst
    intro w hst
    refine Y wn rfl (ya (v := .int .i64 r16.2) (et rfl rfl)) ?_
    refine wpList_nil ?_
    refine k7 _ _ ?_
    refine seqQ fun Q8 k8 z8 => ?_
    obtain ⟨r19, gr19, hM⟩ := bs hM
    obtain ⟨r21, gr21, hM⟩ := bs hM
    obtain ⟨r23, gr23, hM⟩ := bs hM
    refine joinN (n := 118) (fun f w => ∃ (b28 : Nat) (h29 : Hdr) (h30 : Hdr) (h31 : Hdr), f 0 = .int .i64 r9 ∧ f 1 = .int .i64 r10 ∧ f 9 = .pointer (some ⟨b15, 0, none⟩) ∧ f 10 = .pointer (some ⟨b18, 0, none⟩) ∧ f 11 = .int .i64 r16.2 ∧ f 12 = .pointer (some ⟨b28, 0, none⟩) ∧ f 13 = .int .i64 r23.2.2.2.2.2 ∧ St w0 (imm (rI .i64) h12.v r11.2.2.1 :: imm (rI .i64) h13.v r11.2.2.2.1 :: imm (rI .u64) h14.v r11.2.2.2.2 :: ros) (box b15 27 [.int .i64 r11.1, .int .i64 r11.2.1, h12.v, h13.v, h14.v] :: row 22 (rS (rI .i64)) h17.v r16.1 :: box b18 31 [h17.v] :: row 3 (rI .i64) h29.v r23.2.2.1 :: row 3 (rI .i64) h30.v r23.2.2.2.1 :: row 46 (rI .u64) h31.v r23.2.2.2.2.1 :: box b28 27 [.int .i64 r23.1, .int .i64 r23.2.1, h29.v, h30.v, h31.v] :: rs) w) (fun j1 => ?_) ?_
    · refine wp_drawR [0, 0, 0, 6, 0, 30, 63, 127, 255, 255, 0, 1535, 4095] [3, 5, 6, 10, 11, 12] 6 folM (by kernel_rfl) (by kernel_rfl) (by kernel_rfl) ?_
      replace hst := hst.drew
      refine DRn (l1 := [0, 1, 2, 4]) (l2 := []) (lc := [3, 10]) (by kernel_rfl) (by kernel_rfl) (by kernel_rfl) ?_
      refine Ry rfl rfl wn (yLbs (us := [.int .i64 r11.1, .int .i64 r11.2.1, h12.v, h13.v, h14.v]) ST_27 (et rfl rfl) hst (mtR (mtR mhR)) rfl rfl) ?_
      refine Ry rfl rfl wn (ym (v := h6.v) (et rfl rfl)) ?_
      refine Ry rfl rfl wn (ym (v := .int .i64 r9) (et rfl rfl)) ?_
      refine Ry rfl rfl wn (ym (v := .int .i64 r10) (et rfl rfl)) ?_
      refine Rn QSn ?_
      refine Lc rfl ?_ (Lc rfl ?_ LAn)
      · refine Lk wn (yCall FN_10 (a2 (et rfl rfl) (et rfl rfl))) (sparsekit_Shuffle_ok (hM := gr19) (hst := hst) (q1 := (mtF (mtF (mtF q2))))) ?_
        clear hst
        rintro _ w ⟨h20, rfl, hst⟩
        refine ⟨_, rfl, ?_⟩
        refine DRn (l1 := []) (l2 := [0, 4]) (lc := [5, 10]) (by kernel_rfl) (by kernel_rfl) (by kernel_rfl) ?_
        refine Rn (Sy rfl rfl wn (yLbs (us := [.int .i64 r11.1, .int .i64 r11.2.1, h12.v, h13.v, h14.v]) ST_27 (et rfl rfl) hst (mtR (mtR (mtR mhR))) rfl rfl) rfl (Sy rfl rfl wn (ym (v := .int .i64 r10) (et rfl rfl)) rfl QSn)) ?_
        refine Lc rfl ?_ (Lc rfl ?_ LAn)
        · replace hst := hst.immNh (rI .i64)
          refine Lk wn (yCall FN_10 (a2 rfl (et rfl rfl))) (sparsekit_Shuffle_ok (hM := gr21) (hst := hst) (q1 := mhF)) ?_
          clear hst
          rintro _ w ⟨h22, rfl, hst⟩
          refine ⟨_, rfl, ?_⟩
          refine DRn (l1 := []) (l2 := [0]) (lc := [6, 10]) (by kernel_rfl) (by kernel_rfl) (by kernel_rfl) ?_
          refine Rn (Sy rfl rfl wn (yLbs (us := [.int .i64 r11.1, .int .i64 r11.2.1, h12.v, h13.v, h14.v]) ST_27 (et rfl rfl) hst (mtR (mtR (mtR (mtR mhR)))) rfl rfl) rfl QSn) ?_
          refine Lc rfl ?_ (Lc rfl ?_ LAn)
          · replace hst := hst.pk 2 [1, 0] rfl
            replace hst := hst.fz
            replace hst := hst.fz
            refine Lk wn (yCall FN_9 (a3 (et rfl rfl) (et rfl rfl) (et rfl rfl))) (matrix_Permute_ok (hM := gr23) (hst := hst) (q1 := (mtF (mtF (mtF (mtF (mtF mhF)))))) (q2 := (mtF (mtF (mtF (mtF mhF))))) (q3 := (mtF (mtF (mtF mhF)))) (q4 := (mtF mhF)) (q5 := mhF)) ?_
            clear hst
            rintro _ w ⟨h24, h25, h26, rfl, hst⟩
            refine ⟨_, rfl, ?_⟩
            refine DRn (l1 := [7, 8, 9]) (l2 := []) (lc := [10]) (by kernel_rfl) (by kernel_rfl) (by kernel_rfl) ?_
            refine Ry rfl rfl wn (ym (v := .tuple #[.agg #[.int .i64 r23.1, .int .i64 r23.2.1, h24.v, h25.v, h26.v], .int .i64 r23.2.2.2.2.2]) (et rfl rfl)) ?_
            refine Ry rfl rfl wn (yx (v := .agg #[.int .i64 r23.1, .int .i64 r23.2.1, h24.v, h25.v, h26.v]) (et rfl rfl) rfl) ?_
            refine Ry rfl rfl wn (yx (v := .int .i64 r23.2.2.2.2.2) (et rfl rfl) rfl) ?_
            refine Rn QSn ?_
            refine Lc rfl ?_ LAn
            refine LB wn (rAl hst ZT_27) ?_
            clear hst
            intro b27 w hst
            refine DRn (l1 := []) (l2 := [7, 8, 9]) (lc := [11]) (by kernel_rfl) (by kernel_rfl) (by kernel_rfl) ?_
            refine Rn (Sy rfl rfl wn (ym (v := .tuple #[.agg #[.int .i64 r23.1, .int .i64 r23.2.1, h24.v, h25.v, h26.v], .int .i64 r23.2.2.2.2.2]) (et rfl rfl)) rfl (Sy rfl rfl wn (yx (v := .agg #[.int .i64 r23.1, .int .i64 r23.2.1, h24.v, h25.v, h26.v]) (et rfl rfl) rfl) rfl (Sy rfl rfl wn (yx (v := .int .i64 r23.2.2.2.2.2) (et rfl rfl) rfl) rfl QSn))) ?_
            refine Lc rfl ?_ LAn
            refine LT wn (r_stbn (vals' := [.int .i64 r23.1, .int .i64 r23.2.1, h24.v, h25.v, h26.v]) (us := [.int .i64 r23.1, .int .i64 r23.2.1, h24.v, h25.v, h26.v]) hst ST_27 (et rfl rfl) (et rfl rfl) rfl rfl (one_of rfl) rfl) ?_
            clear hst
            intro w hst
            refine DRn (l1 := []) (l2 := [9]) (lc := [12]) (by kernel_rfl) (by kernel_rfl) (by kernel_rfl) ?_
            refine Rn (Sy rfl rfl wn (yx (v := .int .i64 r23.2.2.2.2.2) (et rfl rfl) rfl) rfl QSn) ?_
            refine Lc rfl ?_ LAn
            refine Ly wn (ya (v := .int .i64 r23.2.2.2.2.2) (et rfl rfl)) ?_
            refine DRz (l1 := []) (l2 := []) (by kernel_rfl) (by kernel_rfl) ?_
            refine Rn QSn ?_
            exact j1 _ _ ⟨_, _, _, _, rfl, rfl, rfl, rfl, rfl, rfl, rfl, ((hst.pk 7 [6, 5, 4, 1, 1, 1, 0] rfl).facts (allC (mtF (mtF (mtF (mtF (mtF mhF))))) (allC (mtF (mtF (mtF (mtF mhF)))) (allC (mtF (mtF (mtF mhF))) (allT (allT (allT (allT (allT (allT allI))))))))))⟩
          · refine LB wn (rAl hst ZT_27) ?_
            clear hst
            intro b27 w hst
            refine DRn (l1 := []) (l2 := [0]) (lc := [6]) (by kernel_rfl) (by kernel_rfl) (by kernel_rfl) ?_
            refine Rn (Sy rfl rfl wn (yLbs (us := [.int .i64 r11.1, .int .i64 r11.2.1, h12.v, h13.v, h14.v]) ST_27 (et rfl rfl) hst (mtR (mtR (mtR (mtR (mtR mhR))))) rfl rfl) rfl QSn) ?_
            refine Lc rfl ?_ LAn
            replace hst := hst.pk 3 [2, 0, 0] rfl
            replace hst := hst.fz
            replace hst := hst.pk 2 [1, 0] rfl
            replace hst := hst.fz
            refine Lk wn (yCall FN_9 (a3 (et rfl rfl) (et rfl rfl) (et rfl rfl))) (matrix_Permute_ok (hM := gr23) (hst := hst) (q1 := (mtF (mtF (mtF (mtF (mtF mhF)))))) (q2 := (mtF (mtF (mtF (mtF mhF))))) (q3 := (mtF (mtF (mtF mhF)))) (q4 := (mtF mhF)) (q5 := mhF)) ?_
            clear hst
            rintro _ w ⟨h24, h25, h26, rfl, hst⟩
            refine ⟨_, rfl, ?_⟩
            refine DRn (l1 := [7, 8, 9]) (l2 := []) (lc := [11]) (by kernel_rfl) (by kernel_rfl) (by kernel_rfl) ?_
            refine Ry rfl rfl wn (ym (v := .tuple #[.agg #[.int .i64 r23.1, .int .i64 r23.2.1, h24.v, h25.v, h26.v], .int .i64 r23.2.2.2.2.2]) (et rfl rfl)) ?_
            refine Ry rfl rfl wn (yx (v := .agg #[.int .i64 r23.1, .int .i64 r23.2.1, h24.v, h25.v, h26.v]) (et rfl rfl) rfl) ?_
            refine Ry rfl rfl wn (yx (v := .int .i64 r23.2.2.2.2.2) (et rfl rfl) rfl) ?_
            refine Rn QSn ?_
            refine Lc rfl ?_ LAn
            replace hst := hst.pk 4 [3, 0, 0, 0] rfl
            refine LT wn (r_stbn (vals' := [.int .i64 r23.1, .int .i64 r23.2.1, h24.v, h25.v, h26.v]) (us := [.int .i64 r23.1, .int .i64 r23.2.1, h24.v, h25.v, h26.v]) hst ST_27 (et rfl rfl) (et rfl rfl) rfl rfl (one_of rfl) rfl) ?_
            clear hst
            intro w hst
            refine DRn (l1 := []) (l2 := [9]) (lc := [12]) (by kernel_rfl) (by kernel_rfl) (by kernel_rfl) ?_
            refine Rn (Sy rfl rfl wn (yx (v := .int .i64 r23.2.2.2.2.2) (et rfl rfl) rfl) rfl QSn) ?_
            refine Lc rfl ?_ LAn
            refine Ly wn (ya (v := .int .i64 r23.2.2.2.2.2) (et rfl rfl)) ?_
            refine DRz (l1 := []) (l2 := []) (by kernel_rfl) (by kernel_rfl) ?_
            refine Rn QSn ?_
            exact j1 _ _ ⟨_, _, _, _, rfl, rfl, rfl, rfl, rfl, rfl, rfl, ((hst.pk 7 [6, 5, 4, 1, 1, 1, 0] rfl).facts (allC (mtF (mtF (mtF (mtF (mtF mhF))))) (allC (mtF (mtF (mtF (mtF mhF)))) (allC (mtF (mtF (mtF mhF))) (allT (allT (allT (allT (allT (allT allI))))))))))⟩
        · refine LB wn (rAl hst ZT_27) ?_
          clear hst
          intro b27 w hst
          refine DRn (l1 := []) (l2 := [0, 4]) (lc := [5]) (by kernel_rfl) (by kernel_rfl) (by kernel_rfl) ?_
          refine Rn (Sy rfl rfl wn (yLbs (us := [.int .i64 r11.1, .int .i64 r11.2.1, h12.v, h13.v, h14.v]) ST_27 (et rfl rfl) hst (mtR (mtR (mtR (mtR mhR)))) rfl rfl) rfl (Sy rfl rfl wn (ym (v := .int .i64 r10) (et rfl rfl)) rfl QSn)) ?_
          refine Lc rfl ?_ LAn
          replace hst := hst.immNh (rI .i64)
          refine Lk wn (yCall FN_10 (a2 rfl (et rfl rfl))) (sparsekit_Shuffle_ok (hM := gr21) (hst := hst) (q1 := mhF)) ?_
          clear hst
          rintro _ w ⟨h22, rfl, hst⟩
          refine ⟨_, rfl, ?_⟩
          refine DRn (l1 := []) (l2 := [0]) (lc := [6]) (by kernel_rfl) (by kernel_rfl) (by kernel_rfl) ?_
          refine Rn (Sy rfl rfl wn (yLbs (us := [.int .i64 r11.1, .int .i64 r11.2.1, h12.v, h13.v, h14.v]) ST_27 (et rfl rfl) hst (mtR (mtR (mtR (mtR (mtR mhR))))) rfl rfl) rfl QSn) ?_
          refine Lc rfl ?_ LAn
          replace hst := hst.pk 3 [2, 0, 0] rfl
          replace hst := hst.fz
          replace hst := hst.fz
          refine Lk wn (yCall FN_9 (a3 (et rfl rfl) (et rfl rfl) (et rfl rfl))) (matrix_Permute_ok (hM := gr23) (hst := hst) (q1 := (mtF (mtF (mtF (mtF (mtF mhF)))))) (q2 := (mtF (mtF (mtF (mtF mhF))))) (q3 := (mtF (mtF (mtF mhF)))) (q4 := (mtF mhF)) (q5 := mhF)) ?_
          clear hst
          rintro _ w ⟨h24, h25, h26, rfl, hst⟩
          refine ⟨_, rfl, ?_⟩
          refine DRn (l1 := [7, 8, 9]) (l2 := []) (lc := [11]) (by kernel_rfl) (by kernel_rfl) (by kernel_rfl) ?_
          refine Ry rfl rfl wn (ym (v := .tuple #[.agg #[.int .i64 r23.1, .int .i64 r23.2.1, h24.v, h25.v, h26.v], .int .i64 r23.2.2.2.2.2]) (et rfl rfl)) ?_
          refine Ry rfl rfl wn (yx (v := .agg #[.int .i64 r23.1, .int .i64 r23.2.1, h24.v, h25.v, h26.v]) (et rfl rfl) rfl) ?_
          refine Ry rfl rfl wn (yx (v := .int .i64 r23.2.2.2.2.2) (et rfl rfl) rfl) ?_
          refine Rn QSn ?_
          refine Lc rfl ?_ LAn
          replace hst := hst.pk 4 [3, 0, 0, 0] rfl
          refine LT wn (r_stbn (vals' := [.int .i64 r23.1, .int .i64 r23.2.1, h24.v, h25.v, h26.v]) (us := [.int .i64 r23.1, .int .i64 r23.2.1, h24.v, h25.v, h26.v]) hst ST_27 (et rfl rfl) (et rfl rfl) rfl rfl (one_of rfl) rfl) ?_
          clear hst
          intro w hst
          refine DRn (l1 := []) (l2 := [9]) (lc := [12]) (by kernel_rfl) (by kernel_rfl) (by kernel_rfl) ?_
          refine Rn (Sy rfl rfl wn (yx (v := .int .i64 r23.2.2.2.2.2) (et rfl rfl) rfl) rfl QSn) ?_
          refine Lc rfl ?_ LAn
          refine Ly wn (ya (v := .int .i64 r23.2.2.2.2.2) (et rfl rfl)) ?_
          refine DRz (l1 := []) (l2 := []) (by kernel_rfl) (by kernel_rfl) ?_
          refine Rn QSn ?_
          exact j1 _ _ ⟨_, _, _, _, rfl, rfl, rfl, rfl, rfl, rfl, rfl, ((hst.pk 7 [6, 5, 4, 1, 1, 1, 0] rfl).facts (allC (mtF (mtF (mtF (mtF (mtF mhF))))) (allC (mtF (mtF (mtF (mtF mhF)))) (allC (mtF (mtF (mtF mhF))) (allT (allT (allT (allT (allT (allT allI))))))))))⟩
      · refine LB wn (rAl hst ZT_27) ?_
        clear hst
        intro b27 w hst
        refine DRn (l1 := []) (l2 := [0, 1, 2, 4]) (lc := [3]) (by kernel_rfl) (by kernel_rfl) (by kernel_rfl) ?_
        refine Rn (Sy rfl rfl wn (yLbs (us := [.int .i64 r11.1, .int .i64 r11.2.1, h12.v, h13.v, h14.v]) ST_27 (et rfl rfl) hst (mtR (mtR (mtR mhR))) rfl rfl) rfl (Sy rfl rfl wn (ym (v := h6.v) (et rfl rfl)) rfl (Sy rfl rfl wn (ym (v := .int .i64 r9) (et rfl rfl)) rfl (Sy rfl rfl wn (ym (v := .int .i64 r10) (et rfl rfl)) rfl QSn)))) ?_
        refine Lc rfl ?_ LAn
        refine Lk wn (yCall FN_10 (a2 (et rfl rfl) (et rfl rfl))) (sparsekit_Shuffle_ok (hM := gr19) (hst := hst) (q1 := (mtF (mtF (mtF q2))))) ?_
        clear hst
        rintro _ w ⟨h20, rfl, hst⟩
        refine ⟨_, rfl, ?_⟩
        refine DRn (l1 := []) (l2 := [0, 4]) (lc := [5]) (by kernel_rfl) (by kernel_rfl) (by kernel_rfl) ?_
        refine Rn (Sy rfl rfl wn (yLbs (us := [.int .i64 r11.1, .int .i64 r11.2.1, h12.v, h13.v, h14.v]) ST_27 (et rfl rfl) hst (mtR (mtR (mtR (mtR mhR)))) rfl rfl) rfl (Sy rfl rfl wn (ym (v := .int .i64 r10) (et rfl rfl)) rfl QSn)) ?_
        refine Lc rfl ?_ LAn
        replace hst := hst.immNh (rI .i64)
        refine Lk wn (yCall FN_10 (a2 rfl (et rfl rfl))) (sparsekit_Shuffle_ok (hM := gr21) (hst := hst) (q1 := mhF)) ?_
        clear hst
        rintro _ w ⟨h22, rfl, hst⟩
        refine ⟨_, rfl, ?_⟩
        refine DRn (l1 := []) (l2 := [0]) (lc := [6]) (by kernel_rfl) (by kernel_rfl) (by kernel_rfl) ?_
        refine Rn (Sy rfl rfl wn (yLbs (us := [.int .i64 r11.1, .int .i64 r11.2.1, h12.v, h13.v, h14.v]) ST_27 (et rfl rfl) hst (mtR (mtR (mtR (mtR (mtR mhR))))) rfl rfl) rfl QSn) ?_
        refine Lc rfl ?_ LAn
        replace hst := hst.pk 2 [1, 0] rfl
        replace hst := hst.fz
        replace hst := hst.fz
        refine Lk wn (yCall FN_9 (a3 (et rfl rfl) (et rfl rfl) (et rfl rfl))) (matrix_Permute_ok (hM := gr23) (hst := hst) (q1 := (mtF (mtF (mtF (mtF (mtF mhF)))))) (q2 := (mtF (mtF (mtF (mtF mhF))))) (q3 := (mtF (mtF (mtF mhF)))) (q4 := (mtF mhF)) (q5 := mhF)) ?_
        clear hst
        rintro _ w ⟨h24, h25, h26, rfl, hst⟩
        refine ⟨_, rfl, ?_⟩
        refine DRn (l1 := [7, 8, 9]) (l2 := []) (lc := [11]) (by kernel_rfl) (by kernel_rfl) (by kernel_rfl) ?_
        refine Ry rfl rfl wn (ym (v := .tuple #[.agg #[.int .i64 r23.1, .int .i64 r23.2.1, h24.v, h25.v, h26.v], .int .i64 r23.2.2.2.2.2]) (et rfl rfl)) ?_
        refine Ry rfl rfl wn (yx (v := .agg #[.int .i64 r23.1, .int .i64 r23.2.1, h24.v, h25.v, h26.v]) (et rfl rfl) rfl) ?_
        refine Ry rfl rfl wn (yx (v := .int .i64 r23.2.2.2.2.2) (et rfl rfl) rfl) ?_
        refine Rn QSn ?_
        refine Lc rfl ?_ LAn
        replace hst := hst.pk 4 [3, 0, 0, 0] rfl
        refine LT wn (r_stbn (vals' := [.int .i64 r23.1, .int .i64 r23.2.1, h24.v, h25.v, h26.v]) (us := [.int .i64 r23.1, .int .i64 r23.2.1, h24.v, h25.v, h26.v]) hst ST_27 (et rfl rfl) (et rfl rfl) rfl rfl (one_of rfl) rfl) ?_
        clear hst
        intro w hst
        refine DRn (l1 := []) (l2 := [9]) (lc := [12]) (by kernel_rfl) (by kernel_rfl) (by kernel_rfl) ?_
        refine Rn (Sy rfl rfl wn (yx (v := .int .i64 r23.2.2.2.2.2) (et rfl rfl) rfl) rfl QSn) ?_
        refine Lc rfl ?_ LAn
        refine Ly wn (ya (v := .int .i64 r23.2.2.2.2.2) (et rfl rfl)) ?_
        refine DRz (l1 := []) (l2 := []) (by kernel_rfl) (by kernel_rfl) ?_
        refine Rn QSn ?_
        exact j1 _ _ ⟨_, _, _, _, rfl, rfl, rfl, rfl, rfl, rfl, rfl, ((hst.pk 7 [6, 5, 4, 1, 1, 1, 0] rfl).facts (allC (mtF (mtF (mtF (mtF (mtF mhF))))) (allC (mtF (mtF (mtF (mtF mhF)))) (allC (mtF (mtF (mtF mhF))) (allT (allT (allT (allT (allT (allT allI))))))))))⟩
    clear hst
    rintro f w ⟨b28, h29, h30, h31, e32_0, e32_1, e32_9, e32_10, e32_11, e32_12, e32_13, hst⟩
    refine k8 _ _ ?_
    refine seqQ fun Q9 k9 z9 => ?_
    refine wp_region_lit ?_
    refine Y wn rfl (yLbs (us := [.int .i64 r23.1, .int .i64 r23.2.1, h29.v, h30.v, h31.v]) ST_27 (et rfl e32_12) hst (mtR (mtR (mtR (mtR (mtR (mtR mhR)))))) rfl rfl) ?_
    obtain ⟨r33, gr33, hM⟩ := bs hM
    replace hst := hst.pk 4 [3, 0, 0, 0] rfl
    replace hst := hst.fz
    replace hst := hst.pk 4 [3, 0, 0, 0] rfl
    replace hst := hst.fz
    replace hst := hst.pk 4 [3, 0, 0, 0] rfl
    replace hst := hst.fz
    refine Yc wn rfl (yCall FN_8 (a1 (et rfl rfl))) (graph_FromNormal_ok (hM := gr33) (hst := hst) (q1 := (mtF (mtF mhF))) (q2 := (mtF mhF)) (q3 := mhF)) ?_
    clear hst
    rintro _ w ⟨h34, rfl, hst⟩
    refine ⟨_, rfl, ?_⟩
    refine Y wn rfl (ym (v := .tuple #[.agg #[h34.v], .int .i64 r33.2]) (et rfl rfl)) ?_
    refine Y wn rfl (yx (v := .agg #[h34.v]) (et rfl rfl) rfl) ?_
    refine Y wn rfl (yx (v := .int .i64 r33.2) (et rfl rfl) rfl) ?_
    refine YB wn rfl (rAl hst ZT_31) ?_
    clear hst
    intro b35 w hst
    refine YT wn rfl (r_stbn (vals' := [h34.v]) (us := [h34.v]) hst ST_31 (et rfl rfl) (et rfl rfl) rfl rfl (one_of rfl) rfl) ?_
    clear hst
    intro w hst
    refine Y wn rfl (ya (v := .int .i64 r33.2) (et rfl rfl)) ?_
    refine wpList_nil ?_
    refine k9 _ _ ?_
    refine seqQ fun Q10 k10 z10 => ?_
    refine seqQ fun Q11 k11 z11 => ?_
    refine wp_region_lit ?_
    refine Y wn rfl (ym (v := .int .i64 r16.2) (et rfl e32_11)) ?_
    refine Y wn rfl (yneq (et rfl rfl) rfl) ?_
    refine Y wn rfl (ym (v := .bool (!(decide (r16.2 = 0)))) (et rfl rfl)) ?_
    refine joinW 3 (fun f w => f 0 = .int .i64 r9 ∧ f 1 = .int .i64 r10 ∧ f 9 = .pointer (some ⟨b15, 0, none⟩) ∧ f 10 = .pointer (some ⟨b18, 0, none⟩) ∧ f 14 = .pointer (some ⟨b35, 0, none⟩) ∧ f 15 = .int .i64 r33.2 ∧ f 57 = .bool ((!(decide (r16.2 = 0))) || (!(decide (r23.2.2.2.2.2 = 0)))) ∧ St w0 (imm (rI .i64) h12.v r11.2.2.1 :: imm (rI .i64) h13.v r11.2.2.2.1 :: imm (rI .u64) h14.v r11.2.2.2.2 :: ros) (box b15 27 [.int .i64 r11.1, .int .i64 r11.2.1, h12.v, h13.v, h14.v] :: row 22 (rS (rI .i64)) h17.v r16.1 :: box b18 31 [h17.v] :: row 22 (rS (rI .i64)) h34.v r33.1 :: box b35 31 [h34.v] :: rs) w) (fun j2 => ?_) ?_
    · rcases Bool.eq_false_or_eq_true (!(decide (r16.2 = 0))) with c37 | c37
      · refine Gn (wx rfl rfl rfl c37) rfl ?_
        refine Gn (wx rfl rfl rfl c37) rfl ?_
        refine Y wn rfl (ypt (v := .bool true) (et rfl rfl) c37 rfl) ?_
        exact j2 _ _ ⟨e32_0, e32_1, e32_9, e32_10, rfl, rfl, (congrArg Value.bool (orT c37)), ((hst.pk 6 [2, 2, 2, 1, 0] rfl).facts (allC (mtF (mtF (mtF mhF))) (allC (mtF (mtF (mtF (mtF mhF)))) (allC (mtF (mtF (mtF (mtF (mtF mhF))))) (allT (allT (allT (allT (allT (allT allI))))))))))⟩
      · refine Y (wg rfl rfl rfl c37) rfl (ym (v := .int .i64 r23.2.2.2.2.2) (et rfl e32_13)) ?_
        refine Y (wg rfl rfl rfl c37) rfl (yneq (et rfl rfl) rfl) ?_
        refine Y wn rfl (ypf (v := .bool (!(decide (r23.2.2.2.2.2 = 0)))) (et rfl rfl) c37 (et rfl rfl)) ?_
        exact j2 _ _ ⟨e32_0, e32_1, e32_9, e32_10, rfl, rfl, (congrArg Value.bool (orF c37)), ((hst.pk 6 [2, 2, 2, 1, 0] rfl).facts (allC (mtF (mtF (mtF mhF))) (allC (mtF (mtF (mtF (mtF mhF)))) (allC (mtF (mtF (mtF (mtF (mtF mhF))))) (allT (allT (allT (allT (allT (allT allI))))))))))⟩
    clear hst
    rintro f w ⟨e36_0, e36_1, e36_9, e36_10, e36_14, e36_15, e36_57, hst⟩
    refine Y wn rfl (ym (v := .bool ((!(decide (r16.2 = 0))) || (!(decide (r23.2.2.2.2.2 = 0))))) (et rfl e36_57)) ?_
    refine joinW 3 (fun f w => f 0 = .int .i64 r9 ∧ f 1 = .int .i64 r10 ∧ f 9 = .pointer (some ⟨b15, 0, none⟩) ∧ f 10 = .pointer (some ⟨b18, 0, none⟩) ∧ f 14 = .pointer (some ⟨b35, 0, none⟩) ∧ f 61 = .bool (((!(decide (r16.2 = 0))) || (!(decide (r23.2.2.2.2.2 = 0)))) || (!(decide (r33.2 = 0)))) ∧ St w0 (imm (rI .i64) h12.v r11.2.2.1 :: imm (rI .i64) h13.v r11.2.2.2.1 :: imm (rI .u64) h14.v r11.2.2.2.2 :: ros) (box b15 27 [.int .i64 r11.1, .int .i64 r11.2.1, h12.v, h13.v, h14.v] :: row 22 (rS (rI .i64)) h17.v r16.1 :: box b18 31 [h17.v] :: row 22 (rS (rI .i64)) h34.v r33.1 :: box b35 31 [h34.v] :: rs) w) (fun j3 => ?_) ?_
    · rcases Bool.eq_false_or_eq_true (((!(decide (r16.2 = 0))) || (!(decide (r23.2.2.2.2.2 = 0))))) with c39 | c39
      · refine Gn (wx rfl rfl rfl c39) rfl ?_
        refine Gn (wx rfl rfl rfl c39) rfl ?_
        refine Y wn rfl (ypt (v := .bool true) (et rfl rfl) c39 rfl) ?_
        exact j3 _ _ ⟨e36_0, e36_1, e36_9, e36_10, e36_14, (congrArg Value.bool (orT c39)), hst⟩
      · refine Y (wg rfl rfl rfl c39) rfl (ym (v := .int .i64 r33.2) (et rfl e36_15)) ?_
        refine Y (wg rfl rfl rfl c39) rfl (yneq (et rfl rfl) rfl) ?_
        refine Y wn rfl (ypf (v := .bool (!(decide (r33.2 = 0)))) (et rfl rfl) c39 (et rfl rfl)) ?_
        exact j3 _ _ ⟨e36_0, e36_1, e36_9, e36_10, e36_14, (congrArg Value.bool (orF c39)), hst⟩
    clear hst
    rintro f w ⟨e38_0, e38_1, e38_9, e38_10, e38_14, e38_61, hst⟩
    refine Y wn rfl (ym (v := .bool (((!(decide (r16.2 = 0))) || (!(decide (r23.2.2.2.2.2 = 0)))) || (!(decide (r33.2 = 0))))) (et rfl e38_61)) ?_
    refine joinW 6 (fun f w => f 0 = .int .i64 r9 ∧ f 1 = .int .i64 r10 ∧ f 9 = .pointer (some ⟨b15, 0, none⟩) ∧ f 10 = .pointer (some ⟨b18, 0, none⟩) ∧ f 14 = .pointer (some ⟨b35, 0, none⟩) ∧ f 68 = .bool ((((!(decide (r16.2 = 0))) || (!(decide (r23.2.2.2.2.2 = 0)))) || (!(decide (r33.2 = 0)))) || (!(decide ((r16.1.length : Int) = r10)))) ∧ St w0 (imm (rI .i64) h12.v r11.2.2.1 :: imm (rI .i64) h13.v r11.2.2.2.1 :: imm (rI .u64) h14.v r11.2.2.2.2 :: ros) (box b15 27 [.int .i64 r11.1, .int .i64 r11.2.1, h12.v, h13.v, h14.v] :: row 22 (rS (rI .i64)) h17.v r16.1 :: box b18 31 [h17.v] :: row 22 (rS (rI .i64)) h34.v r33.1 :: box b35 31 [h34.v] :: rs) w) (fun j4 => ?_) ?_
    · rcases Bool.eq_false_or_eq_true ((((!(decide (r16.2 = 0))) || (!(decide (r23.2.2.2.2.2 = 0)))) || (!(decide (r33.2 = 0))))) with c41 | c41
      · refine Gn (wx rfl rfl rfl c41) rfl ?_
        refine Gn (wx rfl rfl rfl c41) rfl ?_
        refine Gn (wx rfl rfl rfl c41) rfl ?_
        refine Gn (wx rfl rfl rfl c41) rfl ?_
        refine Gn (wx rfl rfl rfl c41) rfl ?_
        refine Y wn rfl (ypt (v := .bool true) (et rfl rfl) c41 rfl) ?_
        exact j4 _ _ ⟨e38_0, e38_1, e38_9, e38_10, e38_14, (congrArg Value.bool (orT c41)), hst⟩
      · refine Y (wg rfl rfl rfl c41) rfl (yFb FL_31_0 (et rfl e38_10)) ?_
        refine Y (wg rfl rfl rfl c41) rfl (yLb (u := h17.v) O_29 (et rfl rfl) hst (mtR (mtR mhR)) rfl) ?_
        refine Y (wg rfl rfl rfl c41) rfl (yLen SL_29 (et rfl rfl) hst (rdO (mtR mhR))) ?_
        refine Y (wg rfl rfl rfl c41) rfl (ym (v := .int .i64 r10) (et rfl e38_1)) ?_
        refine Y (wg rfl rfl rfl c41) rfl (yneq (et rfl rfl) (et rfl rfl)) ?_
        refine Y wn rfl (ypf (v := .bool (!(decide ((r16.1.length : Int) = r10)))) (et rfl rfl) c41 (et rfl rfl)) ?_
        exact j4 _ _ ⟨e38_0, e38_1, e38_9, e38_10, e38_14, (congrArg Value.bool (orF c41)), hst⟩
    clear hst
    rintro f w ⟨e40_0, e40_1, e40_9, e40_10, e40_14, e40_68, hst⟩
    refine Y wn rfl (ym (v := .bool ((((!(decide (r16.2 = 0))) || (!(decide (r23.2.2.2.2.2 = 0)))) || (!(decide (r33.2 = 0)))) || (!(decide ((r16.1.length : Int) = r10))))) (et rfl e40_68)) ?_
    obtain ⟨r43, gr43, hM⟩ := bs hM
    refine joinW 5 (fun f w => f 0 = .int .i64 r9 ∧ f 1 = .int .i64 r10 ∧ f 9 = .pointer (some ⟨b15, 0, none⟩) ∧ f 10 = .pointer (some ⟨b18, 0, none⟩) ∧ f 74 = .bool r43 ∧ St w0 (imm (rI .i64) h12.v r11.2.2.1 :: imm (rI .i64) h13.v r11.2.2.2.1 :: imm (rI .u64) h14.v r11.2.2.2.2 :: imm (rS (rI .i64)) h17.v r16.1 :: ros) (box b15 27 [.int .i64 r11.1, .int .i64 r11.2.1, h12.v, h13.v, h14.v] :: box b18 31 [h17.v] :: rs) w) (fun j5 => ?_) ?_
    · rcases iteS gr43 with ⟨c45, gr43⟩ | ⟨c45, gr43⟩
      · refine Gn (wx rfl rfl rfl c45) rfl ?_
        refine Gn (wx rfl rfl rfl c45) rfl ?_
        refine Gn (wx rfl rfl rfl c45) rfl ?_
        refine Gn (wx rfl rfl rfl c45) rfl ?_
        refine Y wn rfl (ypt (v := .bool true) (et rfl rfl) c45 rfl) ?_
        obtain rfl := someI gr43
        replace hst := hst.pk 2 [1, 0] rfl
        replace hst := hst.fz
        exact j5 _ _ ⟨e40_0, e40_1, e40_9, e40_10, rfl, ((hst.pk 4 [0, 0] rfl).facts (allC (mtF mhF) (allC (mtF (mtF mhF)) (allC (mtF (mtF (mtF mhF))) (allC mhF (allT (allT (allT (allT allI)))))))))⟩
      · refine Y (wg rfl rfl rfl (bfalse c45)) rfl (yLbs (us := [h17.v]) ST_31 (et rfl e40_10) hst (mtR (mtR mhR)) rfl rfl) ?_
        refine Y (wg rfl rfl rfl (bfalse c45)) rfl (yLbs (us := [h34.v]) ST_31 (et rfl e40_14) hst (mtR (mtR (mtR (mtR mhR)))) rfl rfl) ?_
        obtain ⟨r46, gr46, gr43⟩ := bs gr43
        replace hst := hst.pk 2 [1, 0] rfl
        replace hst := hst.fz
        replace hst := hst.pk 3 [2, 0, 0] rfl
        replace hst := hst.fz
        refine Yc (wg rfl rfl rfl (bfalse c45)) rfl (yCall FN_11 (a2 (et rfl rfl) (et rfl rfl))) (sparsekit_Graph_ok (hM := gr46) (hst := hst) (q1 := (mtF mhF)) (q2 := mhF)) ?_
        clear hst
        rintro _ w ⟨rfl, hst⟩
        refine ⟨_, rfl, ?_⟩
        refine Y (wg rfl rfl rfl (bfalse c45)) rfl (ynot (et rfl rfl)) ?_
        refine Y wn rfl (ypf (v := .bool (!(r46))) (et rfl rfl) (bfalse c45) (et rfl rfl)) ?_
        obtain rfl := someI gr43
        exact j5 _ _ ⟨e40_0, e40_1, e40_9, e40_10, rfl, ((hst.pk 3 [0, 0] rfl).facts (allC (mtF (mtF mhF)) (allC (mtF (mtF (mtF mhF))) (allC (mtF (mtF (mtF (mtF mhF)))) (allC (mtF mhF) (allT (allT (allT (allT (allT allI))))))))))⟩
    clear hst
    rintro f w ⟨e44_0, e44_1, e44_9, e44_10, e44_74, hst⟩
    refine wpList_nil ?_
    refine k11 _ _ ?_
    rcases iteS hM with ⟨c47, hM⟩ | ⟨c47, hM⟩
    · refine condT (et rfl e44_74) c47 ?_
      refine seqQ fun Q12 k12 z12 => ?_
      refine wp_region_lit ?_
      refine Y wn rfl (ya (v := .bool false) rfl) ?_
      refine wpList_nil ?_
      refine k12 _ _ ?_
      refine wp_ret ?_
      refine z10 _ _ _ rfl ?_
      obtain rfl := someI hM
      exact hQ _ _ _ (fin1r Tryz.results3 ⟨rfl, rfl⟩ ⟨rfl, ((hst.pk 2 [] rfl).facts (allT (allT (allT (allT allI)))))⟩)
    · refine condF (et rfl e44_74) (bfalse c47) ?_
      refine wp_skip ?_
      refine k10 _ _ ?_
      refine seqQ fun Q13 k13 z13 => ?_
      refine seqQ fun Q14 k14 z14 => ?_
      refine wp_region_lit ?_
      refine Y wn rfl (ya (v := .int .i64 0) rfl) ?_
      refine wpList_nil ?_
      refine k14 _ _ ?_
      refine blockQ fun Q15 qb15 => ?_
      obtain ⟨o86, go86, hM⟩ := bs hM
      have je86_0 : ∀ (f : Nat → Value) (w : World), St w0 (ros) (rs) w → .inl () = o86 → Q15 (.exit 0) (fr 118 f) w := by
        intro f w hst ho
        subst ho
        refine qb15 _ _ _ ?_
        refine k13 _ _ ?_
        refine seqQ fun Q160 k160 z160 => ?_
        refine wp_region_lit ?_
        obtain ⟨r470, gr470, hM⟩ := bs hM
        refine Yc wn rfl (yCall FN_5 a0) (sparselaw12_awake_ok (hM := gr470) (hst := hst) ) ?_
        clear hst
        rintro _ w ⟨rfl, hst⟩
        refine ⟨_, rfl, ?_⟩
        refine Y wn rfl (ya (v := .bool r470) (et rfl rfl)) ?_
        refine wpList_nil ?_
        refine k160 _ _ ?_
        refine wp_ret ?_
        obtain rfl := someI hM
        exact hQ _ _ _ (fin1r Tryz.results3 ⟨rfl, rfl⟩ ⟨rfl, hst⟩)
      have je86_1 : ∀ (f : Nat → Value) (w : World), f 8 = .bool false → St w0 (ros) (rs) w → .inr () = o86 → Q15 .ret (fr 118 f) w := by
        intro f w eje86_1_8 hst ho
        subst ho
        refine qb15 _ _ _ ?_
        refine z13 _ _ _ rfl ?_
        obtain rfl := someI hM
        exact hQ _ _ _ (fin1r Tryz.results3 ⟨rfl, eje86_1_8⟩ ⟨rfl, hst⟩)
      refine loopQ (fun s a w => ∃ (x258 : Int) (f : Nat → Value), x258 = s ∧ a = fr 118 f ∧ f 0 = .int .i64 r9 ∧ f 1 = .int .i64 r10 ∧ f 9 = .pointer (some ⟨b15, 0, none⟩) ∧ f 10 = .pointer (some ⟨b18, 0, none⟩) ∧ f 16 = .int .i64 x258 ∧ St w0 (imm (rI .i64) h12.v r11.2.2.1 :: imm (rI .i64) h13.v r11.2.2.2.1 :: imm (rI .u64) h14.v r11.2.2.2.2 :: imm (rS (rI .i64)) h17.v r16.1 :: ros) (box b15 27 [.int .i64 r11.1, .int .i64 r11.2.1, h12.v, h13.v, h14.v] :: box b18 31 [h17.v] :: rs) w) go86 ⟨_, _, rfl, rfl, e44_0, e44_1, e44_9, e44_10, rfl, hst⟩ ?_
      clear hst
      rintro _ _ w r86_ ⟨x258, f, rfl, rfl, e86_0, e86_1, e86_9, e86_10, e86_16, hst⟩ hM86 ho86 Q100086 n86 zz86
      refine seqQ fun Q161 k161 z161 => ?_
      refine seqQ fun Q162 k162 z162 => ?_
      refine wp_region_lit ?_
      refine Y wn rfl (ym (v := .int .i64 x258) (et rfl e86_16)) ?_
      refine Y wn rfl (ym (v := .int .i64 r10) (et rfl e86_1)) ?_
      refine Y wn rfl (ylss (et rfl rfl) (et rfl rfl)) ?_
      refine wpList_nil ?_
      refine k162 _ _ ?_
      rcases iteS hM86 with ⟨c471, hM86⟩ | ⟨c471, hM86⟩
      · refine condT (et rfl rfl) (decide_eq_true c471) ?_
        refine wp_skip ?_
        refine k161 _ _ ?_
        refine seqQ fun Q163 k163 z163 => ?_
        refine blockQ fun Q164 qb164 => ?_
        refine seqQ fun Q165 k165 z165 => ?_
        refine wp_region_lit ?_
        refine Y wn rfl (ya (v := .int .i64 0) rfl) ?_
        refine wpList_nil ?_
        refine k165 _ _ ?_
        refine blockQ fun Q166 qb166 => ?_
        obtain ⟨o113, go113, hM86⟩ := bs hM86
        have je113_0 : ∀ (f : Nat → Value) (w : World), f 0 = .int .i64 r9 → f 1 = .int .i64 r10 → f 9 = .pointer (some ⟨b15, 0, none⟩) → f 10 = .pointer (some ⟨b18, 0, none⟩) → f 16 = .int .i64 x258 → St w0 (imm (rI .i64) h12.v r11.2.2.1 :: imm (rI .i64) h13.v r11.2.2.2.1 :: imm (rI .u64) h14.v r11.2.2.2.2 :: imm (rS (rI .i64)) h17.v r16.1 :: ros) (box b15 27 [.int .i64 r11.1, .int .i64 r11.2.1, h12.v, h13.v, h14.v] :: box b18 31 [h17.v] :: rs) w → .inl () = o113 → Q166 (.exit 2) (fr 118 f) w := by
          intro f w eje113_0_0 eje113_0_1 eje113_0_9 eje113_0_10 eje113_0_16 hst ho
          subst ho
          refine qb166 _ _ _ ?_
          refine qb164 _ _ _ ?_
          refine k163 _ _ ?_
          refine wp_region_lit ?_
          refine Y wn rfl (ym (v := .int .i64 x258) (et rfl eje113_0_16)) ?_
          refine Y wn rfl (yadd (et rfl rfl) rfl) ?_
          refine Y wn rfl (ya (v := .int .i64 (wa .i64 x258 1)) (et rfl rfl)) ?_
          refine wpList_nil ?_
          obtain rfl := someI hM86
          exact n86 _ _ _ rfl ⟨_, _, rfl, rfl, eje113_0_0, eje113_0_1, eje113_0_9, eje113_0_10, rfl, hst⟩
        have je113_1 : ∀ (f : Nat → Value) (w : World), f 8 = .bool false → St w0 (ros) (rs) w → .inr () = o113 → Q166 .ret (fr 118 f) w := by
          intro f w eje113_1_8 hst ho
          subst ho
          refine qb166 _ _ _ ?_
          refine qb164 _ _ _ ?_
          refine z163 _ _ _ rfl ?_
          obtain rfl := someI hM86
          refine zz86 _ _ _ _ rfl rfl ?_
          exact je86_1 _ _ eje113_1_8 hst (ho86 _ rfl)
        refine loopQ (fun s a w => ∃ (x541 : Int) (f : Nat → Value), x541 = s ∧ a = fr 118 f ∧ f 0 = .int .i64 r9 ∧ f 1 = .int .i64 r10 ∧ f 9 = .pointer (some ⟨b15, 0, none⟩) ∧ f 10 = .pointer (some ⟨b18, 0, none⟩) ∧ f 16 = .int .i64 x258 ∧ f 17 = .int .i64 x541 ∧ St w0 (imm (rI .i64) h12.v r11.2.2.1 :: imm (rI .i64) h13.v r11.2.2.2.1 :: imm (rI .u64) h14.v r11.2.2.2.2 :: imm (rS (rI .i64)) h17.v r16.1 :: ros) (box b15 27 [.int .i64 r11.1, .int .i64 r11.2.1, h12.v, h13.v, h14.v] :: box b18 31 [h17.v] :: rs) w) go113 ⟨_, _, rfl, rfl, e86_0, e86_1, e86_9, e86_10, e86_16, rfl, hst⟩ ?_
        clear hst
        rintro _ _ w r113_ ⟨x541, f, rfl, rfl, e113_0, e113_1, e113_9, e113_10, e113_16, e113_17, hst⟩ hM113 ho113 Q100113 n113 zz113
        refine seqQ fun Q211 k211 z211 => ?_
        refine seqQ fun Q212 k212 z212 => ?_
        refine wp_region_lit ?_
        refine Y wn rfl (ym (v := .int .i64 x541) (et rfl e113_17)) ?_
        refine Y wn rfl (ym (v := .int .i64 r10) (et rfl e113_1)) ?_
        refine Y wn rfl (ylss (et rfl rfl) (et rfl rfl)) ?_
        refine wpList_nil ?_
        refine k212 _ _ ?_
        rcases iteS hM113 with ⟨c612, hM113⟩ | ⟨c612, hM113⟩
        · refine condT (et rfl rfl) (decide_eq_true c612) ?_
          refine wp_skip ?_
          refine k211 _ _ ?_
          refine seqQ fun Q213 k213 z213 => ?_
          refine blockQ fun Q214 qb214 => ?_
          refine seqQ fun Q215 k215 z215 => ?_
          refine wp_region_lit ?_
          refine Y wn rfl (ya (v := .bool false) rfl) ?_
          refine wpList_nil ?_
          refine k215 _ _ ?_
          refine seqQ fun Q216 k216 z216 => ?_
          refine seqQ fun Q217 k217 z217 => ?_
          refine wp_region_lit ?_
          refine Y wn rfl (ya (v := .int .i64 0) rfl) ?_
          refine wpList_nil ?_
          refine k217 _ _ ?_
          refine blockQ fun Q218 qb218 => ?_
          obtain ⟨o121, go121, hM113⟩ := bs hM113
          have je121_0 : ∀ (x652 : Bool) (f : Nat → Value) (w : World), f 0 = .int .i64 r9 → f 1 = .int .i64 r10 → f 9 = .pointer (some ⟨b15, 0, none⟩) → f 10 = .pointer (some ⟨b18, 0, none⟩) → f 16 = .int .i64 x258 → f 17 = .int .i64 x541 → f 18 = .bool x652 → St w0 (imm (rI .i64) h12.v r11.2.2.1 :: imm (rI .i64) h13.v r11.2.2.2.1 :: imm (rI .u64) h14.v r11.2.2.2.2 :: imm (rS (rI .i64)) h17.v r16.1 :: ros) (box b15 27 [.int .i64 r11.1, .int .i64 r11.2.1, h12.v, h13.v, h14.v] :: box b18 31 [h17.v] :: rs) w → x652 = o121 → Q218 (.exit 4) (fr 118 f) w := by
            intro x652 f w eje121_0_0 eje121_0_1 eje121_0_9 eje121_0_10 eje121_0_16 eje121_0_17 eje121_0_18 hst ho
            subst ho
            refine qb218 _ _ _ ?_
            refine k216 _ _ ?_
            refine seqQ fun Q227 k227 z227 => ?_
            refine wp_region_lit ?_
            refine Y wn rfl (yFb FL_31_0 (et rfl eje121_0_10)) ?_
            refine Y wn rfl (yLb (u := h17.v) O_29 (et rfl rfl) hst (mtR mhR) rfl) ?_
            refine Y wn rfl (ym (v := .int .i64 x258) (et rfl eje121_0_16)) ?_
            obtain ⟨x653, gx653, hM113⟩ := bs hM113
            refine Y wn rfl (yIa SL_29 (et rfl rfl) (et rfl rfl) hst (rdI (mtF (mtF (mtF mhF)))) gx653) ?_
            obtain ⟨h654, hst⟩ := iLs hst (mtF (mtF (mtF mhF))) gx653
            refine Y wn rfl (yCt O_22 (et rfl rfl) hst (mtF mhF) rfl) ?_
            refine Y wn rfl (ym (v := .int .i64 x541) (et rfl eje121_0_17)) ?_
            obtain ⟨r655, gr655, hM113⟩ := bs hM113
            refine Yc wn rfl (yCall FN_13 (a2 (et rfl rfl) (et rfl rfl))) (sparsekit_In_ok (hM := gr655) (hst := hst) (q1 := mhF)) ?_
            clear hst
            rintro _ w ⟨rfl, hst⟩
            refine ⟨_, rfl, ?_⟩
            refine Y wn rfl (ym (v := .bool x652) (et rfl eje121_0_18)) ?_
            refine Y wn rfl (yneb (by kernel_rfl) (et rfl rfl) (et rfl rfl)) ?_
            refine wpList_nil ?_
            refine k227 _ _ ?_
            rcases iteS hM113 with ⟨c656, hM113⟩ | ⟨c656, hM113⟩
            · refine condF (et rfl rfl) (nF c656) ?_
              refine wp_skip ?_
              refine qb214 _ _ _ ?_
              refine k213 _ _ ?_
              refine wp_region_lit ?_
              refine Y wn rfl (ym (v := .int .i64 x541) (et rfl eje121_0_17)) ?_
              refine Y wn rfl (yadd (et rfl rfl) rfl) ?_
              refine Y wn rfl (ya (v := .int .i64 (wa .i64 x541 1)) (et rfl rfl)) ?_
              refine wpList_nil ?_
              obtain rfl := someI hM113
              exact n113 _ _ _ rfl ⟨_, _, rfl, rfl, eje121_0_0, eje121_0_1, eje121_0_9, eje121_0_10, eje121_0_16, rfl, (hst.facts (allC (mtF (mtF mhF)) (allC (mtF (mtF (mtF mhF))) (allC (mtF (mtF (mtF (mtF mhF)))) (allC (mtF (mtF (mtF (mtF (mtF mhF))))) (allT (allT (allT (allT (allT (allT allI)))))))))))⟩
            · refine condT (et rfl rfl) (nT (bfalse c656)) ?_
              refine seqQ fun Q228 k228 z228 => ?_
              refine wp_region_lit ?_
              refine Y wn rfl (ya (v := .bool false) rfl) ?_
              refine wpList_nil ?_
              refine k228 _ _ ?_
              refine wp_ret ?_
              refine qb214 _ _ _ ?_
              refine z213 _ _ _ rfl ?_
              obtain rfl := someI hM113
              refine zz113 _ _ _ _ rfl rfl ?_
              exact je113_1 _ _ rfl ((hst.pk 2 [] rfl).facts (allT (allT (allT (allT (allT (allT allI))))))) (ho113 _ rfl)
          refine loopQ (fun s a w => ∃ (x624 : Bool) (x625 : Int) (f : Nat → Value), (x624, x625) = s ∧ a = fr 118 f ∧ f 0 = .int .i64 r9 ∧ f 1 = .int .i64 r10 ∧ f 9 = .pointer (some ⟨b15, 0, none⟩) ∧ f 10 = .pointer (some ⟨b18, 0, none⟩) ∧ f 16 = .int .i64 x258 ∧ f 17 = .int .i64 x541 ∧ f 18 = .bool x624 ∧ f 19 = .int .i64 x625 ∧ St w0 (imm (rI .i64) h12.v r11.2.2.1 :: imm (rI .i64) h13.v r11.2.2.2.1 :: imm (rI .u64) h14.v r11.2.2.2.2 :: imm (rS (rI .i64)) h17.v r16.1 :: ros) (box b15 27 [.int .i64 r11.1, .int .i64 r11.2.1, h12.v, h13.v, h14.v] :: box b18 31 [h17.v] :: rs) w) go121 ⟨_, _, _, rfl, rfl, e113_0, e113_1, e113_9, e113_10, e113_16, e113_17, rfl, rfl, hst⟩ ?_
          clear hst
          rintro _ _ w r121_ ⟨x624, x625, f, rfl, rfl, e121_0, e121_1, e121_9, e121_10, e121_16, e121_17, e121_18, e121_19, hst⟩ hM121 ho121 Q100121 n121 zz121
          refine seqQ fun Q229 k229 z229 => ?_
          refine seqQ fun Q230 k230 z230 => ?_
          refine wp_region_lit ?_
          refine Y wn rfl (ym (v := .int .i64 x625) (et rfl e121_19)) ?_
          refine Y wn rfl (ym (v := .int .i64 r9) (et rfl e121_0)) ?_
          refine Y wn rfl (ylss (et rfl rfl) (et rfl rfl)) ?_
          refine wpList_nil ?_
          refine k230 _ _ ?_
          rcases iteS hM121 with ⟨c657, hM121⟩ | ⟨c657, hM121⟩
          · refine condT (et rfl rfl) (decide_eq_true c657) ?_
            refine wp_skip ?_
            refine k229 _ _ ?_
            refine seqQ fun Q231 k231 z231 => ?_
            refine blockQ fun Q232 qb232 => ?_
            refine wp_region_lit ?_
            refine Y wn rfl (ym (v := .bool x624) (et rfl e121_18)) ?_
            refine Y wn rfl (ym (v := .bool x624) (et rfl rfl)) ?_
            obtain ⟨r668, gr668, hM121⟩ := bs hM121
            refine joinW 16 (fun f w => f 0 = .int .i64 r9 ∧ f 1 = .int .i64 r10 ∧ f 9 = .pointer (some ⟨b15, 0, none⟩) ∧ f 10 = .pointer (some ⟨b18, 0, none⟩) ∧ f 16 = .int .i64 x258 ∧ f 17 = .int .i64 x541 ∧ f 19 = .int .i64 x625 ∧ f 107 = .bool r668 ∧ St w0 (imm (rI .i64) h12.v r11.2.2.1 :: imm (rI .i64) h13.v r11.2.2.2.1 :: imm (rI .u64) h14.v r11.2.2.2.2 :: imm (rS (rI .i64)) h17.v r16.1 :: ros) (box b15 27 [.int .i64 r11.1, .int .i64 r11.2.1, h12.v, h13.v, h14.v] :: box b18 31 [h17.v] :: rs) w) (fun j124 => ?_) ?_
            · rcases iteS gr668 with ⟨c670, gr668⟩ | ⟨c670, gr668⟩
              · refine Gn (wx rfl rfl rfl c670) rfl ?_
                refine Gn (wx rfl rfl rfl c670) rfl ?_
                refine Gn (wx rfl rfl rfl c670) rfl ?_
                refine Gn (wx rfl rfl rfl c670) rfl ?_
                refine Gn (wxu rfl rfl rfl) rfl ?_
                refine Gn (wxu rfl rfl rfl) rfl ?_
                refine Gn (wxu rfl rfl rfl) rfl ?_
                refine Gn (wxu rfl rfl rfl) rfl ?_
                refine Gn (wx rfl rfl rfl c670) rfl ?_
                refine Gn (wx rfl rfl rfl c670) rfl ?_
                refine Gn (wxu rfl rfl rfl) rfl ?_
                refine Gn (wxu rfl rfl rfl) rfl ?_
                refine Gn (wxu rfl rfl rfl) rfl ?_
                refine Gn (wxu rfl rfl rfl) rfl ?_
                refine Gn (wx rfl rfl rfl c670) rfl ?_
                refine Y wn rfl (ypt (v := .bool true) (et rfl rfl) c670 rfl) ?_
                obtain rfl := someI gr668
                exact j124 _ _ ⟨e121_0, e121_1, e121_9, e121_10, e121_16, e121_17, e121_19, rfl, hst⟩
              · refine Y (wg rfl rfl rfl (bfalse c670)) rfl (ym (v := .int .i64 x258) (et rfl e121_16)) ?_
                refine Y (wg rfl rfl rfl (bfalse c670)) rfl (ym (v := .int .i64 x541) (et rfl e121_17)) ?_
                refine Y (wg rfl rfl rfl (bfalse c670)) rfl (yneq (et rfl rfl) (et rfl rfl)) ?_
                refine Y (wg rfl rfl rfl (bfalse c670)) rfl (ym (v := .bool (!(decide (x258 = x541)))) (et rfl rfl)) ?_
                obtain ⟨r672, gr672, gr668⟩ := bs gr668
                refine joinW 5 (fun f w => f 0 = .int .i64 r9 ∧ f 1 = .int .i64 r10 ∧ f 9 = .pointer (some ⟨b15, 0, none⟩) ∧ f 10 = .pointer (some ⟨b18, 0, none⟩) ∧ f 16 = .int .i64 x258 ∧ f 17 = .int .i64 x541 ∧ f 19 = .int .i64 x625 ∧ f 91 = .bool x624 ∧ f 92 = .int .i64 x258 ∧ f 93 = .int .i64 x541 ∧ f 94 = .bool (!(decide (x258 = x541))) ∧ f 95 = .bool (!(decide (x258 = x541))) ∧ f 100 = .bool r672 ∧ St w0 (imm (rI .i64) h12.v r11.2.2.1 :: imm (rI .i64) h13.v r11.2.2.2.1 :: imm (rI .u64) h14.v r11.2.2.2.2 :: imm (rS (rI .i64)) h17.v r16.1 :: ros) (box b15 27 [.int .i64 r11.1, .int .i64 r11.2.1, h12.v, h13.v, h14.v] :: box b18 31 [h17.v] :: rs) w) (fun j125 => ?_) ?_
                · rcases iteS gr672 with ⟨c674, gr672⟩ | ⟨c674, gr672⟩
                  · refine Gn (wx rfl rfl rfl (nF (decide_eq_true c674))) rfl ?_
                    refine Gn (wx rfl rfl rfl (nF (decide_eq_true c674))) rfl ?_
                    refine Gn (wx rfl rfl rfl (nF (decide_eq_true c674))) rfl ?_
                    refine Gn (wx rfl rfl rfl (nF (decide_eq_true c674))) rfl ?_
                    refine Y (wg rfl rfl rfl (bfalse c670)) rfl (ypf (v := .bool false) (et rfl rfl) (nF (decide_eq_true c674)) rfl) ?_
                    obtain rfl := someI gr672
                    exact j125 _ _ ⟨e121_0, e121_1, e121_9, e121_10, e121_16, e121_17, e121_19, rfl, rfl, rfl, rfl, rfl, rfl, hst⟩
                  · refine Y (wg rfl rfl rfl (nT (decide_eq_false c674))) rfl (yLbs (us := [.int .i64 r11.1, .int .i64 r11.2.1, h12.v, h13.v, h14.v]) ST_27 (et rfl e121_9) hst mhR rfl rfl) ?_
                    refine Y (wg rfl rfl rfl (nT (decide_eq_false c674))) rfl (ym (v := .int .i64 x625) (et rfl e121_19)) ?_
                    refine Y (wg rfl rfl rfl (nT (decide_eq_false c674))) rfl (ym (v := .int .i64 x258) (et rfl e121_16)) ?_
                    obtain ⟨r675, gr675, gr672⟩ := bs gr672
                    refine Yc (wg rfl rfl rfl (nT (decide_eq_false c674))) rfl (yCall FN_12 (a3 (et rfl rfl) (et rfl rfl) (et rfl rfl))) (sparseref09_Stored_ok (hM := gr675) (hst := hst) (q1 := mhF) (q2 := (mtF mhF)) (q3 := (mtF (mtF mhF)))) ?_
                    clear hst
                    rintro _ w ⟨rfl, hst⟩
                    refine ⟨_, rfl, ?_⟩
                    refine Y (wg rfl rfl rfl (bfalse c670)) rfl (ypt (v := .bool r675) (et rfl rfl) (nT (decide_eq_false c674)) (et rfl rfl)) ?_
                    obtain rfl := someI gr672
                    exact j125 _ _ ⟨e121_0, e121_1, e121_9, e121_10, e121_16, e121_17, e121_19, rfl, rfl, rfl, rfl, rfl, rfl, hst⟩
                clear hst
                rintro f w ⟨e673_0, e673_1, e673_9, e673_10, e673_16, e673_17, e673_19, e673_91, e673_92, e673_93, e673_94, e673_95, e673_100, hst⟩
                refine Y (wg rfl rfl e673_91 (bfalse c670)) rfl (ym (v := .bool r672) (et rfl e673_100)) ?_
                obtain ⟨r677, gr677, gr668⟩ := bs gr668
                refine joinW 5 (fun f w => f 0 = .int .i64 r9 ∧ f 1 = .int .i64 r10 ∧ f 9 = .pointer (some ⟨b15, 0, none⟩) ∧ f 10 = .pointer (some ⟨b18, 0, none⟩) ∧ f 16 = .int .i64 x258 ∧ f 17 = .int .i64 x541 ∧ f 19 = .int .i64 x625 ∧ f 91 = .bool x624 ∧ f 92 = .int .i64 x258 ∧ f 93 = .int .i64 x541 ∧ f 94 = .bool (!(decide (x258 = x541))) ∧ f 95 = .bool (!(decide (x258 = x541))) ∧ f 100 = .bool r672 ∧ f 101 = .bool r672 ∧ f 106 = .bool r677 ∧ St w0 (imm (rI .i64) h12.v r11.2.2.1 :: imm (rI .i64) h13.v r11.2.2.2.1 :: imm (rI .u64) h14.v r11.2.2.2.2 :: imm (rS (rI .i64)) h17.v r16.1 :: ros) (box b15 27 [.int .i64 r11.1, .int .i64 r11.2.1, h12.v, h13.v, h14.v] :: box b18 31 [h17.v] :: rs) w) (fun j126 => ?_) ?_
                · rcases iteS gr677 with ⟨c679, gr677⟩ | ⟨c679, gr677⟩
                  · refine Y (wg rfl rfl rfl c679) rfl (yLbs (us := [.int .i64 r11.1, .int .i64 r11.2.1, h12.v, h13.v, h14.v]) ST_27 (et rfl e673_9) hst mhR rfl rfl) ?_
                    refine Y (wg rfl rfl rfl c679) rfl (ym (v := .int .i64 x625) (et rfl e673_19)) ?_
                    refine Y (wg rfl rfl rfl c679) rfl (ym (v := .int .i64 x541) (et rfl e673_17)) ?_
                    obtain ⟨r680, gr680, gr677⟩ := bs gr677
                    refine Yc (wg rfl rfl rfl c679) rfl (yCall FN_12 (a3 (et rfl rfl) (et rfl rfl) (et rfl rfl))) (sparseref09_Stored_ok (hM := gr680) (hst := hst) (q1 := mhF) (q2 := (mtF mhF)) (q3 := (mtF (mtF mhF)))) ?_
                    clear hst
                    rintro _ w ⟨rfl, hst⟩
                    refine ⟨_, rfl, ?_⟩
                    refine Y (wg rfl rfl e673_91 (bfalse c670)) rfl (ypt (v := .bool r680) (et rfl rfl) c679 (et rfl rfl)) ?_
                    obtain rfl := someI gr677
                    exact j126 _ _ ⟨e673_0, e673_1, e673_9, e673_10, e673_16, e673_17, e673_19, e673_91, e673_92, e673_93, e673_94, e673_95, e673_100, rfl, rfl, hst⟩
                  · refine Gn (wx rfl rfl rfl (bfalse c679)) rfl ?_
                    refine Gn (wx rfl rfl rfl (bfalse c679)) rfl ?_
                    refine Gn (wx rfl rfl rfl (bfalse c679)) rfl ?_
                    refine Gn (wx rfl rfl rfl (bfalse c679)) rfl ?_
                    refine Y (wg rfl rfl e673_91 (bfalse c670)) rfl (ypf (v := .bool false) (et rfl rfl) (bfalse c679) rfl) ?_
                    obtain rfl := someI gr677
                    exact j126 _ _ ⟨e673_0, e673_1, e673_9, e673_10, e673_16, e673_17, e673_19, e673_91, e673_92, e673_93, e673_94, e673_95, e673_100, rfl, rfl, hst⟩
                clear hst
                rintro f w ⟨e678_0, e678_1, e678_9, e678_10, e678_16, e678_17, e678_19, e678_91, e678_92, e678_93, e678_94, e678_95, e678_100, e678_101, e678_106, hst⟩
                refine Y wn rfl (ypf (v := .bool r677) (et rfl e678_91) (bfalse c670) (et rfl e678_106)) ?_
                obtain rfl := someI gr668
                exact j124 _ _ ⟨e678_0, e678_1, e678_9, e678_10, e678_16, e678_17, e678_19, rfl, hst⟩
            clear hst
            rintro f w ⟨e669_0, e669_1, e669_9, e669_10, e669_16, e669_17, e669_19, e669_107, hst⟩
            refine Y wn rfl (ya (v := .bool r668) (et rfl e669_107)) ?_
            refine wpList_nil ?_
            refine qb232 _ _ _ ?_
            refine k231 _ _ ?_
            refine wp_region_lit ?_
            refine Y wn rfl (ym (v := .int .i64 x625) (et rfl e669_19)) ?_
            refine Y wn rfl (yadd (et rfl rfl) rfl) ?_
            refine Y wn rfl (ya (v := .int .i64 (wa .i64 x625 1)) (et rfl rfl)) ?_
            refine wpList_nil ?_
            obtain rfl := someI hM121
            exact n121 _ _ _ rfl ⟨_, _, _, rfl, rfl, e669_0, e669_1, e669_9, e669_10, e669_16, e669_17, rfl, rfl, hst⟩
          · refine condF (et rfl rfl) (decide_eq_false c657) ?_
            refine wp_exit ?_
            refine z229 _ _ _ rfl ?_
            obtain rfl := someI hM121
            refine zz121 _ _ _ _ rfl rfl ?_
            exact je121_0 _ _ _ e121_0 e121_1 e121_9 e121_10 e121_16 e121_17 e121_18 hst (ho121 _ rfl)
        · refine condF (et rfl rfl) (decide_eq_false c612) ?_
          refine wp_exit ?_
          refine z211 _ _ _ rfl ?_
          obtain rfl := someI hM113
          refine zz113 _ _ _ _ rfl rfl ?_
          exact je113_0 _ _ e113_0 e113_1 e113_9 e113_10 e113_16 hst (ho113 _ rfl)
      · refine condF (et rfl rfl) (decide_eq_false c471) ?_
        refine wp_exit ?_
        refine z161 _ _ _ rfl ?_
        obtain rfl := someI hM86
        refine zz86 _ _ _ _ rfl rfl ?_
        exact je86_0 _ _ ((hst.pk 2 [] rfl).facts (allT (allT (allT (allT allI))))) (ho86 _ rfl)

theorem graph_FromMatrix_ok {w0 : World} {ros : List Fact} {rs : List Res} {w : World} {x1 : Int} {x2 : Int} {x3 : List Int} {x5 : List Int} {x7 : List Int} {h4 : Hdr} {h6 : Hdr} {h8 : Hdr} {out : (List (List Int)) × Int} (hM : graph_FromMatrix x1 x2 x3 x5 x7 = some out) (q1 : imm (rI .i64) h4.v x3 ∈ ros) (q2 : imm (rI .i64) h6.v x5 ∈ ros) (q3 : imm (rI .u64) h8.v x7 ∈ ros) (hst : St w0 ros (rs) w) :
    Calls Tryz.prog 14 #[.agg #[.int .i64 x1, .int .i64 x2, h4.v, h6.v, h8.v]] w (fun e w => ∃ (h100001 : Hdr), e = .returned (.tuple #[.agg #[h100001.v], .int .i64 out.2]) ∧ St w0 (ros) (row 22 (rS (rI .i64)) h100001.v out.1 :: rs) w) := by
  refine enterQ Tryz.func14 rfl Tryz.ntmps14 rfl fun Q hQ => ?_
  refine seqQ fun Q1 k1 z1 => ?_
  refine wp_region_lit ?_
  refine YB wn rfl (r_box (vals := [.int .i64 x1, .int .i64 x2, h4.v, h6.v, h8.v]) hst (et rfl rfl) rfl) ?_
  clear hst
  intro b9 w hst
  refine YB wn rfl (rAl hst ZT_31) ?_
  clear hst
  intro b10 w hst
  refine Y wn rfl (ya (v := .int .i64 0) rfl) ?_
  refine wpList_nil ?_
  refine k1 _ _ ?_
  refine seqQ fun Q2 k2 z2 => ?_
  refine wp_region_lit ?_
  refine Y wn rfl (yLbs (us := [.int .i64 x1, .int .i64 x2, h4.v, h6.v, h8.v]) ST_27 (et rfl rfl) hst (mtR mhR) rfl rfl) ?_
  obtain ⟨r11, gr11, hM⟩ := bs hM
  refine Yc wn rfl (yCall FN_25 (a1 (et rfl rfl))) (matrix_Check_ok (hM := gr11) (hst := hst) (q1 := q1) (q2 := q2) (q3 := q3)) ?_
  clear hst
  rintro _ w ⟨rfl, hst⟩
  refine ⟨_, rfl, ?_⟩
  refine Y wn rfl (ya (v := .int .i64 r11) (et rfl rfl)) ?_
  refine wpList_nil ?_
  refine k2 _ _ ?_
  refine seqQ fun Q3 k3 z3 => ?_
  refine blockQ fun Q4 qb4 => ?_
  refine seqQ fun Q5 k5 z5 => ?_
  refine wp_region_lit ?_
  refine Y wn rfl (ym (v := .int .i64 r11) (et rfl rfl)) ?_
  refine Y wn rfl (yneq (et rfl rfl) rfl) ?_
  refine Y wn rfl (ya (v := .bool (!(decide (r11 = 0)))) (et rfl rfl)) ?_
  refine wpList_nil ?_
  refine k5 _ _ ?_
  rcases iteS hM with ⟨c12, hM⟩ | ⟨c12, hM⟩
  · refine condF (et rfl rfl) (nF (decide_eq_true c12)) ?_
    refine seqQ fun Q6 k6 z6 => ?_
    refine wp_region_lit ?_
    refine Y wn rfl (yFb FL_27_0 (et rfl rfl)) ?_
    refine Y wn rfl (yLb (u := .int .i64 x1) O_3 (et rfl rfl) hst (mtR mhR) rfl) ?_
    refine Y wn rfl (yFb FL_27_1 (et rfl rfl)) ?_
    refine Y wn rfl (yLb (u := .int .i64 x2) O_3 (et rfl rfl) hst (mtR mhR) rfl) ?_
    refine Y wn rfl (yneq (et rfl rfl) (et rfl rfl)) ?_
    refine Y wn rfl (ya (v := .bool (!(decide (x1 = x2)))) (et rfl rfl)) ?_
    refine wpList_nil ?_
    refine k6 _ _ ?_
    rcases iteS hM with ⟨c13, hM⟩ | ⟨c13, hM⟩
    · refine condF (et rfl rfl) (nF (decide_eq_true c13)) ?_
      refine wp_skip ?_
      refine qb4 _ _ _ ?_
      refine k3 _ _ ?_
      refine seqQ fun Q7 k7 z7 => ?_
      refine wp_region_lit ?_
      refine Y wn rfl (yFb FL_27_1 (et rfl rfl)) ?_
      refine Y wn rfl (yLb (u := .int .i64 x2) O_3 (et rfl rfl) hst (mtR mhR) rfl) ?_
      obtain ⟨r14, gr14, hM⟩ := bs hM
      refine Yc wn rfl (yCall FN_27 (a1 (et rfl rfl))) (graph_NewSets_ok (hM := gr14) (hst := hst) ) ?_
      clear hst
      rintro _ w ⟨h15, y16, rfl, hst⟩
      refine ⟨_, rfl, ?_⟩
      refine Y wn rfl (ya (v := h15.v) (et rfl rfl)) ?_
      refine wpList_nil ?_
      refine k7 _ _ ?_
      refine seqQ fun Q8 k8 z8 => ?_
      refine seqQ fun Q9 k9 z9 => ?_
      refine wp_region_lit ?_
      refine Y wn rfl (yLbs (us := [.int .i64 x1, .int .i64 x2, h4.v, h6.v, h8.v]) ST_27 (et rfl rfl) hst (mtR (mtR (mtR mhR))) rfl rfl) ?_
      obtain ⟨r17, gr17, hM⟩ := bs hM
      refine Yc wn rfl (yCall FN_26 (a1 (et rfl rfl))) (matrix_Entries_ok (hM := gr17) (hst := hst) (q1 := q1) (q2 := q2) (q3 := q3)) ?_
      clear hst
      rintro _ w ⟨h18, rfl, hst⟩
      refine ⟨_, rfl, ?_⟩
      refine Y wn rfl (yLen SL_54 (et rfl rfl) hst (rdO mhR)) ?_
      refine Y wn rfl (ym (v := .int .i64 0) rfl) ?_
      refine wpList_nil ?_
      refine k9 _ _ ?_
      refine blockQ fun Q10 qb10 => ?_
      obtain ⟨o1, go1, hM⟩ := bs hM
      have je1_0 : ∀ (x31 : List (List Bool)) (f : Nat → Value) (w : World), f 2 = .pointer (some ⟨b10, 0, none⟩) → f 5 = h15.v → St w0 (ros) (box b10 31 [hnil.v] :: row 76 rH h15.v y16 :: fam 4 rB y16 x31 :: rs) w → x31 = o1 → Q10 (.exit 1) (fr 41 f) w := by
        intro x31 f w eje1_0_2 eje1_0_5 hst ho
        subst ho
        refine qb10 _ _ _ ?_
        refine k8 _ _ ?_
        refine seqQ fun Q21 k21 z21 => ?_
        refine wp_region_lit ?_
        refine Y wn rfl (ym (v := h15.v) (et rfl eje1_0_5)) ?_
        obtain ⟨r32, gr32, hM⟩ := bs hM
        replace hst := hst.pk 3 [1, 1, 0] rfl
        replace hst := hst.ffz
        refine Yc wn rfl (yCall FN_29 (a1 (et rfl rfl))) (graph_Sets_Graph_ok (hM := gr32) (hst := hst) (q1 := mhF)) ?_
        clear hst
        rintro _ w ⟨h33, rfl, hst⟩
        refine ⟨_, rfl, ?_⟩
        replace hst := hst.pk 2 [1, 0] rfl
        refine YT wn rfl (r_stbn (vals' := [h33.v]) (us := [h33.v]) hst ST_31 (et rfl eje1_0_2) (et rfl rfl) rfl rfl (one_of rfl) rfl) ?_
        clear hst
        intro w hst
        refine Y wn rfl (ya (v := .int .i64 0) rfl) ?_
        refine wpList_nil ?_
        refine k21 _ _ ?_
        refine wp_ret ?_
        obtain rfl := someI hM
        exact hQ _ _ _ (fin2r Tryz.results14 (rcs2 rfl eje1_0_2 hst mhR ST_31 rfl) ⟨rfl, rfl⟩ ⟨_, rfl, ((hst.pk 2 [1] rfl).facts (allT allI))⟩)
      refine loopQ (fun s a w => ∃ (x23 : List (List Bool)) (x24 : Int) (f : Nat → Value), (x23, x24) = s ∧ a = fr 41 f ∧ f 2 = .pointer (some ⟨b10, 0, none⟩) ∧ f 5 = h15.v ∧ f 26 = h18.v ∧ f 27 = .int .i64 (r17.length : Int) ∧ f 28 = .int .i64 x24 ∧ St w0 (ros) (box b10 31 [hnil.v] :: row 76 rH h15.v y16 :: fam 4 rB y16 x23 :: row 57 rTi64i64u64 h18.v r17 :: rs) w) go1 ⟨_, _, _, rfl, rfl, rfl, rfl, rfl, rfl, rfl, (hst.pk 5 [3, 1, 1, 0] rfl)⟩ ?_
      clear hst
      rintro _ _ w r1_ ⟨x23, x24, f, rfl, rfl, e1_2, e1_5, e1_26, e1_27, e1_28, hst⟩ hM1 ho1 Q100001 n1 zz1
      refine seqQ fun Q22 k22 z22 => ?_
      refine wp_region_lit ?_
      refine Y wn rfl (ylss (et rfl e1_28) (et rfl e1_27)) ?_
      refine wpList_nil ?_
      refine k22 _ _ ?_
      refine seqQ fun Q23 k23 z23 => ?_
      rcases iteS hM1 with ⟨c34, hM1⟩ | ⟨c34, hM1⟩
      · refine condT (et rfl rfl) (decide_eq_true c34) ?_
        refine wp_skip ?_
        refine k23 _ _ ?_
        refine seqQ fun Q24 k24 z24 => ?_
        refine blockQ fun Q25 qb25 => ?_
        refine seqQ fun Q26 k26 z26 => ?_
        refine wp_region_lit ?_
        obtain ⟨x35, gx35, hM1⟩ := bs hM1
        refine Y wn rfl (yIa SL_54 (et rfl e1_26) (et rfl e1_28) hst (rdO (mtR (mtR (mtR mhR)))) gx35) ?_
        refine Y wn rfl (yFn ST_57 (et rfl rfl) hst (rdO (mtR (mtR (mtR mhR)))) gx35 rfl) ?_
        refine YB wn rfl (rAl hst ZT_57) ?_
        clear hst
        intro b36 w hst
        refine YT wn rfl (r_stbn (vals' := [.int .i64 x35.1, .int .i64 x35.2.1, .int .u64 x35.2.2]) (us := [.int .i64 x35.1, .int .i64 x35.2.1, .int .u64 x35.2.2]) hst ST_57 (et rfl rfl) (et rfl rfl) rfl rfl (one_of rfl) rfl) ?_
        clear hst
        intro w hst
        refine wpList_nil ?_
        refine k26 _ _ ?_
        refine wp_region_lit ?_
        refine Y wn rfl (ym (v := h15.v) (et rfl e1_5)) ?_
        refine Y wn rfl (yFb FL_57_0 (et rfl rfl)) ?_
        refine Y wn rfl (yLb (u := .int .i64 x35.1) O_3 (et rfl rfl) hst mhR rfl) ?_
        refine Y wn rfl (yFb FL_57_1 (et rfl rfl)) ?_
        refine Y wn rfl (yLb (u := .int .i64 x35.2.1) O_3 (et rfl rfl) hst mhR rfl) ?_
        obtain ⟨r37, gr37, hM1⟩ := bs hM1
        replace hst := hst.pk 4 [2, 2, 0, 0] rfl
        refine Yc wn rfl (yCall FN_28 (a3 (et rfl rfl) (et rfl rfl) (et rfl rfl))) (graph_Sets_Join_ok (hM := gr37) (hst := hst) ) ?_
        clear hst
        rintro _ w ⟨rfl, hst⟩
        refine ⟨_, rfl, ?_⟩
        refine wpList_nil ?_
        refine qb25 _ _ _ ?_
        refine k24 _ _ ?_
        refine wp_region_lit ?_
        refine Y wn rfl (yadd (et rfl e1_28) rfl) ?_
        refine Y wn rfl (ym (v := .int .i64 (wa .i64 x24 1)) (et rfl rfl)) ?_
        refine wpList_nil ?_
        obtain rfl := someI hM1
        exact n1 _ _ _ rfl ⟨_, _, _, rfl, rfl, e1_2, e1_5, e1_26, e1_27, rfl, (hst.pk 5 [3, 0, 0, 1] rfl)⟩
      · refine condF (et rfl rfl) (decide_eq_false c34) ?_
        refine wp_exit ?_
        refine z23 _ _ _ rfl ?_
        obtain rfl := someI hM1
        refine zz1 _ _ _ _ rfl rfl ?_
        exact je1_0 _ _ _ e1_2 e1_5 (hst.pk 4 [0, 0, 0] rfl) (ho1 _ rfl)
    · refine condT (et rfl rfl) (nT (decide_eq_false c13)) ?_
      refine seqQ fun Q27 k27 z27 => ?_
      refine wp_region_lit ?_
      refine Y wn rfl (ybuild (us := [hnil.v]) [] SO_31 bp0 rfl) ?_
      refine YT wn rfl (r_stbn (vals' := [hnil.v]) (us := [hnil.v]) hst ST_31 (et rfl rfl) (et rfl rfl) rfl rfl (one_of rfl) rfl) ?_
      clear hst
      intro w hst
      refine Y wn rfl (ya (v := .int .i64 5) rfl) ?_
      refine wpList_nil ?_
      refine k27 _ _ ?_
      refine wp_ret ?_
      refine qb4 _ _ _ ?_
      refine z3 _ _ _ rfl ?_
      obtain rfl := someI hM
      replace hst := hst.rowNh 22 (rS (rI .i64))
      exact hQ _ _ _ (fin2r Tryz.results14 (rcs2 rfl rfl hst (mtR mhR) ST_31 rfl) ⟨rfl, rfl⟩ ⟨_, rfl, (hst.pk 3 [0] rfl)⟩)
  · refine condT (et rfl rfl) (nT (decide_eq_false c12)) ?_
    refine seqQ fun Q28 k28 z28 => ?_
    refine wp_region_lit ?_
    refine Y wn rfl (ybuild (us := [hnil.v]) [] SO_31 bp0 rfl) ?_
    refine Y wn rfl (ym (v := .int .i64 r11) (et rfl rfl)) ?_
    refine YT wn rfl (r_stbn (vals' := [hnil.v]) (us := [hnil.v]) hst ST_31 (et rfl rfl) (et rfl rfl) rfl rfl (one_of rfl) rfl) ?_
    clear hst
    intro w hst
    refine Y wn rfl (ya (v := .int .i64 r11) (et rfl rfl)) ?_
    refine wpList_nil ?_
    refine k28 _ _ ?_
    refine wp_ret ?_
    refine qb4 _ _ _ ?_
    refine z3 _ _ _ rfl ?_
    obtain rfl := someI hM
    replace hst := hst.rowNh 22 (rS (rI .i64))
    exact hQ _ _ _ (fin2r Tryz.results14 (rcs2 rfl rfl hst (mtR mhR) ST_31 rfl) ⟨rfl, rfl⟩ ⟨_, rfl, (hst.pk 3 [0] rfl)⟩)

theorem matrix_Transpose_ok {w0 : World} {ros : List Fact} {rs : List Res} {w : World} {x1 : Int} {x2 : Int} {x3 : List Int} {x5 : List Int} {x7 : List Int} {h4 : Hdr} {h6 : Hdr} {h8 : Hdr} {out : Int × Int × (List Int) × (List Int) × (List Int) × Int} (hM : matrix_Transpose x1 x2 x3 x5 x7 = some out) (q1 : imm (rI .i64) h4.v x3 ∈ ros) (q2 : imm (rI .i64) h6.v x5 ∈ ros) (q3 : imm (rI .u64) h8.v x7 ∈ ros) (hst : St w0 ros (rs) w) :
    Calls Tryz.prog 15 #[.agg #[.int .i64 x1, .int .i64 x2, h4.v, h6.v, h8.v]] w (fun e w => ∃ (h100003 : Hdr) (h100005 : Hdr) (h100007 : Hdr), e = .returned (.tuple #[.agg #[.int .i64 out.1, .int .i64 out.2.1, h100003.v, h100005.v, h100007.v], .int .i64 out.2.2.2.2.2]) ∧ St w0 (ros) (row 3 (rI .i64) h100003.v out.2.2.1 :: row 3 (rI .i64) h100005.v out.2.2.2.1 :: row 46 (rI .u64) h100007.v out.2.2.2.2.1 :: rs) w) := by
  refine enterQ Tryz.func15 rfl Tryz.ntmps15 rfl fun Q hQ => ?_
  refine seqQ fun Q1 k1 z1 => ?_
  refine wp_region_lit ?_
  refine YB wn rfl (r_box (vals := [.int .i64 x1, .int .i64 x2, h4.v, h6.v, h8.v]) hst (et rfl rfl) rfl) ?_
  clear hst
  intro b9 w hst
  refine YB wn rfl (rAl hst ZT_27) ?_
  clear hst
  intro b10 w hst
  refine Y wn rfl (ya (v := .int .i64 0) rfl) ?_
  refine wpList_nil ?_
  refine k1 _ _ ?_
  refine seqQ fun Q2 k2 z2 => ?_
  refine wp_region_lit ?_
  refine Y wn rfl (yLbs (us := [.int .i64 x1, .int .i64 x2, h4.v, h6.v, h8.v]) ST_27 (et rfl rfl) hst (mtR mhR) rfl rfl) ?_
  obtain ⟨r11, gr11, hM⟩ := bs hM
  refine Yc wn rfl (yCall FN_25 (a1 (et rfl rfl))) (matrix_Check_ok (hM := gr11) (hst := hst) (q1 := q1) (q2 := q2) (q3 := q3)) ?_
  clear hst
  rintro _ w ⟨rfl, hst⟩
  refine ⟨_, rfl, ?_⟩
  refine Y wn rfl (ya (v := .int .i64 r11) (et rfl rfl)) ?_
  refine wpList_nil ?_
  refine k2 _ _ ?_
  refine seqQ fun Q3 k3 z3 => ?_
  refine seqQ fun Q4 k4 z4 => ?_
  refine wp_region_lit ?_
  refine Y wn rfl (ym (v := .int .i64 r11) (et rfl rfl)) ?_
  refine Y wn rfl (yneq (et rfl rfl) rfl) ?_
  refine wpList_nil ?_
  refine k4 _ _ ?_
  rcases iteS hM with ⟨c12, hM⟩ | ⟨c12, hM⟩
  · refine condF (et rfl rfl) (nF (decide_eq_true c12)) ?_
    refine wp_skip ?_
    refine k3 _ _ ?_
    refine seqQ fun Q5 k5 z5 => ?_
    refine wp_region_lit ?_
    refine Y wn rfl (yLbs (us := [.int .i64 x1, .int .i64 x2, h4.v, h6.v, h8.v]) ST_27 (et rfl rfl) hst (mtR mhR) rfl rfl) ?_
    obtain ⟨r13, gr13, hM⟩ := bs hM
    refine Yc wn rfl (yCall FN_32 (a1 (et rfl rfl))) (matrix_entries_ok (hM := gr13) (hst := hst) (q1 := q1) (q2 := q2) (q3 := q3)) ?_
    clear hst
    rintro _ w ⟨h14, rfl, hst⟩
    refine ⟨_, rfl, ?_⟩
    refine Y wn rfl (ya (v := h14.v) (et rfl rfl)) ?_
    refine wpList_nil ?_
    refine k5 _ _ ?_
    refine seqQ fun Q6 k6 z6 => ?_
    refine seqQ fun Q7 k7 z7 => ?_
    refine wp_region_lit ?_
    refine Y wn rfl (ym (v := h14.v) (et rfl rfl)) ?_
    refine Y wn rfl (yLen SL_54 (et rfl rfl) hst (rdO mhR)) ?_
    refine Y wn rfl (ym (v := .int .i64 0) rfl) ?_
    refine wpList_nil ?_
    refine k7 _ _ ?_
    refine blockQ fun Q8 qb8 => ?_
    obtain ⟨o1, go1, hM⟩ := bs hM
    have je1_0 : ∀ (x37 : List (Int × Int × Int)) (f : Nat → Value) (w : World), f 1 = .pointer (some ⟨b9, 0, none⟩) → f 2 = .pointer (some ⟨b10, 0, none⟩) → f 5 = h14.v → St w0 (ros) (box b9 27 [.int .i64 x1, .int .i64 x2, h4.v, h6.v, h8.v] :: box b10 27 [.int .i64 0, .int .i64 0, hnil.v, hnil.v, hnil.v] :: row 57 rTi64i64u64 h14.v x37 :: rs) w → x37 = o1 → Q8 (.exit 0) (fr 42 f) w := by
      intro x37 f w eje1_0_1 eje1_0_2 eje1_0_5 hst ho
      subst ho
      refine qb8 _ _ _ ?_
      refine k6 _ _ ?_
      refine seqQ fun Q19 k19 z19 => ?_
      refine wp_region_lit ?_
      refine Y wn rfl (yFb FL_27_1 (et rfl eje1_0_1)) ?_
      refine Y wn rfl (yLb (u := .int .i64 x2) O_3 (et rfl rfl) hst mhR rfl) ?_
      refine Y wn rfl (yFb FL_27_0 (et rfl eje1_0_1)) ?_
      refine Y wn rfl (yLb (u := .int .i64 x1) O_3 (et rfl rfl) hst mhR rfl) ?_
      refine Y wn rfl (ym (v := h14.v) (et rfl eje1_0_5)) ?_
      obtain ⟨r38, gr38, hM⟩ := bs hM
      replace hst := hst.pk 3 [2, 0, 0] rfl
      replace hst := hst.fz
      refine Yc wn rfl (yCall FN_33 (a3 (et rfl rfl) (et rfl rfl) (et rfl rfl))) (matrix_build_ok (hM := gr38) (hst := hst) (q1 := mhF)) ?_
      clear hst
      rintro _ w ⟨h39, h40, h41, rfl, hst⟩
      refine ⟨_, rfl, ?_⟩
      replace hst := hst.pk 5 [4, 0, 0, 0, 0] rfl
      refine YT wn rfl (r_stbn (vals' := [.int .i64 r38.1, .int .i64 r38.2.1, h39.v, h40.v, h41.v]) (us := [.int .i64 r38.1, .int .i64 r38.2.1, h39.v, h40.v, h41.v]) hst ST_27 (et rfl eje1_0_2) (et rfl rfl) rfl rfl (one_of rfl) rfl) ?_
      clear hst
      intro w hst
      refine Y wn rfl (ya (v := .int .i64 0) rfl) ?_
      refine wpList_nil ?_
      refine k19 _ _ ?_
      refine wp_ret ?_
      obtain rfl := someI hM
      exact hQ _ _ _ (fin2r Tryz.results15 (rcs2 rfl eje1_0_2 hst mhR ST_27 rfl) ⟨rfl, rfl⟩ ⟨_, _, _, rfl, ((hst.pk 5 [1, 1, 1] rfl).facts (allT allI))⟩)
    refine loopQ (fun s a w => ∃ (x24 : List (Int × Int × Int)) (x25 : Int) (f : Nat → Value), (x24, x25) = s ∧ a = fr 42 f ∧ f 1 = .pointer (some ⟨b9, 0, none⟩) ∧ f 2 = .pointer (some ⟨b10, 0, none⟩) ∧ f 5 = h14.v ∧ f 16 = h14.v ∧ f 17 = .int .i64 (r13.length : Int) ∧ f 18 = .int .i64 x25 ∧ St w0 (ros) (box b9 27 [.int .i64 x1, .int .i64 x2, h4.v, h6.v, h8.v] :: box b10 27 [.int .i64 0, .int .i64 0, hnil.v, hnil.v, hnil.v] :: row 57 rTi64i64u64 h14.v x24 :: rs) w) go1 ⟨_, _, _, rfl, rfl, rfl, rfl, rfl, rfl, rfl, rfl, (hst.pk 3 [2, 1, 0] rfl)⟩ ?_
    clear hst
    rintro _ _ w r1_ ⟨x24, x25, f, rfl, rfl, e1_1, e1_2, e1_5, e1_16, e1_17, e1_18, hst⟩ hM1 ho1 Q100001 n1 zz1
    refine seqQ fun Q20 k20 z20 => ?_
    refine wp_region_lit ?_
    refine Y wn rfl (ylss (et rfl e1_18) (et rfl e1_17)) ?_
    refine wpList_nil ?_
    refine k20 _ _ ?_
    refine seqQ fun Q21 k21 z21 => ?_
    rcases iteS hM1 with ⟨c42, hM1⟩ | ⟨c42, hM1⟩
    · refine condT (et rfl rfl) (decide_eq_true c42) ?_
      refine wp_skip ?_
      refine k21 _ _ ?_
      refine seqQ fun Q22 k22 z22 => ?_
      refine blockQ fun Q23 qb23 => ?_
      refine seqQ fun Q24 k24 z24 => ?_
      refine wp_region_lit ?_
      refine Y wn rfl (ym (v := .int .i64 x25) (et rfl e1_18)) ?_
      obtain ⟨x43, gx43, hM1⟩ := bs hM1
      refine Y wn rfl (yIa SL_54 (et rfl e1_16) (et rfl e1_18) hst (rdO (mtR (mtR mhR))) gx43) ?_
      refine Y wn rfl (yFn ST_57 (et rfl rfl) hst (rdO (mtR (mtR mhR))) gx43 rfl) ?_
      refine YB wn rfl (rAl hst ZT_57) ?_
      clear hst
      intro b44 w hst
      refine Y wn rfl (ya (v := .int .i64 x25) (et rfl rfl)) ?_
      refine YT wn rfl (r_stbn (vals' := [.int .i64 x43.1, .int .i64 x43.2.1, .int .u64 x43.2.2]) (us := [.int .i64 x43.1, .int .i64 x43.2.1, .int .u64 x43.2.2]) hst ST_57 (et rfl rfl) (et rfl rfl) rfl rfl (one_of rfl) rfl) ?_
      clear hst
      intro w hst
      refine wpList_nil ?_
      refine k24 _ _ ?_
      obtain ⟨x45, gx45, hM1⟩ := bs hM1
      obtain ⟨x46, gx46, hM1⟩ := bs hM1
      obtain ⟨x47, gx47, hM1⟩ := bs hM1
      obtain ⟨x48, gx48, hM1⟩ := bs hM1
      obtain ⟨x49, gx49, hM1⟩ := bs hM1
      obtain ⟨x50, gx50, hM1⟩ := bs hM1
      refine wp_drawR [0, 0, 0, 0, 0, 16, 0, 64, 51, 307, 819, 2047, 4095, 8191] [10, 13] 2 folM (by kernel_rfl) (by kernel_rfl) (by kernel_rfl) ?_
      replace hst := hst.drew
      refine DRn (l1 := [0, 1, 2, 3, 4, 5, 6, 7, 8, 9]) (l2 := []) (lc := [10]) (by kernel_rfl) (by kernel_rfl) (by kernel_rfl) ?_
      refine Ry rfl rfl wn (ym (v := h14.v) (et rfl e1_5)) ?_
      refine Ry rfl rfl wn (ym (v := .int .i64 x25) (et rfl rfl)) ?_
      refine Ry rfl rfl wn (ym (v := h14.v) (et rfl e1_5)) ?_
      refine Ry rfl rfl wn (ym (v := .int .i64 x25) (et rfl rfl)) ?_
      refine Ry rfl rfl wn (yFb FL_57_1 (et rfl rfl)) ?_
      refine Ry rfl rfl wn (yLb (u := .int .i64 x43.2.1) O_3 (et rfl rfl) hst mhR rfl) ?_
      refine Ry rfl rfl wn (yFb FL_57_0 (et rfl rfl)) ?_
      refine Ry rfl rfl wn (yLb (u := .int .i64 x43.1) O_3 (et rfl rfl) hst mhR rfl) ?_
      refine Ry rfl rfl wn (yIa SL_54 (et rfl rfl) (et rfl rfl) hst (rdO (mtR (mtR (mtR mhR)))) gx45) ?_
      refine Ry rfl rfl wn (yFe FL_57_0 (et rfl rfl)) ?_
      refine Rn QSn ?_
      refine Lc rfl ?_ LAn
      replace hst := hst.pk 4 [3, 0, 0, 0] rfl
      refine LT wn (r_stf (o := 0) hst O_3 (et rfl rfl) (et rfl rfl) rfl rfl rfl rfl gx46 gx47) ?_
      clear hst
      intro w hst
      refine DRn (l1 := [11, 12]) (l2 := [2, 3, 6, 7]) (lc := [13]) (by kernel_rfl) (by kernel_rfl) (by kernel_rfl) ?_
      refine Ry rfl rfl wn (yIa SL_54 (et rfl rfl) (et rfl rfl) hst (rdO mhR) gx48) ?_
      refine Ry rfl rfl wn (yFe FL_57_1 (et rfl rfl)) ?_
      refine Rn (Sy rfl rfl wn (ym (v := h14.v) (et rfl e1_5)) rfl (Sy rfl rfl wn (ym (v := .int .i64 x25) (et rfl rfl)) rfl (Sy rfl rfl wn (yFb FL_57_0 (et rfl rfl)) rfl (Sy rfl rfl wn (yLb (u := .int .i64 x43.1) O_3 (et rfl rfl) hst (mtR mhR) rfl) rfl QSn)))) ?_
      refine Lc rfl ?_ LAn
      refine LT wn (r_stf (o := 1) hst O_3 (et rfl rfl) (et rfl rfl) rfl rfl rfl rfl gx49 gx50) ?_
      clear hst
      intro w hst
      refine DRz (l1 := []) (l2 := []) (by kernel_rfl) (by kernel_rfl) ?_
      refine Rn QSn ?_
      refine qb23 _ _ _ ?_
      refine k22 _ _ ?_
      refine wp_region_lit ?_
      refine Y wn rfl (yadd (et rfl e1_18) rfl) ?_
      refine Y wn rfl (ym (v := .int .i64 (wa .i64 x25 1)) (et rfl rfl)) ?_
      refine wpList_nil ?_
      obtain rfl := someI hM1
      exact n1 _ _ _ rfl ⟨_, _, _, rfl, rfl, e1_1, e1_2, e1_5, e1_16, e1_17, rfl, (hst.pk 4 [2, 2, 0] rfl)⟩
    · refine condF (et rfl rfl) (decide_eq_false c42) ?_
      refine wp_exit ?_
      refine z21 _ _ _ rfl ?_
      obtain rfl := someI hM1
      refine zz1 _ _ _ _ rfl rfl ?_
      exact je1_0 _ _ _ e1_1 e1_2 e1_5 hst (ho1 _ rfl)
  · refine condT (et rfl rfl) (nT (decide_eq_false c12)) ?_
    refine seqQ fun Q25 k25 z25 => ?_
    refine wp_region_lit ?_
    refine Y wn rfl (ybuild (us := [.int .i64 0, .int .i64 0, hnil.v, hnil.v, hnil.v]) [] SO_27 bp0 rfl) ?_
    refine Y wn rfl (ym (v := .int .i64 r11) (et rfl rfl)) ?_
    refine YT wn rfl (r_stbn (vals' := [.int .i64 0, .int .i64 0, hnil.v, hnil.v, hnil.v]) (us := [.int .i64 0, .int .i64 0, hnil.v, hnil.v, hnil.v]) hst ST_27 (et rfl rfl) (et rfl rfl) rfl rfl (one_of rfl) rfl) ?_
    clear hst
    intro w hst
    refine Y wn rfl (ya (v := .int .i64 r11) (et rfl rfl)) ?_
    refine wpList_nil ?_
    refine k25 _ _ ?_
    refine wp_ret ?_
    refine z3 _ _ _ rfl ?_
    obtain rfl := someI hM
    replace hst := hst.rowNh 3 (rI .i64)
    replace hst := hst.rowNh 3 (rI .i64)
    replace hst := hst.rowNh 46 (rI .u64)
    exact hQ _ _ _ (fin2r Tryz.results15 (rcs2 rfl rfl hst (mtR (mtR (mtR mhR))) ST_27 rfl) ⟨rfl, rfl⟩ ⟨_, _, _, rfl, (hst.pk 5 [2, 1, 0] rfl)⟩)

theorem graph_Permuted_1_ok {w0 : World} {ros : List Fact} {rs : List Res} {w : World} {x1 : Int} {x3 : List (List Int)} {b2 : Nat} {h4 : Hdr} {out : Bool} (hM : graph_Permuted_1 x1 x3 = some out) (q1 : imm (rS (rI .i64)) h4.v x3 ∈ ros) (hst : St w0 ros (box b2 31 [h4.v] :: rs) w) :
    Calls Tryz.prog 56 #[.int .i64 x1, .pointer (some ⟨b2, 0, none⟩)] w (fun e w => e = .returned (.bool out) ∧ St w0 (ros) (box b2 31 [h4.v] :: rs) w) := by
  refine enterQ Tryz.func56 rfl Tryz.ntmps56 rfl fun Q hQ => ?_
  refine seqQ fun Q1 k1 z1 => ?_
  refine wp_region_lit ?_
  refine Y wn rfl (ya (v := .bool false) rfl) ?_
  refine wpList_nil ?_
  refine k1 _ _ ?_
  refine seqQ fun Q2 k2 z2 => ?_
  refine wp_region_lit ?_
  refine Y wn rfl (yLbs (us := [h4.v]) ST_31 (et rfl rfl) hst mhR rfl rfl) ?_
  refine Y wn rfl (ym (v := .int .i64 x1) (et rfl rfl)) ?_
  obtain ⟨r5, gr5, hM⟩ := bs hM
  refine Yc wn rfl (yCall FN_40 (a2 (et rfl rfl) (et rfl rfl))) (graph_vertex_ok (hM := gr5) (hst := hst) (q1 := q1)) ?_
  clear hst
  rintro _ w ⟨rfl, hst⟩
  refine ⟨_, rfl, ?_⟩
  refine Y wn rfl (ynot (et rfl rfl)) ?_
  refine Y wn rfl (ya (v := .bool (!(r5))) (et rfl rfl)) ?_
  refine wpList_nil ?_
  refine k2 _ _ ?_
  refine wp_ret ?_
  obtain rfl := someI hM
  exact hQ _ _ _ (fin1r Tryz.results56 ⟨rfl, rfl⟩ ⟨rfl, hst⟩)

theorem slices_IndexFunc_int_ok {w0 : World} {ros : List Fact} {rs : List Res} {w : World} {x1 : List Int} {x4 : List (List Int)} {h2 : Hdr} {b3 : Nat} {h5 : Hdr} {out : Int} (hM : slices_IndexFunc_int x1 x4 = some out) (q1 : imm (rI .i64) h2.v x1 ∈ ros) (q2 : imm (rS (rI .i64)) h5.v x4 ∈ ros) (hst : St w0 ros (box b3 31 [h5.v] :: rs) w) :
    Calls Tryz.prog 77 #[h2.v, .func (.func 56) #[] #[.pointer (some ⟨b3, 0, none⟩)]] w (fun e w => e = .returned (.int .i64 out) ∧ St w0 (ros) (box b3 31 [h5.v] :: rs) w) := by
  refine enterQ Tryz.func77 rfl Tryz.ntmps77 rfl fun Q hQ => ?_
  refine seqQ fun Q1 k1 z1 => ?_
  refine wp_region_lit ?_
  refine Y wn rfl (ya (v := .int .i64 0) rfl) ?_
  refine wpList_nil ?_
  refine k1 _ _ ?_
  refine seqQ fun Q2 k2 z2 => ?_
  refine seqQ fun Q3 k3 z3 => ?_
  refine wp_region_lit ?_
  refine Y wn rfl (ym (v := h2.v) (et rfl rfl)) ?_
  refine Y wn rfl (yLen SL_22 (et rfl rfl) hst (rdI q1)) ?_
  refine Y wn rfl (ym (v := .int .i64 0) rfl) ?_
  refine wpList_nil ?_
  refine k3 _ _ ?_
  refine blockQ fun Q4 qb4 => ?_
  obtain ⟨o1, go1, hM⟩ := bs hM
  have je1_0 : ∀ (f : Nat → Value) (w : World), St w0 (ros) (box b3 31 [h5.v] :: rs) w → .inl () = o1 → Q4 (.exit 0) (fr 19 f) w := by
    intro f w hst ho
    subst ho
    refine qb4 _ _ _ ?_
    refine k2 _ _ ?_
    refine seqQ fun Q19 k19 z19 => ?_
    refine wp_region_lit ?_
    refine Y wn rfl (ya (v := .int .i64 (-1)) rfl) ?_
    refine wpList_nil ?_
    refine k19 _ _ ?_
    refine wp_ret ?_
    obtain rfl := someI hM
    exact hQ _ _ _ (fin1r Tryz.results77 ⟨rfl, rfl⟩ ⟨rfl, hst⟩)
  have je1_1 : ∀ (x16 : Int) (f : Nat → Value) (w : World), f 4 = .int .i64 x16 → St w0 (ros) (box b3 31 [h5.v] :: rs) w → .inr x16 = o1 → Q4 .ret (fr 19 f) w := by
    intro x16 f w eje1_1_4 hst ho
    subst ho
    refine qb4 _ _ _ ?_
    refine z2 _ _ _ rfl ?_
    obtain rfl := someI hM
    exact hQ _ _ _ (fin1r Tryz.results77 ⟨rfl, eje1_1_4⟩ ⟨rfl, hst⟩)
  refine loopQ (fun s a w => ∃ (x10 : Int) (f : Nat → Value), x10 = s ∧ a = fr 19 f ∧ f 0 = h2.v ∧ f 1 = .func (.func 56) #[] #[.pointer (some ⟨b3, 0, none⟩)] ∧ f 7 = .int .i64 (x1.length : Int) ∧ f 8 = .int .i64 x10 ∧ St w0 (ros) (box b3 31 [h5.v] :: rs) w) go1 ⟨_, _, rfl, rfl, rfl, rfl, rfl, rfl, hst⟩ ?_
  clear hst
  rintro _ _ w r1_ ⟨x10, f, rfl, rfl, e1_0, e1_1, e1_7, e1_8, hst⟩ hM1 ho1 Q100001 n1 zz1
  refine seqQ fun Q20 k20 z20 => ?_
  refine wp_region_lit ?_
  refine Y wn rfl (ylss (et rfl e1_8) (et rfl e1_7)) ?_
  refine wpList_nil ?_
  refine k20 _ _ ?_
  refine seqQ fun Q21 k21 z21 => ?_
  rcases iteS hM1 with ⟨c17, hM1⟩ | ⟨c17, hM1⟩
  · refine condT (et rfl rfl) (decide_eq_true c17) ?_
    refine wp_skip ?_
    refine k21 _ _ ?_
    refine seqQ fun Q22 k22 z22 => ?_
    refine blockQ fun Q23 qb23 => ?_
    refine seqQ fun Q24 k24 z24 => ?_
    refine wp_region_lit ?_
    refine Y wn rfl (ym (v := .int .i64 x10) (et rfl e1_8)) ?_
    refine Y wn rfl (ya (v := .int .i64 x10) (et rfl rfl)) ?_
    refine wpList_nil ?_
    refine k24 _ _ ?_
    refine seqQ fun Q25 k25 z25 => ?_
    refine wp_region_lit ?_
    refine Y wn rfl (ym (v := .func (.func 56) #[] #[.pointer (some ⟨b3, 0, none⟩)]) (et rfl e1_1)) ?_
    refine Y wn rfl (ym (v := h2.v) (et rfl e1_0)) ?_
    refine Y wn rfl (ym (v := .int .i64 x10) (et rfl rfl)) ?_
    obtain ⟨x18, gx18, hM1⟩ := bs hM1
    refine Y wn rfl (yIa SL_22 (et rfl rfl) (et rfl rfl) hst (rdI q1) gx18) ?_
    refine Y wn rfl (yI O_3 (et rfl rfl) hst (rdI q1) gx18) ?_
    obtain ⟨r19, gr19, hM1⟩ := bs hM1
    refine Yc wn rfl (yCallw FN_56 (et rfl rfl) (a1 (et rfl rfl))) (graph_Permuted_1_ok (hM := gr19) (hst := hst) (q1 := q2)) ?_
    clear hst
    rintro _ w ⟨rfl, hst⟩
    refine ⟨_, rfl, ?_⟩
    refine wpList_nil ?_
    refine k25 _ _ ?_
    rcases iteS hM1 with ⟨c20, hM1⟩ | ⟨c20, hM1⟩
    · refine condT (et rfl rfl) c20 ?_
      refine seqQ fun Q26 k26 z26 => ?_
      refine wp_region_lit ?_
      refine Y wn rfl (ym (v := .int .i64 x10) (et rfl rfl)) ?_
      refine Y wn rfl (ya (v := .int .i64 x10) (et rfl rfl)) ?_
      refine wpList_nil ?_
      refine k26 _ _ ?_
      refine wp_ret ?_
      refine qb23 _ _ _ ?_
      refine z22 _ _ _ rfl ?_
      obtain rfl := someI hM1
      refine zz1 _ _ _ _ rfl rfl ?_
      exact je1_1 _ _ _ rfl hst (ho1 _ rfl)
    · refine condF (et rfl rfl) (bfalse c20) ?_
      refine wp_skip ?_
      refine qb23 _ _ _ ?_
      refine k22 _ _ ?_
      refine wp_region_lit ?_
      refine Y wn rfl (yadd (et rfl e1_8) rfl) ?_
      refine Y wn rfl (ym (v := .int .i64 (wa .i64 x10 1)) (et rfl rfl)) ?_
      refine wpList_nil ?_
      obtain rfl := someI hM1
      exact n1 _ _ _ rfl ⟨_, _, rfl, rfl, e1_0, e1_1, e1_7, rfl, hst⟩
  · refine condF (et rfl rfl) (decide_eq_false c17) ?_
    refine wp_exit ?_
    refine z21 _ _ _ rfl ?_
    obtain rfl := someI hM1
    refine zz1 _ _ _ _ rfl rfl ?_
    exact je1_0 _ _ hst (ho1 _ rfl)

theorem slices_ContainsFunc_int_ok {w0 : World} {ros : List Fact} {rs : List Res} {w : World} {x1 : List Int} {x4 : List (List Int)} {h2 : Hdr} {b3 : Nat} {h5 : Hdr} {out : Bool} (hM : slices_ContainsFunc_int x1 x4 = some out) (q1 : imm (rI .i64) h2.v x1 ∈ ros) (q2 : imm (rS (rI .i64)) h5.v x4 ∈ ros) (hst : St w0 ros (box b3 31 [h5.v] :: rs) w) :
    Calls Tryz.prog 55 #[h2.v, .func (.func 56) #[] #[.pointer (some ⟨b3, 0, none⟩)]] w (fun e w => e = .returned (.bool out) ∧ St w0 (ros) (box b3 31 [h5.v] :: rs) w) := by
  refine enterQ Tryz.func55 rfl Tryz.ntmps55 rfl fun Q hQ => ?_
  refine seqQ fun Q1 k1 z1 => ?_
  refine wp_region_lit ?_
  refine Y wn rfl (ya (v := .bool false) rfl) ?_
  refine wpList_nil ?_
  refine k1 _ _ ?_
  refine seqQ fun Q2 k2 z2 => ?_
  refine wp_region_lit ?_
  refine Y wn rfl (ym (v := h2.v) (et rfl rfl)) ?_
  refine Y wn rfl (ym (v := .func (.func 56) #[] #[.pointer (some ⟨b3, 0, none⟩)]) (et rfl rfl)) ?_
  obtain ⟨r6, gr6, hM⟩ := bs hM
  refine Yc wn rfl (yCall FN_77 (a2 (et rfl rfl) (et rfl rfl))) (slices_IndexFunc_int_ok (hM := gr6) (hst := hst) (q1 := q1) (q2 := q2)) ?_
  clear hst
  rintro _ w ⟨rfl, hst⟩
  refine ⟨_, rfl, ?_⟩
  refine Y wn rfl (ygeq (et rfl rfl) rfl) ?_
  refine Y wn rfl (ya (v := .bool (decide ((0 : Int) ≤ r6))) (et rfl rfl)) ?_
  refine wpList_nil ?_
  refine k2 _ _ ?_
  refine wp_ret ?_
  obtain rfl := someI hM
  exact hQ _ _ _ (fin1r Tryz.results55 ⟨rfl, rfl⟩ ⟨rfl, hst⟩)

theorem slices_Values_int_ok {w0 : World} {ros : List Fact} {rs : List Res} {w : World} {x1 : List Int} {h2 : Hdr} {out : Unit} (hM : slices_Values_int x1 = some out) (q1 : imm (rI .i64) h2.v x1 ∈ ros) (hst : St w0 ros (rs) w) :
    Calls Tryz.prog 80 #[h2.v] w (fun e w => ∃ (b100001 : Nat), e = .returned (.func (.func 106) #[] #[.pointer (some ⟨b100001, 0, none⟩)]) ∧ St w0 (ros) (box b100001 22 [h2.v] :: rs) w) := by
  refine enterQ Tryz.func80 rfl Tryz.ntmps80 rfl fun Q hQ => ?_
  refine seqQ fun Q1 k1 z1 => ?_
  refine wp_region_lit ?_
  refine YB wn rfl (r_box (vals := [h2.v]) hst (et rfl rfl) rfl) ?_
  clear hst
  intro b3 w hst
  refine Y wn rfl (ya (v := .nilFunc) rfl) ?_
  refine wpList_nil ?_
  refine k1 _ _ ?_
  refine seqQ fun Q2 k2 z2 => ?_
  refine wp_region_lit ?_
  refine Y wn rfl (ymf (vf := #[]) (vc := #[.pointer (some ⟨b3, 0, none⟩)]) a0 (a1 (et rfl rfl))) ?_
  refine Y wn rfl (ya (v := .func (.func 106) #[] #[.pointer (some ⟨b3, 0, none⟩)]) (et rfl rfl)) ?_
  refine wpList_nil ?_
  refine k2 _ _ ?_
  refine wp_ret ?_
  obtain rfl := someI hM
  exact hQ _ _ _ (fin1r Tryz.results80 ⟨rfl, rfl⟩ ⟨_, rfl, hst⟩)

theorem slices_Collect_int_ok {w0 : World} {ros : List Fact} {rs : List Res} {w : World} {x2 : List Int} {b1 : Nat} {h3 : Hdr} {out : (List Int)} (hM : slices_Collect_int x2 = some out) (q1 : imm (rI .i64) h3.v x2 ∈ ros) (hst : St w0 ros (box b1 22 [h3.v] :: rs) w) :
    Calls Tryz.prog 105 #[.func (.func 106) #[] #[.pointer (some ⟨b1, 0, none⟩)]] w (fun e w => ∃ (h100001 : Hdr), e = .returned (h100001.v) ∧ St w0 (ros) (box b1 22 [h3.v] :: row 3 (rI .i64) h100001.v out :: rs) w) := by
  refine enterQ Tryz.func105 rfl Tryz.ntmps105 rfl fun Q hQ => ?_
  refine seqQ fun Q1 k1 z1 => ?_
  refine wp_region_lit ?_
  refine Y wn rfl (ya (v := hnil.v) rfl) ?_
  refine wpList_nil ?_
  refine k1 _ _ ?_
  refine seqQ fun Q2 k2 z2 => ?_
  refine wp_region_lit ?_
  refine Y wn rfl (ym (v := .func (.func 106) #[] #[.pointer (some ⟨b1, 0, none⟩)]) (et rfl rfl)) ?_
  obtain ⟨r4, gr4, hM⟩ := bs hM
  refine Yc wn rfl (yCall FN_122 (a2 rfl (et rfl rfl))) (colV_ok (hM := gr4) (hst := hst) (q1 := q1)) ?_
  clear hst
  rintro _ w ⟨h5, rfl, hst⟩
  refine ⟨_, rfl, ?_⟩
  refine Y wn rfl (ya (v := h5.v) (et rfl rfl)) ?_
  refine wpList_nil ?_
  refine k2 _ _ ?_
  refine wp_ret ?_
  obtain rfl := someI hM
  exact hQ _ _ _ (fin1r Tryz.results105 ⟨rfl, rfl⟩ ⟨_, rfl, (hst.pk 2 [1, 0] rfl)⟩)

theorem slices_Sorted_int_ok {w0 : World} {ros : List Fact} {rs : List Res} {w : World} {x2 : List Int} {b1 : Nat} {h3 : Hdr} {out : (List Int)} (hM : slices_Sorted_int x2 = some out) (q1 : imm (rI .i64) h3.v x2 ∈ ros) (hst : St w0 ros (box b1 22 [h3.v] :: rs) w) :
    Calls Tryz.prog 79 #[.func (.func 106) #[] #[.pointer (some ⟨b1, 0, none⟩)]] w (fun e w => ∃ (h100001 : Hdr), e = .returned (h100001.v) ∧ St w0 (ros) (box b1 22 [h3.v] :: row 3 (rI .i64) h100001.v out :: rs) w) := by
  refine enterQ Tryz.func79 rfl Tryz.ntmps79 rfl fun Q hQ => ?_
  refine seqQ fun Q1 k1 z1 => ?_
  refine wp_region_lit ?_
  refine Y wn rfl (ya (v := hnil.v) rfl) ?_
  refine wpList_nil ?_
  refine k1 _ _ ?_
  refine seqQ fun Q2 k2 z2 => ?_
  refine wp_region_lit ?_
  refine Y wn rfl (ym (v := .func (.func 106) #[] #[.pointer (some ⟨b1, 0, none⟩)]) (et rfl rfl)) ?_
  obtain ⟨r4, gr4, hM⟩ := bs hM
  refine Yc wn rfl (yCall FN_105 (a1 (et rfl rfl))) (slices_Collect_int_ok (hM := gr4) (hst := hst) (q1 := q1)) ?_
  clear hst
  rintro _ w ⟨h5, rfl, hst⟩
  refine ⟨_, rfl, ?_⟩
  refine Y wn rfl (ya (v := h5.v) (et rfl rfl)) ?_
  refine wpList_nil ?_
  refine k2 _ _ ?_
  refine seqQ fun Q3 k3 z3 => ?_
  refine wp_region_lit ?_
  refine Y wn rfl (ym (v := h5.v) (et rfl rfl)) ?_
  obtain ⟨r6, gr6, hM⟩ := bs hM
  replace hst := hst.pk 2 [1, 0] rfl
  refine Yc wn rfl (yCall FN_44 (a1 (et rfl rfl))) (sortI_ok (hM := gr6) (hst := hst) ) ?_
  clear hst
  rintro _ w ⟨rfl, hst⟩
  refine ⟨_, rfl, ?_⟩
  refine wpList_nil ?_
  refine k3 _ _ ?_
  refine seqQ fun Q4 k4 z4 => ?_
  refine wp_region_lit ?_
  refine Y wn rfl (ym (v := h5.v) (et rfl rfl)) ?_
  refine Y wn rfl (ya (v := h5.v) (et rfl rfl)) ?_
  refine wpList_nil ?_
  refine k4 _ _ ?_
  refine wp_ret ?_
  obtain rfl := someI hM
  exact hQ _ _ _ (fin1r Tryz.results79 ⟨rfl, rfl⟩ ⟨_, rfl, (hst.pk 2 [1, 0] rfl)⟩)

theorem graph_twice_ok {w0 : World} {ros : List Fact} {rs : List Res} {w : World} {x1 : List Int} {h2 : Hdr} {out : Bool} (hM : graph_twice x1 = some out) (q1 : imm (rI .i64) h2.v x1 ∈ ros) (hst : St w0 ros (rs) w) :
    Calls Tryz.prog 57 #[h2.v] w (fun e w => e = .returned (.bool out) ∧ St w0 (ros) (rs) w) := by
  refine enterQ Tryz.func57 rfl Tryz.ntmps57 rfl fun Q hQ => ?_
  refine seqQ fun Q1 k1 z1 => ?_
  refine wp_region_lit ?_
  refine Y wn rfl (ya (v := .bool false) rfl) ?_
  refine wpList_nil ?_
  refine k1 _ _ ?_
  refine seqQ fun Q2 k2 z2 => ?_
  refine wp_region_lit ?_
  refine Y wn rfl (ym (v := h2.v) (et rfl rfl)) ?_
  obtain ⟨r3, gr3, hM⟩ := bs hM
  refine Yc wn rfl (yCall FN_80 (a1 (et rfl rfl))) (slices_Values_int_ok (hM := gr3) (hst := hst) (q1 := q1)) ?_
  clear hst
  rintro _ w ⟨b4, rfl, hst⟩
  refine ⟨_, rfl, ?_⟩
  obtain ⟨r5, gr5, hM⟩ := bs hM
  refine Yc wn rfl (yCall FN_79 (a1 (et rfl rfl))) (slices_Sorted_int_ok (hM := gr5) (hst := hst) (q1 := q1)) ?_
  clear hst
  rintro _ w ⟨h6, rfl, hst⟩
  refine ⟨_, rfl, ?_⟩
  obtain ⟨r7, gr7, hM⟩ := bs hM
  replace hst := hst.pk 2 [1, 0] rfl
  refine Yc wn rfl (yCall FN_78 (a1 (et rfl rfl))) (compactI_ok (hM := gr7) (hst := hst) ) ?_
  clear hst
  rintro _ w ⟨h8, rfl, hst⟩
  refine ⟨_, rfl, ?_⟩
  refine Y wn rfl (yLen SL_22 (et rfl rfl) hst (rdO mhR)) ?_
  refine Y wn rfl (ym (v := h2.v) (et rfl rfl)) ?_
  refine Y wn rfl (yLen SL_22 (et rfl rfl) hst (rdI q1)) ?_
  refine Y wn rfl (ylss (et rfl rfl) (et rfl rfl)) ?_
  refine Y wn rfl (ya (v := .bool (decide ((r7.length : Int) < (x1.length : Int)))) (et rfl rfl)) ?_
  refine wpList_nil ?_
  refine k2 _ _ ?_
  refine wp_ret ?_
  obtain rfl := someI hM
  exact hQ _ _ _ (fin1r Tryz.results57 ⟨rfl, rfl⟩ ⟨rfl, (hst.pk 2 [] rfl)⟩)

theorem graph_Permuted_ok {w0 : World} {ros : List Fact} {rs : List Res} {w : World} {x1 : List (List Int)} {x3 : List Int} {h2 : Hdr} {h4 : Hdr} {out : Int} (hM : graph_Permuted x1 x3 = some out) (q1 : imm (rS (rI .i64)) h2.v x1 ∈ ros) (q2 : imm (rI .i64) h4.v x3 ∈ ros) (hst : St w0 ros (rs) w) :
    Calls Tryz.prog 34 #[.agg #[h2.v], h4.v] w (fun e w => e = .returned (.int .i64 out) ∧ St w0 (ros) (rs) w) := by
  refine enterQ Tryz.func34 rfl Tryz.ntmps34 rfl fun Q hQ => ?_
  refine seqQ fun Q1 k1 z1 => ?_
  refine wp_region_lit ?_
  refine YB wn rfl (r_box (vals := [h2.v]) hst (et rfl rfl) rfl) ?_
  clear hst
  intro b5 w hst
  refine Y wn rfl (ya (v := .int .i64 0) rfl) ?_
  refine wpList_nil ?_
  refine k1 _ _ ?_
  refine seqQ fun Q2 k2 z2 => ?_
  refine wp_region_lit ?_
  refine Y wn rfl (yLbs (us := [h2.v]) ST_31 (et rfl rfl) hst mhR rfl rfl) ?_
  obtain ⟨r6, gr6, hM⟩ := bs hM
  refine Yc wn rfl (yCall FN_18 (a1 (et rfl rfl))) (graph_Check_ok (hM := gr6) (hst := hst) (q1 := q1)) ?_
  clear hst
  rintro _ w ⟨rfl, hst⟩
  refine ⟨_, rfl, ?_⟩
  refine Y wn rfl (ya (v := .int .i64 r6) (et rfl rfl)) ?_
  refine wpList_nil ?_
  refine k2 _ _ ?_
  refine seqQ fun Q3 k3 z3 => ?_
  refine blockQ fun Q4 qb4 => ?_
  refine seqQ fun Q5 k5 z5 => ?_
  refine wp_region_lit ?_
  refine Y wn rfl (ym (v := .int .i64 r6) (et rfl rfl)) ?_
  refine Y wn rfl (yneq (et rfl rfl) rfl) ?_
  refine Y wn rfl (ya (v := .bool (!(decide (r6 = 0)))) (et rfl rfl)) ?_
  refine wpList_nil ?_
  refine k5 _ _ ?_
  rcases iteS hM with ⟨c7, hM⟩ | ⟨c7, hM⟩
  · refine condF (et rfl rfl) (nF (decide_eq_true c7)) ?_
    refine seqQ fun Q6 k6 z6 => ?_
    refine wp_region_lit ?_
    refine Y wn rfl (ym (v := h4.v) (et rfl rfl)) ?_
    refine Y wn rfl (yLen SL_22 (et rfl rfl) hst (rdI q2)) ?_
    refine Y wn rfl (yFb FL_31_0 (et rfl rfl)) ?_
    refine Y wn rfl (yLb (u := h2.v) O_29 (et rfl rfl) hst mhR rfl) ?_
    refine Y wn rfl (yLen SL_29 (et rfl rfl) hst (rdI q1)) ?_
    refine Y wn rfl (yneq (et rfl rfl) (et rfl rfl)) ?_
    refine Y wn rfl (ya (v := .bool (!(decide ((x3.length : Int) = (x1.length : Int))))) (et rfl rfl)) ?_
    refine wpList_nil ?_
    refine k6 _ _ ?_
    rcases iteS hM with ⟨c8, hM⟩ | ⟨c8, hM⟩
    · refine condF (et rfl rfl) (nF (decide_eq_true c8)) ?_
      refine seqQ fun Q7 k7 z7 => ?_
      refine wp_region_lit ?_
      refine Y wn rfl (ym (v := h4.v) (et rfl rfl)) ?_
      refine Y wn rfl (ymf (vf := #[]) (vc := #[.pointer (some ⟨b5, 0, none⟩)]) a0 (a1 (et rfl rfl))) ?_
      obtain ⟨r9, gr9, hM⟩ := bs hM
      refine Yc wn rfl (yCall FN_55 (a2 (et rfl rfl) (et rfl rfl))) (slices_ContainsFunc_int_ok (hM := gr9) (hst := hst) (q1 := q2) (q2 := q1)) ?_
      clear hst
      rintro _ w ⟨rfl, hst⟩
      refine ⟨_, rfl, ?_⟩
      refine Y wn rfl (ym (v := .bool r9) (et rfl rfl)) ?_
      obtain ⟨r11, gr11, hM⟩ := bs hM
      refine joinW 3 (fun f w => f 26 = .bool r11 ∧ St w0 (ros) (rs) w) (fun j1 => ?_) ?_
      · rcases iteS gr11 with ⟨c13, gr11⟩ | ⟨c13, gr11⟩
        · refine Gn (wx rfl rfl rfl c13) rfl ?_
          refine Gn (wx rfl rfl rfl c13) rfl ?_
          refine Y wn rfl (ypt (v := .bool true) (et rfl rfl) c13 rfl) ?_
          obtain rfl := someI gr11
          exact j1 _ _ ⟨rfl, (hst.pk 1 [] rfl)⟩
        · refine Y (wg rfl rfl rfl (bfalse c13)) rfl (ym (v := h4.v) (et rfl rfl)) ?_
          obtain ⟨r14, gr14, gr11⟩ := bs gr11
          refine Yc (wg rfl rfl rfl (bfalse c13)) rfl (yCall FN_57 (a1 (et rfl rfl))) (graph_twice_ok (hM := gr14) (hst := hst) (q1 := q2)) ?_
          clear hst
          rintro _ w ⟨rfl, hst⟩
          refine ⟨_, rfl, ?_⟩
          refine Y wn rfl (ypf (v := .bool r14) (et rfl rfl) (bfalse c13) (et rfl rfl)) ?_
          obtain rfl := someI gr11
          exact j1 _ _ ⟨rfl, (hst.pk 1 [] rfl)⟩
      clear hst
      rintro f w ⟨e12_26, hst⟩
      refine Y wn rfl (ya (v := .bool r11) (et rfl e12_26)) ?_
      refine wpList_nil ?_
      refine k7 _ _ ?_
      rcases iteS hM with ⟨c15, hM⟩ | ⟨c15, hM⟩
      · refine condT (et rfl rfl) c15 ?_
        refine seqQ fun Q8 k8 z8 => ?_
        refine wp_region_lit ?_
        refine Y wn rfl (ya (v := .int .i64 90) rfl) ?_
        refine wpList_nil ?_
        refine k8 _ _ ?_
        refine wp_ret ?_
        refine qb4 _ _ _ ?_
        refine z3 _ _ _ rfl ?_
        obtain rfl := someI hM
        exact hQ _ _ _ (fin1r Tryz.results34 ⟨rfl, rfl⟩ ⟨rfl, hst⟩)
      · refine condF (et rfl rfl) (bfalse c15) ?_
        refine wp_skip ?_
        refine qb4 _ _ _ ?_
        refine k3 _ _ ?_
        refine seqQ fun Q9 k9 z9 => ?_
        refine wp_region_lit ?_
        refine Y wn rfl (ya (v := .int .i64 0) rfl) ?_
        refine wpList_nil ?_
        refine k9 _ _ ?_
        refine wp_ret ?_
        obtain rfl := someI hM
        exact hQ _ _ _ (fin1r Tryz.results34 ⟨rfl, rfl⟩ ⟨rfl, hst⟩)
    · refine condT (et rfl rfl) (nT (decide_eq_false c8)) ?_
      refine seqQ fun Q10 k10 z10 => ?_
      refine wp_region_lit ?_
      refine Y wn rfl (ya (v := .int .i64 2) rfl) ?_
      refine wpList_nil ?_
      refine k10 _ _ ?_
      refine wp_ret ?_
      refine qb4 _ _ _ ?_
      refine z3 _ _ _ rfl ?_
      obtain rfl := someI hM
      exact hQ _ _ _ (fin1r Tryz.results34 ⟨rfl, rfl⟩ ⟨rfl, (hst.pk 1 [] rfl)⟩)
  · refine condT (et rfl rfl) (nT (decide_eq_false c7)) ?_
    refine seqQ fun Q11 k11 z11 => ?_
    refine wp_region_lit ?_
    refine Y wn rfl (ym (v := .int .i64 r6) (et rfl rfl)) ?_
    refine Y wn rfl (ya (v := .int .i64 r6) (et rfl rfl)) ?_
    refine wpList_nil ?_
    refine k11 _ _ ?_
    refine wp_ret ?_
    refine qb4 _ _ _ ?_
    refine z3 _ _ _ rfl ?_
    obtain rfl := someI hM
    exact hQ _ _ _ (fin1r Tryz.results34 ⟨rfl, rfl⟩ ⟨rfl, (hst.pk 1 [] rfl)⟩)
end Go.Proofs.YtcknmegldjnjjaaGreatDoor
