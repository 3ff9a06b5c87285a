/- Walks: each function computes its model, printed. -/
import Derived.Test.YthpeajepbffinaaW0
namespace Go.Proofs.Ythpeajepbffinaa
open Go Sx M
set_option maxRecDepth 100000
set_option maxHeartbeats 400000
set_option linter.unusedVariables false
attribute [local irreducible] wpList Code.wp Calls DR QR QS LA LS St
theorem dissect_units_ok {w0 : World} {ros : List Fact} {rs : List Res} {w : World} {x1 : List (List Int)} {h2 : Hdr} {out : (List (List Int)) × (List Int) × (List (List Int))} (hM : dissect_units x1 = some out) (q1 : imm (rS (rI .i64)) h2.v x1 ∈ ros) (hst : St w0 ros (rs) w) :
    Calls Try.prog 49 #[.agg #[h2.v]] w (fun e w => ∃ (h100001 : Hdr) (h100003 : Hdr) (h100005 : Hdr), e = .returned (.agg #[h100001.v, h100003.v, h100005.v]) ∧ St w0 (imm (rS (rI .i64)) h100001.v out.1 :: ros) (row 3 (rI .i64) h100003.v out.2.1 :: row 22 (rS (rI .i64)) h100005.v out.2.2 :: rs) w) := by
  refine enterQ Try.func49 rfl Try.ntmps49 rfl fun Q hQ => ?_
  refine seqQ fun Q1 k1 z1 => ?_
  refine wp_region_lit ?_
  refine YB wn rfl (r_box (vals := [h2.v]) hst (et rfl rfl) rfl) ?_
  clear hst
  intro b3 w hst
  refine YB wn rfl (rAl hst ZT_29) ?_
  clear hst
  intro b4 w hst
  refine wpList_nil ?_
  refine k1 _ _ ?_
  refine seqQ fun Q2 k2 z2 => ?_
  obtain ⟨r6, gr6, hM⟩ := bs hM
  refine joinN (n := 31) (fun f w => ∃ (b9 : Nat) (h10 : Hdr), f 1 = .pointer (some ⟨b3, 0, none⟩) ∧ f 2 = .pointer (some ⟨b4, 0, none⟩) ∧ f 3 = .pointer (some ⟨b9, 0, none⟩) ∧ St w0 (ros) (box b3 27 [h2.v] :: box b4 29 [hnil.v, hnil.v, hnil.v] :: row 3 (rI .i64) h10.v r6 :: box b9 29 [h2.v, h10.v, hnil.v] :: rs) w) (fun j1 => ?_) ?_
  · refine wp_drawR [0, 0, 0, 4, 12, 30, 63, 0, 255] [1, 5, 7, 8] 4 folM (by kernel_rfl) (by kernel_rfl) (by kernel_rfl) ?_
    replace hst := hst.drew
    refine DRn (l1 := [0, 2, 3, 4]) (l2 := []) (lc := [1, 7]) (by kernel_rfl) (by kernel_rfl) (by kernel_rfl) ?_
    refine Ry rfl rfl wn (yLbs (us := [h2.v]) ST_27 (et rfl rfl) hst (mtR mhR) rfl rfl) ?_
    refine Ry rfl rfl wn (yFb FL_27_0 (et rfl rfl)) ?_
    refine Ry rfl rfl wn (yLb (u := h2.v) O_25 (et rfl rfl) hst (mtR mhR) rfl) ?_
    refine Ry rfl rfl wn (yLen SL_25 (et rfl rfl) hst (rdI q1)) ?_
    refine Rn QSn ?_
    refine Lc rfl ?_ (Lc rfl ?_ LAn)
    · refine LH wn (rLt (n := 1) (l := [1]) hst SL_22 [.int .i64 1] (bp1 rfl) rfl rfl (mks1 (cs := [.int .i64 1]) rfl mkI mks0)) ?_
      clear hst
      intro h5 w hst
      refine DRn (l1 := []) (l2 := [0, 2, 3, 4]) (lc := [5, 7]) (by kernel_rfl) (by kernel_rfl) (by kernel_rfl) ?_
      refine Rn (Sy rfl rfl wn (yLbs (us := [h2.v]) ST_27 (et rfl rfl) hst (mtR (mtR mhR)) rfl rfl) rfl (Sy rfl rfl wn (yFb FL_27_0 (et rfl rfl)) rfl (Sy rfl rfl wn (yLb (u := h2.v) O_25 (et rfl rfl) hst (mtR (mtR mhR)) rfl) rfl (Sy rfl rfl wn (yLen SL_25 (et rfl rfl) hst (rdI q1)) rfl QSn)))) ?_
      refine Lc rfl ?_ (Lc rfl ?_ LAn)
      · replace hst := hst.fz
        refine Lk wn (yCall FN_46 (a2 (et rfl rfl) (et rfl rfl))) (slices_Repeat_int_ok (hM := gr6) (hst := hst) (q1 := mhF)) ?_
        clear hst
        rintro _ w ⟨h7, rfl, hst⟩
        refine ⟨_, rfl, ?_⟩
        refine DRn (l1 := [6]) (l2 := [0]) (lc := [7]) (by kernel_rfl) (by kernel_rfl) (by kernel_rfl) ?_
        refine Ry rfl rfl wn (ybuild (us := [h2.v, h7.v, hnil.v]) [(0, .agg #[h2.v]), (1, h7.v)] SO_29 (bp2 (et rfl rfl) (et rfl rfl)) rfl) ?_
        refine Rn (Sy rfl rfl wn (yLbs (us := [h2.v]) ST_27 (et rfl rfl) hst (mtR (mtR mhR)) rfl rfl) rfl QSn) ?_
        refine Lc rfl ?_ LAn
        refine LB wn (rAl hst ZT_29) ?_
        clear hst
        intro b8 w hst
        refine DRn (l1 := []) (l2 := [0, 6]) (lc := [8]) (by kernel_rfl) (by kernel_rfl) (by kernel_rfl) ?_
        refine Rn (Sy rfl rfl wn (yLbs (us := [h2.v]) ST_27 (et rfl rfl) hst (mtR (mtR (mtR mhR))) rfl rfl) rfl (Sy rfl rfl wn (ybuild (us := [h2.v, h7.v, hnil.v]) [(0, .agg #[h2.v]), (1, h7.v)] SO_29 (bp2 (et rfl rfl) (et rfl rfl)) rfl) rfl QSn)) ?_
        refine Lc rfl ?_ LAn
        refine LT wn (r_stbn (vals' := [h2.v, h7.v, hnil.v]) (us := [h2.v, h7.v, hnil.v]) hst ST_29 (et rfl rfl) (et rfl rfl) rfl rfl (one_of rfl) rfl) ?_
        clear hst
        intro w hst
        refine DRz (l1 := []) (l2 := []) (by kernel_rfl) (by kernel_rfl) ?_
        refine Rn QSn ?_
        exact j1 _ _ ⟨_, _, rfl, rfl, rfl, ((hst.pk 4 [3, 2, 1, 0] rfl).facts (allT allI))⟩
      · refine LB wn (rAl hst ZT_29) ?_
        clear hst
        intro b8 w hst
        refine DRn (l1 := []) (l2 := [0, 2, 3, 4]) (lc := [5]) (by kernel_rfl) (by kernel_rfl) (by kernel_rfl) ?_
        refine Rn (Sy rfl rfl wn (yLbs (us := [h2.v]) ST_27 (et rfl rfl) hst (mtR (mtR (mtR mhR))) rfl rfl) rfl (Sy rfl rfl wn (yFb FL_27_0 (et rfl rfl)) rfl (Sy rfl rfl wn (yLb (u := h2.v) O_25 (et rfl rfl) hst (mtR (mtR (mtR mhR))) rfl) rfl (Sy rfl rfl wn (yLen SL_25 (et rfl rfl) hst (rdI q1)) rfl QSn)))) ?_
        refine Lc rfl ?_ LAn
        replace hst := hst.pk 2 [1, 0] rfl
        replace hst := hst.fz
        refine Lk wn (yCall FN_46 (a2 (et rfl rfl) (et rfl rfl))) (slices_Repeat_int_ok (hM := gr6) (hst := hst) (q1 := mhF)) ?_
        clear hst
        rintro _ w ⟨h7, rfl, hst⟩
        refine ⟨_, rfl, ?_⟩
        refine DRn (l1 := [6]) (l2 := [0]) (lc := [8]) (by kernel_rfl) (by kernel_rfl) (by kernel_rfl) ?_
        refine Ry rfl rfl wn (ybuild (us := [h2.v, h7.v, hnil.v]) [(0, .agg #[h2.v]), (1, h7.v)] SO_29 (bp2 (et rfl rfl) (et rfl rfl)) rfl) ?_
        refine Rn (Sy rfl rfl wn (yLbs (us := [h2.v]) ST_27 (et rfl rfl) hst (mtR (mtR (mtR mhR))) rfl rfl) rfl QSn) ?_
        refine Lc rfl ?_ LAn
        replace hst := hst.pk 2 [1, 0] rfl
        refine LT wn (r_stbn (vals' := [h2.v, h7.v, hnil.v]) (us := [h2.v, h7.v, hnil.v]) hst ST_29 (et rfl rfl) (et rfl rfl) rfl rfl (one_of rfl) rfl) ?_
        clear hst
        intro w hst
        refine DRz (l1 := []) (l2 := []) (by kernel_rfl) (by kernel_rfl) ?_
        refine Rn QSn ?_
        exact j1 _ _ ⟨_, _, rfl, rfl, rfl, ((hst.pk 4 [3, 2, 1, 0] rfl).facts (allT allI))⟩
    · refine LB wn (rAl hst ZT_29) ?_
      clear hst
      intro b8 w hst
      refine DRn (l1 := []) (l2 := [0, 2, 3, 4]) (lc := [1]) (by kernel_rfl) (by kernel_rfl) (by kernel_rfl) ?_
      refine Rn (Sy rfl rfl wn (yLbs (us := [h2.v]) ST_27 (et rfl rfl) hst (mtR (mtR mhR)) rfl rfl) rfl (Sy rfl rfl wn (yFb FL_27_0 (et rfl rfl)) rfl (Sy rfl rfl wn (yLb (u := h2.v) O_25 (et rfl rfl) hst (mtR (mtR mhR)) rfl) rfl (Sy rfl rfl wn (yLen SL_25 (et rfl rfl) hst (rdI q1)) rfl QSn)))) ?_
      refine Lc rfl ?_ LAn
      refine LH wn (rLt (n := 1) (l := [1]) hst SL_22 [.int .i64 1] (bp1 rfl) rfl rfl (mks1 (cs := [.int .i64 1]) rfl mkI mks0)) ?_
      clear hst
      intro h5 w hst
      refine DRn (l1 := []) (l2 := [0, 2, 3, 4]) (lc := [5]) (by kernel_rfl) (by kernel_rfl) (by kernel_rfl) ?_
      refine Rn (Sy rfl rfl wn (yLbs (us := [h2.v]) ST_27 (et rfl rfl) hst (mtR (mtR (mtR mhR))) rfl rfl) rfl (Sy rfl rfl wn (yFb FL_27_0 (et rfl rfl)) rfl (Sy rfl rfl wn (yLb (u := h2.v) O_25 (et rfl rfl) hst (mtR (mtR (mtR mhR))) rfl) rfl (Sy rfl rfl wn (yLen SL_25 (et rfl rfl) hst (rdI q1)) rfl QSn)))) ?_
      refine Lc rfl ?_ LAn
      replace hst := hst.fz
      refine Lk wn (yCall FN_46 (a2 (et rfl rfl) (et rfl rfl))) (slices_Repeat_int_ok (hM := gr6) (hst := hst) (q1 := mhF)) ?_
      clear hst
      rintro _ w ⟨h7, rfl, hst⟩
      refine ⟨_, rfl, ?_⟩
      refine DRn (l1 := [6]) (l2 := [0]) (lc := [8]) (by kernel_rfl) (by kernel_rfl) (by kernel_rfl) ?_
      refine Ry rfl rfl wn (ybuild (us := [h2.v, h7.v, hnil.v]) [(0, .agg #[h2.v]), (1, h7.v)] SO_29 (bp2 (et rfl rfl) (et rfl rfl)) rfl) ?_
      refine Rn (Sy rfl rfl wn (yLbs (us := [h2.v]) ST_27 (et rfl rfl) hst (mtR (mtR (mtR mhR))) rfl rfl) rfl QSn) ?_
      refine Lc rfl ?_ LAn
      replace hst := hst.pk 2 [1, 0] rfl
      refine LT wn (r_stbn (vals' := [h2.v, h7.v, hnil.v]) (us := [h2.v, h7.v, hnil.v]) hst ST_29 (et rfl rfl) (et rfl rfl) rfl rfl (one_of rfl) rfl) ?_
      clear hst
      intro w hst
      refine DRz (l1 := []) (l2 := []) (by kernel_rfl) (by kernel_rfl) ?_
      refine Rn QSn ?_
      exact j1 _ _ ⟨_, _, rfl, rfl, rfl, ((hst.pk 4 [3, 2, 1, 0] rfl).facts (allT allI))⟩
  clear hst
  rintro f w ⟨b9, h10, e11_1, e11_2, e11_3, hst⟩
  refine k2 _ _ ?_
  refine seqQ fun Q3 k3 z3 => ?_
  refine seqQ fun Q4 k4 z4 => ?_
  refine wp_region_lit ?_
  refine Y wn rfl (yFb FL_27_0 (et rfl e11_1)) ?_
  refine Y wn rfl (yLb (u := h2.v) O_25 (et rfl rfl) hst mhR rfl) ?_
  refine Y wn rfl (yLen SL_25 (et rfl rfl) hst (rdI q1)) ?_
  refine Y wn rfl (ym (v := .int .i64 0) rfl) ?_
  refine wpList_nil ?_
  refine k4 _ _ ?_
  refine blockQ fun Q5 qb5 => ?_
  obtain ⟨o2, go2, hM⟩ := bs hM
  have je2_0 : ∀ (x37 : List (List Int)) (h36 : Hdr) (f : Nat → Value) (w : World), f 2 = .pointer (some ⟨b4, 0, none⟩) → f 3 = .pointer (some ⟨b9, 0, none⟩) → St w0 (ros) (box b4 29 [hnil.v, hnil.v, hnil.v] :: row 3 (rI .i64) h10.v r6 :: row 22 (rS (rI .i64)) h36.v x37 :: box b9 29 [h2.v, h10.v, h36.v] :: rs) w → x37 = o2 → Q5 (.exit 0) (fr 31 f) w := by
    intro x37 h36 f w eje2_0_2 eje2_0_3 hst ho
    subst ho
    refine qb5 _ _ _ ?_
    refine k3 _ _ ?_
    refine seqQ fun Q16 k16 z16 => ?_
    refine wp_region_lit ?_
    refine Y wn rfl (yLbs (us := [h2.v, h10.v, h36.v]) ST_29 (et rfl eje2_0_3) hst (mtR (mtR (mtR mhR))) rfl rfl) ?_
    refine YT wn rfl (r_stbn (vals' := [h2.v, h10.v, h36.v]) (us := [h2.v, h10.v, h36.v]) hst ST_29 (et rfl eje2_0_2) (et rfl rfl) rfl rfl (one_of rfl) rfl) ?_
    clear hst
    intro w hst
    refine wpList_nil ?_
    refine k16 _ _ ?_
    refine wp_ret ?_
    obtain rfl := someI hM
    exact hQ _ _ _ (fin1r Try.results49 (rcs2 rfl eje2_0_2 hst mhR ST_29 rfl) ⟨_, _, _, rfl, ((hst.pk 4 [1, 1] rfl).facts (allC q1 allI))⟩)
  replace hst := hst.rowNh 22 (rS (rI .i64))
  refine loopQ (fun s a w => ∃ (x22 : List (List Int)) (x23 : Int) (f : Nat → Value) (h21 : Hdr), (x22, x23) = s ∧ a = fr 31 f ∧ f 2 = .pointer (some ⟨b4, 0, none⟩) ∧ f 3 = .pointer (some ⟨b9, 0, none⟩) ∧ f 14 = h2.v ∧ f 15 = .int .i64 (x1.length : Int) ∧ f 16 = .int .i64 x23 ∧ St w0 (ros) (box b4 29 [hnil.v, hnil.v, hnil.v] :: row 3 (rI .i64) h10.v r6 :: row 22 (rS (rI .i64)) h21.v x22 :: box b9 29 [h2.v, h10.v, h21.v] :: rs) w) go2 ⟨_, _, _, _, rfl, rfl, e11_2, e11_3, rfl, rfl, rfl, (hst.pk 5 [2, 2, 0, 1] rfl)⟩ ?_
  clear hst
  rintro _ _ w r2_ ⟨x22, x23, f, h21, rfl, rfl, e2_2, e2_3, e2_14, e2_15, e2_16, hst⟩ hM2 ho2 Q100002 n2 zz2
  refine seqQ fun Q17 k17 z17 => ?_
  refine wp_region_lit ?_
  refine Y wn rfl (ylss (et rfl e2_16) (et rfl e2_15)) ?_
  refine wpList_nil ?_
  refine k17 _ _ ?_
  refine seqQ fun Q18 k18 z18 => ?_
  rcases iteS hM2 with ⟨c38, hM2⟩ | ⟨c38, hM2⟩
  · refine condT (et rfl rfl) (decide_eq_true c38) ?_
    refine wp_skip ?_
    refine k18 _ _ ?_
    refine seqQ fun Q19 k19 z19 => ?_
    refine blockQ fun Q20 qb20 => ?_
    refine seqQ fun Q21 k21 z21 => ?_
    refine wp_region_lit ?_
    obtain ⟨x39, gx39, hM2⟩ := bs hM2
    refine Y wn rfl (yIa SL_25 (et rfl e2_14) (et rfl e2_16) hst (rdI q1) gx39) ?_
    obtain ⟨h40, hst⟩ := iLs hst q1 gx39
    refine Y wn rfl (yCt O_22 (et rfl rfl) hst (mtF mhF) rfl) ?_
    refine Y wn rfl (ya (v := h40.v) (et rfl rfl)) ?_
    refine wpList_nil ?_
    refine k21 _ _ ?_
    obtain ⟨r42, gr42, hM2⟩ := bs hM2
    obtain ⟨x46, gx46, hM2⟩ := bs hM2
    refine wp_drawR [0, 1, 0, 0, 8, 28, 60, 127, 255, 511] [2, 5, 6, 7, 9] 5 folM (by kernel_rfl) (by kernel_rfl) (by kernel_rfl) ?_
    replace hst := hst.drew
    refine DRn (l1 := [0, 1, 3, 4]) (l2 := []) (lc := [2]) (by kernel_rfl) (by kernel_rfl) (by kernel_rfl) ?_
    refine Ry rfl rfl wn (yFb FL_29_2 (et rfl e2_3)) ?_
    refine Ry rfl rfl wn (yLb (u := h21.v) O_25 (et rfl rfl) hst (mtR (mtR (mtR mhR))) rfl) ?_
    refine Ry rfl rfl wn (ym (v := h40.v) (et rfl rfl)) ?_
    refine Ry rfl rfl wn (yLen SL_22 (et rfl rfl) hst (rdI mhF)) ?_
    refine Rn QSn ?_
    refine Lc rfl ?_ LAn
    refine LH wn (rLt (n := 1) (l := [1]) hst SL_22 [.int .i64 1] (bp1 rfl) rfl rfl (mks1 (cs := [.int .i64 1]) rfl mkI mks0)) ?_
    clear hst
    intro h41 w hst
    refine DRn (l1 := []) (l2 := [0, 1, 3, 4]) (lc := [5]) (by kernel_rfl) (by kernel_rfl) (by kernel_rfl) ?_
    refine Rn (Sy rfl rfl wn (yFb FL_29_2 (et rfl e2_3)) rfl (Sy rfl rfl wn (yLb (u := h21.v) O_25 (et rfl rfl) hst (mtR (mtR (mtR (mtR mhR)))) rfl) rfl (Sy rfl rfl wn (ym (v := h40.v) (et rfl rfl)) rfl (Sy rfl rfl wn (yLen SL_22 (et rfl rfl) hst (rdI mhF)) rfl QSn)))) ?_
    refine Lc rfl ?_ LAn
    replace hst := hst.fz
    refine Lk wn (yCall FN_46 (a2 (et rfl rfl) (et rfl rfl))) (slices_Repeat_int_ok (hM := gr42) (hst := hst) (q1 := mhF)) ?_
    clear hst
    rintro _ w ⟨h43, rfl, hst⟩
    refine ⟨_, rfl, ?_⟩
    refine DRn (l1 := []) (l2 := [0, 1]) (lc := [6]) (by kernel_rfl) (by kernel_rfl) (by kernel_rfl) ?_
    refine Rn (Sy rfl rfl wn (yFb FL_29_2 (et rfl e2_3)) rfl (Sy rfl rfl wn (yLb (u := h21.v) O_25 (et rfl rfl) hst (mtR (mtR (mtR (mtR mhR)))) rfl) rfl QSn)) ?_
    refine Lc rfl ?_ LAn
    replace hst := hst.fz
    refine LH wn (rLt (n := 1) (l := [r42]) hst SL_25 [h43.v] (bp1 (et rfl rfl)) rfl rfl (mks1 (cs := [h43.v]) rfl (mkS mhF) mks0)) ?_
    clear hst
    intro h44 w hst
    refine DRn (l1 := []) (l2 := [0, 1]) (lc := [7]) (by kernel_rfl) (by kernel_rfl) (by kernel_rfl) ?_
    refine Rn (Sy rfl rfl wn (yFb FL_29_2 (et rfl e2_3)) rfl (Sy rfl rfl wn (yLb (u := h21.v) O_25 (et rfl rfl) hst (mtR (mtR (mtR (mtR mhR)))) rfl) rfl QSn)) ?_
    refine Lc rfl ?_ LAn
    replace hst := hst.pk 4 [3, 0, 0, 0] rfl
    refine LH wn (rAp hst SL_25 (et rfl rfl) (et rfl rfl) (rdO (mtR mhR)) gx46) ?_
    clear hst
    intro h45 w hst
    refine DRn (l1 := [8]) (l2 := []) (lc := [9]) (by kernel_rfl) (by kernel_rfl) (by kernel_rfl) ?_
    refine Ry rfl rfl wn (yFb FL_29_2 (et rfl e2_3)) ?_
    refine Rn QSn ?_
    refine Lc rfl ?_ LAn
    replace hst := hst.pk 5 [4, 0, 0, 0, 0] rfl
    refine LT wn (r_stb1 (vals' := [h2.v, h10.v, h45.v]) hst O_25 (et rfl rfl) (et rfl rfl) rfl rfl rfl rfl) ?_
    clear hst
    intro w hst
    refine DRz (l1 := []) (l2 := []) (by kernel_rfl) (by kernel_rfl) ?_
    refine Rn QSn ?_
    refine qb20 _ _ _ ?_
    refine k19 _ _ ?_
    refine wp_region_lit ?_
    refine Y wn rfl (yadd (et rfl e2_16) rfl) ?_
    refine Y wn rfl (ym (v := .int .i64 (wa .i64 x23 1)) (et rfl rfl)) ?_
    refine wpList_nil ?_
    obtain rfl := someI hM2
    exact n2 _ _ _ rfl ⟨_, _, _, _, rfl, rfl, e2_2, e2_3, e2_14, e2_15, rfl, ((hst.pk 5 [3, 3, 1, 0] rfl).facts (allT (allT (allT (allT allI)))))⟩
  · refine condF (et rfl rfl) (decide_eq_false c38) ?_
    refine wp_exit ?_
    refine z18 _ _ _ rfl ?_
    obtain rfl := someI hM2
    refine zz2 _ _ _ _ rfl rfl ?_
    exact je2_0 _ _ _ _ e2_2 e2_3 hst (ho2 _ rfl)

theorem dissect_total_ok {w0 : World} {ros : List Fact} {rs : List Res} {w : World} {x1 : List Int} {h2 : Hdr} {out : Int} (hM : dissect_total x1 = some out) (q1 : imm (rI .i64) h2.v x1 ∈ ros) (hst : St w0 ros (rs) w) :
    Calls Try.prog 68 #[h2.v] w (fun e w => e = .returned (.int .i64 out) ∧ St w0 (ros) (rs) w) := by
  refine enterQ Try.func68 rfl Try.ntmps68 rfl fun Q hQ => ?_
  refine seqQ fun Q1 k1 z1 => ?_
  refine wp_region_lit ?_
  refine Y wn rfl (ya (v := .int .i64 0) rfl) ?_
  refine wpList_nil ?_
  refine k1 _ _ ?_
  refine seqQ fun Q2 k2 z2 => ?_
  refine wp_region_lit ?_
  refine Y wn rfl (ya (v := .int .i64 0) rfl) ?_
  refine wpList_nil ?_
  refine k2 _ _ ?_
  refine seqQ fun Q3 k3 z3 => ?_
  refine seqQ fun Q4 k4 z4 => ?_
  refine wp_region_lit ?_
  refine Y wn rfl (ym (v := h2.v) (et rfl rfl)) ?_
  refine Y wn rfl (yLen SL_22 (et rfl rfl) hst (rdI q1)) ?_
  refine Y wn rfl (ym (v := .int .i64 0) rfl) ?_
  refine wpList_nil ?_
  refine k4 _ _ ?_
  refine blockQ fun Q5 qb5 => ?_
  obtain ⟨o1, go1, hM⟩ := bs hM
  have je1_0 : ∀ (x11 : Int) (f : Nat → Value) (w : World), f 3 = .int .i64 x11 → St w0 (ros) (rs) w → x11 = o1 → Q5 (.exit 0) (fr 17 f) w := by
    intro x11 f w eje1_0_3 hst ho
    subst ho
    refine qb5 _ _ _ ?_
    refine k3 _ _ ?_
    refine seqQ fun Q16 k16 z16 => ?_
    refine wp_region_lit ?_
    refine Y wn rfl (ym (v := .int .i64 x11) (et rfl eje1_0_3)) ?_
    refine Y wn rfl (ya (v := .int .i64 x11) (et rfl rfl)) ?_
    refine wpList_nil ?_
    refine k16 _ _ ?_
    refine wp_ret ?_
    obtain rfl := someI hM
    exact hQ _ _ _ (fin1r Try.results68 ⟨rfl, rfl⟩ ⟨rfl, hst⟩)
  refine loopQ (fun s a w => ∃ (x5 : Int) (x6 : Int) (f : Nat → Value), (x5, x6) = s ∧ a = fr 17 f ∧ f 3 = .int .i64 x5 ∧ f 6 = h2.v ∧ f 7 = .int .i64 (x1.length : Int) ∧ f 8 = .int .i64 x6 ∧ St w0 (ros) (rs) w) go1 ⟨_, _, _, rfl, rfl, rfl, rfl, rfl, rfl, hst⟩ ?_
  clear hst
  rintro _ _ w r1_ ⟨x5, x6, f, rfl, rfl, e1_3, e1_6, e1_7, e1_8, hst⟩ hM1 ho1 Q100001 n1 zz1
  refine seqQ fun Q17 k17 z17 => ?_
  refine wp_region_lit ?_
  refine Y wn rfl (ylss (et rfl e1_8) (et rfl e1_7)) ?_
  refine wpList_nil ?_
  refine k17 _ _ ?_
  refine seqQ fun Q18 k18 z18 => ?_
  rcases iteS hM1 with ⟨c12, hM1⟩ | ⟨c12, hM1⟩
  · refine condT (et rfl rfl) (decide_eq_true c12) ?_
    refine wp_skip ?_
    refine k18 _ _ ?_
    refine seqQ fun Q19 k19 z19 => ?_
    refine blockQ fun Q20 qb20 => ?_
    refine seqQ fun Q21 k21 z21 => ?_
    refine wp_region_lit ?_
    obtain ⟨x13, gx13, hM1⟩ := bs hM1
    refine Y wn rfl (yIa SL_22 (et rfl e1_6) (et rfl e1_8) hst (rdI q1) gx13) ?_
    refine Y wn rfl (yI O_3 (et rfl rfl) hst (rdI q1) gx13) ?_
    refine Y wn rfl (ya (v := .int .i64 x13) (et rfl rfl)) ?_
    refine wpList_nil ?_
    refine k21 _ _ ?_
    refine wp_region_lit ?_
    refine Y wn rfl (ym (v := .int .i64 x5) (et rfl e1_3)) ?_
    refine Y wn rfl (ym (v := .int .i64 x13) (et rfl rfl)) ?_
    refine Y wn rfl (yadd (et rfl rfl) (et rfl rfl)) ?_
    refine Y wn rfl (ya (v := .int .i64 (wa .i64 x5 x13)) (et rfl rfl)) ?_
    refine wpList_nil ?_
    refine qb20 _ _ _ ?_
    refine k19 _ _ ?_
    refine wp_region_lit ?_
    refine Y wn rfl (yadd (et rfl e1_8) rfl) ?_
    refine Y wn rfl (ym (v := .int .i64 (wa .i64 x6 1)) (et rfl rfl)) ?_
    refine wpList_nil ?_
    obtain rfl := someI hM1
    exact n1 _ _ _ rfl ⟨_, _, _, rfl, rfl, rfl, e1_6, e1_7, rfl, hst⟩
  · refine condF (et rfl rfl) (decide_eq_false c12) ?_
    refine wp_exit ?_
    refine z18 _ _ _ rfl ?_
    obtain rfl := someI hM1
    refine zz1 _ _ _ _ rfl rfl ?_
    exact je1_0 _ _ _ e1_3 hst (ho1 _ rfl)

theorem graph_levels_ok {w0 : World} {ros : List Fact} {rs : List Res} {w : World} {x1 : List (List Int)} {x3 : Int} {h2 : Hdr} {out : (List (List Int))} (hM : graph_levels x1 x3 = some out) (q1 : imm (rS (rI .i64)) h2.v x1 ∈ ros) (hst : St w0 ros (rs) w) :
    Calls Try.prog 84 #[.agg #[h2.v], .int .i64 x3] w (fun e w => ∃ (h100001 : Hdr), e = .returned (h100001.v) ∧ St w0 (ros) (row 22 (rS (rI .i64)) h100001.v out :: rs) w) := by
  refine enterQ Try.func84 rfl Try.ntmps84 rfl fun Q hQ => ?_
  refine seqQ fun Q1 k1 z1 => ?_
  refine wp_region_lit ?_
  refine YB wn rfl (r_box (vals := [h2.v]) hst (et rfl rfl) rfl) ?_
  clear hst
  intro b4 w hst
  refine Y wn rfl (ya (v := hnil.v) rfl) ?_
  refine wpList_nil ?_
  refine k1 _ _ ?_
  refine seqQ fun Q2 k2 z2 => ?_
  refine wp_region_lit ?_
  refine Y wn rfl (yFb FL_27_0 (et rfl rfl)) ?_
  refine Y wn rfl (yLb (u := h2.v) O_25 (et rfl rfl) hst mhR rfl) ?_
  refine Y wn rfl (yLen SL_25 (et rfl rfl) hst (rdI q1)) ?_
  obtain ⟨x7, gx7, hM⟩ := bs hM
  refine YH wn rfl (rMk hst SL_67 (et rfl rfl) gx7) ?_
  clear hst
  intro h5 w hst
  refine Y wn rfl (ya (v := h5.v) (et rfl rfl)) ?_
  refine wpList_nil ?_
  refine k2 _ _ ?_
  refine seqQ fun Q3 k3 z3 => ?_
  refine wp_region_lit ?_
  refine Y wn rfl (ym (v := h5.v) (et rfl rfl)) ?_
  refine Y wn rfl (ym (v := .int .i64 x3) (et rfl rfl)) ?_
  obtain ⟨x8, gx8, hM⟩ := bs hM
  refine Y wn rfl (yIs SL_67 (et rfl rfl) (et rfl rfl) hst (rdO mhR) gx8) ?_
  refine YT wn rfl (r_sti (cs := [.bool true]) hst O_4 rfl (et rfl rfl) rfl rfl mkB gx8) ?_
  clear hst
  intro w hst
  refine wpList_nil ?_
  refine k3 _ _ ?_
  refine seqQ fun Q4 k4 z4 => ?_
  refine wp_region_lit ?_
  refine Y wn rfl (ya (v := hnil.v) rfl) ?_
  refine wpList_nil ?_
  refine k4 _ _ ?_
  refine seqQ fun Q5 k5 z5 => ?_
  refine seqQ fun Q6 k6 z6 => ?_
  refine wp_region_lit ?_
  refine Y wn rfl (ym (v := .int .i64 x3) (et rfl rfl)) ?_
  refine YH wn rfl (rLt (n := 1) (l := [x3]) hst SL_22 [.int .i64 x3] (bp1 (et rfl rfl)) rfl rfl (mks1 (cs := [.int .i64 x3]) rfl mkI mks0)) ?_
  clear hst
  intro h9 w hst
  refine Y wn rfl (ya (v := h9.v) (et rfl rfl)) ?_
  refine wpList_nil ?_
  refine k6 _ _ ?_
  refine blockQ fun Q7 qb7 => ?_
  obtain ⟨o27, go27, hM⟩ := bs hM
  have je27_0 : ∀ (x413 : List (List Int)) (h412 : Hdr) (f : Nat → Value) (w : World), f 6 = h412.v → St w0 (ros) (row 22 (rS (rI .i64)) h412.v x413 :: rs) w → x413 = o27 → Q7 (.exit 0) (fr 63 f) w := by
    intro x413 h412 f w eje27_0_6 hst ho
    subst ho
    refine qb7 _ _ _ ?_
    refine k5 _ _ ?_
    refine seqQ fun Q212 k212 z212 => ?_
    refine wp_region_lit ?_
    refine Y wn rfl (ym (v := h412.v) (et rfl eje27_0_6)) ?_
    refine Y wn rfl (ya (v := h412.v) (et rfl rfl)) ?_
    refine wpList_nil ?_
    refine k212 _ _ ?_
    refine wp_ret ?_
    obtain rfl := someI hM
    exact hQ _ _ _ (fin1r Try.results84 ⟨rfl, rfl⟩ ⟨_, rfl, hst⟩)
  replace hst := hst.rowNh 22 (rS (rI .i64))
  refine loopQ (fun s a w => ∃ (x206 : List Bool) (x208 : List (List Int)) (x210 : List Int) (f : Nat → Value) (h207 : Hdr) (h209 : Hdr), (x206, x208, x210) = s ∧ a = fr 63 f ∧ f 2 = .pointer (some ⟨b4, 0, none⟩) ∧ f 5 = h5.v ∧ f 6 = h207.v ∧ f 7 = h209.v ∧ St w0 (ros) (box b4 27 [h2.v] :: row 4 rB h5.v x206 :: row 22 (rS (rI .i64)) h207.v x208 :: row 3 (rI .i64) h209.v x210 :: rs) w) go27 ⟨_, _, _, _, _, _, rfl, rfl, rfl, rfl, rfl, rfl, (hst.pk 4 [3, 2, 0, 0] rfl)⟩ ?_
  clear hst
  rintro _ _ w r27_ ⟨x206, x208, x210, f, h207, h209, rfl, rfl, e27_2, e27_5, e27_6, e27_7, hst⟩ hM27 ho27 Q100027 n27 zz27
  refine seqQ fun Q213 k213 z213 => ?_
  refine seqQ fun Q214 k214 z214 => ?_
  refine wp_region_lit ?_
  refine Y wn rfl (ym (v := h209.v) (et rfl e27_7)) ?_
  refine Y wn rfl (yLen SL_22 (et rfl rfl) hst (rdO (mtR (mtR (mtR mhR))))) ?_
  refine Y wn rfl (ygtr (et rfl rfl) rfl) ?_
  refine wpList_nil ?_
  refine k214 _ _ ?_
  rcases iteS hM27 with ⟨c414, hM27⟩ | ⟨c414, hM27⟩
  · refine condT (et rfl rfl) (decide_eq_true c414) ?_
    refine wp_skip ?_
    refine k213 _ _ ?_
    refine blockQ fun Q215 qb215 => ?_
    refine seqQ fun Q216 k216 z216 => ?_
    refine wp_region_lit ?_
    refine Y wn rfl (ym (v := h207.v) (et rfl e27_6)) ?_
    refine Y wn rfl (ym (v := h209.v) (et rfl e27_7)) ?_
    replace hst := hst.pk 4 [3, 0, 0, 0] rfl
    replace hst := hst.fz
    refine YH wn rfl (rLt (n := 1) (l := [x210]) hst SL_25 [h209.v] (bp1 (et rfl rfl)) rfl rfl (mks1 (cs := [h209.v]) rfl (mkS mhF) mks0)) ?_
    clear hst
    intro h415 w hst
    obtain ⟨x417, gx417, hM27⟩ := bs hM27
    replace hst := hst.pk 4 [3, 0, 0, 0] rfl
    refine YH wn rfl (rAp hst SL_25 (et rfl rfl) (et rfl rfl) (rdO (mtR mhR)) gx417) ?_
    clear hst
    intro h416 w hst
    refine Y wn rfl (ya (v := h416.v) (et rfl rfl)) ?_
    refine wpList_nil ?_
    refine k216 _ _ ?_
    refine seqQ fun Q217 k217 z217 => ?_
    refine wp_region_lit ?_
    refine Y wn rfl (ya (v := hnil.v) rfl) ?_
    refine wpList_nil ?_
    refine k217 _ _ ?_
    refine seqQ fun Q218 k218 z218 => ?_
    refine seqQ fun Q219 k219 z219 => ?_
    refine wp_region_lit ?_
    refine Y wn rfl (ym (v := h209.v) (et rfl e27_7)) ?_
    refine Y wn rfl (yLen SL_22 (et rfl rfl) hst (rdI mhF)) ?_
    refine Y wn rfl (ym (v := .int .i64 0) rfl) ?_
    refine wpList_nil ?_
    refine k219 _ _ ?_
    refine blockQ fun Q220 qb220 => ?_
    obtain ⟨o36, go36, hM27⟩ := bs hM27
    have je36_0 : ∀ (x546 : List Bool) (x548 : List Int) (h547 : Hdr) (f : Nat → Value) (w : World), f 2 = .pointer (some ⟨b4, 0, none⟩) → f 5 = h5.v → f 6 = h416.v → f 8 = h547.v → St w0 (ros) (box b4 27 [h2.v] :: row 4 rB h5.v x546 :: row 22 (rS (rI .i64)) h416.v x417 :: row 3 (rI .i64) h547.v x548 :: rs) w → (x546, x548) = o36 → Q220 (.exit 2) (fr 63 f) w := by
      intro x546 x548 h547 f w eje36_0_2 eje36_0_5 eje36_0_6 eje36_0_8 hst ho
      subst ho
      refine qb220 _ _ _ ?_
      refine k218 _ _ ?_
      refine seqQ fun Q283 k283 z283 => ?_
      refine wp_region_lit ?_
      refine Y wn rfl (ym (v := h547.v) (et rfl eje36_0_8)) ?_
      obtain ⟨r549, gr549, hM27⟩ := bs hM27
      replace hst := hst.pk 4 [3, 0, 0, 0] rfl
      refine Yc wn rfl (yCall FN_85 (a1 (et rfl rfl))) (sortI_ok (hM := gr549) (hst := hst) ) ?_
      clear hst
      rintro _ w ⟨rfl, hst⟩
      refine ⟨_, rfl, ?_⟩
      refine wpList_nil ?_
      refine k283 _ _ ?_
      refine wp_region_lit ?_
      refine Y wn rfl (ym (v := h547.v) (et rfl eje36_0_8)) ?_
      refine Y wn rfl (ya (v := h547.v) (et rfl rfl)) ?_
      refine wpList_nil ?_
      refine qb215 _ _ _ ?_
      obtain rfl := someI hM27
      exact n27 _ _ _ rfl ⟨_, _, _, _, _, _, rfl, rfl, eje36_0_2, eje36_0_5, eje36_0_6, rfl, (hst.pk 4 [1, 1, 1, 0] rfl)⟩
    replace hst := hst.rowNh 3 (rI .i64)
    refine loopQ (fun s a w => ∃ (x478 : List Bool) (x480 : List Int) (x481 : Int) (f : Nat → Value) (h479 : Hdr), (x478, x480, x481) = s ∧ a = fr 63 f ∧ f 2 = .pointer (some ⟨b4, 0, none⟩) ∧ f 5 = h5.v ∧ f 6 = h416.v ∧ f 8 = h479.v ∧ f 29 = h209.v ∧ f 30 = .int .i64 (x210.length : Int) ∧ f 31 = .int .i64 x481 ∧ St w0 (imm (rI .i64) h209.v x210 :: ros) (box b4 27 [h2.v] :: row 4 rB h5.v x478 :: row 22 (rS (rI .i64)) h416.v x417 :: row 3 (rI .i64) h479.v x480 :: rs) w) go36 ⟨_, _, _, _, _, rfl, rfl, e27_2, e27_5, rfl, rfl, rfl, rfl, rfl, (hst.pk 5 [3, 3, 1, 0] rfl)⟩ ?_
    clear hst
    rintro _ _ w r36_ ⟨x478, x480, x481, f, h479, rfl, rfl, e36_2, e36_5, e36_6, e36_8, e36_29, e36_30, e36_31, hst⟩ hM36 ho36 Q100036 n36 zz36
    refine seqQ fun Q284 k284 z284 => ?_
    refine wp_region_lit ?_
    refine Y wn rfl (ylss (et rfl e36_31) (et rfl e36_30)) ?_
    refine wpList_nil ?_
    refine k284 _ _ ?_
    refine seqQ fun Q285 k285 z285 => ?_
    rcases iteS hM36 with ⟨c550, hM36⟩ | ⟨c550, hM36⟩
    · refine condT (et rfl rfl) (decide_eq_true c550) ?_
      refine wp_skip ?_
      refine k285 _ _ ?_
      refine seqQ fun Q286 k286 z286 => ?_
      refine blockQ fun Q287 qb287 => ?_
      refine seqQ fun Q288 k288 z288 => ?_
      refine wp_region_lit ?_
      obtain ⟨x551, gx551, hM36⟩ := bs hM36
      refine Y wn rfl (yIa SL_22 (et rfl e36_29) (et rfl e36_31) hst (rdI mhF) gx551) ?_
      refine Y wn rfl (yI O_3 (et rfl rfl) hst (rdI mhF) gx551) ?_
      refine Y wn rfl (ya (v := .int .i64 x551) (et rfl rfl)) ?_
      refine wpList_nil ?_
      refine k288 _ _ ?_
      refine seqQ fun Q289 k289 z289 => ?_
      refine wp_region_lit ?_
      refine Y wn rfl (yFb FL_27_0 (et rfl e36_2)) ?_
      refine Y wn rfl (yLb (u := h2.v) O_25 (et rfl rfl) hst mhR rfl) ?_
      refine Y wn rfl (ym (v := .int .i64 x551) (et rfl rfl)) ?_
      obtain ⟨x552, gx552, hM36⟩ := bs hM36
      refine Y wn rfl (yIa SL_25 (et rfl rfl) (et rfl rfl) hst (rdI (mtF q1)) gx552) ?_
      obtain ⟨h553, hst⟩ := iLs hst (mtF q1) gx552
      refine Y wn rfl (yCt O_22 (et rfl rfl) hst (mtF mhF) rfl) ?_
      refine Y wn rfl (yLen SL_22 (et rfl rfl) hst (rdI mhF)) ?_
      refine Y wn rfl (ym (v := .int .i64 0) rfl) ?_
      refine wpList_nil ?_
      refine k289 _ _ ?_
      refine blockQ fun Q290 qb290 => ?_
      obtain ⟨o39, go39, hM36⟩ := bs hM36
      have je39_0 : ∀ (x592 : List Bool) (x594 : List Int) (h593 : Hdr) (f : Nat → Value) (w : World), f 2 = .pointer (some ⟨b4, 0, none⟩) → f 5 = h5.v → f 6 = h416.v → f 8 = h593.v → f 29 = h209.v → f 30 = .int .i64 (x210.length : Int) → f 31 = .int .i64 x481 → St w0 (imm (rI .i64) h209.v x210 :: ros) (box b4 27 [h2.v] :: row 4 rB h5.v x592 :: row 22 (rS (rI .i64)) h416.v x417 :: row 3 (rI .i64) h593.v x594 :: rs) w → (x592, x594) = o39 → Q290 (.exit 4) (fr 63 f) w := by
        intro x592 x594 h593 f w eje39_0_2 eje39_0_5 eje39_0_6 eje39_0_8 eje39_0_29 eje39_0_30 eje39_0_31 hst ho
        subst ho
        refine qb290 _ _ _ ?_
        refine qb287 _ _ _ ?_
        refine k286 _ _ ?_
        refine wp_region_lit ?_
        refine Y wn rfl (yadd (et rfl eje39_0_31) rfl) ?_
        refine Y wn rfl (ym (v := .int .i64 (wa .i64 x481 1)) (et rfl rfl)) ?_
        refine wpList_nil ?_
        obtain rfl := someI hM36
        exact n36 _ _ _ rfl ⟨_, _, _, _, _, rfl, rfl, eje39_0_2, eje39_0_5, eje39_0_6, eje39_0_8, eje39_0_29, eje39_0_30, rfl, hst⟩
      refine loopQ (fun s a w => ∃ (x569 : List Bool) (x571 : List Int) (x572 : Int) (f : Nat → Value) (h570 : Hdr), (x569, x571, x572) = s ∧ a = fr 63 f ∧ f 2 = .pointer (some ⟨b4, 0, none⟩) ∧ f 5 = h5.v ∧ f 6 = h416.v ∧ f 8 = h570.v ∧ f 29 = h209.v ∧ f 30 = .int .i64 (x210.length : Int) ∧ f 31 = .int .i64 x481 ∧ f 39 = h553.v ∧ f 40 = .int .i64 (x552.length : Int) ∧ f 41 = .int .i64 x572 ∧ St w0 (imm (rI .i64) h209.v x210 :: imm (rI .i64) h553.v x552 :: ros) (box b4 27 [h2.v] :: row 4 rB h5.v x569 :: row 22 (rS (rI .i64)) h416.v x417 :: row 3 (rI .i64) h570.v x571 :: rs) w) go39 ⟨_, _, _, _, _, rfl, rfl, e36_2, e36_5, e36_6, e36_8, e36_29, e36_30, e36_31, rfl, rfl, rfl, (hst.facts (allC (mtF (mtF mhF)) (allC mhF (allT (allT (allT allI))))))⟩ ?_
      clear hst
      rintro _ _ w r39_ ⟨x569, x571, x572, f, h570, rfl, rfl, e39_2, e39_5, e39_6, e39_8, e39_29, e39_30, e39_31, e39_39, e39_40, e39_41, hst⟩ hM39 ho39 Q100039 n39 zz39
      refine seqQ fun Q307 k307 z307 => ?_
      refine wp_region_lit ?_
      refine Y wn rfl (ylss (et rfl e39_41) (et rfl e39_40)) ?_
      refine wpList_nil ?_
      refine k307 _ _ ?_
      refine seqQ fun Q308 k308 z308 => ?_
      rcases iteS hM39 with ⟨c595, hM39⟩ | ⟨c595, hM39⟩
      · refine condT (et rfl rfl) (decide_eq_true c595) ?_
        refine wp_skip ?_
        refine k308 _ _ ?_
        refine seqQ fun Q309 k309 z309 => ?_
        refine blockQ fun Q310 qb310 => ?_
        refine seqQ fun Q311 k311 z311 => ?_
        refine wp_region_lit ?_
        obtain ⟨x596, gx596, hM39⟩ := bs hM39
        refine Y wn rfl (yIa SL_22 (et rfl e39_39) (et rfl e39_41) hst (rdI (mtF mhF)) gx596) ?_
        refine Y wn rfl (yI O_3 (et rfl rfl) hst (rdI (mtF mhF)) gx596) ?_
        refine Y wn rfl (ya (v := .int .i64 x596) (et rfl rfl)) ?_
        refine wpList_nil ?_
        refine k311 _ _ ?_
        refine seqQ fun Q312 k312 z312 => ?_
        refine wp_region_lit ?_
        refine Y wn rfl (ym (v := h5.v) (et rfl e39_5)) ?_
        refine Y wn rfl (ym (v := .int .i64 x596) (et rfl rfl)) ?_
        obtain ⟨x597, gx597, hM39⟩ := bs hM39
        refine Y wn rfl (yIa SL_67 (et rfl rfl) (et rfl rfl) hst (rdO (mtR mhR)) gx597) ?_
        refine Y wn rfl (yB O_4 (et rfl rfl) hst (rdO (mtR mhR)) gx597) ?_
        refine Y wn rfl (ynot (et rfl rfl)) ?_
        refine wpList_nil ?_
        refine k312 _ _ ?_
        have j40 : ∀ (x602 : List Bool) (x604 : List Int) (h603 : Hdr) (f : Nat → Value) (w : World), f 2 = .pointer (some ⟨b4, 0, none⟩) → f 5 = h5.v → f 6 = h416.v → f 8 = h603.v → f 29 = h209.v → f 30 = .int .i64 (x210.length : Int) → f 31 = .int .i64 x481 → f 39 = h553.v → f 40 = .int .i64 (x552.length : Int) → f 41 = .int .i64 x572 → St w0 (imm (rI .i64) h209.v x210 :: imm (rI .i64) h553.v x552 :: ros) (box b4 27 [h2.v] :: row 4 rB h5.v x602 :: row 22 (rS (rI .i64)) h416.v x417 :: row 3 (rI .i64) h603.v x604 :: rs) w → graph_levels_j40 x572 x602 x604 = some r39_ → Q310 .normal (fr 63 f) w := by
          intro x602 x604 h603 f w ej40_2 ej40_5 ej40_6 ej40_8 ej40_29 ej40_30 ej40_31 ej40_39 ej40_40 ej40_41 hst hM
          refine qb310 _ _ _ ?_
          refine k309 _ _ ?_
          refine wp_region_lit ?_
          refine Y wn rfl (yadd (et rfl ej40_41) rfl) ?_
          refine Y wn rfl (ym (v := .int .i64 (wa .i64 x572 1)) (et rfl rfl)) ?_
          refine wpList_nil ?_
          obtain rfl := someI hM
          exact n39 _ _ _ rfl ⟨_, _, _, _, _, rfl, rfl, ej40_2, ej40_5, ej40_6, ej40_8, ej40_29, ej40_30, ej40_31, ej40_39, ej40_40, rfl, hst⟩
        rcases iteS hM39 with ⟨c605, hM39⟩ | ⟨c605, hM39⟩
        · refine condF (et rfl rfl) (nF c605) ?_
          refine wp_skip ?_
          exact j40 _ _ _ _ _ e39_2 e39_5 e39_6 e39_8 e39_29 e39_30 e39_31 e39_39 e39_40 e39_41 hst hM39
        · refine condT (et rfl rfl) (nT (bfalse c605)) ?_
          refine seqQ fun Q314 k314 z314 => ?_
          refine wp_region_lit ?_
          refine Y wn rfl (ym (v := h5.v) (et rfl e39_5)) ?_
          refine Y wn rfl (ym (v := .int .i64 x596) (et rfl rfl)) ?_
          obtain ⟨x606, gx606, hM39⟩ := bs hM39
          refine Y wn rfl (yIs SL_67 (et rfl rfl) (et rfl rfl) hst (rdO (mtR mhR)) gx606) ?_
          replace hst := hst.pk 2 [1, 0] rfl
          refine YT wn rfl (r_sti (cs := [.bool true]) hst O_4 rfl (et rfl rfl) rfl rfl mkB gx606) ?_
          clear hst
          intro w hst
          refine wpList_nil ?_
          refine k314 _ _ ?_
          refine wp_region_lit ?_
          refine Y wn rfl (ym (v := h570.v) (et rfl e39_8)) ?_
          refine Y wn rfl (ym (v := .int .i64 x596) (et rfl rfl)) ?_
          refine YH wn rfl (rLt (n := 1) (l := [x596]) hst SL_22 [.int .i64 x596] (bp1 (et rfl rfl)) rfl rfl (mks1 (cs := [.int .i64 x596]) rfl mkI mks0)) ?_
          clear hst
          intro h607 w hst
          obtain ⟨x609, gx609, hM39⟩ := bs hM39
          replace hst := hst.pk 5 [4, 0, 0, 0, 0] rfl
          refine YH wn rfl (rAp hst SL_22 (et rfl rfl) (et rfl rfl) (rdO (mtR mhR)) gx609) ?_
          clear hst
          intro h608 w hst
          refine Y wn rfl (ya (v := h608.v) (et rfl rfl)) ?_
          refine wpList_nil ?_
          exact j40 _ _ _ _ _ e39_2 e39_5 e39_6 rfl e39_29 e39_30 e39_31 e39_39 e39_40 e39_41 (hst.pk 5 [3, 2, 2, 0] rfl) hM39
      · refine condF (et rfl rfl) (decide_eq_false c595) ?_
        refine wp_exit ?_
        refine z308 _ _ _ rfl ?_
        obtain rfl := someI hM39
        refine zz39 _ _ _ _ rfl rfl ?_
        exact je39_0 _ _ _ _ _ e39_2 e39_5 e39_6 e39_8 e39_29 e39_30 e39_31 (hst.facts (allC mhF (allT (allT allI)))) (ho39 _ rfl)
    · refine condF (et rfl rfl) (decide_eq_false c550) ?_
      refine wp_exit ?_
      refine z285 _ _ _ rfl ?_
      obtain rfl := someI hM36
      refine zz36 _ _ _ _ rfl rfl ?_
      exact je36_0 _ _ _ _ _ e36_2 e36_5 e36_6 e36_8 (hst.facts (allT allI)) (ho36 _ rfl)
  · refine condF (et rfl rfl) (decide_eq_false c414) ?_
    refine wp_exit ?_
    refine z213 _ _ _ rfl ?_
    obtain rfl := someI hM27
    refine zz27 _ _ _ _ rfl rfl ?_
    exact je27_0 _ _ _ _ e27_6 (hst.pk 4 [2] rfl) (ho27 _ rfl)

theorem slices_Grow_int_ok {w0 : World} {ros : List Fact} {rs : List Res} {w : World} {x1 : Int} {out : (List Int)} (hM : slices_Grow_int x1 = some out) (hst : St w0 ros (rs) w) :
    Calls Try.prog 86 #[hnil.v, .int .i64 x1] w (fun e w => ∃ (h100001 : Hdr), e = .returned (h100001.v) ∧ St w0 (ros) (row 3 (rI .i64) h100001.v out :: rs) w) := by
  refine enterQ Try.func86 rfl Try.ntmps86 rfl fun Q hQ => ?_
  refine seqQ fun Q1 k1 z1 => ?_
  refine wp_region_lit ?_
  refine Y wn rfl (ya (v := hnil.v) rfl) ?_
  refine wpList_nil ?_
  refine k1 _ _ ?_
  refine seqQ fun Q2 k2 z2 => ?_
  refine seqQ fun Q3 k3 z3 => ?_
  refine wp_region_lit ?_
  refine Y wn rfl (ym (v := .int .i64 x1) (et rfl rfl)) ?_
  refine Y wn rfl (ylss (et rfl rfl) rfl) ?_
  refine wpList_nil ?_
  refine k3 _ _ ?_
  have j1 : ∀ (f : Nat → Value) (w : World), f 0 = hnil.v → f 1 = .int .i64 x1 → St w0 (ros) (rs) w → slices_Grow_int_j1 x1 = some out → Q2 .normal (fr 27 f) w := by
    intro f w ej1_0 ej1_1 hst hM
    refine k2 _ _ ?_
    refine seqQ fun Q4 k4 z4 => ?_
    refine seqQ fun Q5 k5 z5 => ?_
    refine wp_region_lit ?_
    refine Y wn rfl (ym (v := .int .i64 x1) (et rfl ej1_1)) ?_
    refine Y wn rfl (ym (v := hnil.v) (et rfl ej1_0)) ?_
    refine Y wn rfl (yCapN (by kernel_rfl : Try.prog.underlying 22 = some (.slice 3)) (et rfl rfl)) ?_
    refine Y wn rfl (ym (v := hnil.v) (et rfl ej1_0)) ?_
    refine Y wn rfl (yLen SL_22 (et rfl rfl) hst rdN) ?_
    refine Y wn rfl (ysub (et rfl rfl) (et rfl rfl)) ?_
    refine Y wn rfl (ysub (et rfl rfl) (et rfl rfl)) ?_
    refine Y wn rfl (ya (v := .int .i64 (ws .i64 x1 (ws .i64 0 0))) (et rfl rfl)) ?_
    refine wpList_nil ?_
    refine k5 _ _ ?_
    refine seqQ fun Q6 k6 z6 => ?_
    refine wp_region_lit ?_
    refine Y wn rfl (ym (v := .int .i64 (ws .i64 x1 (ws .i64 0 0))) (et rfl rfl)) ?_
    refine Y wn rfl (ygtr (et rfl rfl) rfl) ?_
    refine wpList_nil ?_
    refine k6 _ _ ?_
    have j2 : ∀ (x7 : List Int) (h6 : Hdr) (f : Nat → Value) (w : World), f 0 = h6.v → St w0 (ros) (row 3 (rI .i64) h6.v x7 :: rs) w → slices_Grow_int_j2 x7 = some out → Q4 .normal (fr 27 f) w := by
      intro x7 h6 f w ej2_0 hst hM
      refine k4 _ _ ?_
      refine seqQ fun Q7 k7 z7 => ?_
      refine wp_region_lit ?_
      refine Y wn rfl (ym (v := h6.v) (et rfl ej2_0)) ?_
      refine Y wn rfl (ya (v := h6.v) (et rfl rfl)) ?_
      refine wpList_nil ?_
      refine k7 _ _ ?_
      refine wp_ret ?_
      obtain rfl := someI hM
      exact hQ _ _ _ (fin1r Try.results86 ⟨rfl, rfl⟩ ⟨_, rfl, hst⟩)
    rcases iteS hM with ⟨c8, hM⟩ | ⟨c8, hM⟩
    · refine condT (et rfl rfl) (decide_eq_true c8) ?_
      refine wp_region_lit ?_
      refine Y wn rfl (ym (v := hnil.v) (et rfl ej1_0)) ?_
      refine Y wn rfl (ym (v := hnil.v) (et rfl ej1_0)) ?_
      refine Y wn rfl (yCapN (by kernel_rfl : Try.prog.underlying 22 = some (.slice 3)) (et rfl rfl)) ?_
      refine Y wn rfl (ySlN SL_22 (et rfl rfl) (et rfl rfl)) ?_
      refine Y wn rfl (ym (v := .int .i64 (ws .i64 x1 (ws .i64 0 0))) (et rfl rfl)) ?_
      obtain ⟨x10, gx10, hM⟩ := bs hM
      refine YH wn rfl (rZn hst SL_22 (by kernel_rfl : Try.prog.underlying 3 = some (.int .i64)) (et rfl rfl) (et rfl rfl) gx10) ?_
      clear hst
      intro h9 w hst
      refine Y wn rfl (ym (v := hnil.v) (et rfl ej1_0)) ?_
      refine Y wn rfl (yLen SL_22 (et rfl rfl) hst rdN) ?_
      obtain ⟨x11, gx11, hM⟩ := bs hM
      refine Y wn rfl (ySl (k1 := .i64) (hi := (0 : Int)) SL_22 (et rfl rfl) hst (rdO mhR) (.inr ⟨rfl, rfl⟩) (.inl (congrArg some (et rfl rfl))) gx11) ?_
      obtain ⟨h12, eh12, hst⟩ := hst.resl gx11
      rw [← eh12]
      refine Y wn rfl (ya (v := h12.v) (et rfl rfl)) ?_
      refine wpList_nil ?_
      exact j2 _ _ _ _ rfl hst hM
    · refine condF (et rfl rfl) (decide_eq_false c8) ?_
      refine wp_skip ?_
      replace hst := hst.rowNh 3 (rI .i64)
      exact j2 _ _ _ _ ej1_0 hst hM
  rcases iteS hM with ⟨c13, hM⟩ | ⟨c13, hM⟩
  · refine condT (et rfl rfl) (decide_eq_true c13) ?_
    cases hM
  · refine condF (et rfl rfl) (decide_eq_false c13) ?_
    refine wp_skip ?_
    exact j1 _ _ rfl rfl hst hM

theorem slices_Concat_int_ok {w0 : World} {ros : List Fact} {rs : List Res} {w : World} {x1 : List (List Int)} {h2 : Hdr} {out : (List Int)} (hM : slices_Concat_int x1 = some out) (q1 : imm (rS (rI .i64)) h2.v x1 ∈ ros) (hst : St w0 ros (rs) w) :
    Calls Try.prog 70 #[h2.v] w (fun e w => ∃ (h100001 : Hdr), e = .returned (h100001.v) ∧ St w0 (ros) (row 3 (rI .i64) h100001.v out :: rs) w) := by
  refine enterQ Try.func70 rfl Try.ntmps70 rfl fun Q hQ => ?_
  refine seqQ fun Q1 k1 z1 => ?_
  refine wp_region_lit ?_
  refine Y wn rfl (ya (v := hnil.v) rfl) ?_
  refine wpList_nil ?_
  refine k1 _ _ ?_
  refine seqQ fun Q2 k2 z2 => ?_
  refine wp_region_lit ?_
  refine Y wn rfl (ya (v := .int .i64 0) rfl) ?_
  refine wpList_nil ?_
  refine k2 _ _ ?_
  refine seqQ fun Q3 k3 z3 => ?_
  refine seqQ fun Q4 k4 z4 => ?_
  refine wp_region_lit ?_
  refine Y wn rfl (ym (v := h2.v) (et rfl rfl)) ?_
  refine Y wn rfl (yLen SL_25 (et rfl rfl) hst (rdI q1)) ?_
  refine Y wn rfl (ym (v := .int .i64 0) rfl) ?_
  refine wpList_nil ?_
  refine k4 _ _ ?_
  refine blockQ fun Q5 qb5 => ?_
  obtain ⟨o3, go3, hM⟩ := bs hM
  have je3_0 : ∀ (x15 : Int) (f : Nat → Value) (w : World), f 0 = h2.v → f 3 = .int .i64 x15 → St w0 (ros) (rs) w → x15 = o3 → Q5 (.exit 0) (fr 36 f) w := by
    intro x15 f w eje3_0_0 eje3_0_3 hst ho
    subst ho
    refine qb5 _ _ _ ?_
    refine k3 _ _ ?_
    refine seqQ fun Q20 k20 z20 => ?_
    refine wp_region_lit ?_
    refine Y wn rfl (ym (v := .int .i64 x15) (et rfl eje3_0_3)) ?_
    obtain ⟨r16, gr16, hM⟩ := bs hM
    refine Yc wn rfl (yCall FN_86 (a2 rfl (et rfl rfl))) (slices_Grow_int_ok (hM := gr16) (hst := hst) ) ?_
    clear hst
    rintro _ w ⟨h17, rfl, hst⟩
    refine ⟨_, rfl, ?_⟩
    refine Y wn rfl (ya (v := h17.v) (et rfl rfl)) ?_
    refine wpList_nil ?_
    refine k20 _ _ ?_
    refine seqQ fun Q21 k21 z21 => ?_
    refine seqQ fun Q22 k22 z22 => ?_
    refine wp_region_lit ?_
    refine Y wn rfl (ym (v := h2.v) (et rfl eje3_0_0)) ?_
    refine Y wn rfl (yLen SL_25 (et rfl rfl) hst (rdI q1)) ?_
    refine Y wn rfl (ym (v := .int .i64 0) rfl) ?_
    refine wpList_nil ?_
    refine k22 _ _ ?_
    refine blockQ fun Q23 qb23 => ?_
    obtain ⟨o4, go4, hM⟩ := bs hM
    have je4_0 : ∀ (x35 : List Int) (h34 : Hdr) (f : Nat → Value) (w : World), f 6 = h34.v → St w0 (ros) (row 3 (rI .i64) h34.v x35 :: rs) w → x35 = o4 → Q23 (.exit 2) (fr 36 f) w := by
      intro x35 h34 f w eje4_0_6 hst ho
      subst ho
      refine qb23 _ _ _ ?_
      refine k21 _ _ ?_
      refine seqQ fun Q34 k34 z34 => ?_
      refine wp_region_lit ?_
      refine Y wn rfl (ym (v := h34.v) (et rfl eje4_0_6)) ?_
      refine Y wn rfl (ya (v := h34.v) (et rfl rfl)) ?_
      refine wpList_nil ?_
      refine k34 _ _ ?_
      refine wp_ret ?_
      obtain rfl := someI hM
      exact hQ _ _ _ (fin1r Try.results70 ⟨rfl, rfl⟩ ⟨_, rfl, hst⟩)
    refine loopQ (fun s a w => ∃ (x24 : List Int) (x25 : Int) (f : Nat → Value) (h23 : Hdr), (x24, x25) = s ∧ a = fr 36 f ∧ f 6 = h23.v ∧ f 25 = h2.v ∧ f 26 = .int .i64 (x1.length : Int) ∧ f 27 = .int .i64 x25 ∧ St w0 (ros) (row 3 (rI .i64) h23.v x24 :: rs) w) go4 ⟨_, _, _, _, rfl, rfl, rfl, rfl, rfl, rfl, hst⟩ ?_
    clear hst
    rintro _ _ w r4_ ⟨x24, x25, f, h23, rfl, rfl, e4_6, e4_25, e4_26, e4_27, hst⟩ hM4 ho4 Q100004 n4 zz4
    refine seqQ fun Q35 k35 z35 => ?_
    refine wp_region_lit ?_
    refine Y wn rfl (ylss (et rfl e4_27) (et rfl e4_26)) ?_
    refine wpList_nil ?_
    refine k35 _ _ ?_
    refine seqQ fun Q36 k36 z36 => ?_
    rcases iteS hM4 with ⟨c36, hM4⟩ | ⟨c36, hM4⟩
    · refine condT (et rfl rfl) (decide_eq_true c36) ?_
      refine wp_skip ?_
      refine k36 _ _ ?_
      refine seqQ fun Q37 k37 z37 => ?_
      refine blockQ fun Q38 qb38 => ?_
      refine seqQ fun Q39 k39 z39 => ?_
      refine wp_region_lit ?_
      obtain ⟨x37, gx37, hM4⟩ := bs hM4
      refine Y wn rfl (yIa SL_25 (et rfl e4_25) (et rfl e4_27) hst (rdI q1) gx37) ?_
      obtain ⟨h38, hst⟩ := iLs hst q1 gx37
      refine Y wn rfl (yCt O_22 (et rfl rfl) hst (mtF mhF) rfl) ?_
      refine Y wn rfl (ya (v := h38.v) (et rfl rfl)) ?_
      refine wpList_nil ?_
      refine k39 _ _ ?_
      refine wp_region_lit ?_
      refine Y wn rfl (ym (v := h23.v) (et rfl e4_6)) ?_
      refine Y wn rfl (ym (v := h38.v) (et rfl rfl)) ?_
      obtain ⟨x40, gx40, hM4⟩ := bs hM4
      refine YH wn rfl (rAp hst SL_22 (et rfl rfl) (et rfl rfl) (rdI mhF) gx40) ?_
      clear hst
      intro h39 w hst
      refine Y wn rfl (ya (v := h39.v) (et rfl rfl)) ?_
      refine wpList_nil ?_
      refine qb38 _ _ _ ?_
      refine k37 _ _ ?_
      refine wp_region_lit ?_
      refine Y wn rfl (yadd (et rfl e4_27) rfl) ?_
      refine Y wn rfl (ym (v := .int .i64 (wa .i64 x25 1)) (et rfl rfl)) ?_
      refine wpList_nil ?_
      obtain rfl := someI hM4
      exact n4 _ _ _ rfl ⟨_, _, _, _, rfl, rfl, rfl, e4_25, e4_26, rfl, (hst.facts (allT (allT allI)))⟩
    · refine condF (et rfl rfl) (decide_eq_false c36) ?_
      refine wp_exit ?_
      refine z36 _ _ _ rfl ?_
      obtain rfl := someI hM4
      refine zz4 _ _ _ _ rfl rfl ?_
      exact je4_0 _ _ _ _ e4_6 hst (ho4 _ rfl)
  refine loopQ (fun s a w => ∃ (x7 : Int) (x8 : Int) (f : Nat → Value), (x7, x8) = s ∧ a = fr 36 f ∧ f 0 = h2.v ∧ f 3 = .int .i64 x7 ∧ f 9 = h2.v ∧ f 10 = .int .i64 (x1.length : Int) ∧ f 11 = .int .i64 x8 ∧ St w0 (ros) (rs) w) go3 ⟨_, _, _, rfl, rfl, rfl, rfl, rfl, rfl, rfl, hst⟩ ?_
  clear hst
  rintro _ _ w r3_ ⟨x7, x8, f, rfl, rfl, e3_0, e3_3, e3_9, e3_10, e3_11, hst⟩ hM3 ho3 Q100003 n3 zz3
  refine seqQ fun Q40 k40 z40 => ?_
  refine wp_region_lit ?_
  refine Y wn rfl (ylss (et rfl e3_11) (et rfl e3_10)) ?_
  refine wpList_nil ?_
  refine k40 _ _ ?_
  refine seqQ fun Q41 k41 z41 => ?_
  rcases iteS hM3 with ⟨c41, hM3⟩ | ⟨c41, hM3⟩
  · refine condT (et rfl rfl) (decide_eq_true c41) ?_
    refine wp_skip ?_
    refine k41 _ _ ?_
    refine seqQ fun Q42 k42 z42 => ?_
    refine blockQ fun Q43 qb43 => ?_
    refine seqQ fun Q44 k44 z44 => ?_
    refine wp_region_lit ?_
    obtain ⟨x42, gx42, hM3⟩ := bs hM3
    refine Y wn rfl (yIa SL_25 (et rfl e3_9) (et rfl e3_11) hst (rdI q1) gx42) ?_
    obtain ⟨h43, hst⟩ := iLs hst q1 gx42
    refine Y wn rfl (yCt O_22 (et rfl rfl) hst (mtF mhF) rfl) ?_
    refine Y wn rfl (ya (v := h43.v) (et rfl rfl)) ?_
    refine wpList_nil ?_
    refine k44 _ _ ?_
    refine seqQ fun Q45 k45 z45 => ?_
    refine wp_region_lit ?_
    refine Y wn rfl (ym (v := .int .i64 x7) (et rfl e3_3)) ?_
    refine Y wn rfl (ym (v := h43.v) (et rfl rfl)) ?_
    refine Y wn rfl (yLen SL_22 (et rfl rfl) hst (rdI mhF)) ?_
    refine Y wn rfl (yadd (et rfl rfl) (et rfl rfl)) ?_
    refine Y wn rfl (ya (v := .int .i64 (wa .i64 x7 (x42.length : Int))) (et rfl rfl)) ?_
    refine wpList_nil ?_
    refine k45 _ _ ?_
    refine seqQ fun Q46 k46 z46 => ?_
    refine wp_region_lit ?_
    refine Y wn rfl (ym (v := .int .i64 (wa .i64 x7 (x42.length : Int))) (et rfl rfl)) ?_
    refine Y wn rfl (ylss (et rfl rfl) rfl) ?_
    refine wpList_nil ?_
    refine k46 _ _ ?_
    have j5 : ∀ (f : Nat → Value) (w : World), f 0 = h2.v → f 3 = .int .i64 (wa .i64 x7 (x42.length : Int)) → f 9 = h2.v → f 10 = .int .i64 (x1.length : Int) → f 11 = .int .i64 x8 → St w0 (ros) (rs) w → slices_Concat_int_j5 x7 x42 x8 = some r3_ → Q43 .normal (fr 36 f) w := by
      intro f w ej5_0 ej5_3 ej5_9 ej5_10 ej5_11 hst hM
      refine qb43 _ _ _ ?_
      refine k42 _ _ ?_
      refine wp_region_lit ?_
      refine Y wn rfl (yadd (et rfl ej5_11) rfl) ?_
      refine Y wn rfl (ym (v := .int .i64 (wa .i64 x8 1)) (et rfl rfl)) ?_
      refine wpList_nil ?_
      obtain rfl := someI hM
      exact n3 _ _ _ rfl ⟨_, _, _, rfl, rfl, ej5_0, ej5_3, ej5_9, ej5_10, rfl, hst⟩
    rcases iteS hM3 with ⟨c44, hM3⟩ | ⟨c44, hM3⟩
    · refine condT (et rfl rfl) (decide_eq_true c44) ?_
      cases hM3
    · refine condF (et rfl rfl) (decide_eq_false c44) ?_
      refine wp_skip ?_
      exact j5 _ _ e3_0 rfl e3_9 e3_10 e3_11 (hst.facts (allT (allT allI))) hM3
  · refine condF (et rfl rfl) (decide_eq_false c41) ?_
    refine wp_exit ?_
    refine z41 _ _ _ rfl ?_
    obtain rfl := someI hM3
    refine zz3 _ _ _ _ rfl rfl ?_
    exact je3_0 _ _ _ e3_0 e3_3 hst (ho3 _ rfl)

theorem graph_Components_ok {w0 : World} {ros : List Fact} {rs : List Res} {w : World} {x1 : List (List Int)} {h2 : Hdr} {out : (List (List Int))} (hM : graph_Components x1 = some out) (q1 : imm (rS (rI .i64)) h2.v x1 ∈ ros) (hst : St w0 ros (rs) w) :
    Calls Try.prog 69 #[.agg #[h2.v]] w (fun e w => ∃ (h100001 : Hdr), e = .returned (h100001.v) ∧ St w0 (ros) (row 22 (rS (rI .i64)) h100001.v out :: rs) w) := by
  refine enterQ Try.func69 rfl Try.ntmps69 rfl fun Q hQ => ?_
  refine seqQ fun Q1 k1 z1 => ?_
  refine wp_region_lit ?_
  refine YB wn rfl (r_box (vals := [h2.v]) hst (et rfl rfl) rfl) ?_
  clear hst
  intro b3 w hst
  refine Y wn rfl (ya (v := hnil.v) rfl) ?_
  refine wpList_nil ?_
  refine k1 _ _ ?_
  refine seqQ fun Q2 k2 z2 => ?_
  refine seqQ fun Q3 k3 z3 => ?_
  refine wp_region_lit ?_
  refine Y wn rfl (yLbs (us := [h2.v]) ST_27 (et rfl rfl) hst mhR rfl rfl) ?_
  obtain ⟨r4, gr4, hM⟩ := bs hM
  refine Yc wn rfl (yCall FN_30 (a1 (et rfl rfl))) (graph_Check_ok (hM := gr4) (hst := hst) (q1 := q1)) ?_
  clear hst
  rintro _ w ⟨rfl, hst⟩
  refine ⟨_, rfl, ?_⟩
  refine Y wn rfl (yneq (et rfl rfl) rfl) ?_
  refine wpList_nil ?_
  refine k3 _ _ ?_
  rcases iteS hM with ⟨c5, hM⟩ | ⟨c5, hM⟩
  · refine condF (et rfl rfl) (nF (decide_eq_true c5)) ?_
    refine wp_skip ?_
    refine k2 _ _ ?_
    refine seqQ fun Q4 k4 z4 => ?_
    refine wp_region_lit ?_
    refine Y wn rfl (yFb FL_27_0 (et rfl rfl)) ?_
    refine Y wn rfl (yLb (u := h2.v) O_25 (et rfl rfl) hst mhR rfl) ?_
    refine Y wn rfl (yLen SL_25 (et rfl rfl) hst (rdI q1)) ?_
    obtain ⟨x8, gx8, hM⟩ := bs hM
    refine YH wn rfl (rMk hst SL_67 (et rfl rfl) gx8) ?_
    clear hst
    intro h6 w hst
    refine Y wn rfl (ya (v := h6.v) (et rfl rfl)) ?_
    refine wpList_nil ?_
    refine k4 _ _ ?_
    refine seqQ fun Q5 k5 z5 => ?_
    refine wp_region_lit ?_
    refine Y wn rfl (ya (v := hnil.v) rfl) ?_
    refine wpList_nil ?_
    refine k5 _ _ ?_
    refine seqQ fun Q6 k6 z6 => ?_
    refine seqQ fun Q7 k7 z7 => ?_
    refine wp_region_lit ?_
    refine Y wn rfl (yFb FL_27_0 (et rfl rfl)) ?_
    refine Y wn rfl (yLb (u := h2.v) O_25 (et rfl rfl) hst (mtR mhR) rfl) ?_
    refine Y wn rfl (yLen SL_25 (et rfl rfl) hst (rdI q1)) ?_
    refine Y wn rfl (ym (v := .int .i64 0) rfl) ?_
    refine wpList_nil ?_
    refine k7 _ _ ?_
    refine blockQ fun Q8 qb8 => ?_
    obtain ⟨o9, go9, hM⟩ := bs hM
    have je9_0 : ∀ (x170 : List (List Int)) (h169 : Hdr) (f : Nat → Value) (w : World), f 4 = h169.v → St w0 (ros) (row 22 (rS (rI .i64)) h169.v x170 :: rs) w → x170 = o9 → Q8 (.exit 0) (fr 48 f) w := by
      intro x170 h169 f w eje9_0_4 hst ho
      subst ho
      refine qb8 _ _ _ ?_
      refine k6 _ _ ?_
      refine seqQ fun Q159 k159 z159 => ?_
      refine wp_region_lit ?_
      refine Y wn rfl (ym (v := h169.v) (et rfl eje9_0_4)) ?_
      refine Y wn rfl (ya (v := h169.v) (et rfl rfl)) ?_
      refine wpList_nil ?_
      refine k159 _ _ ?_
      refine wp_ret ?_
      obtain rfl := someI hM
      exact hQ _ _ _ (fin1r Try.results69 ⟨rfl, rfl⟩ ⟨_, rfl, hst⟩)
    replace hst := hst.rowNh 22 (rS (rI .i64))
    refine loopQ (fun s a w => ∃ (x85 : List Bool) (x87 : List (List Int)) (x88 : Int) (f : Nat → Value) (h86 : Hdr), (x85, x87, x88) = s ∧ a = fr 48 f ∧ f 1 = .pointer (some ⟨b3, 0, none⟩) ∧ f 3 = h6.v ∧ f 4 = h86.v ∧ f 18 = .int .i64 (x1.length : Int) ∧ f 19 = .int .i64 x88 ∧ St w0 (ros) (box b3 27 [h2.v] :: row 4 rB h6.v x85 :: row 22 (rS (rI .i64)) h86.v x87 :: rs) w) go9 ⟨_, _, _, _, _, rfl, rfl, rfl, rfl, rfl, rfl, rfl, (hst.pk 3 [2, 1, 0] rfl)⟩ ?_
    clear hst
    rintro _ _ w r9_ ⟨x85, x87, x88, f, h86, rfl, rfl, e9_1, e9_3, e9_4, e9_18, e9_19, hst⟩ hM9 ho9 Q100009 n9 zz9
    refine seqQ fun Q160 k160 z160 => ?_
    refine wp_region_lit ?_
    refine Y wn rfl (ylss (et rfl e9_19) (et rfl e9_18)) ?_
    refine wpList_nil ?_
    refine k160 _ _ ?_
    refine seqQ fun Q161 k161 z161 => ?_
    rcases iteS hM9 with ⟨c171, hM9⟩ | ⟨c171, hM9⟩
    · refine condT (et rfl rfl) (decide_eq_true c171) ?_
      refine wp_skip ?_
      refine k161 _ _ ?_
      refine seqQ fun Q162 k162 z162 => ?_
      have j12 : ∀ (x220 : List Bool) (x222 : List (List Int)) (h221 : Hdr) (f : Nat → Value) (w : World), f 1 = .pointer (some ⟨b3, 0, none⟩) → f 3 = h6.v → f 4 = h221.v → f 18 = .int .i64 (x1.length : Int) → f 19 = .int .i64 x88 → St w0 (ros) (box b3 27 [h2.v] :: row 4 rB h6.v x220 :: row 22 (rS (rI .i64)) h221.v x222 :: rs) w → graph_Components_j12 x88 x220 x222 = some r9_ → Q162 .normal (fr 48 f) w := by
        intro x220 x222 h221 f w ej12_1 ej12_3 ej12_4 ej12_18 ej12_19 hst hM
        refine k162 _ _ ?_
        refine wp_region_lit ?_
        refine Y wn rfl (yadd (et rfl ej12_19) rfl) ?_
        refine Y wn rfl (ym (v := .int .i64 (wa .i64 x88 1)) (et rfl rfl)) ?_
        refine wpList_nil ?_
        obtain rfl := someI hM
        exact n9 _ _ _ rfl ⟨_, _, _, _, _, rfl, rfl, ej12_1, ej12_3, ej12_4, ej12_18, rfl, hst⟩
      refine blockQ fun Q211 qb211 => ?_
      refine seqQ fun Q212 k212 z212 => ?_
      refine wp_region_lit ?_
      refine Y wn rfl (ym (v := .int .i64 x88) (et rfl e9_19)) ?_
      refine Y wn rfl (ya (v := .int .i64 x88) (et rfl rfl)) ?_
      refine wpList_nil ?_
      refine k212 _ _ ?_
      refine seqQ fun Q213 k213 z213 => ?_
      refine seqQ fun Q214 k214 z214 => ?_
      refine wp_region_lit ?_
      refine Y wn rfl (ym (v := h6.v) (et rfl e9_3)) ?_
      refine Y wn rfl (ym (v := .int .i64 x88) (et rfl rfl)) ?_
      obtain ⟨x223, gx223, hM9⟩ := bs hM9
      refine Y wn rfl (yIa SL_67 (et rfl rfl) (et rfl rfl) hst (rdO (mtR mhR)) gx223) ?_
      refine Y wn rfl (yB O_4 (et rfl rfl) hst (rdO (mtR mhR)) gx223) ?_
      refine wpList_nil ?_
      refine k214 _ _ ?_
      rcases iteS hM9 with ⟨c224, hM9⟩ | ⟨c224, hM9⟩
      · refine condT (et rfl rfl) c224 ?_
        refine wp_exit ?_
        refine z213 _ _ _ rfl ?_
        refine qb211 _ _ _ ?_
        exact j12 _ _ _ _ _ e9_1 e9_3 e9_4 e9_18 e9_19 hst hM9
      · refine condF (et rfl rfl) (bfalse c224) ?_
        refine wp_skip ?_
        refine k213 _ _ ?_
        refine seqQ fun Q215 k215 z215 => ?_
        refine wp_region_lit ?_
        refine Y wn rfl (yLbs (us := [h2.v]) ST_27 (et rfl e9_1) hst mhR rfl rfl) ?_
        refine Y wn rfl (ym (v := .int .i64 x88) (et rfl rfl)) ?_
        obtain ⟨r225, gr225, hM9⟩ := bs hM9
        refine Yc wn rfl (yCall FN_84 (a2 (et rfl rfl) (et rfl rfl))) (graph_levels_ok (hM := gr225) (hst := hst) (q1 := q1)) ?_
        clear hst
        rintro _ w ⟨h226, rfl, hst⟩
        refine ⟨_, rfl, ?_⟩
        obtain ⟨r227, gr227, hM9⟩ := bs hM9
        replace hst := hst.fz
        refine Yc wn rfl (yCall FN_70 (a1 (et rfl rfl))) (slices_Concat_int_ok (hM := gr227) (hst := hst) (q1 := mhF)) ?_
        clear hst
        rintro _ w ⟨h228, rfl, hst⟩
        refine ⟨_, rfl, ?_⟩
        refine Y wn rfl (ya (v := h228.v) (et rfl rfl)) ?_
        refine wpList_nil ?_
        refine k215 _ _ ?_
        refine seqQ fun Q216 k216 z216 => ?_
        refine wp_region_lit ?_
        refine Y wn rfl (ym (v := h228.v) (et rfl rfl)) ?_
        obtain ⟨r229, gr229, hM9⟩ := bs hM9
        refine Yc wn rfl (yCall FN_85 (a1 (et rfl rfl))) (sortI_ok (hM := gr229) (hst := hst) ) ?_
        clear hst
        rintro _ w ⟨rfl, hst⟩
        refine ⟨_, rfl, ?_⟩
        refine wpList_nil ?_
        refine k216 _ _ ?_
        refine seqQ fun Q217 k217 z217 => ?_
        refine seqQ fun Q218 k218 z218 => ?_
        refine wp_region_lit ?_
        refine Y wn rfl (ym (v := h228.v) (et rfl rfl)) ?_
        refine Y wn rfl (yLen SL_22 (et rfl rfl) hst (rdO mhR)) ?_
        refine Y wn rfl (ym (v := .int .i64 0) rfl) ?_
        refine wpList_nil ?_
        refine k218 _ _ ?_
        refine blockQ fun Q219 qb219 => ?_
        obtain ⟨o13, go13, hM9⟩ := bs hM9
        have je13_0 : ∀ (x240 : List Bool) (f : Nat → Value) (w : World), f 1 = .pointer (some ⟨b3, 0, none⟩) → f 3 = h6.v → f 4 = h86.v → f 6 = h228.v → f 18 = .int .i64 (x1.length : Int) → f 19 = .int .i64 x88 → St w0 (ros) (box b3 27 [h2.v] :: row 4 rB h6.v x240 :: row 22 (rS (rI .i64)) h86.v x87 :: row 3 (rI .i64) h228.v r229 :: rs) w → x240 = o13 → Q219 (.exit 2) (fr 48 f) w := by
          intro x240 f w eje13_0_1 eje13_0_3 eje13_0_4 eje13_0_6 eje13_0_18 eje13_0_19 hst ho
          subst ho
          refine qb219 _ _ _ ?_
          refine k217 _ _ ?_
          refine wp_region_lit ?_
          refine Y wn rfl (ym (v := h86.v) (et rfl eje13_0_4)) ?_
          refine Y wn rfl (ym (v := h228.v) (et rfl eje13_0_6)) ?_
          replace hst := hst.pk 4 [3, 0, 0, 0] rfl
          replace hst := hst.fz
          refine YH wn rfl (rLt (n := 1) (l := [r229]) hst SL_25 [h228.v] (bp1 (et rfl rfl)) rfl rfl (mks1 (cs := [h228.v]) rfl (mkS mhF) mks0)) ?_
          clear hst
          intro h241 w hst
          obtain ⟨x243, gx243, hM9⟩ := bs hM9
          replace hst := hst.pk 4 [3, 0, 0, 0] rfl
          refine YH wn rfl (rAp hst SL_25 (et rfl rfl) (et rfl rfl) (rdO (mtR mhR)) gx243) ?_
          clear hst
          intro h242 w hst
          refine Y wn rfl (ya (v := h242.v) (et rfl rfl)) ?_
          refine wpList_nil ?_
          refine qb211 _ _ _ ?_
          exact j12 _ _ _ _ _ eje13_0_1 eje13_0_3 rfl eje13_0_18 eje13_0_19 ((hst.pk 4 [2, 2, 0] rfl).facts (allT allI)) hM9
        refine loopQ (fun s a w => ∃ (x233 : List Bool) (x234 : Int) (f : Nat → Value), (x233, x234) = s ∧ a = fr 48 f ∧ f 1 = .pointer (some ⟨b3, 0, none⟩) ∧ f 3 = h6.v ∧ f 4 = h86.v ∧ f 6 = h228.v ∧ f 18 = .int .i64 (x1.length : Int) ∧ f 19 = .int .i64 x88 ∧ f 32 = h228.v ∧ f 33 = .int .i64 (r229.length : Int) ∧ f 34 = .int .i64 x234 ∧ St w0 (ros) (box b3 27 [h2.v] :: row 4 rB h6.v x233 :: row 22 (rS (rI .i64)) h86.v x87 :: row 3 (rI .i64) h228.v r229 :: rs) w) go13 ⟨_, _, _, rfl, rfl, e9_1, e9_3, e9_4, rfl, e9_18, e9_19, rfl, rfl, rfl, ((hst.pk 4 [1, 1, 1, 0] rfl).facts (allT allI))⟩ ?_
        clear hst
        rintro _ _ w r13_ ⟨x233, x234, f, rfl, rfl, e13_1, e13_3, e13_4, e13_6, e13_18, e13_19, e13_32, e13_33, e13_34, hst⟩ hM13 ho13 Q100013 n13 zz13
        refine seqQ fun Q230 k230 z230 => ?_
        refine wp_region_lit ?_
        refine Y wn rfl (ylss (et rfl e13_34) (et rfl e13_33)) ?_
        refine wpList_nil ?_
        refine k230 _ _ ?_
        refine seqQ fun Q231 k231 z231 => ?_
        rcases iteS hM13 with ⟨c244, hM13⟩ | ⟨c244, hM13⟩
        · refine condT (et rfl rfl) (decide_eq_true c244) ?_
          refine wp_skip ?_
          refine k231 _ _ ?_
          refine seqQ fun Q232 k232 z232 => ?_
          refine blockQ fun Q233 qb233 => ?_
          refine seqQ fun Q234 k234 z234 => ?_
          refine wp_region_lit ?_
          obtain ⟨x245, gx245, hM13⟩ := bs hM13
          refine Y wn rfl (yIa SL_22 (et rfl e13_32) (et rfl e13_34) hst (rdO (mtR (mtR (mtR mhR)))) gx245) ?_
          refine Y wn rfl (yI O_3 (et rfl rfl) hst (rdO (mtR (mtR (mtR mhR)))) gx245) ?_
          refine Y wn rfl (ya (v := .int .i64 x245) (et rfl rfl)) ?_
          refine wpList_nil ?_
          refine k234 _ _ ?_
          refine wp_region_lit ?_
          refine Y wn rfl (ym (v := h6.v) (et rfl e13_3)) ?_
          refine Y wn rfl (ym (v := .int .i64 x245) (et rfl rfl)) ?_
          obtain ⟨x246, gx246, hM13⟩ := bs hM13
          refine Y wn rfl (yIs SL_67 (et rfl rfl) (et rfl rfl) hst (rdO (mtR mhR)) gx246) ?_
          replace hst := hst.pk 2 [1, 0] rfl
          refine YT wn rfl (r_sti (cs := [.bool true]) hst O_4 rfl (et rfl rfl) rfl rfl mkB gx246) ?_
          clear hst
          intro w hst
          refine wpList_nil ?_
          refine qb233 _ _ _ ?_
          refine k232 _ _ ?_
          refine wp_region_lit ?_
          refine Y wn rfl (yadd (et rfl e13_34) rfl) ?_
          refine Y wn rfl (ym (v := .int .i64 (wa .i64 x234 1)) (et rfl rfl)) ?_
          refine wpList_nil ?_
          obtain rfl := someI hM13
          exact n13 _ _ _ rfl ⟨_, _, _, rfl, rfl, e13_1, e13_3, e13_4, e13_6, e13_18, e13_19, e13_32, e13_33, rfl, (hst.pk 4 [1, 0, 0, 0] rfl)⟩
        · refine condF (et rfl rfl) (decide_eq_false c244) ?_
          refine wp_exit ?_
          refine z231 _ _ _ rfl ?_
          obtain rfl := someI hM13
          refine zz13 _ _ _ _ rfl rfl ?_
          exact je13_0 _ _ _ e13_1 e13_3 e13_4 e13_6 e13_18 e13_19 hst (ho13 _ rfl)
    · refine condF (et rfl rfl) (decide_eq_false c171) ?_
      refine wp_exit ?_
      refine z161 _ _ _ rfl ?_
      obtain rfl := someI hM9
      refine zz9 _ _ _ _ rfl rfl ?_
      exact je9_0 _ _ _ _ e9_4 (hst.pk 3 [2] rfl) (ho9 _ rfl)
  · refine condT (et rfl rfl) (nT (decide_eq_false c5)) ?_
    refine seqQ fun Q235 k235 z235 => ?_
    refine wp_region_lit ?_
    refine Y wn rfl (ya (v := hnil.v) rfl) ?_
    refine wpList_nil ?_
    refine k235 _ _ ?_
    refine wp_ret ?_
    refine z2 _ _ _ rfl ?_
    obtain rfl := someI hM
    replace hst := hst.rowNh 22 (rS (rI .i64))
    exact hQ _ _ _ (fin1r Try.results69 ⟨rfl, rfl⟩ ⟨_, rfl, (hst.pk 2 [0] rfl)⟩)

theorem graph_vertex_ok {w0 : World} {ros : List Fact} {rs : List Res} {w : World} {x1 : List (List Int)} {x3 : Int} {h2 : Hdr} {out : Bool} (hM : graph_vertex x1 x3 = some out) (q1 : imm (rS (rI .i64)) h2.v x1 ∈ ros) (hst : St w0 ros (rs) w) :
    Calls Try.prog 87 #[.agg #[h2.v], .int .i64 x3] w (fun e w => e = .returned (.bool out) ∧ St w0 (ros) (rs) w) := by
  refine enterQ Try.func87 rfl Try.ntmps87 rfl fun Q hQ => ?_
  refine seqQ fun Q1 k1 z1 => ?_
  refine wp_region_lit ?_
  refine YB wn rfl (r_box (vals := [h2.v]) hst (et rfl rfl) rfl) ?_
  clear hst
  intro b4 w hst
  refine Y wn rfl (ya (v := .bool false) rfl) ?_
  refine wpList_nil ?_
  refine k1 _ _ ?_
  refine seqQ fun Q2 k2 z2 => ?_
  refine wp_region_lit ?_
  refine Y wn rfl (ym (v := .int .i64 x3) (et rfl rfl)) ?_
  refine Y wn rfl (ygeq (et rfl rfl) rfl) ?_
  refine Y wn rfl (ym (v := .bool (decide ((0 : Int) ≤ x3))) (et rfl rfl)) ?_
  refine joinW 6 (fun f w => f 13 = .bool ((decide ((0 : Int) ≤ x3)) && (decide (x3 < (x1.length : Int)))) ∧ St w0 (ros) (rs) w) (fun j1 => ?_) ?_
  · rcases Bool.eq_false_or_eq_true (decide ((0 : Int) ≤ x3)) with c6 | c6
    · refine Y (wg rfl rfl rfl c6) rfl (ym (v := .int .i64 x3) (et rfl rfl)) ?_
      refine Y (wg rfl rfl rfl c6) rfl (yFb FL_27_0 (et rfl rfl)) ?_
      refine Y (wg rfl rfl rfl c6) rfl (yLb (u := h2.v) O_25 (et rfl rfl) hst mhR rfl) ?_
      refine Y (wg rfl rfl rfl c6) rfl (yLen SL_25 (et rfl rfl) hst (rdI q1)) ?_
      refine Y (wg rfl rfl rfl c6) rfl (ylss (et rfl rfl) (et rfl rfl)) ?_
      refine Y wn rfl (ypt (v := .bool (decide (x3 < (x1.length : Int)))) (et rfl rfl) c6 (et rfl rfl)) ?_
      exact j1 _ _ ⟨(congrArg Value.bool (andT c6)), (hst.pk 1 [] rfl)⟩
    · refine Gn (wx rfl rfl rfl c6) rfl ?_
      refine Gn (wx rfl rfl rfl c6) rfl ?_
      refine Gn (wx rfl rfl rfl c6) rfl ?_
      refine Gn (wx rfl rfl rfl c6) rfl ?_
      refine Gn (wx rfl rfl rfl c6) rfl ?_
      refine Y wn rfl (ypf (v := .bool false) (et rfl rfl) c6 rfl) ?_
      exact j1 _ _ ⟨(congrArg Value.bool (andF c6)), (hst.pk 1 [] rfl)⟩
  clear hst
  rintro f w ⟨e5_13, hst⟩
  refine Y wn rfl (ya (v := .bool ((decide ((0 : Int) ≤ x3)) && (decide (x3 < (x1.length : Int))))) (et rfl e5_13)) ?_
  refine wpList_nil ?_
  refine k2 _ _ ?_
  refine wp_ret ?_
  obtain rfl := someI hM
  exact hQ _ _ _ (fin1r Try.results87 ⟨rfl, rfl⟩ ⟨rfl, hst⟩)

theorem graph_Peripheral_ok {w0 : World} {ros : List Fact} {rs : List Res} {w : World} {x1 : List (List Int)} {x3 : Int} {h2 : Hdr} {out : Int} (hM : graph_Peripheral x1 x3 = some out) (q1 : imm (rS (rI .i64)) h2.v x1 ∈ ros) (hst : St w0 ros (rs) w) :
    Calls Try.prog 72 #[.agg #[h2.v], .int .i64 x3] w (fun e w => e = .returned (.int .i64 out) ∧ St w0 (ros) (rs) w) := by
  refine enterQ Try.func72 rfl Try.ntmps72 rfl fun Q hQ => ?_
  refine seqQ fun Q1 k1 z1 => ?_
  refine wp_region_lit ?_
  refine YB wn rfl (r_box (vals := [h2.v]) hst (et rfl rfl) rfl) ?_
  clear hst
  intro b4 w hst
  refine Y wn rfl (ya (v := .int .i64 0) rfl) ?_
  refine wpList_nil ?_
  refine k1 _ _ ?_
  refine seqQ fun Q2 k2 z2 => ?_
  refine seqQ fun Q3 k3 z3 => ?_
  refine wp_region_lit ?_
  refine Y wn rfl (yLbs (us := [h2.v]) ST_27 (et rfl rfl) hst mhR rfl rfl) ?_
  obtain ⟨r5, gr5, hM⟩ := bs hM
  refine Yc wn rfl (yCall FN_30 (a1 (et rfl rfl))) (graph_Check_ok (hM := gr5) (hst := hst) (q1 := q1)) ?_
  clear hst
  rintro _ w ⟨rfl, hst⟩
  refine ⟨_, rfl, ?_⟩
  refine Y wn rfl (yneq (et rfl rfl) rfl) ?_
  refine Y wn rfl (ym (v := .bool (!(decide (r5 = 0)))) (et rfl rfl)) ?_
  obtain ⟨r7, gr7, hM⟩ := bs hM
  refine joinW 5 (fun f w => f 1 = .int .i64 x3 ∧ f 2 = .pointer (some ⟨b4, 0, none⟩) ∧ f 19 = .bool r7 ∧ St w0 (ros) (box b4 27 [h2.v] :: rs) w) (fun j1 => ?_) ?_
  · rcases iteS gr7 with ⟨c9, gr7⟩ | ⟨c9, gr7⟩
    · refine Y (wg rfl rfl rfl (nF (decide_eq_true c9))) rfl (yLbs (us := [h2.v]) ST_27 (et rfl rfl) hst mhR rfl rfl) ?_
      refine Y (wg rfl rfl rfl (nF (decide_eq_true c9))) rfl (ym (v := .int .i64 x3) (et rfl rfl)) ?_
      obtain ⟨r10, gr10, gr7⟩ := bs gr7
      refine Yc (wg rfl rfl rfl (nF (decide_eq_true c9))) rfl (yCall FN_87 (a2 (et rfl rfl) (et rfl rfl))) (graph_vertex_ok (hM := gr10) (hst := hst) (q1 := q1)) ?_
      clear hst
      rintro _ w ⟨rfl, hst⟩
      refine ⟨_, rfl, ?_⟩
      refine Y (wg rfl rfl rfl (nF (decide_eq_true c9))) rfl (ynot (et rfl rfl)) ?_
      refine Y wn rfl (ypf (v := .bool (!(r10))) (et rfl rfl) (nF (decide_eq_true c9)) (et rfl rfl)) ?_
      obtain rfl := someI gr7
      exact j1 _ _ ⟨rfl, rfl, rfl, hst⟩
    · refine Gn (wx rfl rfl rfl (nT (decide_eq_false c9))) rfl ?_
      refine Gn (wx rfl rfl rfl (nT (decide_eq_false c9))) rfl ?_
      refine Gn (wx rfl rfl rfl (nT (decide_eq_false c9))) rfl ?_
      refine Gn (wx rfl rfl rfl (nT (decide_eq_false c9))) rfl ?_
      refine Y wn rfl (ypt (v := .bool true) (et rfl rfl) (nT (decide_eq_false c9)) rfl) ?_
      obtain rfl := someI gr7
      exact j1 _ _ ⟨rfl, rfl, rfl, hst⟩
  clear hst
  rintro f w ⟨e8_1, e8_2, e8_19, hst⟩
  refine wpList_nil ?_
  refine k3 _ _ ?_
  rcases iteS hM with ⟨c11, hM⟩ | ⟨c11, hM⟩
  · refine condT (et rfl e8_19) c11 ?_
    refine seqQ fun Q4 k4 z4 => ?_
    refine wp_region_lit ?_
    refine Y wn rfl (ya (v := .int .i64 (-1)) rfl) ?_
    refine wpList_nil ?_
    refine k4 _ _ ?_
    refine wp_ret ?_
    refine z2 _ _ _ rfl ?_
    obtain rfl := someI hM
    exact hQ _ _ _ (fin1r Try.results72 ⟨rfl, rfl⟩ ⟨rfl, (hst.pk 1 [] rfl)⟩)
  · refine condF (et rfl e8_19) (bfalse c11) ?_
    refine wp_skip ?_
    refine k2 _ _ ?_
    refine seqQ fun Q5 k5 z5 => ?_
    refine wp_region_lit ?_
    refine Y wn rfl (yLbs (us := [h2.v]) ST_27 (et rfl e8_2) hst mhR rfl rfl) ?_
    refine Y wn rfl (ym (v := .int .i64 x3) (et rfl e8_1)) ?_
    obtain ⟨r12, gr12, hM⟩ := bs hM
    refine Yc wn rfl (yCall FN_84 (a2 (et rfl rfl) (et rfl rfl))) (graph_levels_ok (hM := gr12) (hst := hst) (q1 := q1)) ?_
    clear hst
    rintro _ w ⟨h13, rfl, hst⟩
    refine ⟨_, rfl, ?_⟩
    refine Y wn rfl (ya (v := h13.v) (et rfl rfl)) ?_
    refine wpList_nil ?_
    refine k5 _ _ ?_
    refine blockQ fun Q6 qb6 => ?_
    obtain ⟨o10, go10, hM⟩ := bs hM
    have je10_0 : ∀ (x90 : Int) (f : Nat → Value) (w : World), f 4 = .int .i64 x90 → St w0 (ros) (rs) w → x90 = o10 → Q6 .ret (fr 64 f) w := by
      intro x90 f w eje10_0_4 hst ho
      subst ho
      refine qb6 _ _ _ ?_
      obtain rfl := someI hM
      exact hQ _ _ _ (fin1r Try.results72 ⟨rfl, eje10_0_4⟩ ⟨rfl, hst⟩)
    refine loopQ (fun s a w => ∃ (x49 : Int) (x51 : List (List Int)) (f : Nat → Value) (h50 : Hdr), (x49, x51) = s ∧ a = fr 64 f ∧ f 1 = .int .i64 x49 ∧ f 2 = .pointer (some ⟨b4, 0, none⟩) ∧ f 5 = h50.v ∧ St w0 (ros) (box b4 27 [h2.v] :: row 22 (rS (rI .i64)) h50.v x51 :: rs) w) go10 ⟨_, _, _, _, rfl, rfl, e8_1, e8_2, rfl, (hst.pk 2 [1, 0] rfl)⟩ ?_
    clear hst
    rintro _ _ w r10_ ⟨x49, x51, f, h50, rfl, rfl, e10_1, e10_2, e10_5, hst⟩ hM10 ho10 Q100010 n10 zz10
    refine blockQ fun Q63 qb63 => ?_
    refine seqQ fun Q64 k64 z64 => ?_
    refine wp_region_lit ?_
    refine Y wn rfl (ym (v := h50.v) (et rfl e10_5)) ?_
    refine Y wn rfl (ym (v := h50.v) (et rfl e10_5)) ?_
    refine Y wn rfl (yLen SL_25 (et rfl rfl) hst (rdO (mtR mhR))) ?_
    refine Y wn rfl (ysub (et rfl rfl) rfl) ?_
    obtain ⟨x91, gx91, hM10⟩ := bs hM10
    refine Y wn rfl (yIa SL_25 (et rfl rfl) (et rfl rfl) hst (rdO (mtR mhR)) gx91) ?_
    obtain ⟨h92, ch92, hst⟩ := rLs hst (rdO (mtR mhR)) gx91
    refine Y wn rfl (yCe O_22 (et rfl rfl) ch92 rfl) ?_
    refine Y wn rfl (ya (v := h92.v) (et rfl rfl)) ?_
    refine wpList_nil ?_
    refine k64 _ _ ?_
    refine seqQ fun Q65 k65 z65 => ?_
    refine wp_region_lit ?_
    refine Y wn rfl (ym (v := h92.v) (et rfl rfl)) ?_
    obtain ⟨x93, gx93, hM10⟩ := bs hM10
    refine Y wn rfl (yIa SL_22 (et rfl rfl) rfl hst (rdI mhF) gx93) ?_
    refine Y wn rfl (yI O_3 (et rfl rfl) hst (rdI mhF) gx93) ?_
    refine Y wn rfl (ya (v := .int .i64 x93) (et rfl rfl)) ?_
    refine wpList_nil ?_
    refine k65 _ _ ?_
    refine seqQ fun Q66 k66 z66 => ?_
    refine seqQ fun Q67 k67 z67 => ?_
    refine wp_region_lit ?_
    refine Y wn rfl (ym (v := h92.v) (et rfl rfl)) ?_
    refine Y wn rfl (yLen SL_22 (et rfl rfl) hst (rdI mhF)) ?_
    refine Y wn rfl (ym (v := .int .i64 0) rfl) ?_
    refine wpList_nil ?_
    refine k67 _ _ ?_
    refine blockQ fun Q68 qb68 => ?_
    obtain ⟨o13, go13, hM10⟩ := bs hM10
    have je13_0 : ∀ (x114 : Int) (f : Nat → Value) (w : World), f 1 = .int .i64 x49 → f 2 = .pointer (some ⟨b4, 0, none⟩) → f 5 = h50.v → f 7 = .int .i64 x114 → St w0 (ros) (box b4 27 [h2.v] :: row 22 (rS (rI .i64)) h50.v x51 :: rs) w → x114 = o13 → Q68 (.exit 2) (fr 64 f) w := by
      intro x114 f w eje13_0_1 eje13_0_2 eje13_0_5 eje13_0_7 hst ho
      subst ho
      refine qb68 _ _ _ ?_
      refine k66 _ _ ?_
      refine seqQ fun Q81 k81 z81 => ?_
      refine wp_region_lit ?_
      refine Y wn rfl (yLbs (us := [h2.v]) ST_27 (et rfl eje13_0_2) hst mhR rfl rfl) ?_
      refine Y wn rfl (ym (v := .int .i64 x114) (et rfl eje13_0_7)) ?_
      obtain ⟨r115, gr115, hM10⟩ := bs hM10
      refine Yc wn rfl (yCall FN_84 (a2 (et rfl rfl) (et rfl rfl))) (graph_levels_ok (hM := gr115) (hst := hst) (q1 := q1)) ?_
      clear hst
      rintro _ w ⟨h116, rfl, hst⟩
      refine ⟨_, rfl, ?_⟩
      refine Y wn rfl (ya (v := h116.v) (et rfl rfl)) ?_
      refine wpList_nil ?_
      refine k81 _ _ ?_
      refine seqQ fun Q82 k82 z82 => ?_
      refine seqQ fun Q83 k83 z83 => ?_
      refine wp_region_lit ?_
      refine Y wn rfl (ym (v := h116.v) (et rfl rfl)) ?_
      refine Y wn rfl (yLen SL_25 (et rfl rfl) hst (rdO mhR)) ?_
      refine Y wn rfl (ym (v := h50.v) (et rfl eje13_0_5)) ?_
      refine Y wn rfl (yLen SL_25 (et rfl rfl) hst (rdO (mtR (mtR mhR)))) ?_
      refine Y wn rfl (yleq (et rfl rfl) (et rfl rfl)) ?_
      refine wpList_nil ?_
      refine k83 _ _ ?_
      rcases iteS hM10 with ⟨c117, hM10⟩ | ⟨c117, hM10⟩
      · refine condT (et rfl rfl) (decide_eq_true c117) ?_
        refine seqQ fun Q84 k84 z84 => ?_
        refine wp_region_lit ?_
        refine Y wn rfl (ym (v := .int .i64 x49) (et rfl eje13_0_1)) ?_
        refine Y wn rfl (ya (v := .int .i64 x49) (et rfl rfl)) ?_
        refine wpList_nil ?_
        refine k84 _ _ ?_
        refine wp_ret ?_
        refine z82 _ _ _ rfl ?_
        refine qb63 _ _ _ ?_
        obtain rfl := someI hM10
        refine zz10 _ _ _ _ rfl rfl ?_
        exact je10_0 _ _ _ rfl (hst.pk 3 [] rfl) (ho10 _ rfl)
      · refine condF (et rfl rfl) (decide_eq_false c117) ?_
        refine wp_skip ?_
        refine k82 _ _ ?_
        refine wp_region_lit ?_
        refine Y wn rfl (ym (v := .int .i64 x114) (et rfl eje13_0_7)) ?_
        refine Y wn rfl (ym (v := h116.v) (et rfl rfl)) ?_
        refine Y wn rfl (ya (v := .int .i64 x114) (et rfl rfl)) ?_
        refine Y wn rfl (ya (v := h116.v) (et rfl rfl)) ?_
        refine wpList_nil ?_
        refine qb63 _ _ _ ?_
        obtain rfl := someI hM10
        exact n10 _ _ _ rfl ⟨_, _, _, _, rfl, rfl, rfl, eje13_0_2, rfl, (hst.pk 3 [1, 0] rfl)⟩
    refine loopQ (fun s a w => ∃ (x102 : Int) (x103 : Int) (f : Nat → Value), (x102, x103) = s ∧ a = fr 64 f ∧ f 1 = .int .i64 x49 ∧ f 2 = .pointer (some ⟨b4, 0, none⟩) ∧ f 5 = h50.v ∧ f 7 = .int .i64 x102 ∧ f 32 = h92.v ∧ f 33 = .int .i64 (x91.length : Int) ∧ f 34 = .int .i64 x103 ∧ St w0 (imm (rI .i64) h92.v x91 :: ros) (box b4 27 [h2.v] :: row 22 (rS (rI .i64)) h50.v x51 :: rs) w) go13 ⟨_, _, _, rfl, rfl, e10_1, e10_2, e10_5, rfl, rfl, rfl, rfl, hst⟩ ?_
    clear hst
    rintro _ _ w r13_ ⟨x102, x103, f, rfl, rfl, e13_1, e13_2, e13_5, e13_7, e13_32, e13_33, e13_34, hst⟩ hM13 ho13 Q100013 n13 zz13
    refine seqQ fun Q85 k85 z85 => ?_
    refine wp_region_lit ?_
    refine Y wn rfl (ylss (et rfl e13_34) (et rfl e13_33)) ?_
    refine wpList_nil ?_
    refine k85 _ _ ?_
    refine seqQ fun Q86 k86 z86 => ?_
    rcases iteS hM13 with ⟨c118, hM13⟩ | ⟨c118, hM13⟩
    · refine condT (et rfl rfl) (decide_eq_true c118) ?_
      refine wp_skip ?_
      refine k86 _ _ ?_
      refine seqQ fun Q87 k87 z87 => ?_
      refine blockQ fun Q88 qb88 => ?_
      refine seqQ fun Q89 k89 z89 => ?_
      refine wp_region_lit ?_
      obtain ⟨x119, gx119, hM13⟩ := bs hM13
      refine Y wn rfl (yIa SL_22 (et rfl e13_32) (et rfl e13_34) hst (rdI mhF) gx119) ?_
      refine Y wn rfl (yI O_3 (et rfl rfl) hst (rdI mhF) gx119) ?_
      refine Y wn rfl (ya (v := .int .i64 x119) (et rfl rfl)) ?_
      refine wpList_nil ?_
      refine k89 _ _ ?_
      refine seqQ fun Q90 k90 z90 => ?_
      obtain ⟨x120, gx120, hM13⟩ := bs hM13
      obtain ⟨x122, gx122, hM13⟩ := bs hM13
      refine wp_drawR [0, 1, 0, 7, 15, 31, 0, 64, 0, 448, 960, 1984, 4095] [] 0 folM (by kernel_rfl) (by kernel_rfl) (by kernel_rfl) ?_
      replace hst := hst.drew
      refine DRz (l1 := [0, 1, 2, 3, 4, 5, 6, 7, 8, 9, 10, 11, 12]) (l2 := []) (by kernel_rfl) (by kernel_rfl) ?_
      refine Ry rfl rfl wn (yFb FL_27_0 (et rfl e13_2)) ?_
      refine Ry rfl rfl wn (yLb (u := h2.v) O_25 (et rfl rfl) hst mhR rfl) ?_
      refine Ry rfl rfl wn (ym (v := .int .i64 x119) (et rfl rfl)) ?_
      refine Ry rfl rfl wn (yIa SL_25 (et rfl rfl) (et rfl rfl) hst (rdI (mtF q1)) gx120) ?_
      obtain ⟨h121, hst⟩ := iLs hst (mtF q1) gx120
      refine Ry rfl rfl wn (yCt O_22 (et rfl rfl) hst (mtF mhF) rfl) ?_
      refine Ry rfl rfl wn (yLen SL_22 (et rfl rfl) hst (rdI mhF)) ?_
      refine Ry rfl rfl wn (yFb FL_27_0 (et rfl e13_2)) ?_
      refine Ry rfl rfl wn (yLb (u := h2.v) O_25 (et rfl rfl) hst mhR rfl) ?_
      refine Ry rfl rfl wn (ym (v := .int .i64 x102) (et rfl e13_7)) ?_
      refine Ry rfl rfl wn (yIa SL_25 (et rfl rfl) (et rfl rfl) hst (rdI (mtF (mtF (mtF q1)))) gx122) ?_
      obtain ⟨h123, hst⟩ := iLs hst (mtF (mtF (mtF q1))) gx122
      refine Ry rfl rfl wn (yCt O_22 (et rfl rfl) hst (mtF mhF) rfl) ?_
      refine Ry rfl rfl wn (yLen SL_22 (et rfl rfl) hst (rdI mhF)) ?_
      refine Ry rfl rfl wn (ylss (et rfl rfl) (et rfl rfl)) ?_
      refine Rn QSn ?_
      refine k90 _ _ ?_
      have j14 : ∀ (x124 : Int) (f : Nat → Value) (w : World), f 1 = .int .i64 x49 → f 2 = .pointer (some ⟨b4, 0, none⟩) → f 5 = h50.v → f 7 = .int .i64 x124 → f 32 = h92.v → f 33 = .int .i64 (x91.length : Int) → f 34 = .int .i64 x103 → St w0 (imm (rI .i64) h92.v x91 :: ros) (box b4 27 [h2.v] :: row 22 (rS (rI .i64)) h50.v x51 :: rs) w → graph_Peripheral_j14 x103 x124 = some r13_ → Q88 .normal (fr 64 f) w := by
        intro x124 f w ej14_1 ej14_2 ej14_5 ej14_7 ej14_32 ej14_33 ej14_34 hst hM
        refine qb88 _ _ _ ?_
        refine k87 _ _ ?_
        refine wp_region_lit ?_
        refine Y wn rfl (yadd (et rfl ej14_34) rfl) ?_
        refine Y wn rfl (ym (v := .int .i64 (wa .i64 x103 1)) (et rfl rfl)) ?_
        refine wpList_nil ?_
        obtain rfl := someI hM
        exact n13 _ _ _ rfl ⟨_, _, _, rfl, rfl, ej14_1, ej14_2, ej14_5, ej14_7, ej14_32, ej14_33, rfl, hst⟩
      rcases iteS hM13 with ⟨c125, hM13⟩ | ⟨c125, hM13⟩
      · refine condT (et rfl rfl) (decide_eq_true c125) ?_
        refine wp_region_lit ?_
        refine Y wn rfl (ym (v := .int .i64 x119) (et rfl rfl)) ?_
        refine Y wn rfl (ya (v := .int .i64 x119) (et rfl rfl)) ?_
        refine wpList_nil ?_
        exact j14 _ _ _ e13_1 e13_2 e13_5 rfl e13_32 e13_33 e13_34 (hst.facts (allC (mtF (mtF (mtF (mtF mhF)))) (allT (allT (allT (allT (allT allI))))))) hM13
      · refine condF (et rfl rfl) (decide_eq_false c125) ?_
        refine wp_skip ?_
        exact j14 _ _ _ e13_1 e13_2 e13_5 e13_7 e13_32 e13_33 e13_34 (hst.facts (allC (mtF (mtF (mtF (mtF mhF)))) (allT (allT (allT (allT (allT allI))))))) hM13
    · refine condF (et rfl rfl) (decide_eq_false c118) ?_
      refine wp_exit ?_
      refine z86 _ _ _ rfl ?_
      obtain rfl := someI hM13
      refine zz13 _ _ _ _ rfl rfl ?_
      exact je13_0 _ _ _ e13_1 e13_2 e13_5 e13_7 (hst.facts (allT allI)) (ho13 _ rfl)

theorem graph_Levels_ok {w0 : World} {ros : List Fact} {rs : List Res} {w : World} {x1 : List (List Int)} {x3 : Int} {h2 : Hdr} {out : (List (List Int))} (hM : graph_Levels x1 x3 = some out) (q1 : imm (rS (rI .i64)) h2.v x1 ∈ ros) (hst : St w0 ros (rs) w) :
    Calls Try.prog 71 #[.agg #[h2.v], .int .i64 x3] w (fun e w => ∃ (h100001 : Hdr), e = .returned (h100001.v) ∧ St w0 (ros) (row 22 (rS (rI .i64)) h100001.v out :: rs) w) := by
  refine enterQ Try.func71 rfl Try.ntmps71 rfl fun Q hQ => ?_
  refine seqQ fun Q1 k1 z1 => ?_
  refine wp_region_lit ?_
  refine YB wn rfl (r_box (vals := [h2.v]) hst (et rfl rfl) rfl) ?_
  clear hst
  intro b4 w hst
  refine Y wn rfl (ya (v := hnil.v) rfl) ?_
  refine wpList_nil ?_
  refine k1 _ _ ?_
  refine seqQ fun Q2 k2 z2 => ?_
  refine seqQ fun Q3 k3 z3 => ?_
  refine wp_region_lit ?_
  refine Y wn rfl (yLbs (us := [h2.v]) ST_27 (et rfl rfl) hst mhR rfl rfl) ?_
  obtain ⟨r5, gr5, hM⟩ := bs hM
  refine Yc wn rfl (yCall FN_30 (a1 (et rfl rfl))) (graph_Check_ok (hM := gr5) (hst := hst) (q1 := q1)) ?_
  clear hst
  rintro _ w ⟨rfl, hst⟩
  refine ⟨_, rfl, ?_⟩
  refine Y wn rfl (yneq (et rfl rfl) rfl) ?_
  refine Y wn rfl (ym (v := .bool (!(decide (r5 = 0)))) (et rfl rfl)) ?_
  obtain ⟨r7, gr7, hM⟩ := bs hM
  refine joinW 5 (fun f w => f 1 = .int .i64 x3 ∧ f 2 = .pointer (some ⟨b4, 0, none⟩) ∧ f 13 = .bool r7 ∧ St w0 (ros) (box b4 27 [h2.v] :: rs) w) (fun j1 => ?_) ?_
  · rcases iteS gr7 with ⟨c9, gr7⟩ | ⟨c9, gr7⟩
    · refine Y (wg rfl rfl rfl (nF (decide_eq_true c9))) rfl (yLbs (us := [h2.v]) ST_27 (et rfl rfl) hst mhR rfl rfl) ?_
      refine Y (wg rfl rfl rfl (nF (decide_eq_true c9))) rfl (ym (v := .int .i64 x3) (et rfl rfl)) ?_
      obtain ⟨r10, gr10, gr7⟩ := bs gr7
      refine Yc (wg rfl rfl rfl (nF (decide_eq_true c9))) rfl (yCall FN_87 (a2 (et rfl rfl) (et rfl rfl))) (graph_vertex_ok (hM := gr10) (hst := hst) (q1 := q1)) ?_
      clear hst
      rintro _ w ⟨rfl, hst⟩
      refine ⟨_, rfl, ?_⟩
      refine Y (wg rfl rfl rfl (nF (decide_eq_true c9))) rfl (ynot (et rfl rfl)) ?_
      refine Y wn rfl (ypf (v := .bool (!(r10))) (et rfl rfl) (nF (decide_eq_true c9)) (et rfl rfl)) ?_
      obtain rfl := someI gr7
      exact j1 _ _ ⟨rfl, rfl, rfl, hst⟩
    · refine Gn (wx rfl rfl rfl (nT (decide_eq_false c9))) rfl ?_
      refine Gn (wx rfl rfl rfl (nT (decide_eq_false c9))) rfl ?_
      refine Gn (wx rfl rfl rfl (nT (decide_eq_false c9))) rfl ?_
      refine Gn (wx rfl rfl rfl (nT (decide_eq_false c9))) rfl ?_
      refine Y wn rfl (ypt (v := .bool true) (et rfl rfl) (nT (decide_eq_false c9)) rfl) ?_
      obtain rfl := someI gr7
      exact j1 _ _ ⟨rfl, rfl, rfl, hst⟩
  clear hst
  rintro f w ⟨e8_1, e8_2, e8_13, hst⟩
  refine wpList_nil ?_
  refine k3 _ _ ?_
  rcases iteS hM with ⟨c11, hM⟩ | ⟨c11, hM⟩
  · refine condT (et rfl e8_13) c11 ?_
    refine seqQ fun Q4 k4 z4 => ?_
    refine wp_region_lit ?_
    refine Y wn rfl (ya (v := hnil.v) rfl) ?_
    refine wpList_nil ?_
    refine k4 _ _ ?_
    refine wp_ret ?_
    refine z2 _ _ _ rfl ?_
    obtain rfl := someI hM
    replace hst := hst.rowNh 22 (rS (rI .i64))
    exact hQ _ _ _ (fin1r Try.results71 ⟨rfl, rfl⟩ ⟨_, rfl, (hst.pk 2 [0] rfl)⟩)
  · refine condF (et rfl e8_13) (bfalse c11) ?_
    refine wp_skip ?_
    refine k2 _ _ ?_
    refine seqQ fun Q5 k5 z5 => ?_
    refine wp_region_lit ?_
    refine Y wn rfl (yLbs (us := [h2.v]) ST_27 (et rfl e8_2) hst mhR rfl rfl) ?_
    refine Y wn rfl (ym (v := .int .i64 x3) (et rfl e8_1)) ?_
    obtain ⟨r12, gr12, hM⟩ := bs hM
    refine Yc wn rfl (yCall FN_84 (a2 (et rfl rfl) (et rfl rfl))) (graph_levels_ok (hM := gr12) (hst := hst) (q1 := q1)) ?_
    clear hst
    rintro _ w ⟨h13, rfl, hst⟩
    refine ⟨_, rfl, ?_⟩
    refine Y wn rfl (ya (v := h13.v) (et rfl rfl)) ?_
    refine wpList_nil ?_
    refine k5 _ _ ?_
    refine wp_ret ?_
    obtain rfl := someI hM
    exact hQ _ _ _ (fin1r Try.results71 ⟨rfl, rfl⟩ ⟨_, rfl, (hst.pk 2 [0] rfl)⟩)

theorem dissect_grown_ok {w0 : World} {ros : List Fact} {rs : List Res} {w : World} {x1 : List (List Int)} {x3 : List Int} {x5 : List (List Int)} {h2 : Hdr} {h4 : Hdr} {h6 : Hdr} {out : (List Int)} (hM : dissect_grown x1 x3 x5 = some out) (q1 : imm (rS (rI .i64)) h2.v x1 ∈ ros) (q2 : imm (rI .i64) h4.v x3 ∈ ros) (q3 : imm (rS (rI .i64)) h6.v x5 ∈ ros) (hst : St w0 ros (rs) w) :
    Calls Try.prog 51 #[.agg #[h2.v, h4.v, h6.v]] w (fun e w => ∃ (h100001 : Hdr), e = .returned (h100001.v) ∧ St w0 (ros) (row 3 (rI .i64) h100001.v out :: rs) w) := by
  refine enterQ Try.func51 rfl Try.ntmps51 rfl fun Q hQ => ?_
  refine seqQ fun Q1 k1 z1 => ?_
  refine wp_region_lit ?_
  refine YB wn rfl (r_box (vals := [h2.v, h4.v, h6.v]) hst (et rfl rfl) rfl) ?_
  clear hst
  intro b7 w hst
  refine Y wn rfl (ya (v := hnil.v) rfl) ?_
  refine wpList_nil ?_
  refine k1 _ _ ?_
  refine seqQ fun Q2 k2 z2 => ?_
  refine wp_region_lit ?_
  refine YH wn rfl (rLt (n := 1) (l := [1]) hst SL_22 [.int .i64 1] (bp1 rfl) rfl rfl (mks1 (cs := [.int .i64 1]) rfl mkI mks0)) ?_
  clear hst
  intro h8 w hst
  refine Y wn rfl (yFb FL_29_1 (et rfl rfl)) ?_
  refine Y wn rfl (yLb (u := h4.v) O_22 (et rfl rfl) hst (mtR mhR) rfl) ?_
  refine Y wn rfl (yLen SL_22 (et rfl rfl) hst (rdI q2)) ?_
  obtain ⟨r9, gr9, hM⟩ := bs hM
  replace hst := hst.fz
  refine Yc wn rfl (yCall FN_46 (a2 (et rfl rfl) (et rfl rfl))) (slices_Repeat_int_ok (hM := gr9) (hst := hst) (q1 := mhF)) ?_
  clear hst
  rintro _ w ⟨h10, rfl, hst⟩
  refine ⟨_, rfl, ?_⟩
  refine Y wn rfl (ya (v := h10.v) (et rfl rfl)) ?_
  refine wpList_nil ?_
  refine k2 _ _ ?_
  refine seqQ fun Q3 k3 z3 => ?_
  refine wp_region_lit ?_
  refine Y wn rfl (yFb FL_29_1 (et rfl rfl)) ?_
  refine Y wn rfl (yLb (u := h4.v) O_22 (et rfl rfl) hst (mtR mhR) rfl) ?_
  obtain ⟨r11, gr11, hM⟩ := bs hM
  refine Yc wn rfl (yCall FN_68 (a1 (et rfl rfl))) (dissect_total_ok (hM := gr11) (hst := hst) (q1 := (mtF q2))) ?_
  clear hst
  rintro _ w ⟨rfl, hst⟩
  refine ⟨_, rfl, ?_⟩
  refine Y wn rfl (ya (v := .int .i64 r11) (et rfl rfl)) ?_
  refine Y wn rfl (ya (v := .int .i64 0) rfl) ?_
  refine wpList_nil ?_
  refine k3 _ _ ?_
  refine seqQ fun Q4 k4 z4 => ?_
  refine seqQ fun Q5 k5 z5 => ?_
  refine wp_region_lit ?_
  refine Y wn rfl (yFb FL_29_0 (et rfl rfl)) ?_
  refine Y wn rfl (yLbs (us := [h2.v]) ST_27 (et rfl rfl) hst (mtR mhR) rfl rfl) ?_
  obtain ⟨r12, gr12, hM⟩ := bs hM
  refine Yc wn rfl (yCall FN_69 (a1 (et rfl rfl))) (graph_Components_ok (hM := gr12) (hst := hst) (q1 := (mtF q1))) ?_
  clear hst
  rintro _ w ⟨h13, rfl, hst⟩
  refine ⟨_, rfl, ?_⟩
  refine Y wn rfl (yLen SL_25 (et rfl rfl) hst (rdO mhR)) ?_
  refine Y wn rfl (ym (v := .int .i64 0) rfl) ?_
  refine wpList_nil ?_
  refine k5 _ _ ?_
  refine blockQ fun Q6 qb6 => ?_
  obtain ⟨o3, go3, hM⟩ := bs hM
  have je3_0 : ∀ (x86 : List Int) (f : Nat → Value) (w : World), f 3 = h10.v → St w0 (ros) (row 3 (rI .i64) h10.v x86 :: rs) w → .inl x86 = o3 → Q6 (.exit 0) (fr 59 f) w := by
    intro x86 f w eje3_0_3 hst ho
    subst ho
    refine qb6 _ _ _ ?_
    refine k4 _ _ ?_
    refine seqQ fun Q75 k75 z75 => ?_
    refine wp_region_lit ?_
    refine Y wn rfl (ym (v := h10.v) (et rfl eje3_0_3)) ?_
    refine Y wn rfl (ya (v := h10.v) (et rfl rfl)) ?_
    refine wpList_nil ?_
    refine k75 _ _ ?_
    refine wp_ret ?_
    obtain rfl := someI hM
    exact hQ _ _ _ (fin1r Try.results51 ⟨rfl, rfl⟩ ⟨_, rfl, hst⟩)
  have je3_1 : ∀ (x87 : List Int) (f : Nat → Value) (w : World), f 2 = h10.v → St w0 (ros) (row 3 (rI .i64) h10.v x87 :: rs) w → .inr x87 = o3 → Q6 .ret (fr 59 f) w := by
    intro x87 f w eje3_1_2 hst ho
    subst ho
    refine qb6 _ _ _ ?_
    refine z4 _ _ _ rfl ?_
    obtain rfl := someI hM
    exact hQ _ _ _ (fin1r Try.results51 ⟨rfl, eje3_1_2⟩ ⟨_, rfl, hst⟩)
  refine loopQ (fun s a w => ∃ (x47 : List Int) (x48 : Int) (x49 : Int) (f : Nat → Value), (x47, x48, x49) = s ∧ a = fr 59 f ∧ f 1 = .pointer (some ⟨b7, 0, none⟩) ∧ f 3 = h10.v ∧ f 4 = .int .i64 r11 ∧ f 5 = .int .i64 x48 ∧ f 20 = h13.v ∧ f 21 = .int .i64 (r12.length : Int) ∧ f 22 = .int .i64 x49 ∧ St w0 (ros) (box b7 29 [h2.v, h4.v, h6.v] :: row 3 (rI .i64) h10.v x47 :: row 22 (rS (rI .i64)) h13.v r12 :: rs) w) go3 ⟨_, _, _, _, rfl, rfl, rfl, rfl, rfl, rfl, rfl, rfl, rfl, ((hst.pk 3 [2, 1, 0] rfl).facts (allT allI))⟩ ?_
  clear hst
  rintro _ _ w r3_ ⟨x47, x48, x49, f, rfl, rfl, e3_1, e3_3, e3_4, e3_5, e3_20, e3_21, e3_22, hst⟩ hM3 ho3 Q100003 n3 zz3
  refine seqQ fun Q76 k76 z76 => ?_
  refine wp_region_lit ?_
  refine Y wn rfl (ylss (et rfl e3_22) (et rfl e3_21)) ?_
  refine wpList_nil ?_
  refine k76 _ _ ?_
  refine seqQ fun Q77 k77 z77 => ?_
  rcases iteS hM3 with ⟨c88, hM3⟩ | ⟨c88, hM3⟩
  · refine condT (et rfl rfl) (decide_eq_true c88) ?_
    refine wp_skip ?_
    refine k77 _ _ ?_
    refine seqQ fun Q78 k78 z78 => ?_
    refine blockQ fun Q79 qb79 => ?_
    refine seqQ fun Q80 k80 z80 => ?_
    refine wp_region_lit ?_
    obtain ⟨x89, gx89, hM3⟩ := bs hM3
    refine Y wn rfl (yIa SL_25 (et rfl e3_20) (et rfl e3_22) hst (rdO (mtR (mtR mhR))) gx89) ?_
    obtain ⟨h90, ch90, hst⟩ := rLs hst (rdO (mtR (mtR mhR))) gx89
    refine Y wn rfl (yCe O_22 (et rfl rfl) ch90 rfl) ?_
    refine Y wn rfl (ya (v := h90.v) (et rfl rfl)) ?_
    refine wpList_nil ?_
    refine k80 _ _ ?_
    refine seqQ fun Q81 k81 z81 => ?_
    obtain ⟨x91, gx91, hM3⟩ := bs hM3
    obtain ⟨r92, gr92, hM3⟩ := bs hM3
    obtain ⟨r93, gr93, hM3⟩ := bs hM3
    obtain ⟨r95, gr95, hM3⟩ := bs hM3
    refine wp_drawR [0, 1, 0, 4, 0, 16, 48, 124, 255, 511, 1023, 0] [7, 8, 9] 3 folM (by kernel_rfl) (by kernel_rfl) (by kernel_rfl) ?_
    replace hst := hst.drew
    refine DRn (l1 := [0, 1, 2, 3, 4, 5, 6, 11]) (l2 := []) (lc := [7]) (by kernel_rfl) (by kernel_rfl) (by kernel_rfl) ?_
    refine Ry rfl rfl wn (yFb FL_29_0 (et rfl e3_1)) ?_
    refine Ry rfl rfl wn (yLbs (us := [h2.v]) ST_27 (et rfl rfl) hst mhR rfl rfl) ?_
    refine Ry rfl rfl wn (yFb FL_29_0 (et rfl e3_1)) ?_
    refine Ry rfl rfl wn (yLbs (us := [h2.v]) ST_27 (et rfl rfl) hst mhR rfl rfl) ?_
    refine Ry rfl rfl wn (ym (v := h90.v) (et rfl rfl)) ?_
    refine Ry rfl rfl wn (yIa SL_22 (et rfl rfl) rfl hst (rdI mhF) gx91) ?_
    refine Ry rfl rfl wn (yI O_3 (et rfl rfl) hst (rdI mhF) gx91) ?_
    refine Ry rfl rfl wn (ym (v := .int .i64 0) rfl) ?_
    refine Rn QSn ?_
    refine Lc rfl ?_ LAn
    refine Lk wn (yCall FN_72 (a2 (et rfl rfl) (et rfl rfl))) (graph_Peripheral_ok (hM := gr92) (hst := hst) (q1 := (mtF q1))) ?_
    clear hst
    rintro _ w ⟨rfl, hst⟩
    refine ⟨_, rfl, ?_⟩
    refine DRn (l1 := []) (l2 := [0, 1, 11]) (lc := [8]) (by kernel_rfl) (by kernel_rfl) (by kernel_rfl) ?_
    refine Rn (Sy rfl rfl wn (yFb FL_29_0 (et rfl e3_1)) rfl (Sy rfl rfl wn (yLbs (us := [h2.v]) ST_27 (et rfl rfl) hst mhR rfl rfl) rfl (Sy rfl rfl wn (ym (v := .int .i64 0) rfl) rfl QSn))) ?_
    refine Lc rfl ?_ LAn
    refine Lk wn (yCall FN_71 (a2 (et rfl rfl) (et rfl rfl))) (graph_Levels_ok (hM := gr93) (hst := hst) (q1 := (mtF q1))) ?_
    clear hst
    rintro _ w ⟨h94, rfl, hst⟩
    refine ⟨_, rfl, ?_⟩
    refine DRn (l1 := []) (l2 := [11]) (lc := [9]) (by kernel_rfl) (by kernel_rfl) (by kernel_rfl) ?_
    refine Rn (Sy rfl rfl wn (ym (v := .int .i64 0) rfl) rfl QSn) ?_
    refine Lc rfl ?_ LAn
    replace hst := hst.fz
    refine Lk wn (yCall FN_70 (a1 (et rfl rfl))) (slices_Concat_int_ok (hM := gr95) (hst := hst) (q1 := mhF)) ?_
    clear hst
    rintro _ w ⟨h96, rfl, hst⟩
    refine ⟨_, rfl, ?_⟩
    refine DRz (l1 := [10]) (l2 := [11]) (by kernel_rfl) (by kernel_rfl) ?_
    refine Ry rfl rfl wn (yLen SL_22 (et rfl rfl) hst (rdO mhR)) ?_
    refine Rn (Sy rfl rfl wn (ym (v := .int .i64 0) rfl) rfl QSn) ?_
    refine k81 _ _ ?_
    refine blockQ fun Q82 qb82 => ?_
    obtain ⟨o4, go4, hM3⟩ := bs hM3
    have je4_0 : ∀ (x113 : List Int) (x114 : Int) (f : Nat → Value) (w : World), f 1 = .pointer (some ⟨b7, 0, none⟩) → f 3 = h10.v → f 4 = .int .i64 r11 → f 5 = .int .i64 x114 → f 20 = h13.v → f 21 = .int .i64 (r12.length : Int) → f 22 = .int .i64 x49 → St w0 (ros) (box b7 29 [h2.v, h4.v, h6.v] :: row 3 (rI .i64) h10.v x113 :: row 22 (rS (rI .i64)) h13.v r12 :: rs) w → .inl (x113, x114) = o4 → Q82 (.exit 2) (fr 59 f) w := by
      intro x113 x114 f w eje4_0_1 eje4_0_3 eje4_0_4 eje4_0_5 eje4_0_20 eje4_0_21 eje4_0_22 hst ho
      subst ho
      refine qb82 _ _ _ ?_
      refine qb79 _ _ _ ?_
      refine k78 _ _ ?_
      refine wp_region_lit ?_
      refine Y wn rfl (yadd (et rfl eje4_0_22) rfl) ?_
      refine Y wn rfl (ym (v := .int .i64 (wa .i64 x49 1)) (et rfl rfl)) ?_
      refine wpList_nil ?_
      obtain rfl := someI hM3
      exact n3 _ _ _ rfl ⟨_, _, _, _, rfl, rfl, eje4_0_1, eje4_0_3, eje4_0_4, eje4_0_5, eje4_0_20, eje4_0_21, rfl, hst⟩
    have je4_1 : ∀ (x115 : List Int) (f : Nat → Value) (w : World), f 2 = h10.v → St w0 (ros) (row 3 (rI .i64) h10.v x115 :: rs) w → .inr x115 = o4 → Q82 .ret (fr 59 f) w := by
      intro x115 f w eje4_1_2 hst ho
      subst ho
      refine qb82 _ _ _ ?_
      refine qb79 _ _ _ ?_
      refine z78 _ _ _ rfl ?_
      obtain rfl := someI hM3
      refine zz3 _ _ _ _ rfl rfl ?_
      exact je3_1 _ _ _ eje4_1_2 hst (ho3 _ rfl)
    refine loopQ (fun s a w => ∃ (x102 : List Int) (x103 : Int) (x104 : Int) (f : Nat → Value), (x102, x103, x104) = s ∧ a = fr 59 f ∧ f 1 = .pointer (some ⟨b7, 0, none⟩) ∧ f 3 = h10.v ∧ f 4 = .int .i64 r11 ∧ f 5 = .int .i64 x103 ∧ f 20 = h13.v ∧ f 21 = .int .i64 (r12.length : Int) ∧ f 22 = .int .i64 x49 ∧ f 35 = h96.v ∧ f 36 = .int .i64 (r95.length : Int) ∧ f 37 = .int .i64 x104 ∧ St w0 (ros) (box b7 29 [h2.v, h4.v, h6.v] :: row 3 (rI .i64) h10.v x102 :: row 22 (rS (rI .i64)) h13.v r12 :: row 3 (rI .i64) h96.v r95 :: rs) w) go4 ⟨_, _, _, _, rfl, rfl, e3_1, e3_3, e3_4, e3_5, e3_20, e3_21, e3_22, rfl, rfl, rfl, ((hst.pk 4 [1, 1, 1, 0] rfl).facts (allT (allT allI)))⟩ ?_
    clear hst
    rintro _ _ w r4_ ⟨x102, x103, x104, f, rfl, rfl, e4_1, e4_3, e4_4, e4_5, e4_20, e4_21, e4_22, e4_35, e4_36, e4_37, hst⟩ hM4 ho4 Q100004 n4 zz4
    refine seqQ fun Q101 k101 z101 => ?_
    refine wp_region_lit ?_
    refine Y wn rfl (ylss (et rfl e4_37) (et rfl e4_36)) ?_
    refine wpList_nil ?_
    refine k101 _ _ ?_
    refine seqQ fun Q102 k102 z102 => ?_
    rcases iteS hM4 with ⟨c116, hM4⟩ | ⟨c116, hM4⟩
    · refine condT (et rfl rfl) (decide_eq_true c116) ?_
      refine wp_skip ?_
      refine k102 _ _ ?_
      refine seqQ fun Q103 k103 z103 => ?_
      refine blockQ fun Q104 qb104 => ?_
      refine seqQ fun Q105 k105 z105 => ?_
      refine wp_region_lit ?_
      obtain ⟨x117, gx117, hM4⟩ := bs hM4
      refine Y wn rfl (yIa SL_22 (et rfl e4_35) (et rfl e4_37) hst (rdO (mtR (mtR (mtR mhR)))) gx117) ?_
      refine Y wn rfl (yI O_3 (et rfl rfl) hst (rdO (mtR (mtR (mtR mhR)))) gx117) ?_
      refine Y wn rfl (ya (v := .int .i64 x117) (et rfl rfl)) ?_
      refine wpList_nil ?_
      refine k105 _ _ ?_
      refine seqQ fun Q106 k106 z106 => ?_
      refine seqQ fun Q107 k107 z107 => ?_
      refine wp_region_lit ?_
      refine Y wn rfl (ym (v := .int .i64 x103) (et rfl e4_5)) ?_
      refine Y wn rfl (ymul rfl (et rfl rfl)) ?_
      refine Y wn rfl (ym (v := .int .i64 r11) (et rfl e4_4)) ?_
      refine Y wn rfl (ygeq (et rfl rfl) (et rfl rfl)) ?_
      refine wpList_nil ?_
      refine k107 _ _ ?_
      rcases iteS hM4 with ⟨c118, hM4⟩ | ⟨c118, hM4⟩
      · refine condT (et rfl rfl) (decide_eq_true c118) ?_
        refine seqQ fun Q108 k108 z108 => ?_
        refine wp_region_lit ?_
        refine Y wn rfl (ym (v := h10.v) (et rfl e4_3)) ?_
        refine Y wn rfl (ya (v := h10.v) (et rfl rfl)) ?_
        refine wpList_nil ?_
        refine k108 _ _ ?_
        refine wp_ret ?_
        refine z106 _ _ _ rfl ?_
        refine qb104 _ _ _ ?_
        refine z103 _ _ _ rfl ?_
        obtain rfl := someI hM4
        refine zz4 _ _ _ _ rfl rfl ?_
        exact je4_1 _ _ _ rfl (hst.pk 4 [1] rfl) (ho4 _ rfl)
      · refine condF (et rfl rfl) (decide_eq_false c118) ?_
        refine wp_skip ?_
        refine k106 _ _ ?_
        refine seqQ fun Q109 k109 z109 => ?_
        refine wp_region_lit ?_
        refine Y wn rfl (ym (v := h10.v) (et rfl e4_3)) ?_
        refine Y wn rfl (ym (v := .int .i64 x117) (et rfl rfl)) ?_
        obtain ⟨x119, gx119, hM4⟩ := bs hM4
        refine Y wn rfl (yIs SL_22 (et rfl rfl) (et rfl rfl) hst (rdO (mtR mhR)) gx119) ?_
        replace hst := hst.pk 2 [1, 0] rfl
        refine YT wn rfl (r_sti (cs := [.int .i64 0]) hst O_3 rfl (et rfl rfl) rfl rfl mkI gx119) ?_
        clear hst
        intro w hst
        refine wpList_nil ?_
        refine k109 _ _ ?_
        refine wp_region_lit ?_
        refine Y wn rfl (ym (v := .int .i64 x103) (et rfl e4_5)) ?_
        refine Y wn rfl (yFb FL_29_1 (et rfl e4_1)) ?_
        refine Y wn rfl (yLb (u := h4.v) O_22 (et rfl rfl) hst (mtR mhR) rfl) ?_
        refine Y wn rfl (ym (v := .int .i64 x117) (et rfl rfl)) ?_
        obtain ⟨x120, gx120, hM4⟩ := bs hM4
        refine Y wn rfl (yIa SL_22 (et rfl rfl) (et rfl rfl) hst (rdI q2) gx120) ?_
        refine Y wn rfl (yI O_3 (et rfl rfl) hst (rdI q2) gx120) ?_
        refine Y wn rfl (yadd (et rfl rfl) (et rfl rfl)) ?_
        refine Y wn rfl (ya (v := .int .i64 (wa .i64 x103 x120)) (et rfl rfl)) ?_
        refine wpList_nil ?_
        refine qb104 _ _ _ ?_
        refine k103 _ _ ?_
        refine wp_region_lit ?_
        refine Y wn rfl (yadd (et rfl e4_37) rfl) ?_
        refine Y wn rfl (ym (v := .int .i64 (wa .i64 x104 1)) (et rfl rfl)) ?_
        refine wpList_nil ?_
        obtain rfl := someI hM4
        exact n4 _ _ _ rfl ⟨_, _, _, _, rfl, rfl, e4_1, e4_3, e4_4, rfl, e4_20, e4_21, e4_22, e4_35, e4_36, rfl, (hst.pk 4 [1, 0, 0, 0] rfl)⟩
    · refine condF (et rfl rfl) (decide_eq_false c116) ?_
      refine wp_exit ?_
      refine z102 _ _ _ rfl ?_
      obtain rfl := someI hM4
      refine zz4 _ _ _ _ rfl rfl ?_
      exact je4_0 _ _ _ _ e4_1 e4_3 e4_4 e4_5 e4_20 e4_21 e4_22 (hst.pk 4 [0, 0, 0] rfl) (ho4 _ rfl)
  · refine condF (et rfl rfl) (decide_eq_false c88) ?_
    refine wp_exit ?_
    refine z77 _ _ _ rfl ?_
    obtain rfl := someI hM3
    refine zz3 _ _ _ _ rfl rfl ?_
    exact je3_0 _ _ _ e3_3 (hst.pk 3 [1] rfl) (ho3 _ rfl)
end Go.Proofs.Ythpeajepbffinaa
