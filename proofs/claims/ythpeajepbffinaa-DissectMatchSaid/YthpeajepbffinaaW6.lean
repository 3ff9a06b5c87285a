/- Walks: each function computes its model, printed. -/
import Derived.Test.YthpeajepbffinaaW5
namespace Go.Proofs.Ythpeajepbffinaa
open Go Sx M
set_option maxRecDepth 100000
set_option maxHeartbeats 400000
set_option linter.unusedVariables false
attribute [local irreducible] wpList Code.wp Calls DR QR QS LA LS St
theorem sparsemake_Weighted_ok {w0 : World} {ros : List Fact} {rs : List Res} {w : World} {x1 : Int} {x2 : List Int} {x4 : List Int} {h3 : Hdr} {h5 : Hdr} {out : (List (List Int)) × (List Int) × (List (List Int))} (hM : sparsemake_Weighted x1 x2 x4 = some out) (q1 : imm (rI .i64) h3.v x2 ∈ ros) (q2 : imm (rI .i64) h5.v x4 ∈ ros) (hst : St w0 ros (rs) w) :
    Calls Try.prog 9 #[.int .i64 x1, h3.v, h5.v] w (fun e w => ∃ (h100001 : Hdr) (h100003 : Hdr) (h100005 : Hdr), e = .returned (.agg #[h100001.v, h100003.v, h100005.v]) ∧ St w0 (ros) (row 22 (rS (rI .i64)) h100001.v out.1 :: row 3 (rI .i64) h100003.v out.2.1 :: row 22 (rS (rI .i64)) h100005.v out.2.2 :: rs) w) := by
  refine enterQ Try.func9 rfl Try.ntmps9 rfl fun Q hQ => ?_
  refine seqQ fun Q1 k1 z1 => ?_
  refine wp_region_lit ?_
  refine YB wn rfl (rAl hst ZT_29) ?_
  clear hst
  intro b6 w hst
  refine wpList_nil ?_
  refine k1 _ _ ?_
  refine seqQ fun Q2 k2 z2 => ?_
  refine wp_region_lit ?_
  refine Y wn rfl (ym (v := .int .i64 x1) (et rfl rfl)) ?_
  refine Y wn rfl (ym (v := h3.v) (et rfl rfl)) ?_
  obtain ⟨r7, gr7, hM⟩ := bs hM
  refine Yc wn rfl (yCall FN_12 (a2 (et rfl rfl) (et rfl rfl))) (sparsemake_Graph_ok (hM := gr7) (hst := hst) (q1 := q1)) ?_
  clear hst
  rintro _ w ⟨h8, rfl, hst⟩
  refine ⟨_, rfl, ?_⟩
  refine YB wn rfl (rAl hst ZT_27) ?_
  clear hst
  intro b9 w hst
  refine YT wn rfl (r_stbn (vals' := [h8.v]) (us := [h8.v]) hst ST_27 (et rfl rfl) (et rfl rfl) rfl rfl (one_of rfl) rfl) ?_
  clear hst
  intro w hst
  refine wpList_nil ?_
  refine k2 _ _ ?_
  refine seqQ fun Q3 k3 z3 => ?_
  refine wp_region_lit ?_
  refine Y wn rfl (yLbs (us := [h8.v]) ST_27 (et rfl rfl) hst mhR rfl rfl) ?_
  refine Y wn rfl (ybuild (us := [h8.v, hnil.v, hnil.v]) [(0, .agg #[h8.v])] SO_29 (bp1 (et rfl rfl)) rfl) ?_
  refine YB wn rfl (rAl hst ZT_29) ?_
  clear hst
  intro b10 w hst
  refine YT wn rfl (r_stbn (vals' := [h8.v, hnil.v, hnil.v]) (us := [h8.v, hnil.v, hnil.v]) hst ST_29 (et rfl rfl) (et rfl rfl) rfl rfl (one_of rfl) rfl) ?_
  clear hst
  intro w hst
  refine wpList_nil ?_
  refine k3 _ _ ?_
  refine seqQ fun Q4 k4 z4 => ?_
  refine seqQ fun Q5 k5 z5 => ?_
  refine wp_region_lit ?_
  refine Y wn rfl (ya (v := .int .i64 0) rfl) ?_
  refine wpList_nil ?_
  refine k5 _ _ ?_
  refine blockQ fun Q6 qb6 => ?_
  obtain ⟨o3, go3, hM⟩ := bs hM
  have je3_0 : ∀ (x128 : List Int) (x130 : List (List Int)) (h127 : Hdr) (h129 : Hdr) (f : Nat → Value) (w : World), f 6 = .pointer (some ⟨b6, 0, none⟩) → f 8 = .pointer (some ⟨b10, 0, none⟩) → St w0 (ros) (box b6 29 [hnil.v, hnil.v, hnil.v] :: row 22 (rS (rI .i64)) h8.v r7 :: row 3 (rI .i64) h127.v x128 :: row 22 (rS (rI .i64)) h129.v x130 :: box b10 29 [h8.v, h127.v, h129.v] :: rs) w → (x128, x130) = o3 → Q6 (.exit 0) (fr 79 f) w := by
    intro x128 x130 h127 h129 f w eje3_0_6 eje3_0_8 hst ho
    subst ho
    refine qb6 _ _ _ ?_
    refine k4 _ _ ?_
    refine seqQ fun Q55 k55 z55 => ?_
    refine wp_region_lit ?_
    refine Y wn rfl (yLbs (us := [h8.v, h127.v, h129.v]) ST_29 (et rfl eje3_0_8) hst (mtR (mtR (mtR (mtR mhR)))) rfl rfl) ?_
    refine YT wn rfl (r_stbn (vals' := [h8.v, h127.v, h129.v]) (us := [h8.v, h127.v, h129.v]) hst ST_29 (et rfl eje3_0_6) (et rfl rfl) rfl rfl (one_of rfl) rfl) ?_
    clear hst
    intro w hst
    refine wpList_nil ?_
    refine k55 _ _ ?_
    refine wp_ret ?_
    obtain rfl := someI hM
    exact hQ _ _ _ (fin1r Try.results9 (rcs2 rfl eje3_0_6 hst mhR ST_29 rfl) ⟨_, _, _, rfl, (hst.pk 5 [1, 1, 1] rfl)⟩)
  replace hst := hst.rowNh 3 (rI .i64)
  replace hst := hst.rowNh 22 (rS (rI .i64))
  refine loopQ (fun s a w => ∃ (x65 : List Int) (x67 : List (List Int)) (x68 : Int) (f : Nat → Value) (h64 : Hdr) (h66 : Hdr), (x65, x67, x68) = s ∧ a = fr 79 f ∧ f 0 = .int .i64 x1 ∧ f 2 = h5.v ∧ f 6 = .pointer (some ⟨b6, 0, none⟩) ∧ f 7 = .pointer (some ⟨b9, 0, none⟩) ∧ f 8 = .pointer (some ⟨b10, 0, none⟩) ∧ f 9 = .int .i64 x68 ∧ St w0 (ros) (box b6 29 [hnil.v, hnil.v, hnil.v] :: row 22 (rS (rI .i64)) h8.v r7 :: box b9 27 [h8.v] :: row 3 (rI .i64) h64.v x65 :: row 22 (rS (rI .i64)) h66.v x67 :: box b10 29 [h8.v, h64.v, h66.v] :: rs) w) go3 ⟨_, _, _, _, _, _, rfl, rfl, rfl, rfl, rfl, rfl, rfl, rfl, (hst.pk 6 [5, 4, 3, 1, 0, 0] rfl)⟩ ?_
  clear hst
  rintro _ _ w r3_ ⟨x65, x67, x68, f, h64, h66, rfl, rfl, e3_0, e3_2, e3_6, e3_7, e3_8, e3_9, hst⟩ hM3 ho3 Q100003 n3 zz3
  refine seqQ fun Q56 k56 z56 => ?_
  refine seqQ fun Q57 k57 z57 => ?_
  refine wp_region_lit ?_
  refine Y wn rfl (ym (v := .int .i64 x68) (et rfl e3_9)) ?_
  refine Y wn rfl (ym (v := .int .i64 x1) (et rfl e3_0)) ?_
  refine Y wn rfl (ylss (et rfl rfl) (et rfl rfl)) ?_
  refine wpList_nil ?_
  refine k57 _ _ ?_
  rcases iteS hM3 with ⟨c131, hM3⟩ | ⟨c131, hM3⟩
  · refine condT (et rfl rfl) (decide_eq_true c131) ?_
    refine wp_skip ?_
    refine k56 _ _ ?_
    refine seqQ fun Q58 k58 z58 => ?_
    refine blockQ fun Q59 qb59 => ?_
    refine seqQ fun Q60 k60 z60 => ?_
    obtain ⟨r132, gr132, hM3⟩ := bs hM3
    obtain ⟨r133, gr133, hM3⟩ := bs hM3
    obtain ⟨x136, gx136, hM3⟩ := bs hM3
    refine wp_drawR [0, 1, 0, 0, 12, 28, 60, 124, 255, 511, 1023] [4, 5, 7, 8, 10] 5 folM (by kernel_rfl) (by kernel_rfl) (by kernel_rfl) ?_
    replace hst := hst.drew
    refine DRn (l1 := [0, 1, 2, 3]) (l2 := []) (lc := [4]) (by kernel_rfl) (by kernel_rfl) (by kernel_rfl) ?_
    refine Ry rfl rfl wn (yFb FL_29_1 (et rfl e3_8)) ?_
    refine Ry rfl rfl wn (yLb (u := h64.v) O_22 (et rfl rfl) hst (mtR (mtR (mtR (mtR (mtR mhR))))) rfl) ?_
    refine Ry rfl rfl wn (ym (v := h5.v) (et rfl e3_2)) ?_
    refine Ry rfl rfl wn (ym (v := .int .i64 x68) (et rfl e3_9)) ?_
    refine Rn QSn ?_
    refine Lc rfl ?_ LAn
    refine Lk wn (yCall FN_25 (a2 (et rfl rfl) (et rfl rfl))) (sparsemake_At_ok (hM := gr132) (hst := hst) (q1 := q2)) ?_
    clear hst
    rintro _ w ⟨rfl, hst⟩
    refine ⟨_, rfl, ?_⟩
    refine DRn (l1 := []) (l2 := [0, 1]) (lc := [5]) (by kernel_rfl) (by kernel_rfl) (by kernel_rfl) ?_
    refine Rn (Sy rfl rfl wn (yFb FL_29_1 (et rfl e3_8)) rfl (Sy rfl rfl wn (yLb (u := h64.v) O_22 (et rfl rfl) hst (mtR (mtR (mtR (mtR (mtR mhR))))) rfl) rfl QSn)) ?_
    refine Lc rfl ?_ LAn
    refine Lk wn (yCall FN_8 (a2 (et rfl rfl) rfl)) (sparsekit_Place_ok (hM := gr133) (hst := hst) ) ?_
    clear hst
    rintro _ w ⟨rfl, hst⟩
    refine ⟨_, rfl, ?_⟩
    refine DRn (l1 := [6]) (l2 := [0, 1]) (lc := [7]) (by kernel_rfl) (by kernel_rfl) (by kernel_rfl) ?_
    refine Ry rfl rfl wn (yadd rfl (et rfl rfl)) ?_
    refine Rn (Sy rfl rfl wn (yFb FL_29_1 (et rfl e3_8)) rfl (Sy rfl rfl wn (yLb (u := h64.v) O_22 (et rfl rfl) hst (mtR (mtR (mtR (mtR (mtR mhR))))) rfl) rfl QSn)) ?_
    refine Lc rfl ?_ LAn
    refine LH wn (rLt (n := 1) (l := [wa .i64 1 r133]) hst SL_22 [.int .i64 (wa .i64 1 r133)] (bp1 (et rfl rfl)) rfl rfl (mks1 (cs := [.int .i64 (wa .i64 1 r133)]) rfl mkI mks0)) ?_
    clear hst
    intro h134 w hst
    refine DRn (l1 := []) (l2 := [0, 1]) (lc := [8]) (by kernel_rfl) (by kernel_rfl) (by kernel_rfl) ?_
    refine Rn (Sy rfl rfl wn (yFb FL_29_1 (et rfl e3_8)) rfl (Sy rfl rfl wn (yLb (u := h64.v) O_22 (et rfl rfl) hst (mtR (mtR (mtR (mtR (mtR (mtR mhR)))))) rfl) rfl QSn)) ?_
    refine Lc rfl ?_ LAn
    replace hst := hst.pk 5 [4, 0, 0, 0, 0] rfl
    refine LH wn (rAp hst SL_22 (et rfl rfl) (et rfl rfl) (rdO (mtR mhR)) gx136) ?_
    clear hst
    intro h135 w hst
    refine DRn (l1 := [9]) (l2 := []) (lc := [10]) (by kernel_rfl) (by kernel_rfl) (by kernel_rfl) ?_
    refine Ry rfl rfl wn (yFb FL_29_1 (et rfl e3_8)) ?_
    refine Rn QSn ?_
    refine Lc rfl ?_ LAn
    replace hst := hst.pk 7 [6, 0, 0, 0, 0, 0, 0] rfl
    refine LT wn (r_stb1 (vals' := [h8.v, h135.v, h66.v]) hst O_22 (et rfl rfl) (et rfl rfl) rfl rfl rfl rfl) ?_
    clear hst
    intro w hst
    refine DRz (l1 := []) (l2 := []) (by kernel_rfl) (by kernel_rfl) ?_
    refine Rn QSn ?_
    refine k60 _ _ ?_
    refine seqQ fun Q61 k61 z61 => ?_
    refine wp_region_lit ?_
    refine Y wn rfl (ya (v := hnil.v) rfl) ?_
    refine wpList_nil ?_
    refine k61 _ _ ?_
    refine seqQ fun Q62 k62 z62 => ?_
    refine seqQ fun Q63 k63 z63 => ?_
    refine wp_region_lit ?_
    refine Y wn rfl (ya (v := .int .i64 0) rfl) ?_
    refine wpList_nil ?_
    refine k63 _ _ ?_
    refine blockQ fun Q64 qb64 => ?_
    obtain ⟨o4, go4, hM3⟩ := bs hM3
    have je4_0 : ∀ (x168 : List Int) (h167 : Hdr) (f : Nat → Value) (w : World), f 0 = .int .i64 x1 → f 2 = h5.v → f 6 = .pointer (some ⟨b6, 0, none⟩) → f 7 = .pointer (some ⟨b9, 0, none⟩) → f 8 = .pointer (some ⟨b10, 0, none⟩) → f 9 = .int .i64 x68 → f 10 = h167.v → St w0 (ros) (box b6 29 [hnil.v, hnil.v, hnil.v] :: row 22 (rS (rI .i64)) h8.v r7 :: box b9 27 [h8.v] :: row 3 (rI .i64) h135.v x136 :: row 22 (rS (rI .i64)) h66.v x67 :: box b10 29 [h8.v, h135.v, h66.v] :: row 3 (rI .i64) h167.v x168 :: rs) w → x168 = o4 → Q64 (.exit 2) (fr 79 f) w := by
      intro x168 h167 f w eje4_0_0 eje4_0_2 eje4_0_6 eje4_0_7 eje4_0_8 eje4_0_9 eje4_0_10 hst ho
      subst ho
      refine qb64 _ _ _ ?_
      refine k62 _ _ ?_
      refine wp_region_lit ?_
      refine Y wn rfl (yFb FL_29_2 (et rfl eje4_0_8)) ?_
      refine Y wn rfl (yLb (u := h66.v) O_25 (et rfl rfl) hst (mtR (mtR (mtR (mtR (mtR mhR))))) rfl) ?_
      refine Y wn rfl (ym (v := h167.v) (et rfl eje4_0_10)) ?_
      replace hst := hst.pk 7 [6, 0, 0, 0, 0, 0, 0] rfl
      replace hst := hst.fz
      refine YH wn rfl (rLt (n := 1) (l := [x168]) hst SL_25 [h167.v] (bp1 (et rfl rfl)) rfl rfl (mks1 (cs := [h167.v]) rfl (mkS mhF) mks0)) ?_
      clear hst
      intro h169 w hst
      obtain ⟨x171, gx171, hM3⟩ := bs hM3
      replace hst := hst.pk 6 [5, 0, 0, 0, 0, 0] rfl
      refine YH wn rfl (rAp hst SL_25 (et rfl rfl) (et rfl rfl) (rdO (mtR mhR)) gx171) ?_
      clear hst
      intro h170 w hst
      refine Y wn rfl (yFb FL_29_2 (et rfl eje4_0_8)) ?_
      replace hst := hst.pk 7 [6, 0, 0, 0, 0, 0, 0] rfl
      refine YT wn rfl (r_stb1 (vals' := [h8.v, h135.v, h170.v]) hst O_25 (et rfl rfl) (et rfl rfl) rfl rfl rfl rfl) ?_
      clear hst
      intro w hst
      refine wpList_nil ?_
      refine qb59 _ _ _ ?_
      refine k58 _ _ ?_
      refine wp_region_lit ?_
      refine Y wn rfl (ym (v := .int .i64 x68) (et rfl eje4_0_9)) ?_
      refine Y wn rfl (yadd (et rfl rfl) rfl) ?_
      refine Y wn rfl (ya (v := .int .i64 (wa .i64 x68 1)) (et rfl rfl)) ?_
      refine wpList_nil ?_
      obtain rfl := someI hM3
      exact n3 _ _ _ rfl ⟨_, _, _, _, _, _, rfl, rfl, eje4_0_0, eje4_0_2, eje4_0_6, eje4_0_7, eje4_0_8, rfl, ((hst.pk 7 [3, 3, 3, 3, 1, 0] rfl).facts (allT allI))⟩
    replace hst := hst.rowNh 3 (rI .i64)
    refine loopQ (fun s a w => ∃ (x150 : List Int) (x151 : Int) (f : Nat → Value) (h149 : Hdr), (x150, x151) = s ∧ a = fr 79 f ∧ f 0 = .int .i64 x1 ∧ f 2 = h5.v ∧ f 6 = .pointer (some ⟨b6, 0, none⟩) ∧ f 7 = .pointer (some ⟨b9, 0, none⟩) ∧ f 8 = .pointer (some ⟨b10, 0, none⟩) ∧ f 9 = .int .i64 x68 ∧ f 10 = h149.v ∧ f 11 = .int .i64 x151 ∧ St w0 (ros) (box b6 29 [hnil.v, hnil.v, hnil.v] :: row 22 (rS (rI .i64)) h8.v r7 :: box b9 27 [h8.v] :: row 3 (rI .i64) h135.v x136 :: row 22 (rS (rI .i64)) h66.v x67 :: box b10 29 [h8.v, h135.v, h66.v] :: row 3 (rI .i64) h149.v x150 :: rs) w) go4 ⟨_, _, _, _, rfl, rfl, e3_0, e3_2, e3_6, e3_7, e3_8, e3_9, rfl, rfl, (hst.pk 8 [4, 4, 4, 2, 3, 1, 0] rfl)⟩ ?_
    clear hst
    rintro _ _ w r4_ ⟨x150, x151, f, h149, rfl, rfl, e4_0, e4_2, e4_6, e4_7, e4_8, e4_9, e4_10, e4_11, hst⟩ hM4 ho4 Q100004 n4 zz4
    refine seqQ fun Q75 k75 z75 => ?_
    refine seqQ fun Q76 k76 z76 => ?_
    refine wp_region_lit ?_
    refine Y wn rfl (ym (v := .int .i64 x151) (et rfl e4_11)) ?_
    refine Y wn rfl (yFb FL_27_0 (et rfl e4_7)) ?_
    refine Y wn rfl (yLb (u := h8.v) O_25 (et rfl rfl) hst (mtR (mtR mhR)) rfl) ?_
    refine Y wn rfl (ym (v := .int .i64 x68) (et rfl e4_9)) ?_
    obtain ⟨x172, gx172, hM4⟩ := bs hM4
    refine Y wn rfl (yIa SL_25 (et rfl rfl) (et rfl rfl) hst (rdO (mtR mhR)) gx172) ?_
    obtain ⟨h173, ch173, hst⟩ := rLs hst (rdO (mtR mhR)) gx172
    refine Y wn rfl (yCe O_22 (et rfl rfl) ch173 rfl) ?_
    refine Y wn rfl (yLen SL_22 (et rfl rfl) hst (rdI mhF)) ?_
    refine Y wn rfl (ylss (et rfl rfl) (et rfl rfl)) ?_
    refine wpList_nil ?_
    refine k76 _ _ ?_
    rcases iteS hM4 with ⟨c174, hM4⟩ | ⟨c174, hM4⟩
    · refine condT (et rfl rfl) (decide_eq_true c174) ?_
      refine wp_skip ?_
      refine k75 _ _ ?_
      refine seqQ fun Q77 k77 z77 => ?_
      refine blockQ fun Q78 qb78 => ?_
      refine seqQ fun Q79 k79 z79 => ?_
      refine wp_region_lit ?_
      refine Y wn rfl (yFb FL_27_0 (et rfl e4_7)) ?_
      refine Y wn rfl (yLb (u := h8.v) O_25 (et rfl rfl) hst (mtR (mtR mhR)) rfl) ?_
      refine Y wn rfl (ym (v := .int .i64 x68) (et rfl e4_9)) ?_
      obtain ⟨x175, gx175, hM4⟩ := bs hM4
      refine Y wn rfl (yIa SL_25 (et rfl rfl) (et rfl rfl) hst (rdO (mtR mhR)) gx175) ?_
      obtain ⟨h176, ch176, hst⟩ := rLs hst (rdO (mtR mhR)) gx175
      refine Y wn rfl (yCe O_22 (et rfl rfl) ch176 rfl) ?_
      refine Y wn rfl (ym (v := .int .i64 x151) (et rfl e4_11)) ?_
      obtain ⟨x177, gx177, hM4⟩ := bs hM4
      refine Y wn rfl (yIa SL_22 (et rfl rfl) (et rfl rfl) hst (rdI mhF) gx177) ?_
      refine Y wn rfl (yI O_3 (et rfl rfl) hst (rdI mhF) gx177) ?_
      refine Y wn rfl (ya (v := .int .i64 x177) (et rfl rfl)) ?_
      refine wpList_nil ?_
      refine k79 _ _ ?_
      refine wp_region_lit ?_
      refine Y wn rfl (ym (v := h149.v) (et rfl e4_10)) ?_
      refine Y wn rfl (ym (v := h5.v) (et rfl e4_2)) ?_
      refine Y wn rfl (ym (v := .int .i64 x1) (et rfl e4_0)) ?_
      refine Y wn rfl (ym (v := .int .i64 x177) (et rfl rfl)) ?_
      refine Y wn rfl (ym (v := .int .i64 x68) (et rfl e4_9)) ?_
      refine Y wn rfl (ymax (et rfl rfl) (et rfl rfl)) ?_
      refine Y wn rfl (yadd (et rfl rfl) (et rfl rfl)) ?_
      obtain ⟨r178, gr178, hM4⟩ := bs hM4
      refine Yc wn rfl (yCall FN_25 (a2 (et rfl rfl) (et rfl rfl))) (sparsemake_At_ok (hM := gr178) (hst := hst) (q1 := (mtF (mtF q2)))) ?_
      clear hst
      rintro _ w ⟨rfl, hst⟩
      refine ⟨_, rfl, ?_⟩
      refine Y wn rfl (ym (v := h5.v) (et rfl e4_2)) ?_
      refine Y wn rfl (ym (v := .int .i64 x1) (et rfl e4_0)) ?_
      refine Y wn rfl (ym (v := .int .i64 x177) (et rfl rfl)) ?_
      refine Y wn rfl (ym (v := .int .i64 x68) (et rfl e4_9)) ?_
      refine Y wn rfl (ymin (et rfl rfl) (et rfl rfl)) ?_
      refine Y wn rfl (yadd (et rfl rfl) (et rfl rfl)) ?_
      obtain ⟨r179, gr179, hM4⟩ := bs hM4
      refine Yc wn rfl (yCall FN_25 (a2 (et rfl rfl) (et rfl rfl))) (sparsemake_At_ok (hM := gr179) (hst := hst) (q1 := (mtF (mtF q2)))) ?_
      clear hst
      rintro _ w ⟨rfl, hst⟩
      refine ⟨_, rfl, ?_⟩
      refine Y wn rfl (ymul rfl (et rfl rfl)) ?_
      refine Y wn rfl (yadd (et rfl rfl) (et rfl rfl)) ?_
      obtain ⟨r180, gr180, hM4⟩ := bs hM4
      refine Yc wn rfl (yCall FN_8 (a2 (et rfl rfl) rfl)) (sparsekit_Place_ok (hM := gr180) (hst := hst) ) ?_
      clear hst
      rintro _ w ⟨rfl, hst⟩
      refine ⟨_, rfl, ?_⟩
      refine Y wn rfl (yadd rfl (et rfl rfl)) ?_
      refine YH wn rfl (rLt (n := 1) (l := [wa .i64 1 r180]) hst SL_22 [.int .i64 (wa .i64 1 r180)] (bp1 (et rfl rfl)) rfl rfl (mks1 (cs := [.int .i64 (wa .i64 1 r180)]) rfl mkI mks0)) ?_
      clear hst
      intro h181 w hst
      obtain ⟨x183, gx183, hM4⟩ := bs hM4
      replace hst := hst.pk 8 [7, 0, 0, 0, 0, 0, 0, 0] rfl
      refine YH wn rfl (rAp hst SL_22 (et rfl rfl) (et rfl rfl) (rdO (mtR mhR)) gx183) ?_
      clear hst
      intro h182 w hst
      refine Y wn rfl (ya (v := h182.v) (et rfl rfl)) ?_
      refine wpList_nil ?_
      refine qb78 _ _ _ ?_
      refine k77 _ _ ?_
      refine wp_region_lit ?_
      refine Y wn rfl (ym (v := .int .i64 x151) (et rfl e4_11)) ?_
      refine Y wn rfl (yadd (et rfl rfl) rfl) ?_
      refine Y wn rfl (ya (v := .int .i64 (wa .i64 x151 1)) (et rfl rfl)) ?_
      refine wpList_nil ?_
      obtain rfl := someI hM4
      exact n4 _ _ _ rfl ⟨_, _, _, _, rfl, rfl, e4_0, e4_2, e4_6, e4_7, e4_8, e4_9, rfl, rfl, ((hst.pk 8 [2, 2, 2, 2, 2, 2, 0] rfl).facts (allT (allT allI)))⟩
    · refine condF (et rfl rfl) (decide_eq_false c174) ?_
      refine wp_exit ?_
      refine z75 _ _ _ rfl ?_
      obtain rfl := someI hM4
      refine zz4 _ _ _ _ rfl rfl ?_
      exact je4_0 _ _ _ _ e4_0 e4_2 e4_6 e4_7 e4_8 e4_9 e4_10 (hst.facts (allT allI)) (ho4 _ rfl)
  · refine condF (et rfl rfl) (decide_eq_false c131) ?_
    refine wp_exit ?_
    refine z56 _ _ _ rfl ?_
    obtain rfl := someI hM3
    refine zz3 _ _ _ _ rfl rfl ?_
    exact je3_0 _ _ _ _ _ _ e3_6 e3_8 (hst.pk 6 [0, 0, 1, 1, 1] rfl) (ho3 _ rfl)

theorem dissect_weight_ok {w0 : World} {ros : List Fact} {rs : List Res} {w : World} {x1 : List (List Int)} {x3 : List Int} {x5 : List (List Int)} {x7 : Int} {x8 : Int} {h2 : Hdr} {h4 : Hdr} {h6 : Hdr} {out : Int} (hM : dissect_weight x1 x3 x5 x7 x8 = some out) (q1 : imm (rS (rI .i64)) h2.v x1 ∈ ros) (q2 : imm (rI .i64) h4.v x3 ∈ ros) (q3 : imm (rS (rI .i64)) h6.v x5 ∈ ros) (hst : St w0 ros (rs) w) :
    Calls Try.prog 43 #[.agg #[h2.v, h4.v, h6.v], .int .i64 x7, .int .i64 x8] w (fun e w => e = .returned (.int .i64 out) ∧ St w0 (ros) (rs) w) := by
  refine enterQ Try.func43 rfl Try.ntmps43 rfl fun Q hQ => ?_
  refine seqQ fun Q1 k1 z1 => ?_
  refine wp_region_lit ?_
  refine YB wn rfl (r_box (vals := [h2.v, h4.v, h6.v]) hst (et rfl rfl) rfl) ?_
  clear hst
  intro b9 w hst
  refine Y wn rfl (ya (v := .int .i64 0) rfl) ?_
  refine wpList_nil ?_
  refine k1 _ _ ?_
  refine seqQ fun Q2 k2 z2 => ?_
  refine wp_region_lit ?_
  refine Y wn rfl (yFb FL_29_0 (et rfl rfl)) ?_
  refine Y wn rfl (yFb FL_27_0 (et rfl rfl)) ?_
  refine Y wn rfl (yLb (u := h2.v) O_25 (et rfl rfl) hst mhR rfl) ?_
  refine Y wn rfl (ym (v := .int .i64 x7) (et rfl rfl)) ?_
  obtain ⟨x10, gx10, hM⟩ := bs hM
  refine Y wn rfl (yIa SL_25 (et rfl rfl) (et rfl rfl) hst (rdI q1) gx10) ?_
  obtain ⟨h11, hst⟩ := iLs hst q1 gx10
  refine Y wn rfl (yCt O_22 (et rfl rfl) hst (mtF mhF) rfl) ?_
  refine Y wn rfl (ym (v := .int .i64 x8) (et rfl rfl)) ?_
  obtain ⟨r12, gr12, hM⟩ := bs hM
  refine Yc wn rfl (yCall FN_64 (a2 (et rfl rfl) (et rfl rfl))) (slices_BinarySearch_int_ok (hM := gr12) (hst := hst) (q1 := mhF)) ?_
  clear hst
  rintro _ w ⟨rfl, hst⟩
  refine ⟨_, rfl, ?_⟩
  refine Y wn rfl (ym (v := .tuple #[.int .i64 r12.1, .bool r12.2]) (et rfl rfl)) ?_
  refine Y wn rfl (yx (v := .int .i64 r12.1) (et rfl rfl) rfl) ?_
  refine Y wn rfl (yx (v := .bool r12.2) (et rfl rfl) rfl) ?_
  refine Y wn rfl (ya (v := .int .i64 r12.1) (et rfl rfl)) ?_
  refine Y wn rfl (ya (v := .bool r12.2) (et rfl rfl)) ?_
  refine wpList_nil ?_
  refine k2 _ _ ?_
  refine seqQ fun Q3 k3 z3 => ?_
  refine wp_region_lit ?_
  refine Y wn rfl (yFb FL_29_2 (et rfl rfl)) ?_
  refine Y wn rfl (yLb (u := h6.v) O_25 (et rfl rfl) hst mhR rfl) ?_
  refine Y wn rfl (ym (v := .int .i64 x7) (et rfl rfl)) ?_
  obtain ⟨x13, gx13, hM⟩ := bs hM
  refine Y wn rfl (yIa SL_25 (et rfl rfl) (et rfl rfl) hst (rdI (mtF (mtF q3))) gx13) ?_
  obtain ⟨h14, hst⟩ := iLs hst (mtF (mtF q3)) gx13
  refine Y wn rfl (yCt O_22 (et rfl rfl) hst (mtF mhF) rfl) ?_
  refine Y wn rfl (ym (v := .int .i64 r12.1) (et rfl rfl)) ?_
  obtain ⟨x15, gx15, hM⟩ := bs hM
  refine Y wn rfl (yIa SL_22 (et rfl rfl) (et rfl rfl) hst (rdI mhF) gx15) ?_
  refine Y wn rfl (yI O_3 (et rfl rfl) hst (rdI mhF) gx15) ?_
  refine Y wn rfl (ya (v := .int .i64 x15) (et rfl rfl)) ?_
  refine wpList_nil ?_
  refine k3 _ _ ?_
  refine wp_ret ?_
  obtain rfl := someI hM
  exact hQ _ _ _ (fin1r Try.results43 ⟨rfl, rfl⟩ ⟨rfl, ((hst.pk 1 [] rfl).facts (allT (allT (allT (allT allI)))))⟩)

theorem dissect_CheckWeighted_ok {w0 : World} {ros : List Fact} {rs : List Res} {w : World} {x1 : List (List Int)} {x3 : List Int} {x5 : List (List Int)} {h2 : Hdr} {h4 : Hdr} {h6 : Hdr} {out : Int} (hM : dissect_CheckWeighted x1 x3 x5 = some out) (q1 : imm (rS (rI .i64)) h2.v x1 ∈ ros) (q2 : imm (rI .i64) h4.v x3 ∈ ros) (q3 : imm (rS (rI .i64)) h6.v x5 ∈ ros) (hst : St w0 ros (rs) w) :
    Calls Try.prog 23 #[.agg #[h2.v, h4.v, h6.v]] w (fun e w => e = .returned (.int .i64 out) ∧ St w0 (ros) (rs) w) := by
  refine enterQ Try.func23 rfl Try.ntmps23 rfl fun Q hQ => ?_
  refine seqQ fun Q1 k1 z1 => ?_
  refine wp_region_lit ?_
  refine YB wn rfl (r_box (vals := [h2.v, h4.v, h6.v]) hst (et rfl rfl) rfl) ?_
  clear hst
  intro b7 w hst
  refine Y wn rfl (ya (v := .int .i64 0) rfl) ?_
  refine wpList_nil ?_
  refine k1 _ _ ?_
  refine seqQ fun Q2 k2 z2 => ?_
  refine wp_region_lit ?_
  refine Y wn rfl (yFb FL_29_0 (et rfl rfl)) ?_
  refine Y wn rfl (yLbs (us := [h2.v]) ST_27 (et rfl rfl) hst mhR rfl rfl) ?_
  obtain ⟨r8, gr8, hM⟩ := bs hM
  refine Yc wn rfl (yCall FN_30 (a1 (et rfl rfl))) (graph_Check_ok (hM := gr8) (hst := hst) (q1 := q1)) ?_
  clear hst
  rintro _ w ⟨rfl, hst⟩
  refine ⟨_, rfl, ?_⟩
  refine Y wn rfl (ya (v := .int .i64 r8) (et rfl rfl)) ?_
  refine wpList_nil ?_
  refine k2 _ _ ?_
  refine seqQ fun Q3 k3 z3 => ?_
  refine seqQ fun Q4 k4 z4 => ?_
  refine wp_region_lit ?_
  refine Y wn rfl (ym (v := .int .i64 r8) (et rfl rfl)) ?_
  refine Y wn rfl (yneq (et rfl rfl) rfl) ?_
  refine wpList_nil ?_
  refine k4 _ _ ?_
  rcases iteS hM with ⟨c9, hM⟩ | ⟨c9, hM⟩
  · refine condF (et rfl rfl) (nF (decide_eq_true c9)) ?_
    refine wp_skip ?_
    refine k3 _ _ ?_
    refine seqQ fun Q5 k5 z5 => ?_
    refine wp_region_lit ?_
    refine Y wn rfl (yFb FL_29_0 (et rfl rfl)) ?_
    refine Y wn rfl (yFb FL_27_0 (et rfl rfl)) ?_
    refine Y wn rfl (yLb (u := h2.v) O_25 (et rfl rfl) hst mhR rfl) ?_
    refine Y wn rfl (yLen SL_25 (et rfl rfl) hst (rdI q1)) ?_
    refine Y wn rfl (ya (v := .int .i64 (x1.length : Int)) (et rfl rfl)) ?_
    refine wpList_nil ?_
    refine k5 _ _ ?_
    refine seqQ fun Q6 k6 z6 => ?_
    refine seqQ fun Q7 k7 z7 => ?_
    refine wp_region_lit ?_
    refine Y wn rfl (yFb FL_29_1 (et rfl rfl)) ?_
    refine Y wn rfl (yLb (u := h4.v) O_22 (et rfl rfl) hst mhR rfl) ?_
    refine Y wn rfl (yLen SL_22 (et rfl rfl) hst (rdI q2)) ?_
    refine Y wn rfl (ym (v := .int .i64 (x1.length : Int)) (et rfl rfl)) ?_
    refine Y wn rfl (yneq (et rfl rfl) (et rfl rfl)) ?_
    refine Y wn rfl (ym (v := .bool (!(decide ((x3.length : Int) = (x1.length : Int))))) (et rfl rfl)) ?_
    refine joinW 6 (fun f w => f 1 = .pointer (some ⟨b7, 0, none⟩) ∧ f 32 = .bool ((!(decide ((x3.length : Int) = (x1.length : Int)))) || (!(decide ((x5.length : Int) = (x1.length : Int))))) ∧ St w0 (ros) (box b7 29 [h2.v, h4.v, h6.v] :: rs) w) (fun j1 => ?_) ?_
    · rcases Bool.eq_false_or_eq_true (!(decide ((x3.length : Int) = (x1.length : Int)))) with c11 | c11
      · refine Gn (wx rfl rfl rfl c11) rfl ?_
        refine Gn (wx rfl rfl rfl c11) rfl ?_
        refine Gn (wx rfl rfl rfl c11) rfl ?_
        refine Gn (wx rfl rfl rfl c11) rfl ?_
        refine Gn (wx rfl rfl rfl c11) rfl ?_
        refine Y wn rfl (ypt (v := .bool true) (et rfl rfl) c11 rfl) ?_
        exact j1 _ _ ⟨rfl, (congrArg Value.bool (orT c11)), hst⟩
      · refine Y (wg rfl rfl rfl c11) rfl (yFb FL_29_2 (et rfl rfl)) ?_
        refine Y (wg rfl rfl rfl c11) rfl (yLb (u := h6.v) O_25 (et rfl rfl) hst mhR rfl) ?_
        refine Y (wg rfl rfl rfl c11) rfl (yLen SL_25 (et rfl rfl) hst (rdI q3)) ?_
        refine Y (wg rfl rfl rfl c11) rfl (ym (v := .int .i64 (x1.length : Int)) (et rfl rfl)) ?_
        refine Y (wg rfl rfl rfl c11) rfl (yneq (et rfl rfl) (et rfl rfl)) ?_
        refine Y wn rfl (ypf (v := .bool (!(decide ((x5.length : Int) = (x1.length : Int))))) (et rfl rfl) c11 (et rfl rfl)) ?_
        exact j1 _ _ ⟨rfl, (congrArg Value.bool (orF c11)), hst⟩
    clear hst
    rintro f w ⟨e10_1, e10_32, hst⟩
    refine Y wn rfl (ym (v := .bool ((!(decide ((x3.length : Int) = (x1.length : Int)))) || (!(decide ((x5.length : Int) = (x1.length : Int)))))) (et rfl e10_32)) ?_
    obtain ⟨r13, gr13, hM⟩ := bs hM
    refine joinW 5 (fun f w => f 1 = .pointer (some ⟨b7, 0, none⟩) ∧ f 38 = .bool r13 ∧ St w0 (ros) (box b7 29 [h2.v, h4.v, h6.v] :: rs) w) (fun j2 => ?_) ?_
    · rcases iteS gr13 with ⟨c15, gr13⟩ | ⟨c15, gr13⟩
      · refine Gn (wx rfl rfl rfl c15) rfl ?_
        refine Gn (wx rfl rfl rfl c15) rfl ?_
        refine Gn (wx rfl rfl rfl c15) rfl ?_
        refine Gn (wx rfl rfl rfl c15) rfl ?_
        refine Y wn rfl (ypt (v := .bool true) (et rfl rfl) c15 rfl) ?_
        obtain rfl := someI gr13
        exact j2 _ _ ⟨e10_1, rfl, hst⟩
      · refine Y (wg rfl rfl rfl (bfalse c15)) rfl (yFb FL_29_1 (et rfl e10_1)) ?_
        refine Y (wg rfl rfl rfl (bfalse c15)) rfl (yLb (u := h4.v) O_22 (et rfl rfl) hst mhR rfl) ?_
        obtain ⟨r16, gr16, gr13⟩ := bs gr13
        refine Yc (wg rfl rfl rfl (bfalse c15)) rfl (yCall FN_42 (a1 (et rfl rfl))) (dissect_weights_ok (hM := gr16) (hst := hst) (q1 := q2)) ?_
        clear hst
        rintro _ w ⟨rfl, hst⟩
        refine ⟨_, rfl, ?_⟩
        refine Y (wg rfl rfl rfl (bfalse c15)) rfl (ynot (et rfl rfl)) ?_
        refine Y wn rfl (ypf (v := .bool (!(r16))) (et rfl rfl) (bfalse c15) (et rfl rfl)) ?_
        obtain rfl := someI gr13
        exact j2 _ _ ⟨e10_1, rfl, hst⟩
    clear hst
    rintro f w ⟨e14_1, e14_38, hst⟩
    refine wpList_nil ?_
    refine k7 _ _ ?_
    rcases iteS hM with ⟨c17, hM⟩ | ⟨c17, hM⟩
    · refine condT (et rfl e14_38) c17 ?_
      refine seqQ fun Q8 k8 z8 => ?_
      refine wp_region_lit ?_
      refine Y wn rfl (ya (v := .int .i64 1) rfl) ?_
      refine wpList_nil ?_
      refine k8 _ _ ?_
      refine wp_ret ?_
      refine z6 _ _ _ rfl ?_
      obtain rfl := someI hM
      exact hQ _ _ _ (fin1r Try.results23 ⟨rfl, rfl⟩ ⟨rfl, (hst.pk 1 [] rfl)⟩)
    · refine condF (et rfl e14_38) (bfalse c17) ?_
      refine wp_skip ?_
      refine k6 _ _ ?_
      refine seqQ fun Q9 k9 z9 => ?_
      refine seqQ fun Q10 k10 z10 => ?_
      refine wp_region_lit ?_
      refine Y wn rfl (yFb FL_29_0 (et rfl e14_1)) ?_
      refine Y wn rfl (yFb FL_27_0 (et rfl rfl)) ?_
      refine Y wn rfl (yLb (u := h2.v) O_25 (et rfl rfl) hst mhR rfl) ?_
      refine Y wn rfl (yLen SL_25 (et rfl rfl) hst (rdI q1)) ?_
      refine Y wn rfl (ym (v := .int .i64 0) rfl) ?_
      refine wpList_nil ?_
      refine k10 _ _ ?_
      refine blockQ fun Q11 qb11 => ?_
      obtain ⟨o5, go5, hM⟩ := bs hM
      have je5_0 : ∀ (f : Nat → Value) (w : World), f 1 = .pointer (some ⟨b7, 0, none⟩) → St w0 (ros) (box b7 29 [h2.v, h4.v, h6.v] :: rs) w → .inl () = o5 → Q11 (.exit 0) (fr 98 f) w := by
        intro f w eje5_0_1 hst ho
        subst ho
        refine qb11 _ _ _ ?_
        refine k9 _ _ ?_
        refine seqQ fun Q26 k26 z26 => ?_
        refine seqQ fun Q27 k27 z27 => ?_
        refine wp_region_lit ?_
        refine Y wn rfl (yFb FL_29_0 (et rfl eje5_0_1)) ?_
        refine Y wn rfl (yFb FL_27_0 (et rfl rfl)) ?_
        refine Y wn rfl (yLb (u := h2.v) O_25 (et rfl rfl) hst mhR rfl) ?_
        refine Y wn rfl (yLen SL_25 (et rfl rfl) hst (rdI q1)) ?_
        refine Y wn rfl (ym (v := .int .i64 0) rfl) ?_
        refine wpList_nil ?_
        refine k27 _ _ ?_
        refine blockQ fun Q28 qb28 => ?_
        obtain ⟨o8, go8, hM⟩ := bs hM
        have je8_0 : ∀ (f : Nat → Value) (w : World), St w0 (ros) (rs) w → .inl () = o8 → Q28 (.exit 2) (fr 98 f) w := by
          intro f w hst ho
          subst ho
          refine qb28 _ _ _ ?_
          refine k26 _ _ ?_
          refine seqQ fun Q85 k85 z85 => ?_
          refine wp_region_lit ?_
          refine Y wn rfl (ya (v := .int .i64 0) rfl) ?_
          refine wpList_nil ?_
          refine k85 _ _ ?_
          refine wp_ret ?_
          obtain rfl := someI hM
          exact hQ _ _ _ (fin1r Try.results23 ⟨rfl, rfl⟩ ⟨rfl, hst⟩)
        have je8_1 : ∀ (f : Nat → Value) (w : World), f 2 = .int .i64 1 → St w0 (ros) (rs) w → .inr () = o8 → Q28 .ret (fr 98 f) w := by
          intro f w eje8_1_2 hst ho
          subst ho
          refine qb28 _ _ _ ?_
          refine z26 _ _ _ rfl ?_
          obtain rfl := someI hM
          exact hQ _ _ _ (fin1r Try.results23 ⟨rfl, eje8_1_2⟩ ⟨rfl, hst⟩)
        refine loopQ (fun s a w => ∃ (x76 : Int) (f : Nat → Value), x76 = s ∧ a = fr 98 f ∧ f 1 = .pointer (some ⟨b7, 0, none⟩) ∧ f 69 = h2.v ∧ f 70 = .int .i64 (x1.length : Int) ∧ f 71 = .int .i64 x76 ∧ St w0 (ros) (box b7 29 [h2.v, h4.v, h6.v] :: rs) w) go8 ⟨_, _, rfl, rfl, eje5_0_1, rfl, rfl, rfl, hst⟩ ?_
        clear hst
        rintro _ _ w r8_ ⟨x76, f, rfl, rfl, e8_1, e8_69, e8_70, e8_71, hst⟩ hM8 ho8 Q100008 n8 zz8
        refine seqQ fun Q86 k86 z86 => ?_
        refine wp_region_lit ?_
        refine Y wn rfl (ylss (et rfl e8_71) (et rfl e8_70)) ?_
        refine wpList_nil ?_
        refine k86 _ _ ?_
        refine seqQ fun Q87 k87 z87 => ?_
        rcases iteS hM8 with ⟨c104, hM8⟩ | ⟨c104, hM8⟩
        · refine condT (et rfl rfl) (decide_eq_true c104) ?_
          refine wp_skip ?_
          refine k87 _ _ ?_
          refine seqQ fun Q88 k88 z88 => ?_
          refine blockQ fun Q89 qb89 => ?_
          refine seqQ fun Q90 k90 z90 => ?_
          refine wp_region_lit ?_
          refine Y wn rfl (ym (v := .int .i64 x76) (et rfl e8_71)) ?_
          obtain ⟨x105, gx105, hM8⟩ := bs hM8
          refine Y wn rfl (yIa SL_25 (et rfl e8_69) (et rfl e8_71) hst (rdI q1) gx105) ?_
          obtain ⟨h106, hst⟩ := iLs hst q1 gx105
          refine Y wn rfl (yCt O_22 (et rfl rfl) hst (mtF mhF) rfl) ?_
          refine Y wn rfl (ya (v := .int .i64 x76) (et rfl rfl)) ?_
          refine Y wn rfl (ya (v := h106.v) (et rfl rfl)) ?_
          refine wpList_nil ?_
          refine k90 _ _ ?_
          refine seqQ fun Q91 k91 z91 => ?_
          refine wp_region_lit ?_
          refine Y wn rfl (ym (v := h106.v) (et rfl rfl)) ?_
          refine Y wn rfl (yLen SL_22 (et rfl rfl) hst (rdI mhF)) ?_
          refine Y wn rfl (ym (v := .int .i64 0) rfl) ?_
          refine wpList_nil ?_
          refine k91 _ _ ?_
          refine blockQ fun Q92 qb92 => ?_
          obtain ⟨o9, go9, hM8⟩ := bs hM8
          have je9_0 : ∀ (f : Nat → Value) (w : World), f 1 = .pointer (some ⟨b7, 0, none⟩) → f 69 = h2.v → f 70 = .int .i64 (x1.length : Int) → f 71 = .int .i64 x76 → St w0 (ros) (box b7 29 [h2.v, h4.v, h6.v] :: rs) w → .inl () = o9 → Q92 (.exit 4) (fr 98 f) w := by
            intro f w eje9_0_1 eje9_0_69 eje9_0_70 eje9_0_71 hst ho
            subst ho
            refine qb92 _ _ _ ?_
            refine qb89 _ _ _ ?_
            refine k88 _ _ ?_
            refine wp_region_lit ?_
            refine Y wn rfl (yadd (et rfl eje9_0_71) rfl) ?_
            refine Y wn rfl (ym (v := .int .i64 (wa .i64 x76 1)) (et rfl rfl)) ?_
            refine wpList_nil ?_
            obtain rfl := someI hM8
            exact n8 _ _ _ rfl ⟨_, _, rfl, rfl, eje9_0_1, eje9_0_69, eje9_0_70, rfl, hst⟩
          have je9_1 : ∀ (f : Nat → Value) (w : World), f 2 = .int .i64 1 → St w0 (ros) (rs) w → .inr () = o9 → Q92 .ret (fr 98 f) w := by
            intro f w eje9_1_2 hst ho
            subst ho
            refine qb92 _ _ _ ?_
            refine qb89 _ _ _ ?_
            refine z88 _ _ _ rfl ?_
            obtain rfl := someI hM8
            refine zz8 _ _ _ _ rfl rfl ?_
            exact je8_1 _ _ eje9_1_2 hst (ho8 _ rfl)
          refine loopQ (fun s a w => ∃ (x114 : Int) (f : Nat → Value), x114 = s ∧ a = fr 98 f ∧ f 1 = .pointer (some ⟨b7, 0, none⟩) ∧ f 7 = .int .i64 x76 ∧ f 69 = h2.v ∧ f 70 = .int .i64 (x1.length : Int) ∧ f 71 = .int .i64 x76 ∧ f 76 = h106.v ∧ f 77 = .int .i64 (x105.length : Int) ∧ f 78 = .int .i64 x114 ∧ St w0 (imm (rI .i64) h106.v x105 :: ros) (box b7 29 [h2.v, h4.v, h6.v] :: rs) w) go9 ⟨_, _, rfl, rfl, e8_1, rfl, e8_69, e8_70, e8_71, rfl, rfl, rfl, (hst.facts (allC mhF (allT (allT allI))))⟩ ?_
          clear hst
          rintro _ _ w r9_ ⟨x114, f, rfl, rfl, e9_1, e9_7, e9_69, e9_70, e9_71, e9_76, e9_77, e9_78, hst⟩ hM9 ho9 Q100009 n9 zz9
          refine seqQ fun Q107 k107 z107 => ?_
          refine wp_region_lit ?_
          refine Y wn rfl (ylss (et rfl e9_78) (et rfl e9_77)) ?_
          refine wpList_nil ?_
          refine k107 _ _ ?_
          refine seqQ fun Q108 k108 z108 => ?_
          rcases iteS hM9 with ⟨c123, hM9⟩ | ⟨c123, hM9⟩
          · refine condT (et rfl rfl) (decide_eq_true c123) ?_
            refine wp_skip ?_
            refine k108 _ _ ?_
            refine seqQ fun Q109 k109 z109 => ?_
            refine blockQ fun Q110 qb110 => ?_
            refine seqQ fun Q111 k111 z111 => ?_
            refine wp_region_lit ?_
            refine Y wn rfl (ym (v := .int .i64 x114) (et rfl e9_78)) ?_
            obtain ⟨x124, gx124, hM9⟩ := bs hM9
            refine Y wn rfl (yIa SL_22 (et rfl e9_76) (et rfl e9_78) hst (rdI mhF) gx124) ?_
            refine Y wn rfl (yI O_3 (et rfl rfl) hst (rdI mhF) gx124) ?_
            refine Y wn rfl (ya (v := .int .i64 x114) (et rfl rfl)) ?_
            refine Y wn rfl (ya (v := .int .i64 x124) (et rfl rfl)) ?_
            refine wpList_nil ?_
            refine k111 _ _ ?_
            refine seqQ fun Q112 k112 z112 => ?_
            obtain ⟨x125, gx125, hM9⟩ := bs hM9
            obtain ⟨x127, gx127, hM9⟩ := bs hM9
            obtain ⟨r128, gr128, hM9⟩ := bs hM9
            refine wp_drawR [0, 1, 0, 7, 15, 0, 63, 127, 0, 0, 0, 1792, 4095] [11] 1 folM (by kernel_rfl) (by kernel_rfl) (by kernel_rfl) ?_
            replace hst := hst.drew
            refine DRn (l1 := [0, 1, 2, 3, 4, 5, 6, 7, 8, 9, 10]) (l2 := []) (lc := [11]) (by kernel_rfl) (by kernel_rfl) (by kernel_rfl) ?_
            refine Ry rfl rfl wn (yFb FL_29_2 (et rfl e9_1)) ?_
            refine Ry rfl rfl wn (yLb (u := h6.v) O_25 (et rfl rfl) hst mhR rfl) ?_
            refine Ry rfl rfl wn (ym (v := .int .i64 x76) (et rfl e9_7)) ?_
            refine Ry rfl rfl wn (yIa SL_25 (et rfl rfl) (et rfl rfl) hst (rdI (mtF q3)) gx125) ?_
            obtain ⟨h126, hst⟩ := iLs hst (mtF q3) gx125
            refine Ry rfl rfl wn (yCt O_22 (et rfl rfl) hst (mtF mhF) rfl) ?_
            refine Ry rfl rfl wn (ym (v := .int .i64 x114) (et rfl rfl)) ?_
            refine Ry rfl rfl wn (yIa SL_22 (et rfl rfl) (et rfl rfl) hst (rdI mhF) gx127) ?_
            refine Ry rfl rfl wn (yI O_3 (et rfl rfl) hst (rdI mhF) gx127) ?_
            refine Ry rfl rfl wn (yLbs (us := [h2.v, h4.v, h6.v]) ST_29 (et rfl e9_1) hst mhR rfl rfl) ?_
            refine Ry rfl rfl wn (ym (v := .int .i64 x124) (et rfl rfl)) ?_
            refine Ry rfl rfl wn (ym (v := .int .i64 x76) (et rfl e9_7)) ?_
            refine Rn QSn ?_
            refine Lc rfl ?_ LAn
            refine Lk wn (yCall FN_43 (a3 (et rfl rfl) (et rfl rfl) (et rfl rfl))) (dissect_weight_ok (hM := gr128) (hst := hst) (q1 := (mtF (mtF (mtF q1)))) (q2 := (mtF (mtF (mtF q2)))) (q3 := (mtF (mtF (mtF q3))))) ?_
            clear hst
            rintro _ w ⟨rfl, hst⟩
            refine ⟨_, rfl, ?_⟩
            refine DRz (l1 := [12]) (l2 := [0, 1, 2, 3, 4, 5, 6, 7]) (by kernel_rfl) (by kernel_rfl) ?_
            refine Ry rfl rfl wn (yneq (et rfl rfl) (et rfl rfl)) ?_
            refine Rn (Sy rfl rfl wn (yFb FL_29_2 (et rfl e9_1)) rfl (Sy rfl rfl wn (yLb (u := h6.v) O_25 (et rfl rfl) hst mhR rfl) rfl (Sy rfl rfl wn (ym (v := .int .i64 x76) (et rfl e9_7)) rfl (Sy rfl rfl wn (yIa SL_25 (et rfl rfl) (et rfl rfl) hst (rdI (mtF (mtF (mtF q3)))) gx125) rfl (Sy rfl rfl wn (yCt O_22 (et rfl rfl) hst (mtF mhF) rfl) rfl (Sy rfl rfl wn (ym (v := .int .i64 x114) (et rfl rfl)) rfl (Sy rfl rfl wn (yIa SL_22 (et rfl rfl) (et rfl rfl) hst (rdI mhF) gx127) rfl (Sy rfl rfl wn (yI O_3 (et rfl rfl) hst (rdI mhF) gx127) rfl QSn)))))))) ?_
            refine k112 _ _ ?_
            rcases iteS hM9 with ⟨c129, hM9⟩ | ⟨c129, hM9⟩
            · refine condF (et rfl rfl) (nF (decide_eq_true c129)) ?_
              refine wp_skip ?_
              refine qb110 _ _ _ ?_
              refine k109 _ _ ?_
              refine wp_region_lit ?_
              refine Y wn rfl (yadd (et rfl e9_78) rfl) ?_
              refine Y wn rfl (ym (v := .int .i64 (wa .i64 x114 1)) (et rfl rfl)) ?_
              refine wpList_nil ?_
              obtain rfl := someI hM9
              exact n9 _ _ _ rfl ⟨_, _, rfl, rfl, e9_1, e9_7, e9_69, e9_70, e9_71, e9_76, e9_77, rfl, (hst.facts (allC (mtF (mtF mhF)) (allT (allT (allT allI)))))⟩
            · refine condT (et rfl rfl) (nT (decide_eq_false c129)) ?_
              refine seqQ fun Q113 k113 z113 => ?_
              refine wp_region_lit ?_
              refine Y wn rfl (ya (v := .int .i64 1) rfl) ?_
              refine wpList_nil ?_
              refine k113 _ _ ?_
              refine wp_ret ?_
              refine qb110 _ _ _ ?_
              refine z109 _ _ _ rfl ?_
              obtain rfl := someI hM9
              refine zz9 _ _ _ _ rfl rfl ?_
              exact je9_1 _ _ rfl ((hst.pk 1 [] rfl).facts (allT (allT (allT allI)))) (ho9 _ rfl)
          · refine condF (et rfl rfl) (decide_eq_false c123) ?_
            refine wp_exit ?_
            refine z108 _ _ _ rfl ?_
            obtain rfl := someI hM9
            refine zz9 _ _ _ _ rfl rfl ?_
            exact je9_0 _ _ e9_1 e9_69 e9_70 e9_71 (hst.facts (allT allI)) (ho9 _ rfl)
        · refine condF (et rfl rfl) (decide_eq_false c104) ?_
          refine wp_exit ?_
          refine z87 _ _ _ rfl ?_
          obtain rfl := someI hM8
          refine zz8 _ _ _ _ rfl rfl ?_
          exact je8_0 _ _ (hst.pk 1 [] rfl) (ho8 _ rfl)
      have je5_1 : ∀ (f : Nat → Value) (w : World), f 2 = .int .i64 1 → St w0 (ros) (rs) w → .inr () = o5 → Q11 .ret (fr 98 f) w := by
        intro f w eje5_1_2 hst ho
        subst ho
        refine qb11 _ _ _ ?_
        refine z9 _ _ _ rfl ?_
        obtain rfl := someI hM
        exact hQ _ _ _ (fin1r Try.results23 ⟨rfl, eje5_1_2⟩ ⟨rfl, hst⟩)
      refine loopQ (fun s a w => ∃ (x33 : Int) (f : Nat → Value), x33 = s ∧ a = fr 98 f ∧ f 1 = .pointer (some ⟨b7, 0, none⟩) ∧ f 41 = h2.v ∧ f 42 = .int .i64 (x1.length : Int) ∧ f 43 = .int .i64 x33 ∧ St w0 (ros) (box b7 29 [h2.v, h4.v, h6.v] :: rs) w) go5 ⟨_, _, rfl, rfl, e14_1, rfl, rfl, rfl, hst⟩ ?_
      clear hst
      rintro _ _ w r5_ ⟨x33, f, rfl, rfl, e5_1, e5_41, e5_42, e5_43, hst⟩ hM5 ho5 Q100005 n5 zz5
      refine seqQ fun Q114 k114 z114 => ?_
      refine wp_region_lit ?_
      refine Y wn rfl (ylss (et rfl e5_43) (et rfl e5_42)) ?_
      refine wpList_nil ?_
      refine k114 _ _ ?_
      refine seqQ fun Q115 k115 z115 => ?_
      rcases iteS hM5 with ⟨c130, hM5⟩ | ⟨c130, hM5⟩
      · refine condT (et rfl rfl) (decide_eq_true c130) ?_
        refine wp_skip ?_
        refine k115 _ _ ?_
        refine seqQ fun Q116 k116 z116 => ?_
        refine blockQ fun Q117 qb117 => ?_
        refine seqQ fun Q118 k118 z118 => ?_
        refine wp_region_lit ?_
        refine Y wn rfl (ym (v := .int .i64 x33) (et rfl e5_43)) ?_
        obtain ⟨x131, gx131, hM5⟩ := bs hM5
        refine Y wn rfl (yIa SL_25 (et rfl e5_41) (et rfl e5_43) hst (rdI q1) gx131) ?_
        obtain ⟨h132, hst⟩ := iLs hst q1 gx131
        refine Y wn rfl (yCt O_22 (et rfl rfl) hst (mtF mhF) rfl) ?_
        refine Y wn rfl (ya (v := .int .i64 x33) (et rfl rfl)) ?_
        refine Y wn rfl (ya (v := h132.v) (et rfl rfl)) ?_
        refine wpList_nil ?_
        refine k118 _ _ ?_
        refine seqQ fun Q119 k119 z119 => ?_
        refine wp_region_lit ?_
        refine Y wn rfl (yFb FL_29_2 (et rfl e5_1)) ?_
        refine Y wn rfl (yLb (u := h6.v) O_25 (et rfl rfl) hst mhR rfl) ?_
        refine Y wn rfl (ym (v := .int .i64 x33) (et rfl rfl)) ?_
        obtain ⟨x133, gx133, hM5⟩ := bs hM5
        refine Y wn rfl (yIa SL_25 (et rfl rfl) (et rfl rfl) hst (rdI (mtF (mtF q3))) gx133) ?_
        obtain ⟨h134, hst⟩ := iLs hst (mtF (mtF q3)) gx133
        refine Y wn rfl (yCt O_22 (et rfl rfl) hst (mtF mhF) rfl) ?_
        refine Y wn rfl (yLen SL_22 (et rfl rfl) hst (rdI mhF)) ?_
        refine Y wn rfl (ym (v := h132.v) (et rfl rfl)) ?_
        refine Y wn rfl (yLen SL_22 (et rfl rfl) hst (rdI (mtF (mtF mhF)))) ?_
        refine Y wn rfl (yneq (et rfl rfl) (et rfl rfl)) ?_
        refine Y wn rfl (ym (v := .bool (!(decide ((x133.length : Int) = (x131.length : Int))))) (et rfl rfl)) ?_
        obtain ⟨r138, gr138, hM5⟩ := bs hM5
        refine joinW 8 (fun f w => f 1 = .pointer (some ⟨b7, 0, none⟩) ∧ f 41 = h2.v ∧ f 42 = .int .i64 (x1.length : Int) ∧ f 43 = .int .i64 x33 ∧ f 65 = .bool r138 ∧ St w0 (ros) (box b7 29 [h2.v, h4.v, h6.v] :: rs) w) (fun j10 => ?_) ?_
        · rcases iteS gr138 with ⟨c140, gr138⟩ | ⟨c140, gr138⟩
          · refine Y (wg rfl rfl rfl (nF (decide_eq_true c140))) rfl (yFb FL_29_2 (et rfl e5_1)) ?_
            refine Y (wg rfl rfl rfl (nF (decide_eq_true c140))) rfl (yLb (u := h6.v) O_25 (et rfl rfl) hst mhR rfl) ?_
            refine Y (wg rfl rfl rfl (nF (decide_eq_true c140))) rfl (ym (v := .int .i64 x33) (et rfl rfl)) ?_
            obtain ⟨x141, gx141, gr138⟩ := bs gr138
            refine Y (wg rfl rfl rfl (nF (decide_eq_true c140))) rfl (yIa SL_25 (et rfl rfl) (et rfl rfl) hst (rdI (mtF (mtF (mtF (mtF q3))))) gx141) ?_
            obtain ⟨h142, hst⟩ := iLs hst (mtF (mtF (mtF (mtF q3)))) gx141
            refine Y (wg rfl rfl rfl (nF (decide_eq_true c140))) rfl (yCt O_22 (et rfl rfl) hst (mtF mhF) rfl) ?_
            obtain ⟨r143, gr143, gr138⟩ := bs gr138
            refine Yc (wg rfl rfl rfl (nF (decide_eq_true c140))) rfl (yCall FN_42 (a1 (et rfl rfl))) (dissect_weights_ok (hM := gr143) (hst := hst) (q1 := mhF)) ?_
            clear hst
            rintro _ w ⟨rfl, hst⟩
            refine ⟨_, rfl, ?_⟩
            refine Y (wg rfl rfl rfl (nF (decide_eq_true c140))) rfl (ynot (et rfl rfl)) ?_
            refine Y wn rfl (ypf (v := .bool (!(r143))) (et rfl rfl) (nF (decide_eq_true c140)) (et rfl rfl)) ?_
            obtain rfl := someI gr138
            exact j10 _ _ ⟨e5_1, e5_41, e5_42, e5_43, rfl, (hst.facts (allT (allT (allT (allT (allT (allT allI)))))))⟩
          · refine Gn (wx rfl rfl rfl (nT (decide_eq_false c140))) rfl ?_
            refine Gn (wx rfl rfl rfl (nT (decide_eq_false c140))) rfl ?_
            refine Gn (wx rfl rfl rfl (nT (decide_eq_false c140))) rfl ?_
            refine Gn (wx rfl rfl rfl (nT (decide_eq_false c140))) rfl ?_
            refine Gn (wx rfl rfl rfl (nT (decide_eq_false c140))) rfl ?_
            refine Gn (wx rfl rfl rfl (nT (decide_eq_false c140))) rfl ?_
            refine Gn (wx rfl rfl rfl (nT (decide_eq_false c140))) rfl ?_
            refine Y wn rfl (ypt (v := .bool true) (et rfl rfl) (nT (decide_eq_false c140)) rfl) ?_
            obtain rfl := someI gr138
            exact j10 _ _ ⟨e5_1, e5_41, e5_42, e5_43, rfl, (hst.facts (allT (allT (allT (allT allI)))))⟩
        clear hst
        rintro f w ⟨e139_1, e139_41, e139_42, e139_43, e139_65, hst⟩
        refine wpList_nil ?_
        refine k119 _ _ ?_
        rcases iteS hM5 with ⟨c144, hM5⟩ | ⟨c144, hM5⟩
        · refine condT (et rfl e139_65) c144 ?_
          refine seqQ fun Q120 k120 z120 => ?_
          refine wp_region_lit ?_
          refine Y wn rfl (ya (v := .int .i64 1) rfl) ?_
          refine wpList_nil ?_
          refine k120 _ _ ?_
          refine wp_ret ?_
          refine qb117 _ _ _ ?_
          refine z116 _ _ _ rfl ?_
          obtain rfl := someI hM5
          refine zz5 _ _ _ _ rfl rfl ?_
          exact je5_1 _ _ rfl (hst.pk 1 [] rfl) (ho5 _ rfl)
        · refine condF (et rfl e139_65) (bfalse c144) ?_
          refine wp_skip ?_
          refine qb117 _ _ _ ?_
          refine k116 _ _ ?_
          refine wp_region_lit ?_
          refine Y wn rfl (yadd (et rfl e139_43) rfl) ?_
          refine Y wn rfl (ym (v := .int .i64 (wa .i64 x33 1)) (et rfl rfl)) ?_
          refine wpList_nil ?_
          obtain rfl := someI hM5
          exact n5 _ _ _ rfl ⟨_, _, rfl, rfl, e139_1, e139_41, e139_42, rfl, hst⟩
      · refine condF (et rfl rfl) (decide_eq_false c130) ?_
        refine wp_exit ?_
        refine z115 _ _ _ rfl ?_
        obtain rfl := someI hM5
        refine zz5 _ _ _ _ rfl rfl ?_
        exact je5_0 _ _ e5_1 hst (ho5 _ rfl)
  · refine condT (et rfl rfl) (nT (decide_eq_false c9)) ?_
    refine seqQ fun Q121 k121 z121 => ?_
    refine wp_region_lit ?_
    refine Y wn rfl (ym (v := .int .i64 r8) (et rfl rfl)) ?_
    refine Y wn rfl (ya (v := .int .i64 r8) (et rfl rfl)) ?_
    refine wpList_nil ?_
    refine k121 _ _ ?_
    refine wp_ret ?_
    refine z3 _ _ _ rfl ?_
    obtain rfl := someI hM
    exact hQ _ _ _ (fin1r Try.results23 ⟨rfl, rfl⟩ ⟨rfl, (hst.pk 1 [] rfl)⟩)

theorem dissect_Match_ok {w0 : World} {ros : List Fact} {rs : List Res} {w : World} {x1 : List (List Int)} {x3 : List Int} {x5 : List (List Int)} {h2 : Hdr} {h4 : Hdr} {h6 : Hdr} {out : (List Int) × Int} (hM : dissect_Match x1 x3 x5 = some out) (q1 : imm (rS (rI .i64)) h2.v x1 ∈ ros) (q2 : imm (rI .i64) h4.v x3 ∈ ros) (q3 : imm (rS (rI .i64)) h6.v x5 ∈ ros) (hst : St w0 ros (rs) w) :
    Calls Try.prog 10 #[.agg #[h2.v, h4.v, h6.v]] w (fun e w => ∃ (h100001 : Hdr), e = .returned (.tuple #[h100001.v, .int .i64 out.2]) ∧ St w0 (ros) (row 3 (rI .i64) h100001.v out.1 :: rs) w) := by
  refine enterQ Try.func10 rfl Try.ntmps10 rfl fun Q hQ => ?_
  refine seqQ fun Q1 k1 z1 => ?_
  refine wp_region_lit ?_
  refine YB wn rfl (r_box (vals := [h2.v, h4.v, h6.v]) hst (et rfl rfl) rfl) ?_
  clear hst
  intro b7 w hst
  refine Y wn rfl (ya (v := hnil.v) rfl) ?_
  refine Y wn rfl (ya (v := .int .i64 0) rfl) ?_
  refine wpList_nil ?_
  refine k1 _ _ ?_
  refine seqQ fun Q2 k2 z2 => ?_
  refine wp_region_lit ?_
  refine Y wn rfl (yLbs (us := [h2.v, h4.v, h6.v]) ST_29 (et rfl rfl) hst mhR rfl rfl) ?_
  obtain ⟨r8, gr8, hM⟩ := bs hM
  refine Yc wn rfl (yCall FN_23 (a1 (et rfl rfl))) (dissect_CheckWeighted_ok (hM := gr8) (hst := hst) (q1 := q1) (q2 := q2) (q3 := q3)) ?_
  clear hst
  rintro _ w ⟨rfl, hst⟩
  refine ⟨_, rfl, ?_⟩
  refine Y wn rfl (ya (v := .int .i64 r8) (et rfl rfl)) ?_
  refine wpList_nil ?_
  refine k2 _ _ ?_
  refine seqQ fun Q3 k3 z3 => ?_
  refine seqQ fun Q4 k4 z4 => ?_
  refine wp_region_lit ?_
  refine Y wn rfl (ym (v := .int .i64 r8) (et rfl rfl)) ?_
  refine Y wn rfl (yneq (et rfl rfl) rfl) ?_
  refine wpList_nil ?_
  refine k4 _ _ ?_
  rcases iteS hM with ⟨c9, hM⟩ | ⟨c9, hM⟩
  · refine condF (et rfl rfl) (nF (decide_eq_true c9)) ?_
    refine wp_skip ?_
    refine k3 _ _ ?_
    refine seqQ fun Q5 k5 z5 => ?_
    refine wp_region_lit ?_
    refine Y wn rfl (yLbs (us := [h2.v, h4.v, h6.v]) ST_29 (et rfl rfl) hst mhR rfl rfl) ?_
    obtain ⟨r10, gr10, hM⟩ := bs hM
    refine Yc wn rfl (yCall FN_28 (a1 (et rfl rfl))) (dissect_match_ok (hM := gr10) (hst := hst) (q1 := q1) (q2 := q2) (q3 := q3)) ?_
    clear hst
    rintro _ w ⟨h11, rfl, hst⟩
    refine ⟨_, rfl, ?_⟩
    refine Y wn rfl (ya (v := h11.v) (et rfl rfl)) ?_
    refine Y wn rfl (ya (v := .int .i64 0) rfl) ?_
    refine wpList_nil ?_
    refine k5 _ _ ?_
    refine wp_ret ?_
    obtain rfl := someI hM
    exact hQ _ _ _ (fin2r Try.results10 ⟨rfl, rfl⟩ ⟨rfl, rfl⟩ ⟨_, rfl, (hst.pk 2 [0] rfl)⟩)
  · refine condT (et rfl rfl) (nT (decide_eq_false c9)) ?_
    refine seqQ fun Q6 k6 z6 => ?_
    refine wp_region_lit ?_
    refine Y wn rfl (ym (v := .int .i64 r8) (et rfl rfl)) ?_
    refine Y wn rfl (ya (v := hnil.v) rfl) ?_
    refine Y wn rfl (ya (v := .int .i64 r8) (et rfl rfl)) ?_
    refine wpList_nil ?_
    refine k6 _ _ ?_
    refine wp_ret ?_
    refine z3 _ _ _ rfl ?_
    obtain rfl := someI hM
    replace hst := hst.rowNh 3 (rI .i64)
    exact hQ _ _ _ (fin2r Try.results10 ⟨rfl, rfl⟩ ⟨rfl, rfl⟩ ⟨_, rfl, (hst.pk 2 [0] rfl)⟩)

theorem sparsekit_In_ok {w0 : World} {ros : List Fact} {rs : List Res} {w : World} {x1 : List Int} {x3 : Int} {h2 : Hdr} {out : Bool} (hM : sparsekit_In x1 x3 = some out) (q1 : imm (rI .i64) h2.v x1 ∈ ros) (hst : St w0 ros (rs) w) :
    Calls Try.prog 11 #[h2.v, .int .i64 x3] w (fun e w => e = .returned (.bool out) ∧ St w0 (ros) (rs) w) := by
  refine enterQ Try.func11 rfl Try.ntmps11 rfl fun Q hQ => ?_
  refine seqQ fun Q1 k1 z1 => ?_
  refine wp_region_lit ?_
  refine Y wn rfl (ya (v := .bool false) rfl) ?_
  refine wpList_nil ?_
  refine k1 _ _ ?_
  refine seqQ fun Q2 k2 z2 => ?_
  refine seqQ fun Q3 k3 z3 => ?_
  refine wp_region_lit ?_
  refine Y wn rfl (ya (v := .int .i64 0) rfl) ?_
  refine wpList_nil ?_
  refine k3 _ _ ?_
  refine blockQ fun Q4 qb4 => ?_
  obtain ⟨o1, go1, hM⟩ := bs hM
  have je1_0 : ∀ (f : Nat → Value) (w : World), St w0 (ros) (rs) w → .inl () = o1 → Q4 (.exit 0) (fr 18 f) w := by
    intro f w hst ho
    subst ho
    refine qb4 _ _ _ ?_
    refine k2 _ _ ?_
    refine seqQ fun Q17 k17 z17 => ?_
    refine wp_region_lit ?_
    refine Y wn rfl (ya (v := .bool false) rfl) ?_
    refine wpList_nil ?_
    refine k17 _ _ ?_
    refine wp_ret ?_
    obtain rfl := someI hM
    exact hQ _ _ _ (fin1r Try.results11 ⟨rfl, rfl⟩ ⟨rfl, hst⟩)
  have je1_1 : ∀ (f : Nat → Value) (w : World), f 4 = .bool true → St w0 (ros) (rs) w → .inr () = o1 → Q4 .ret (fr 18 f) w := by
    intro f w eje1_1_4 hst ho
    subst ho
    refine qb4 _ _ _ ?_
    refine z2 _ _ _ rfl ?_
    obtain rfl := someI hM
    exact hQ _ _ _ (fin1r Try.results11 ⟨rfl, eje1_1_4⟩ ⟨rfl, hst⟩)
  refine loopQ (fun s a w => ∃ (x7 : Int) (f : Nat → Value), x7 = s ∧ a = fr 18 f ∧ f 0 = h2.v ∧ f 1 = .int .i64 x3 ∧ f 5 = .int .i64 x7 ∧ St w0 (ros) (rs) w) go1 ⟨_, _, rfl, rfl, rfl, rfl, rfl, hst⟩ ?_
  clear hst
  rintro _ _ w r1_ ⟨x7, f, rfl, rfl, e1_0, e1_1, e1_5, hst⟩ hM1 ho1 Q100001 n1 zz1
  refine seqQ fun Q18 k18 z18 => ?_
  refine seqQ fun Q19 k19 z19 => ?_
  refine wp_region_lit ?_
  refine Y wn rfl (ym (v := .int .i64 x7) (et rfl e1_5)) ?_
  refine Y wn rfl (ym (v := h2.v) (et rfl e1_0)) ?_
  refine Y wn rfl (yLen SL_22 (et rfl rfl) hst (rdI q1)) ?_
  refine Y wn rfl (ylss (et rfl rfl) (et rfl rfl)) ?_
  refine wpList_nil ?_
  refine k19 _ _ ?_
  rcases iteS hM1 with ⟨c12, hM1⟩ | ⟨c12, hM1⟩
  · refine condT (et rfl rfl) (decide_eq_true c12) ?_
    refine wp_skip ?_
    refine k18 _ _ ?_
    refine seqQ fun Q20 k20 z20 => ?_
    refine blockQ fun Q21 qb21 => ?_
    refine seqQ fun Q22 k22 z22 => ?_
    refine wp_region_lit ?_
    refine Y wn rfl (ym (v := h2.v) (et rfl e1_0)) ?_
    refine Y wn rfl (ym (v := .int .i64 x7) (et rfl e1_5)) ?_
    obtain ⟨x13, gx13, hM1⟩ := bs hM1
    refine Y wn rfl (yIa SL_22 (et rfl rfl) (et rfl rfl) hst (rdI q1) gx13) ?_
    refine Y wn rfl (yI O_3 (et rfl rfl) hst (rdI q1) gx13) ?_
    refine Y wn rfl (ym (v := .int .i64 x3) (et rfl e1_1)) ?_
    refine Y wn rfl (yeql (et rfl rfl) (et rfl rfl)) ?_
    refine wpList_nil ?_
    refine k22 _ _ ?_
    rcases iteS hM1 with ⟨c14, hM1⟩ | ⟨c14, hM1⟩
    · refine condT (et rfl rfl) (decide_eq_true c14) ?_
      refine seqQ fun Q23 k23 z23 => ?_
      refine wp_region_lit ?_
      refine Y wn rfl (ya (v := .bool true) rfl) ?_
      refine wpList_nil ?_
      refine k23 _ _ ?_
      refine wp_ret ?_
      refine qb21 _ _ _ ?_
      refine z20 _ _ _ rfl ?_
      obtain rfl := someI hM1
      refine zz1 _ _ _ _ rfl rfl ?_
      exact je1_1 _ _ rfl hst (ho1 _ rfl)
    · refine condF (et rfl rfl) (decide_eq_false c14) ?_
      refine wp_skip ?_
      refine qb21 _ _ _ ?_
      refine k20 _ _ ?_
      refine wp_region_lit ?_
      refine Y wn rfl (ym (v := .int .i64 x7) (et rfl e1_5)) ?_
      refine Y wn rfl (yadd (et rfl rfl) rfl) ?_
      refine Y wn rfl (ya (v := .int .i64 (wa .i64 x7 1)) (et rfl rfl)) ?_
      refine wpList_nil ?_
      obtain rfl := someI hM1
      exact n1 _ _ _ rfl ⟨_, _, rfl, rfl, e1_0, e1_1, rfl, hst⟩
  · refine condF (et rfl rfl) (decide_eq_false c12) ?_
    refine wp_exit ?_
    refine z18 _ _ _ rfl ?_
    obtain rfl := someI hM1
    refine zz1 _ _ _ _ rfl rfl ?_
    exact je1_0 _ _ hst (ho1 _ rfl)

theorem sparselaw18_DissectMatch_ok {w0 : World} {ros : List Fact} {rs : List Res} {w : World} {x1 : Int} {x2 : List Int} {x4 : List Int} {h3 : Hdr} {h5 : Hdr} {out : Bool} (hM : sparselaw18_DissectMatch x1 x2 x4 = some out) (q1 : imm (rI .i64) h3.v x2 ∈ ros) (q2 : imm (rI .i64) h5.v x4 ∈ ros) (hst : St w0 ros (rs) w) :
    Calls Try.prog 3 #[.int .i64 x1, h3.v, h5.v] w (fun e w => e = .returned (.bool out) ∧ St w0 (ros) (rs) w) := by
  refine enterQ Try.func3 rfl Try.ntmps3 rfl fun Q hQ => ?_
  refine seqQ fun Q1 k1 z1 => ?_
  refine wp_region_lit ?_
  refine Y wn rfl (ya (v := .bool false) rfl) ?_
  refine wpList_nil ?_
  refine k1 _ _ ?_
  refine seqQ fun Q2 k2 z2 => ?_
  refine seqQ fun Q3 k3 z3 => ?_
  refine wp_region_lit ?_
  refine Y wn rfl (ym (v := h3.v) (et rfl rfl)) ?_
  refine Y wn rfl (yLen SL_22 (et rfl rfl) hst (rdI q1)) ?_
  refine Y wn rfl (ygtr (et rfl rfl) rfl) ?_
  refine Y wn rfl (ym (v := .bool (decide ((90 : Int) < (x2.length : Int)))) (et rfl rfl)) ?_
  refine joinW 4 (fun f w => f 0 = .int .i64 x1 ∧ f 1 = h3.v ∧ f 2 = h5.v ∧ f 21 = .bool ((decide ((90 : Int) < (x2.length : Int))) || (decide ((60 : Int) < (x4.length : Int)))) ∧ St w0 (ros) (rs) w) (fun j1 => ?_) ?_
  · rcases Bool.eq_false_or_eq_true (decide ((90 : Int) < (x2.length : Int))) with c7 | c7
    · refine Gn (wx rfl rfl rfl c7) rfl ?_
      refine Gn (wx rfl rfl rfl c7) rfl ?_
      refine Gn (wx rfl rfl rfl c7) rfl ?_
      refine Y wn rfl (ypt (v := .bool true) (et rfl rfl) c7 rfl) ?_
      exact j1 _ _ ⟨rfl, rfl, rfl, (congrArg Value.bool (orT c7)), hst⟩
    · refine Y (wg rfl rfl rfl c7) rfl (ym (v := h5.v) (et rfl rfl)) ?_
      refine Y (wg rfl rfl rfl c7) rfl (yLen SL_22 (et rfl rfl) hst (rdI q2)) ?_
      refine Y (wg rfl rfl rfl c7) rfl (ygtr (et rfl rfl) rfl) ?_
      refine Y wn rfl (ypf (v := .bool (decide ((60 : Int) < (x4.length : Int)))) (et rfl rfl) c7 (et rfl rfl)) ?_
      exact j1 _ _ ⟨rfl, rfl, rfl, (congrArg Value.bool (orF c7)), hst⟩
  clear hst
  rintro f w ⟨e6_0, e6_1, e6_2, e6_21, hst⟩
  refine wpList_nil ?_
  refine k3 _ _ ?_
  rcases iteS hM with ⟨c8, hM⟩ | ⟨c8, hM⟩
  · refine condT (et rfl e6_21) c8 ?_
    refine seqQ fun Q4 k4 z4 => ?_
    refine wp_region_lit ?_
    obtain ⟨r9, gr9, hM⟩ := bs hM
    refine Yc wn rfl (yCall FN_7 a0) (sparselaw18_awake_ok (hM := gr9) (hst := hst) ) ?_
    clear hst
    rintro _ w ⟨rfl, hst⟩
    refine ⟨_, rfl, ?_⟩
    refine Y wn rfl (ya (v := .bool r9) (et rfl rfl)) ?_
    refine wpList_nil ?_
    refine k4 _ _ ?_
    refine wp_ret ?_
    refine z2 _ _ _ rfl ?_
    obtain rfl := someI hM
    exact hQ _ _ _ (fin1r Try.results3 ⟨rfl, rfl⟩ ⟨rfl, hst⟩)
  · refine condF (et rfl e6_21) (bfalse c8) ?_
    refine wp_skip ?_
    refine k2 _ _ ?_
    refine seqQ fun Q5 k5 z5 => ?_
    refine wp_region_lit ?_
    refine Y wn rfl (ym (v := .int .i64 x1) (et rfl e6_0)) ?_
    obtain ⟨r10, gr10, hM⟩ := bs hM
    refine Yc wn rfl (yCall FN_8 (a2 (et rfl rfl) rfl)) (sparsekit_Place_ok (hM := gr10) (hst := hst) ) ?_
    clear hst
    rintro _ w ⟨rfl, hst⟩
    refine ⟨_, rfl, ?_⟩
    refine Y wn rfl (ya (v := .int .i64 r10) (et rfl rfl)) ?_
    refine wpList_nil ?_
    refine k5 _ _ ?_
    refine seqQ fun Q6 k6 z6 => ?_
    refine wp_region_lit ?_
    refine Y wn rfl (ym (v := .int .i64 r10) (et rfl rfl)) ?_
    refine Y wn rfl (ym (v := h3.v) (et rfl e6_1)) ?_
    refine Y wn rfl (ym (v := h5.v) (et rfl e6_2)) ?_
    obtain ⟨r11, gr11, hM⟩ := bs hM
    refine Yc wn rfl (yCall FN_9 (a3 (et rfl rfl) (et rfl rfl) (et rfl rfl))) (sparsemake_Weighted_ok (hM := gr11) (hst := hst) (q1 := q1) (q2 := q2)) ?_
    clear hst
    rintro _ w ⟨h12, h13, h14, rfl, hst⟩
    refine ⟨_, rfl, ?_⟩
    refine YB wn rfl (rAl hst ZT_29) ?_
    clear hst
    intro b15 w hst
    refine YT wn rfl (r_stbn (vals' := [h12.v, h13.v, h14.v]) (us := [h12.v, h13.v, h14.v]) hst ST_29 (et rfl rfl) (et rfl rfl) rfl rfl (one_of rfl) rfl) ?_
    clear hst
    intro w hst
    refine wpList_nil ?_
    refine k6 _ _ ?_
    refine seqQ fun Q7 k7 z7 => ?_
    refine wp_region_lit ?_
    refine Y wn rfl (yLbs (us := [h12.v, h13.v, h14.v]) ST_29 (et rfl rfl) hst mhR rfl rfl) ?_
    obtain ⟨r16, gr16, hM⟩ := bs hM
    replace hst := hst.pk 2 [1, 0] rfl
    replace hst := hst.fz
    replace hst := hst.pk 2 [1, 0] rfl
    replace hst := hst.fz
    replace hst := hst.pk 2 [1, 0] rfl
    replace hst := hst.fz
    refine Yc wn rfl (yCall FN_10 (a1 (et rfl rfl))) (dissect_Match_ok (hM := gr16) (hst := hst) (q1 := (mtF (mtF mhF))) (q2 := (mtF mhF)) (q3 := mhF)) ?_
    clear hst
    rintro _ w ⟨h17, rfl, hst⟩
    refine ⟨_, rfl, ?_⟩
    refine Y wn rfl (ym (v := .tuple #[h17.v, .int .i64 r16.2]) (et rfl rfl)) ?_
    refine Y wn rfl (yx (v := h17.v) (et rfl rfl) rfl) ?_
    refine Y wn rfl (yx (v := .int .i64 r16.2) (et rfl rfl) rfl) ?_
    refine Y wn rfl (ya (v := h17.v) (et rfl rfl)) ?_
    refine Y wn rfl (ya (v := .int .i64 r16.2) (et rfl rfl)) ?_
    refine wpList_nil ?_
    refine k7 _ _ ?_
    refine seqQ fun Q8 k8 z8 => ?_
    refine seqQ fun Q9 k9 z9 => ?_
    refine wp_region_lit ?_
    refine Y wn rfl (ym (v := .int .i64 r16.2) (et rfl rfl)) ?_
    refine Y wn rfl (yneq (et rfl rfl) rfl) ?_
    refine Y wn rfl (ym (v := .bool (!(decide (r16.2 = 0)))) (et rfl rfl)) ?_
    refine joinW 5 (fun f w => f 0 = .int .i64 r10 ∧ f 7 = .pointer (some ⟨b15, 0, none⟩) ∧ f 8 = h17.v ∧ f 41 = .bool ((!(decide (r16.2 = 0))) || (!(decide ((r16.1.length : Int) = r10)))) ∧ St w0 (imm (rS (rI .i64)) h12.v r11.1 :: imm (rI .i64) h13.v r11.2.1 :: imm (rS (rI .i64)) h14.v r11.2.2 :: ros) (box b15 29 [h12.v, h13.v, h14.v] :: row 3 (rI .i64) h17.v r16.1 :: rs) w) (fun j2 => ?_) ?_
    · rcases Bool.eq_false_or_eq_true (!(decide (r16.2 = 0))) with c19 | c19
      · refine Gn (wx rfl rfl rfl c19) rfl ?_
        refine Gn (wx rfl rfl rfl c19) rfl ?_
        refine Gn (wx rfl rfl rfl c19) rfl ?_
        refine Gn (wx rfl rfl rfl c19) rfl ?_
        refine Y wn rfl (ypt (v := .bool true) (et rfl rfl) c19 rfl) ?_
        exact j2 _ _ ⟨rfl, rfl, rfl, (congrArg Value.bool (orT c19)), ((hst.pk 2 [1, 0] rfl).facts (allC (mtF (mtF mhF)) (allC (mtF mhF) (allC mhF (allT (allT (allT allI)))))))⟩
      · refine Y (wg rfl rfl rfl c19) rfl (ym (v := h17.v) (et rfl rfl)) ?_
        refine Y (wg rfl rfl rfl c19) rfl (yLen SL_22 (et rfl rfl) hst (rdO mhR)) ?_
        refine Y (wg rfl rfl rfl c19) rfl (ym (v := .int .i64 r10) (et rfl rfl)) ?_
        refine Y (wg rfl rfl rfl c19) rfl (yneq (et rfl rfl) (et rfl rfl)) ?_
        refine Y wn rfl (ypf (v := .bool (!(decide ((r16.1.length : Int) = r10)))) (et rfl rfl) c19 (et rfl rfl)) ?_
        exact j2 _ _ ⟨rfl, rfl, rfl, (congrArg Value.bool (orF c19)), ((hst.pk 2 [1, 0] rfl).facts (allC (mtF (mtF mhF)) (allC (mtF mhF) (allC mhF (allT (allT (allT allI)))))))⟩
    clear hst
    rintro f w ⟨e18_0, e18_7, e18_8, e18_41, hst⟩
    refine wpList_nil ?_
    refine k9 _ _ ?_
    rcases iteS hM with ⟨c20, hM⟩ | ⟨c20, hM⟩
    · refine condT (et rfl e18_41) c20 ?_
      refine seqQ fun Q10 k10 z10 => ?_
      refine wp_region_lit ?_
      refine Y wn rfl (ya (v := .bool false) rfl) ?_
      refine wpList_nil ?_
      refine k10 _ _ ?_
      refine wp_ret ?_
      refine z8 _ _ _ rfl ?_
      obtain rfl := someI hM
      exact hQ _ _ _ (fin1r Try.results3 ⟨rfl, rfl⟩ ⟨rfl, ((hst.pk 2 [] rfl).facts (allT (allT (allT allI))))⟩)
    · refine condF (et rfl e18_41) (bfalse c20) ?_
      refine wp_skip ?_
      refine k8 _ _ ?_
      refine seqQ fun Q11 k11 z11 => ?_
      refine seqQ fun Q12 k12 z12 => ?_
      refine wp_region_lit ?_
      refine Y wn rfl (ya (v := .int .i64 0) rfl) ?_
      refine wpList_nil ?_
      refine k12 _ _ ?_
      refine blockQ fun Q13 qb13 => ?_
      obtain ⟨o27, go27, hM⟩ := bs hM
      have je27_0 : ∀ (f : Nat → Value) (w : World), f 0 = .int .i64 r10 → f 7 = .pointer (some ⟨b15, 0, none⟩) → f 8 = h17.v → St w0 (imm (rS (rI .i64)) h12.v r11.1 :: imm (rI .i64) h13.v r11.2.1 :: imm (rS (rI .i64)) h14.v r11.2.2 :: ros) (box b15 29 [h12.v, h13.v, h14.v] :: row 3 (rI .i64) h17.v r16.1 :: rs) w → .inl () = o27 → Q13 (.exit 0) (fr 133 f) w := by
        intro f w eje27_0_0 eje27_0_7 eje27_0_8 hst ho
        subst ho
        refine qb13 _ _ _ ?_
        refine k11 _ _ ?_
        refine seqQ fun Q26 k26 z26 => ?_
        refine seqQ fun Q27 k27 z27 => ?_
        refine wp_region_lit ?_
        refine Y wn rfl (ya (v := .int .i64 0) rfl) ?_
        refine wpList_nil ?_
        refine k27 _ _ ?_
        refine blockQ fun Q28 qb28 => ?_
        obtain ⟨o36, go36, hM⟩ := bs hM
        have je36_0 : ∀ (f : Nat → Value) (w : World), St w0 (ros) (rs) w → .inl () = o36 → Q28 (.exit 2) (fr 133 f) w := by
          intro f w hst ho
          subst ho
          refine qb28 _ _ _ ?_
          refine k26 _ _ ?_
          refine seqQ fun Q83 k83 z83 => ?_
          refine wp_region_lit ?_
          obtain ⟨r155, gr155, hM⟩ := bs hM
          refine Yc wn rfl (yCall FN_7 a0) (sparselaw18_awake_ok (hM := gr155) (hst := hst) ) ?_
          clear hst
          rintro _ w ⟨rfl, hst⟩
          refine ⟨_, rfl, ?_⟩
          refine Y wn rfl (ya (v := .bool r155) (et rfl rfl)) ?_
          refine wpList_nil ?_
          refine k83 _ _ ?_
          refine wp_ret ?_
          obtain rfl := someI hM
          exact hQ _ _ _ (fin1r Try.results3 ⟨rfl, rfl⟩ ⟨rfl, hst⟩)
        have je36_1 : ∀ (f : Nat → Value) (w : World), f 6 = .bool false → St w0 (ros) (rs) w → .inr () = o36 → Q28 .ret (fr 133 f) w := by
          intro f w eje36_1_6 hst ho
          subst ho
          refine qb28 _ _ _ ?_
          refine z26 _ _ _ rfl ?_
          obtain rfl := someI hM
          exact hQ _ _ _ (fin1r Try.results3 ⟨rfl, eje36_1_6⟩ ⟨rfl, hst⟩)
        refine loopQ (fun s a w => ∃ (x111 : Int) (f : Nat → Value), x111 = s ∧ a = fr 133 f ∧ f 0 = .int .i64 r10 ∧ f 7 = .pointer (some ⟨b15, 0, none⟩) ∧ f 8 = h17.v ∧ f 11 = .int .i64 x111 ∧ St w0 (imm (rS (rI .i64)) h12.v r11.1 :: imm (rI .i64) h13.v r11.2.1 :: imm (rS (rI .i64)) h14.v r11.2.2 :: ros) (box b15 29 [h12.v, h13.v, h14.v] :: row 3 (rI .i64) h17.v r16.1 :: rs) w) go36 ⟨_, _, rfl, rfl, eje27_0_0, eje27_0_7, eje27_0_8, rfl, hst⟩ ?_
        clear hst
        rintro _ _ w r36_ ⟨x111, f, rfl, rfl, e36_0, e36_7, e36_8, e36_11, hst⟩ hM36 ho36 Q100036 n36 zz36
        refine seqQ fun Q84 k84 z84 => ?_
        refine seqQ fun Q85 k85 z85 => ?_
        refine wp_region_lit ?_
        refine Y wn rfl (ym (v := .int .i64 x111) (et rfl e36_11)) ?_
        refine Y wn rfl (ym (v := .int .i64 r10) (et rfl e36_0)) ?_
        refine Y wn rfl (ylss (et rfl rfl) (et rfl rfl)) ?_
        refine wpList_nil ?_
        refine k85 _ _ ?_
        rcases iteS hM36 with ⟨c156, hM36⟩ | ⟨c156, hM36⟩
        · refine condT (et rfl rfl) (decide_eq_true c156) ?_
          refine wp_skip ?_
          refine k84 _ _ ?_
          refine seqQ fun Q86 k86 z86 => ?_
          refine blockQ fun Q87 qb87 => ?_
          refine seqQ fun Q88 k88 z88 => ?_
          refine wp_region_lit ?_
          refine Y wn rfl (ya (v := .int .i64 0) rfl) ?_
          refine wpList_nil ?_
          refine k88 _ _ ?_
          refine blockQ fun Q89 qb89 => ?_
          obtain ⟨o39, go39, hM36⟩ := bs hM36
          have je39_0 : ∀ (f : Nat → Value) (w : World), f 0 = .int .i64 r10 → f 7 = .pointer (some ⟨b15, 0, none⟩) → f 8 = h17.v → f 11 = .int .i64 x111 → St w0 (imm (rS (rI .i64)) h12.v r11.1 :: imm (rI .i64) h13.v r11.2.1 :: imm (rS (rI .i64)) h14.v r11.2.2 :: ros) (box b15 29 [h12.v, h13.v, h14.v] :: row 3 (rI .i64) h17.v r16.1 :: rs) w → .inl () = o39 → Q89 (.exit 4) (fr 133 f) w := by
            intro f w eje39_0_0 eje39_0_7 eje39_0_8 eje39_0_11 hst ho
            subst ho
            refine qb89 _ _ _ ?_
            refine qb87 _ _ _ ?_
            refine k86 _ _ ?_
            refine wp_region_lit ?_
            refine Y wn rfl (ym (v := .int .i64 x111) (et rfl eje39_0_11)) ?_
            refine Y wn rfl (yadd (et rfl rfl) rfl) ?_
            refine Y wn rfl (ya (v := .int .i64 (wa .i64 x111 1)) (et rfl rfl)) ?_
            refine wpList_nil ?_
            obtain rfl := someI hM36
            exact n36 _ _ _ rfl ⟨_, _, rfl, rfl, eje39_0_0, eje39_0_7, eje39_0_8, rfl, hst⟩
          have je39_1 : ∀ (f : Nat → Value) (w : World), f 6 = .bool false → St w0 (ros) (rs) w → .inr () = o39 → Q89 .ret (fr 133 f) w := by
            intro f w eje39_1_6 hst ho
            subst ho
            refine qb89 _ _ _ ?_
            refine qb87 _ _ _ ?_
            refine z86 _ _ _ rfl ?_
            obtain rfl := someI hM36
            refine zz36 _ _ _ _ rfl rfl ?_
            exact je36_1 _ _ eje39_1_6 hst (ho36 _ rfl)
          refine loopQ (fun s a w => ∃ (x170 : Int) (f : Nat → Value), x170 = s ∧ a = fr 133 f ∧ f 0 = .int .i64 r10 ∧ f 7 = .pointer (some ⟨b15, 0, none⟩) ∧ f 8 = h17.v ∧ f 11 = .int .i64 x111 ∧ f 12 = .int .i64 x170 ∧ St w0 (imm (rS (rI .i64)) h12.v r11.1 :: imm (rI .i64) h13.v r11.2.1 :: imm (rS (rI .i64)) h14.v r11.2.2 :: ros) (box b15 29 [h12.v, h13.v, h14.v] :: row 3 (rI .i64) h17.v r16.1 :: rs) w) go39 ⟨_, _, rfl, rfl, e36_0, e36_7, e36_8, e36_11, rfl, hst⟩ ?_
          clear hst
          rintro _ _ w r39_ ⟨x170, f, rfl, rfl, e39_0, e39_7, e39_8, e39_11, e39_12, hst⟩ hM39 ho39 Q100039 n39 zz39
          refine seqQ fun Q104 k104 z104 => ?_
          refine seqQ fun Q105 k105 z105 => ?_
          refine wp_region_lit ?_
          refine Y wn rfl (ym (v := .int .i64 x170) (et rfl e39_12)) ?_
          refine Y wn rfl (yFb FL_29_0 (et rfl e39_7)) ?_
          refine Y wn rfl (yFb FL_27_0 (et rfl rfl)) ?_
          refine Y wn rfl (yLb (u := h12.v) O_25 (et rfl rfl) hst mhR rfl) ?_
          refine Y wn rfl (ym (v := .int .i64 x111) (et rfl e39_11)) ?_
          obtain ⟨x185, gx185, hM39⟩ := bs hM39
          refine Y wn rfl (yIa SL_25 (et rfl rfl) (et rfl rfl) hst (rdI mhF) gx185) ?_
          obtain ⟨h186, hst⟩ := iLs hst mhF gx185
          refine Y wn rfl (yCt O_22 (et rfl rfl) hst (mtF mhF) rfl) ?_
          refine Y wn rfl (yLen SL_22 (et rfl rfl) hst (rdI mhF)) ?_
          refine Y wn rfl (ylss (et rfl rfl) (et rfl rfl)) ?_
          refine wpList_nil ?_
          refine k105 _ _ ?_
          rcases iteS hM39 with ⟨c187, hM39⟩ | ⟨c187, hM39⟩
          · refine condT (et rfl rfl) (decide_eq_true c187) ?_
            refine wp_skip ?_
            refine k104 _ _ ?_
            refine seqQ fun Q106 k106 z106 => ?_
            refine blockQ fun Q107 qb107 => ?_
            refine seqQ fun Q108 k108 z108 => ?_
            refine wp_region_lit ?_
            refine Y wn rfl (yFb FL_29_0 (et rfl e39_7)) ?_
            refine Y wn rfl (yFb FL_27_0 (et rfl rfl)) ?_
            refine Y wn rfl (yLb (u := h12.v) O_25 (et rfl rfl) hst mhR rfl) ?_
            refine Y wn rfl (ym (v := .int .i64 x111) (et rfl e39_11)) ?_
            obtain ⟨x188, gx188, hM39⟩ := bs hM39
            refine Y wn rfl (yIa SL_25 (et rfl rfl) (et rfl rfl) hst (rdI (mtF (mtF mhF))) gx188) ?_
            obtain ⟨h189, hst⟩ := iLs hst (mtF (mtF mhF)) gx188
            refine Y wn rfl (yCt O_22 (et rfl rfl) hst (mtF mhF) rfl) ?_
            refine Y wn rfl (ym (v := .int .i64 x170) (et rfl e39_12)) ?_
            obtain ⟨x190, gx190, hM39⟩ := bs hM39
            refine Y wn rfl (yIa SL_22 (et rfl rfl) (et rfl rfl) hst (rdI mhF) gx190) ?_
            refine Y wn rfl (yI O_3 (et rfl rfl) hst (rdI mhF) gx190) ?_
            refine Y wn rfl (ya (v := .int .i64 x190) (et rfl rfl)) ?_
            refine wpList_nil ?_
            refine k108 _ _ ?_
            refine seqQ fun Q109 k109 z109 => ?_
            refine wp_region_lit ?_
            refine Y wn rfl (ym (v := h17.v) (et rfl e39_8)) ?_
            refine Y wn rfl (ym (v := .int .i64 x111) (et rfl e39_11)) ?_
            obtain ⟨x191, gx191, hM39⟩ := bs hM39
            refine Y wn rfl (yIa SL_22 (et rfl rfl) (et rfl rfl) hst (rdO (mtR mhR)) gx191) ?_
            refine Y wn rfl (yI O_3 (et rfl rfl) hst (rdO (mtR mhR)) gx191) ?_
            refine Y wn rfl (ym (v := .int .i64 x111) (et rfl e39_11)) ?_
            refine Y wn rfl (yeql (et rfl rfl) (et rfl rfl)) ?_
            refine Y wn rfl (ym (v := .bool (decide (x191 = x111))) (et rfl rfl)) ?_
            obtain ⟨r193, gr193, hM39⟩ := bs hM39
            refine joinW 7 (fun f w => f 0 = .int .i64 r10 ∧ f 7 = .pointer (some ⟨b15, 0, none⟩) ∧ f 8 = h17.v ∧ f 11 = .int .i64 x111 ∧ f 12 = .int .i64 x170 ∧ f 131 = .bool r193 ∧ St w0 (imm (rS (rI .i64)) h12.v r11.1 :: imm (rI .i64) h13.v r11.2.1 :: imm (rS (rI .i64)) h14.v r11.2.2 :: ros) (box b15 29 [h12.v, h13.v, h14.v] :: row 3 (rI .i64) h17.v r16.1 :: rs) w) (fun j40 => ?_) ?_
            · rcases iteS gr193 with ⟨c195, gr193⟩ | ⟨c195, gr193⟩
              · refine Y (wg rfl rfl rfl (decide_eq_true c195)) rfl (ym (v := h17.v) (et rfl e39_8)) ?_
                refine Y (wg rfl rfl rfl (decide_eq_true c195)) rfl (ym (v := .int .i64 x190) (et rfl rfl)) ?_
                obtain ⟨x196, gx196, gr193⟩ := bs gr193
                refine Y (wg rfl rfl rfl (decide_eq_true c195)) rfl (yIa SL_22 (et rfl rfl) (et rfl rfl) hst (rdO (mtR mhR)) gx196) ?_
                refine Y (wg rfl rfl rfl (decide_eq_true c195)) rfl (yI O_3 (et rfl rfl) hst (rdO (mtR mhR)) gx196) ?_
                refine Y (wg rfl rfl rfl (decide_eq_true c195)) rfl (ym (v := .int .i64 x190) (et rfl rfl)) ?_
                refine Y (wg rfl rfl rfl (decide_eq_true c195)) rfl (yeql (et rfl rfl) (et rfl rfl)) ?_
                refine Y wn rfl (ypt (v := .bool (decide (x196 = x190))) (et rfl rfl) (decide_eq_true c195) (et rfl rfl)) ?_
                obtain rfl := someI gr193
                exact j40 _ _ ⟨e39_0, e39_7, e39_8, e39_11, e39_12, rfl, (hst.facts (allC (mtF (mtF (mtF (mtF mhF)))) (allC (mtF (mtF (mtF (mtF (mtF mhF))))) (allC (mtF (mtF (mtF (mtF (mtF (mtF mhF)))))) (allT (allT (allT (allT (allT (allT (allT allI)))))))))))⟩
              · refine Gn (wx rfl rfl rfl (decide_eq_false c195)) rfl ?_
                refine Gn (wx rfl rfl rfl (decide_eq_false c195)) rfl ?_
                refine Gn (wx rfl rfl rfl (decide_eq_false c195)) rfl ?_
                refine Gn (wx rfl rfl rfl (decide_eq_false c195)) rfl ?_
                refine Gn (wx rfl rfl rfl (decide_eq_false c195)) rfl ?_
                refine Gn (wx rfl rfl rfl (decide_eq_false c195)) rfl ?_
                refine Y wn rfl (ypf (v := .bool false) (et rfl rfl) (decide_eq_false c195) rfl) ?_
                obtain rfl := someI gr193
                exact j40 _ _ ⟨e39_0, e39_7, e39_8, e39_11, e39_12, rfl, (hst.facts (allC (mtF (mtF (mtF (mtF mhF)))) (allC (mtF (mtF (mtF (mtF (mtF mhF))))) (allC (mtF (mtF (mtF (mtF (mtF (mtF mhF)))))) (allT (allT (allT (allT (allT (allT (allT allI)))))))))))⟩
            clear hst
            rintro f w ⟨e194_0, e194_7, e194_8, e194_11, e194_12, e194_131, hst⟩
            refine wpList_nil ?_
            refine k109 _ _ ?_
            rcases iteS hM39 with ⟨c197, hM39⟩ | ⟨c197, hM39⟩
            · refine condT (et rfl e194_131) c197 ?_
              refine seqQ fun Q110 k110 z110 => ?_
              refine wp_region_lit ?_
              refine Y wn rfl (ya (v := .bool false) rfl) ?_
              refine wpList_nil ?_
              refine k110 _ _ ?_
              refine wp_ret ?_
              refine qb107 _ _ _ ?_
              refine z106 _ _ _ rfl ?_
              obtain rfl := someI hM39
              refine zz39 _ _ _ _ rfl rfl ?_
              exact je39_1 _ _ rfl ((hst.pk 2 [] rfl).facts (allT (allT (allT allI)))) (ho39 _ rfl)
            · refine condF (et rfl e194_131) (bfalse c197) ?_
              refine wp_skip ?_
              refine qb107 _ _ _ ?_
              refine k106 _ _ ?_
              refine wp_region_lit ?_
              refine Y wn rfl (ym (v := .int .i64 x170) (et rfl e194_12)) ?_
              refine Y wn rfl (yadd (et rfl rfl) rfl) ?_
              refine Y wn rfl (ya (v := .int .i64 (wa .i64 x170 1)) (et rfl rfl)) ?_
              refine wpList_nil ?_
              obtain rfl := someI hM39
              exact n39 _ _ _ rfl ⟨_, _, rfl, rfl, e194_0, e194_7, e194_8, e194_11, rfl, hst⟩
          · refine condF (et rfl rfl) (decide_eq_false c187) ?_
            refine wp_exit ?_
            refine z104 _ _ _ rfl ?_
            obtain rfl := someI hM39
            refine zz39 _ _ _ _ rfl rfl ?_
            exact je39_0 _ _ e39_0 e39_7 e39_8 e39_11 (hst.facts (allC (mtF (mtF mhF)) (allC (mtF (mtF (mtF mhF))) (allC (mtF (mtF (mtF (mtF mhF)))) (allT (allT (allT (allT (allT allI))))))))) (ho39 _ rfl)
        · refine condF (et rfl rfl) (decide_eq_false c156) ?_
          refine wp_exit ?_
          refine z84 _ _ _ rfl ?_
          obtain rfl := someI hM36
          refine zz36 _ _ _ _ rfl rfl ?_
          exact je36_0 _ _ ((hst.pk 2 [] rfl).facts (allT (allT (allT allI)))) (ho36 _ rfl)
      have je27_1 : ∀ (f : Nat → Value) (w : World), f 6 = .bool false → St w0 (ros) (rs) w → .inr () = o27 → Q13 .ret (fr 133 f) w := by
        intro f w eje27_1_6 hst ho
        subst ho
        refine qb13 _ _ _ ?_
        refine z11 _ _ _ rfl ?_
        obtain rfl := someI hM
        exact hQ _ _ _ (fin1r Try.results3 ⟨rfl, eje27_1_6⟩ ⟨rfl, hst⟩)
      refine loopQ (fun s a w => ∃ (x44 : Int) (f : Nat → Value), x44 = s ∧ a = fr 133 f ∧ f 0 = .int .i64 r10 ∧ f 7 = .pointer (some ⟨b15, 0, none⟩) ∧ f 8 = h17.v ∧ f 10 = .int .i64 x44 ∧ St w0 (imm (rS (rI .i64)) h12.v r11.1 :: imm (rI .i64) h13.v r11.2.1 :: imm (rS (rI .i64)) h14.v r11.2.2 :: ros) (box b15 29 [h12.v, h13.v, h14.v] :: row 3 (rI .i64) h17.v r16.1 :: rs) w) go27 ⟨_, _, rfl, rfl, e18_0, e18_7, e18_8, rfl, hst⟩ ?_
      clear hst
      rintro _ _ w r27_ ⟨x44, f, rfl, rfl, e27_0, e27_7, e27_8, e27_10, hst⟩ hM27 ho27 Q100027 n27 zz27
      refine seqQ fun Q111 k111 z111 => ?_
      refine seqQ fun Q112 k112 z112 => ?_
      refine wp_region_lit ?_
      refine Y wn rfl (ym (v := .int .i64 x44) (et rfl e27_10)) ?_
      refine Y wn rfl (ym (v := .int .i64 r10) (et rfl e27_0)) ?_
      refine Y wn rfl (ylss (et rfl rfl) (et rfl rfl)) ?_
      refine wpList_nil ?_
      refine k112 _ _ ?_
      rcases iteS hM27 with ⟨c198, hM27⟩ | ⟨c198, hM27⟩
      · refine condT (et rfl rfl) (decide_eq_true c198) ?_
        refine wp_skip ?_
        refine k111 _ _ ?_
        refine seqQ fun Q113 k113 z113 => ?_
        refine blockQ fun Q114 qb114 => ?_
        refine seqQ fun Q115 k115 z115 => ?_
        obtain ⟨x199, gx199, hM27⟩ := bs hM27
        obtain ⟨r200, gr200, hM27⟩ := bs hM27
        obtain ⟨r201, gr201, hM27⟩ := bs hM27
        obtain ⟨r202, gr202, hM27⟩ := bs hM27
        refine joinN (n := 133) (fun f w => f 0 = .int .i64 r10 ∧ f 7 = .pointer (some ⟨b15, 0, none⟩) ∧ f 8 = h17.v ∧ f 10 = .int .i64 x44 ∧ f 92 = .bool r202 ∧ St w0 (imm (rS (rI .i64)) h12.v r11.1 :: imm (rI .i64) h13.v r11.2.1 :: imm (rS (rI .i64)) h14.v r11.2.2 :: ros) (box b15 29 [h12.v, h13.v, h14.v] :: row 3 (rI .i64) h17.v r16.1 :: rs) w) (fun j41 => ?_) ?_
        · rcases iteS gr200 with ⟨c204, gr200⟩ | ⟨c204, gr200⟩
          · have hr42 := someI gr200
            have c205 : r200 = true := hr42.symm
            rw [if_pos c205] at gr201
            have hr43 := someI gr201
            have c206 : r201 = true := hr43.symm
            rw [if_pos c206] at gr202
            have hr44 := someI gr202
            refine wp_drawR [0, 0, 3, 7, 15, 31, 63, 63, 255, 511, 63, 2047, 4095, 8191, 16383, 16383, 16383, 114687, 245759, 524287, 1048575, 16383, 4194303, 8388607, 16777215, 33554431, 33554431, 134217727, 268435455, 33554431, 1073741823, 2147483647, 4294967295, 8589934591, 17179869183, 4294967295, 68719476735, 137438953471, 4294967295, 4294967295, 828928688127, 1928440315903, 4398046511103, 8796093022207, 17592186044415, 35184372088831] [42] 1 folM (by kernel_rfl) (by kernel_rfl) (by kernel_rfl) ?_
            replace hst := hst.drew
            refine DRn (l1 := [0, 1, 2, 3, 4, 5, 6, 7, 8, 9, 10, 11, 12, 13, 14, 15, 16, 17, 18, 19, 20, 21, 22, 23, 24, 25, 26, 27, 28, 29, 30, 31, 32, 33, 34, 35, 36, 37, 38, 39, 40, 41]) (l2 := []) (lc := [42]) (by kernel_rfl) (by kernel_rfl) (by kernel_rfl) ?_
            refine Ry rfl rfl wn (ym (v := h17.v) (et rfl e27_8)) ?_
            refine Ry rfl rfl wn (ym (v := .int .i64 x44) (et rfl e27_10)) ?_
            refine Ry rfl rfl wn (yIa SL_22 (et rfl rfl) (et rfl rfl) hst (rdO (mtR mhR)) gx199) ?_
            refine Ry rfl rfl wn (yI O_3 (et rfl rfl) hst (rdO (mtR mhR)) gx199) ?_
            refine Ry rfl rfl wn (ylss (et rfl rfl) rfl) ?_
            refine Ry rfl rfl wn (ym (v := .bool (decide (x199 < 0))) (et rfl rfl)) ?_
            refine Rx rfl rfl (wx rfl rfl rfl (decide_eq_true c204)) ?_
            refine Rx rfl rfl (wx rfl rfl rfl (decide_eq_true c204)) ?_
            refine Rx rfl rfl (wx rfl rfl rfl (decide_eq_true c204)) ?_
            refine Rx rfl rfl (wx rfl rfl rfl (decide_eq_true c204)) ?_
            refine Rx rfl rfl (wx rfl rfl rfl (decide_eq_true c204)) ?_
            refine Rx rfl rfl (wx rfl rfl rfl (decide_eq_true c204)) ?_
            refine Ry rfl rfl wn (ypt (v := .bool r200) (et rfl rfl) (decide_eq_true c204) (eqv hr42 rfl)) ?_
            refine Ry rfl rfl wn (ym (v := .bool r200) (et rfl rfl)) ?_
            refine Rx rfl rfl (wx rfl rfl rfl c205) ?_
            refine Rx rfl rfl (wx rfl rfl rfl c205) ?_
            refine Rx rfl rfl (wx rfl rfl rfl c205) ?_
            refine Rx rfl rfl (wx rfl rfl rfl c205) ?_
            refine Rx rfl rfl (wx rfl rfl rfl c205) ?_
            refine Rx rfl rfl (wx rfl rfl rfl c205) ?_
            refine Rx rfl rfl (wx rfl rfl rfl c205) ?_
            refine Rx rfl rfl (wx rfl rfl rfl c205) ?_
            refine Rx rfl rfl (wx rfl rfl rfl c205) ?_
            refine Ry rfl rfl wn (ypt (v := .bool r201) (et rfl rfl) c205 (eqv hr43 rfl)) ?_
            refine Ry rfl rfl wn (ym (v := .bool r201) (et rfl rfl)) ?_
            refine Rx rfl rfl (wx rfl rfl rfl c206) ?_
            refine Rx rfl rfl (wx rfl rfl rfl c206) ?_
            refine Rx rfl rfl (wx rfl rfl rfl c206) ?_
            refine Rx rfl rfl (wx rfl rfl rfl c206) ?_
            refine Rx rfl rfl (wx rfl rfl rfl c206) ?_
            refine Rx rfl rfl (wx rfl rfl rfl c206) ?_
            refine Rx rfl rfl (wx rfl rfl rfl c206) ?_
            refine Rx rfl rfl (wxu rfl rfl rfl) ?_
            refine Rx rfl rfl (wxu rfl rfl rfl) ?_
            refine Rx rfl rfl (wxu rfl rfl rfl) ?_
            refine Rx rfl rfl (wxu rfl rfl rfl) ?_
            refine Rx rfl rfl (wxu rfl rfl rfl) ?_
            refine Rx rfl rfl (wxu rfl rfl rfl) ?_
            refine Rx rfl rfl (wxu rfl rfl rfl) ?_
            refine Rx rfl rfl (wxu rfl rfl rfl) ?_
            refine Rx rfl rfl (wxu rfl rfl rfl) ?_
            refine Rx rfl rfl (wxu rfl rfl rfl) ?_
            refine Rn QSn ?_
            refine Lc rfl ?_ LAn
            refine Lx (wxu rfl rfl rfl) ?_
            refine DRz (l1 := [43, 44, 45]) (l2 := []) (by kernel_rfl) (by kernel_rfl) ?_
            refine Rx rfl rfl (wxu rfl rfl rfl) ?_
            refine Rx rfl rfl (wx rfl rfl rfl c206) ?_
            refine Ry rfl rfl wn (ypt (v := .bool r202) (et rfl rfl) c206 (eqv hr44 rfl)) ?_
            refine Rn QSn ?_
            exact j41 _ _ ⟨e27_0, e27_7, e27_8, e27_10, rfl, hst⟩
          · obtain ⟨x207, gx207, gr200⟩ := bs gr200
            have hr45 := someI gr200
            rcases iteS gr201 with ⟨c208, gr201⟩ | ⟨c208, gr201⟩
            · have hr46 := someI gr201
              have c209 : r201 = true := hr46.symm
              rw [if_pos c209] at gr202
              have hr47 := someI gr202
              refine wp_drawR [0, 0, 3, 7, 15, 31, 63, 63, 255, 511, 63, 2047, 4095, 8191, 16383, 16383, 16383, 114687, 245759, 524287, 1048575, 16383, 4194303, 8388607, 16777215, 33554431, 33554431, 134217727, 268435455, 33554431, 1073741823, 2147483647, 4294967295, 8589934591, 17179869183, 4294967295, 68719476735, 137438953471, 4294967295, 4294967295, 828928688127, 1928440315903, 4398046511103, 8796093022207, 17592186044415, 35184372088831] [42] 1 folM (by kernel_rfl) (by kernel_rfl) (by kernel_rfl) ?_
              replace hst := hst.drew
              refine DRn (l1 := [0, 1, 2, 3, 4, 5, 6, 7, 8, 9, 10, 11, 12, 13, 14, 15, 16, 17, 18, 19, 20, 21, 22, 23, 24, 25, 26, 27, 28, 29, 30, 31, 32, 33, 34, 35, 36, 37, 38, 39, 40, 41]) (l2 := []) (lc := [42]) (by kernel_rfl) (by kernel_rfl) (by kernel_rfl) ?_
              refine Ry rfl rfl wn (ym (v := h17.v) (et rfl e27_8)) ?_
              refine Ry rfl rfl wn (ym (v := .int .i64 x44) (et rfl e27_10)) ?_
              refine Ry rfl rfl wn (yIa SL_22 (et rfl rfl) (et rfl rfl) hst (rdO (mtR mhR)) gx199) ?_
              refine Ry rfl rfl wn (yI O_3 (et rfl rfl) hst (rdO (mtR mhR)) gx199) ?_
              refine Ry rfl rfl wn (ylss (et rfl rfl) rfl) ?_
              refine Ry rfl rfl wn (ym (v := .bool (decide (x199 < 0))) (et rfl rfl)) ?_
              refine Ry rfl rfl (wg rfl rfl rfl (decide_eq_false c204)) (ym (v := h17.v) (et rfl e27_8)) ?_
              refine Ry rfl rfl (wg rfl rfl rfl (decide_eq_false c204)) (ym (v := .int .i64 x44) (et rfl e27_10)) ?_
              refine Ry rfl rfl (wg rfl rfl rfl (decide_eq_false c204)) (yIa SL_22 (et rfl rfl) (et rfl rfl) hst (rdO (mtR mhR)) gx207) ?_
              refine Ry rfl rfl (wg rfl rfl rfl (decide_eq_false c204)) (yI O_3 (et rfl rfl) hst (rdO (mtR mhR)) gx207) ?_
              refine Ry rfl rfl (wg rfl rfl rfl (decide_eq_false c204)) (ym (v := .int .i64 r10) (et rfl e27_0)) ?_
              refine Ry rfl rfl (wg rfl rfl rfl (decide_eq_false c204)) (ygeq (et rfl rfl) (et rfl rfl)) ?_
              refine Ry rfl rfl wn (ypf (v := .bool r200) (et rfl rfl) (decide_eq_false c204) (eqv hr45 (et rfl rfl))) ?_
              refine Ry rfl rfl wn (ym (v := .bool r200) (et rfl rfl)) ?_
              refine Rx rfl rfl (wx rfl rfl rfl c208) ?_
              refine Rx rfl rfl (wx rfl rfl rfl c208) ?_
              refine Rx rfl rfl (wx rfl rfl rfl c208) ?_
              refine Rx rfl rfl (wx rfl rfl rfl c208) ?_
              refine Rx rfl rfl (wx rfl rfl rfl c208) ?_
              refine Rx rfl rfl (wx rfl rfl rfl c208) ?_
              refine Rx rfl rfl (wx rfl rfl rfl c208) ?_
              refine Rx rfl rfl (wx rfl rfl rfl c208) ?_
              refine Rx rfl rfl (wx rfl rfl rfl c208) ?_
              refine Ry rfl rfl wn (ypt (v := .bool r201) (et rfl rfl) c208 (eqv hr46 rfl)) ?_
              refine Ry rfl rfl wn (ym (v := .bool r201) (et rfl rfl)) ?_
              refine Rx rfl rfl (wx rfl rfl rfl c209) ?_
              refine Rx rfl rfl (wx rfl rfl rfl c209) ?_
              refine Rx rfl rfl (wx rfl rfl rfl c209) ?_
              refine Rx rfl rfl (wx rfl rfl rfl c209) ?_
              refine Rx rfl rfl (wx rfl rfl rfl c209) ?_
              refine Rx rfl rfl (wx rfl rfl rfl c209) ?_
              refine Rx rfl rfl (wx rfl rfl rfl c209) ?_
              refine Rx rfl rfl (wxu rfl rfl rfl) ?_
              refine Rx rfl rfl (wxu rfl rfl rfl) ?_
              refine Rx rfl rfl (wxu rfl rfl rfl) ?_
              refine Rx rfl rfl (wxu rfl rfl rfl) ?_
              refine Rx rfl rfl (wxu rfl rfl rfl) ?_
              refine Rx rfl rfl (wxu rfl rfl rfl) ?_
              refine Rx rfl rfl (wxu rfl rfl rfl) ?_
              refine Rx rfl rfl (wxu rfl rfl rfl) ?_
              refine Rx rfl rfl (wxu rfl rfl rfl) ?_
              refine Rx rfl rfl (wxu rfl rfl rfl) ?_
              refine Rn QSn ?_
              refine Lc rfl ?_ LAn
              refine Lx (wxu rfl rfl rfl) ?_
              refine DRz (l1 := [43, 44, 45]) (l2 := []) (by kernel_rfl) (by kernel_rfl) ?_
              refine Rx rfl rfl (wxu rfl rfl rfl) ?_
              refine Rx rfl rfl (wx rfl rfl rfl c209) ?_
              refine Ry rfl rfl wn (ypt (v := .bool r202) (et rfl rfl) c209 (eqv hr47 rfl)) ?_
              refine Rn QSn ?_
              exact j41 _ _ ⟨e27_0, e27_7, e27_8, e27_10, rfl, hst⟩
            · obtain ⟨x210, gx210, gr201⟩ := bs gr201
              obtain ⟨x211, gx211, gr201⟩ := bs gr201
              have hr48 := someI gr201
              rcases iteS gr202 with ⟨c212, gr202⟩ | ⟨c212, gr202⟩
              · have hr49 := someI gr202
                refine wp_drawR [0, 0, 3, 7, 15, 31, 63, 63, 255, 511, 63, 2047, 4095, 8191, 16383, 16383, 16383, 114687, 245759, 524287, 1048575, 16383, 4194303, 8388607, 16777215, 33554431, 33554431, 134217727, 268435455, 33554431, 1073741823, 2147483647, 4294967295, 8589934591, 17179869183, 4294967295, 68719476735, 137438953471, 4294967295, 4294967295, 828928688127, 1928440315903, 4398046511103, 8796093022207, 17592186044415, 35184372088831] [42] 1 folM (by kernel_rfl) (by kernel_rfl) (by kernel_rfl) ?_
                replace hst := hst.drew
                refine DRn (l1 := [0, 1, 2, 3, 4, 5, 6, 7, 8, 9, 10, 11, 12, 13, 14, 15, 16, 17, 18, 19, 20, 21, 22, 23, 24, 25, 26, 27, 28, 29, 30, 31, 32, 33, 34, 35, 36, 37, 38, 39, 40, 41]) (l2 := []) (lc := [42]) (by kernel_rfl) (by kernel_rfl) (by kernel_rfl) ?_
                refine Ry rfl rfl wn (ym (v := h17.v) (et rfl e27_8)) ?_
                refine Ry rfl rfl wn (ym (v := .int .i64 x44) (et rfl e27_10)) ?_
                refine Ry rfl rfl wn (yIa SL_22 (et rfl rfl) (et rfl rfl) hst (rdO (mtR mhR)) gx199) ?_
                refine Ry rfl rfl wn (yI O_3 (et rfl rfl) hst (rdO (mtR mhR)) gx199) ?_
                refine Ry rfl rfl wn (ylss (et rfl rfl) rfl) ?_
                refine Ry rfl rfl wn (ym (v := .bool (decide (x199 < 0))) (et rfl rfl)) ?_
                refine Ry rfl rfl (wg rfl rfl rfl (decide_eq_false c204)) (ym (v := h17.v) (et rfl e27_8)) ?_
                refine Ry rfl rfl (wg rfl rfl rfl (decide_eq_false c204)) (ym (v := .int .i64 x44) (et rfl e27_10)) ?_
                refine Ry rfl rfl (wg rfl rfl rfl (decide_eq_false c204)) (yIa SL_22 (et rfl rfl) (et rfl rfl) hst (rdO (mtR mhR)) gx207) ?_
                refine Ry rfl rfl (wg rfl rfl rfl (decide_eq_false c204)) (yI O_3 (et rfl rfl) hst (rdO (mtR mhR)) gx207) ?_
                refine Ry rfl rfl (wg rfl rfl rfl (decide_eq_false c204)) (ym (v := .int .i64 r10) (et rfl e27_0)) ?_
                refine Ry rfl rfl (wg rfl rfl rfl (decide_eq_false c204)) (ygeq (et rfl rfl) (et rfl rfl)) ?_
                refine Ry rfl rfl wn (ypf (v := .bool r200) (et rfl rfl) (decide_eq_false c204) (eqv hr45 (et rfl rfl))) ?_
                refine Ry rfl rfl wn (ym (v := .bool r200) (et rfl rfl)) ?_
                refine Ry rfl rfl (wg rfl rfl rfl (bfalse c208)) (ym (v := h17.v) (et rfl e27_8)) ?_
                refine Ry rfl rfl (wg rfl rfl rfl (bfalse c208)) (ym (v := h17.v) (et rfl e27_8)) ?_
                refine Ry rfl rfl (wg rfl rfl rfl (bfalse c208)) (ym (v := .int .i64 x44) (et rfl e27_10)) ?_
                refine Ry rfl rfl (wg rfl rfl rfl (bfalse c208)) (yIa SL_22 (et rfl rfl) (et rfl rfl) hst (rdO (mtR mhR)) gx210) ?_
                refine Ry rfl rfl (wg rfl rfl rfl (bfalse c208)) (yI O_3 (et rfl rfl) hst (rdO (mtR mhR)) gx210) ?_
                refine Ry rfl rfl (wg rfl rfl rfl (bfalse c208)) (yIa SL_22 (et rfl rfl) (et rfl rfl) hst (rdO (mtR mhR)) gx211) ?_
                refine Ry rfl rfl (wg rfl rfl rfl (bfalse c208)) (yI O_3 (et rfl rfl) hst (rdO (mtR mhR)) gx211) ?_
                refine Ry rfl rfl (wg rfl rfl rfl (bfalse c208)) (ym (v := .int .i64 x44) (et rfl e27_10)) ?_
                refine Ry rfl rfl (wg rfl rfl rfl (bfalse c208)) (yneq (et rfl rfl) (et rfl rfl)) ?_
                refine Ry rfl rfl wn (ypf (v := .bool r201) (et rfl rfl) (bfalse c208) (eqv hr48 (et rfl rfl))) ?_
                refine Ry rfl rfl wn (ym (v := .bool r201) (et rfl rfl)) ?_
                refine Rx rfl rfl (wx rfl rfl rfl c212) ?_
                refine Rx rfl rfl (wx rfl rfl rfl c212) ?_
                refine Rx rfl rfl (wx rfl rfl rfl c212) ?_
                refine Rx rfl rfl (wx rfl rfl rfl c212) ?_
                refine Rx rfl rfl (wx rfl rfl rfl c212) ?_
                refine Rx rfl rfl (wx rfl rfl rfl c212) ?_
                refine Rx rfl rfl (wx rfl rfl rfl c212) ?_
                refine Rx rfl rfl (wxu rfl rfl rfl) ?_
                refine Rx rfl rfl (wxu rfl rfl rfl) ?_
                refine Rx rfl rfl (wxu rfl rfl rfl) ?_
                refine Rx rfl rfl (wxu rfl rfl rfl) ?_
                refine Rx rfl rfl (wxu rfl rfl rfl) ?_
                refine Rx rfl rfl (wxu rfl rfl rfl) ?_
                refine Rx rfl rfl (wxu rfl rfl rfl) ?_
                refine Rx rfl rfl (wxu rfl rfl rfl) ?_
                refine Rx rfl rfl (wxu rfl rfl rfl) ?_
                refine Rx rfl rfl (wxu rfl rfl rfl) ?_
                refine Rn QSn ?_
                refine Lc rfl ?_ LAn
                refine Lx (wxu rfl rfl rfl) ?_
                refine DRz (l1 := [43, 44, 45]) (l2 := []) (by kernel_rfl) (by kernel_rfl) ?_
                refine Rx rfl rfl (wxu rfl rfl rfl) ?_
                refine Rx rfl rfl (wx rfl rfl rfl c212) ?_
                refine Ry rfl rfl wn (ypt (v := .bool r202) (et rfl rfl) c212 (eqv hr49 rfl)) ?_
                refine Rn QSn ?_
                exact j41 _ _ ⟨e27_0, e27_7, e27_8, e27_10, rfl, hst⟩
              · obtain ⟨x213, gx213, gr202⟩ := bs gr202
                obtain ⟨r214, gr214, gr202⟩ := bs gr202
                have hr50 := someI gr202
                rcases iteS gr214 with ⟨c215, gr214⟩ | ⟨c215, gr214⟩
                · have hr51 := someI gr214
                  refine wp_drawR [0, 0, 3, 7, 15, 31, 63, 63, 255, 511, 63, 2047, 4095, 8191, 16383, 16383, 16383, 114687, 245759, 524287, 1048575, 16383, 4194303, 8388607, 16777215, 33554431, 33554431, 134217727, 268435455, 33554431, 1073741823, 2147483647, 4294967295, 8589934591, 17179869183, 4294967295, 68719476735, 137438953471, 4294967295, 4294967295, 828928688127, 1928440315903, 4398046511103, 8796093022207, 17592186044415, 35184372088831] [42] 1 folM (by kernel_rfl) (by kernel_rfl) (by kernel_rfl) ?_
                  replace hst := hst.drew
                  refine DRn (l1 := [0, 1, 2, 3, 4, 5, 6, 7, 8, 9, 10, 11, 12, 13, 14, 15, 16, 17, 18, 19, 20, 21, 22, 23, 24, 25, 26, 27, 28, 29, 30, 31, 32, 33, 34, 35, 36, 37, 38, 39, 40, 41]) (l2 := []) (lc := [42]) (by kernel_rfl) (by kernel_rfl) (by kernel_rfl) ?_
                  refine Ry rfl rfl wn (ym (v := h17.v) (et rfl e27_8)) ?_
                  refine Ry rfl rfl wn (ym (v := .int .i64 x44) (et rfl e27_10)) ?_
                  refine Ry rfl rfl wn (yIa SL_22 (et rfl rfl) (et rfl rfl) hst (rdO (mtR mhR)) gx199) ?_
                  refine Ry rfl rfl wn (yI O_3 (et rfl rfl) hst (rdO (mtR mhR)) gx199) ?_
                  refine Ry rfl rfl wn (ylss (et rfl rfl) rfl) ?_
                  refine Ry rfl rfl wn (ym (v := .bool (decide (x199 < 0))) (et rfl rfl)) ?_
                  refine Ry rfl rfl (wg rfl rfl rfl (decide_eq_false c204)) (ym (v := h17.v) (et rfl e27_8)) ?_
                  refine Ry rfl rfl (wg rfl rfl rfl (decide_eq_false c204)) (ym (v := .int .i64 x44) (et rfl e27_10)) ?_
                  refine Ry rfl rfl (wg rfl rfl rfl (decide_eq_false c204)) (yIa SL_22 (et rfl rfl) (et rfl rfl) hst (rdO (mtR mhR)) gx207) ?_
                  refine Ry rfl rfl (wg rfl rfl rfl (decide_eq_false c204)) (yI O_3 (et rfl rfl) hst (rdO (mtR mhR)) gx207) ?_
                  refine Ry rfl rfl (wg rfl rfl rfl (decide_eq_false c204)) (ym (v := .int .i64 r10) (et rfl e27_0)) ?_
                  refine Ry rfl rfl (wg rfl rfl rfl (decide_eq_false c204)) (ygeq (et rfl rfl) (et rfl rfl)) ?_
                  refine Ry rfl rfl wn (ypf (v := .bool r200) (et rfl rfl) (decide_eq_false c204) (eqv hr45 (et rfl rfl))) ?_
                  refine Ry rfl rfl wn (ym (v := .bool r200) (et rfl rfl)) ?_
                  refine Ry rfl rfl (wg rfl rfl rfl (bfalse c208)) (ym (v := h17.v) (et rfl e27_8)) ?_
                  refine Ry rfl rfl (wg rfl rfl rfl (bfalse c208)) (ym (v := h17.v) (et rfl e27_8)) ?_
                  refine Ry rfl rfl (wg rfl rfl rfl (bfalse c208)) (ym (v := .int .i64 x44) (et rfl e27_10)) ?_
                  refine Ry rfl rfl (wg rfl rfl rfl (bfalse c208)) (yIa SL_22 (et rfl rfl) (et rfl rfl) hst (rdO (mtR mhR)) gx210) ?_
                  refine Ry rfl rfl (wg rfl rfl rfl (bfalse c208)) (yI O_3 (et rfl rfl) hst (rdO (mtR mhR)) gx210) ?_
                  refine Ry rfl rfl (wg rfl rfl rfl (bfalse c208)) (yIa SL_22 (et rfl rfl) (et rfl rfl) hst (rdO (mtR mhR)) gx211) ?_
                  refine Ry rfl rfl (wg rfl rfl rfl (bfalse c208)) (yI O_3 (et rfl rfl) hst (rdO (mtR mhR)) gx211) ?_
                  refine Ry rfl rfl (wg rfl rfl rfl (bfalse c208)) (ym (v := .int .i64 x44) (et rfl e27_10)) ?_
                  refine Ry rfl rfl (wg rfl rfl rfl (bfalse c208)) (yneq (et rfl rfl) (et rfl rfl)) ?_
                  refine Ry rfl rfl wn (ypf (v := .bool r201) (et rfl rfl) (bfalse c208) (eqv hr48 (et rfl rfl))) ?_
                  refine Ry rfl rfl wn (ym (v := .bool r201) (et rfl rfl)) ?_
                  refine Ry rfl rfl (wg rfl rfl rfl (bfalse c212)) (ym (v := h17.v) (et rfl e27_8)) ?_
                  refine Ry rfl rfl (wg rfl rfl rfl (bfalse c212)) (ym (v := .int .i64 x44) (et rfl e27_10)) ?_
                  refine Ry rfl rfl (wg rfl rfl rfl (bfalse c212)) (yIa SL_22 (et rfl rfl) (et rfl rfl) hst (rdO (mtR mhR)) gx213) ?_
                  refine Ry rfl rfl (wg rfl rfl rfl (bfalse c212)) (yI O_3 (et rfl rfl) hst (rdO (mtR mhR)) gx213) ?_
                  refine Ry rfl rfl (wg rfl rfl rfl (bfalse c212)) (ym (v := .int .i64 x44) (et rfl e27_10)) ?_
                  refine Ry rfl rfl (wg rfl rfl rfl (bfalse c212)) (yneq (et rfl rfl) (et rfl rfl)) ?_
                  refine Ry rfl rfl (wg rfl rfl rfl (bfalse c212)) (ym (v := .bool (!(decide (x213 = x44)))) (et rfl rfl)) ?_
                  refine Rx rfl rfl (wx rfl rfl rfl (nF (decide_eq_true c215))) ?_
                  refine Rx rfl rfl (wx rfl rfl rfl (nF (decide_eq_true c215))) ?_
                  refine Rx rfl rfl (wx rfl rfl rfl (nF (decide_eq_true c215))) ?_
                  refine Rx rfl rfl (wx rfl rfl rfl (nF (decide_eq_true c215))) ?_
                  refine Rx rfl rfl (wx rfl rfl rfl (nF (decide_eq_true c215))) ?_
                  refine Rx rfl rfl (wx rfl rfl rfl (nF (decide_eq_true c215))) ?_
                  refine Rx rfl rfl (wx rfl rfl rfl (nF (decide_eq_true c215))) ?_
                  refine Rx rfl rfl (wx rfl rfl rfl (nF (decide_eq_true c215))) ?_
                  refine Rx rfl rfl (wx rfl rfl rfl (nF (decide_eq_true c215))) ?_
                  refine Rx rfl rfl (wx rfl rfl rfl (nF (decide_eq_true c215))) ?_
                  refine Rn QSn ?_
                  refine Lc rfl ?_ LAn
                  refine Lx (wx rfl rfl rfl (nF (decide_eq_true c215))) ?_
                  refine DRz (l1 := [43, 44, 45]) (l2 := []) (by kernel_rfl) (by kernel_rfl) ?_
                  refine Rx rfl rfl (wx rfl rfl rfl (nF (decide_eq_true c215))) ?_
                  refine Ry rfl rfl (wg rfl rfl rfl (bfalse c212)) (ypf (v := .bool r214) (et rfl rfl) (nF (decide_eq_true c215)) (eqv hr51 rfl)) ?_
                  refine Ry rfl rfl wn (ypf (v := .bool r202) (et rfl rfl) (bfalse c212) (eqv hr50 (et rfl rfl))) ?_
                  refine Rn QSn ?_
                  exact j41 _ _ ⟨e27_0, e27_7, e27_8, e27_10, rfl, hst⟩
                · obtain ⟨x216, gx216, gr214⟩ := bs gr214
                  obtain ⟨x218, gx218, gr214⟩ := bs gr214
                  obtain ⟨r219, gr219, gr214⟩ := bs gr214
                  have hr52 := someI gr214
                  refine wp_drawR [0, 0, 3, 7, 15, 31, 63, 63, 255, 511, 63, 2047, 4095, 8191, 16383, 16383, 16383, 114687, 245759, 524287, 1048575, 16383, 4194303, 8388607, 16777215, 33554431, 33554431, 134217727, 268435455, 33554431, 1073741823, 2147483647, 4294967295, 8589934591, 17179869183, 4294967295, 68719476735, 137438953471, 4294967295, 4294967295, 828928688127, 1928440315903, 4398046511103, 8796093022207, 17592186044415, 35184372088831] [42] 1 folM (by kernel_rfl) (by kernel_rfl) (by kernel_rfl) ?_
                  replace hst := hst.drew
                  refine DRn (l1 := [0, 1, 2, 3, 4, 5, 6, 7, 8, 9, 10, 11, 12, 13, 14, 15, 16, 17, 18, 19, 20, 21, 22, 23, 24, 25, 26, 27, 28, 29, 30, 31, 32, 33, 34, 35, 36, 37, 38, 39, 40, 41]) (l2 := []) (lc := [42]) (by kernel_rfl) (by kernel_rfl) (by kernel_rfl) ?_
                  refine Ry rfl rfl wn (ym (v := h17.v) (et rfl e27_8)) ?_
                  refine Ry rfl rfl wn (ym (v := .int .i64 x44) (et rfl e27_10)) ?_
                  refine Ry rfl rfl wn (yIa SL_22 (et rfl rfl) (et rfl rfl) hst (rdO (mtR mhR)) gx199) ?_
                  refine Ry rfl rfl wn (yI O_3 (et rfl rfl) hst (rdO (mtR mhR)) gx199) ?_
                  refine Ry rfl rfl wn (ylss (et rfl rfl) rfl) ?_
                  refine Ry rfl rfl wn (ym (v := .bool (decide (x199 < 0))) (et rfl rfl)) ?_
                  refine Ry rfl rfl (wg rfl rfl rfl (decide_eq_false c204)) (ym (v := h17.v) (et rfl e27_8)) ?_
                  refine Ry rfl rfl (wg rfl rfl rfl (decide_eq_false c204)) (ym (v := .int .i64 x44) (et rfl e27_10)) ?_
                  refine Ry rfl rfl (wg rfl rfl rfl (decide_eq_false c204)) (yIa SL_22 (et rfl rfl) (et rfl rfl) hst (rdO (mtR mhR)) gx207) ?_
                  refine Ry rfl rfl (wg rfl rfl rfl (decide_eq_false c204)) (yI O_3 (et rfl rfl) hst (rdO (mtR mhR)) gx207) ?_
                  refine Ry rfl rfl (wg rfl rfl rfl (decide_eq_false c204)) (ym (v := .int .i64 r10) (et rfl e27_0)) ?_
                  refine Ry rfl rfl (wg rfl rfl rfl (decide_eq_false c204)) (ygeq (et rfl rfl) (et rfl rfl)) ?_
                  refine Ry rfl rfl wn (ypf (v := .bool r200) (et rfl rfl) (decide_eq_false c204) (eqv hr45 (et rfl rfl))) ?_
                  refine Ry rfl rfl wn (ym (v := .bool r200) (et rfl rfl)) ?_
                  refine Ry rfl rfl (wg rfl rfl rfl (bfalse c208)) (ym (v := h17.v) (et rfl e27_8)) ?_
                  refine Ry rfl rfl (wg rfl rfl rfl (bfalse c208)) (ym (v := h17.v) (et rfl e27_8)) ?_
                  refine Ry rfl rfl (wg rfl rfl rfl (bfalse c208)) (ym (v := .int .i64 x44) (et rfl e27_10)) ?_
                  refine Ry rfl rfl (wg rfl rfl rfl (bfalse c208)) (yIa SL_22 (et rfl rfl) (et rfl rfl) hst (rdO (mtR mhR)) gx210) ?_
                  refine Ry rfl rfl (wg rfl rfl rfl (bfalse c208)) (yI O_3 (et rfl rfl) hst (rdO (mtR mhR)) gx210) ?_
                  refine Ry rfl rfl (wg rfl rfl rfl (bfalse c208)) (yIa SL_22 (et rfl rfl) (et rfl rfl) hst (rdO (mtR mhR)) gx211) ?_
                  refine Ry rfl rfl (wg rfl rfl rfl (bfalse c208)) (yI O_3 (et rfl rfl) hst (rdO (mtR mhR)) gx211) ?_
                  refine Ry rfl rfl (wg rfl rfl rfl (bfalse c208)) (ym (v := .int .i64 x44) (et rfl e27_10)) ?_
                  refine Ry rfl rfl (wg rfl rfl rfl (bfalse c208)) (yneq (et rfl rfl) (et rfl rfl)) ?_
                  refine Ry rfl rfl wn (ypf (v := .bool r201) (et rfl rfl) (bfalse c208) (eqv hr48 (et rfl rfl))) ?_
                  refine Ry rfl rfl wn (ym (v := .bool r201) (et rfl rfl)) ?_
                  refine Ry rfl rfl (wg rfl rfl rfl (bfalse c212)) (ym (v := h17.v) (et rfl e27_8)) ?_
                  refine Ry rfl rfl (wg rfl rfl rfl (bfalse c212)) (ym (v := .int .i64 x44) (et rfl e27_10)) ?_
                  refine Ry rfl rfl (wg rfl rfl rfl (bfalse c212)) (yIa SL_22 (et rfl rfl) (et rfl rfl) hst (rdO (mtR mhR)) gx213) ?_
                  refine Ry rfl rfl (wg rfl rfl rfl (bfalse c212)) (yI O_3 (et rfl rfl) hst (rdO (mtR mhR)) gx213) ?_
                  refine Ry rfl rfl (wg rfl rfl rfl (bfalse c212)) (ym (v := .int .i64 x44) (et rfl e27_10)) ?_
                  refine Ry rfl rfl (wg rfl rfl rfl (bfalse c212)) (yneq (et rfl rfl) (et rfl rfl)) ?_
                  refine Ry rfl rfl (wg rfl rfl rfl (bfalse c212)) (ym (v := .bool (!(decide (x213 = x44)))) (et rfl rfl)) ?_
                  refine Ry rfl rfl (wg rfl rfl rfl (nT (decide_eq_false c215))) (yFb FL_29_0 (et rfl e27_7)) ?_
                  refine Ry rfl rfl (wg rfl rfl rfl (nT (decide_eq_false c215))) (yFb FL_27_0 (et rfl rfl)) ?_
                  refine Ry rfl rfl (wg rfl rfl rfl (nT (decide_eq_false c215))) (yLb (u := h12.v) O_25 (et rfl rfl) hst mhR rfl) ?_
                  refine Ry rfl rfl (wg rfl rfl rfl (nT (decide_eq_false c215))) (ym (v := .int .i64 x44) (et rfl e27_10)) ?_
                  refine Ry rfl rfl (wg rfl rfl rfl (nT (decide_eq_false c215))) (yIa SL_25 (et rfl rfl) (et rfl rfl) hst (rdI mhF) gx216) ?_
                  obtain ⟨h217, hst⟩ := iLs hst mhF gx216
                  refine Ry rfl rfl (wg rfl rfl rfl (nT (decide_eq_false c215))) (yCt O_22 (et rfl rfl) hst (mtF mhF) rfl) ?_
                  refine Ry rfl rfl (wg rfl rfl rfl (nT (decide_eq_false c215))) (ym (v := h17.v) (et rfl e27_8)) ?_
                  refine Ry rfl rfl (wg rfl rfl rfl (nT (decide_eq_false c215))) (ym (v := .int .i64 x44) (et rfl e27_10)) ?_
                  refine Ry rfl rfl (wg rfl rfl rfl (nT (decide_eq_false c215))) (yIa SL_22 (et rfl rfl) (et rfl rfl) hst (rdO (mtR mhR)) gx218) ?_
                  refine Ry rfl rfl (wg rfl rfl rfl (nT (decide_eq_false c215))) (yI O_3 (et rfl rfl) hst (rdO (mtR mhR)) gx218) ?_
                  refine Rn QSn ?_
                  refine Lc rfl ?_ LAn
                  refine Lk (wg rfl rfl rfl (nT (decide_eq_false c215))) (yCall FN_11 (a2 (et rfl rfl) (et rfl rfl))) (sparsekit_In_ok (hM := gr219) (hst := hst) (q1 := mhF)) ?_
                  clear hst
                  rintro _ w ⟨rfl, hst⟩
                  refine ⟨_, rfl, ?_⟩
                  refine DRz (l1 := [43, 44, 45]) (l2 := []) (by kernel_rfl) (by kernel_rfl) ?_
                  refine Ry rfl rfl (wg rfl rfl rfl (nT (decide_eq_false c215))) (ynot (et rfl rfl)) ?_
                  refine Ry rfl rfl (wg rfl rfl rfl (bfalse c212)) (ypt (v := .bool r214) (et rfl rfl) (nT (decide_eq_false c215)) (eqv hr52 (et rfl rfl))) ?_
                  refine Ry rfl rfl wn (ypf (v := .bool r202) (et rfl rfl) (bfalse c212) (eqv hr50 (et rfl rfl))) ?_
                  refine Rn QSn ?_
                  exact j41 _ _ ⟨e27_0, e27_7, e27_8, e27_10, rfl, (hst.facts (allC (mtF (mtF mhF)) (allC (mtF (mtF (mtF mhF))) (allC (mtF (mtF (mtF (mtF mhF)))) (allT (allT (allT (allT (allT allI)))))))))⟩
        clear hst
        rintro f w ⟨e203_0, e203_7, e203_8, e203_10, e203_92, hst⟩
        refine k115 _ _ ?_
        rcases iteS hM27 with ⟨c220, hM27⟩ | ⟨c220, hM27⟩
        · refine condT (et rfl e203_92) c220 ?_
          refine seqQ fun Q116 k116 z116 => ?_
          refine wp_region_lit ?_
          refine Y wn rfl (ya (v := .bool false) rfl) ?_
          refine wpList_nil ?_
          refine k116 _ _ ?_
          refine wp_ret ?_
          refine qb114 _ _ _ ?_
          refine z113 _ _ _ rfl ?_
          obtain rfl := someI hM27
          refine zz27 _ _ _ _ rfl rfl ?_
          exact je27_1 _ _ rfl ((hst.pk 2 [] rfl).facts (allT (allT (allT allI)))) (ho27 _ rfl)
        · refine condF (et rfl e203_92) (bfalse c220) ?_
          refine wp_skip ?_
          refine qb114 _ _ _ ?_
          refine k113 _ _ ?_
          refine wp_region_lit ?_
          refine Y wn rfl (ym (v := .int .i64 x44) (et rfl e203_10)) ?_
          refine Y wn rfl (yadd (et rfl rfl) rfl) ?_
          refine Y wn rfl (ya (v := .int .i64 (wa .i64 x44 1)) (et rfl rfl)) ?_
          refine wpList_nil ?_
          obtain rfl := someI hM27
          exact n27 _ _ _ rfl ⟨_, _, rfl, rfl, e203_0, e203_7, e203_8, rfl, hst⟩
      · refine condF (et rfl rfl) (decide_eq_false c198) ?_
        refine wp_exit ?_
        refine z111 _ _ _ rfl ?_
        obtain rfl := someI hM27
        refine zz27 _ _ _ _ rfl rfl ?_
        exact je27_0 _ _ e27_0 e27_7 e27_8 hst (ho27 _ rfl)

theorem sparseref18_Ones_ok {w0 : World} {ros : List Fact} {rs : List Res} {w : World} {x1 : List (List Int)} {h2 : Hdr} {out : (List (List Int)) × (List Int) × (List (List Int))} (hM : sparseref18_Ones x1 = some out) (q1 : imm (rS (rI .i64)) h2.v x1 ∈ ros) (hst : St w0 ros (rs) w) :
    Calls Try.prog 15 #[.agg #[h2.v]] w (fun e w => ∃ (h100001 : Hdr) (h100003 : Hdr) (h100005 : Hdr), e = .returned (.agg #[h100001.v, h100003.v, h100005.v]) ∧ St w0 (imm (rS (rI .i64)) h100001.v out.1 :: ros) (row 3 (rI .i64) h100003.v out.2.1 :: row 22 (rS (rI .i64)) h100005.v out.2.2 :: rs) w) := by
  refine enterQ Try.func15 rfl Try.ntmps15 rfl fun Q hQ => ?_
  refine seqQ fun Q1 k1 z1 => ?_
  refine wp_region_lit ?_
  refine YB wn rfl (r_box (vals := [h2.v]) hst (et rfl rfl) rfl) ?_
  clear hst
  intro b3 w hst
  refine YB wn rfl (rAl hst ZT_29) ?_
  clear hst
  intro b4 w hst
  refine wpList_nil ?_
  refine k1 _ _ ?_
  refine seqQ fun Q2 k2 z2 => ?_
  refine wp_region_lit ?_
  refine Y wn rfl (yLbs (us := [h2.v]) ST_27 (et rfl rfl) hst (mtR mhR) rfl rfl) ?_
  refine Y wn rfl (ybuild (us := [h2.v, hnil.v, hnil.v]) [(0, .agg #[h2.v])] SO_29 (bp1 (et rfl rfl)) rfl) ?_
  refine YB wn rfl (rAl hst ZT_29) ?_
  clear hst
  intro b5 w hst
  refine YT wn rfl (r_stbn (vals' := [h2.v, hnil.v, hnil.v]) (us := [h2.v, hnil.v, hnil.v]) hst ST_29 (et rfl rfl) (et rfl rfl) rfl rfl (one_of rfl) rfl) ?_
  clear hst
  intro w hst
  refine wpList_nil ?_
  refine k2 _ _ ?_
  refine seqQ fun Q3 k3 z3 => ?_
  refine seqQ fun Q4 k4 z4 => ?_
  refine wp_region_lit ?_
  refine Y wn rfl (ya (v := .int .i64 0) rfl) ?_
  refine wpList_nil ?_
  refine k4 _ _ ?_
  refine blockQ fun Q5 qb5 => ?_
  obtain ⟨o3, go3, hM⟩ := bs hM
  have je3_0 : ∀ (x83 : List Int) (x85 : List (List Int)) (h82 : Hdr) (h84 : Hdr) (f : Nat → Value) (w : World), f 2 = .pointer (some ⟨b4, 0, none⟩) → f 3 = .pointer (some ⟨b5, 0, none⟩) → St w0 (ros) (box b4 29 [hnil.v, hnil.v, hnil.v] :: row 3 (rI .i64) h82.v x83 :: row 22 (rS (rI .i64)) h84.v x85 :: box b5 29 [h2.v, h82.v, h84.v] :: rs) w → (x83, x85) = o3 → Q5 (.exit 0) (fr 41 f) w := by
    intro x83 x85 h82 h84 f w eje3_0_2 eje3_0_3 hst ho
    subst ho
    refine qb5 _ _ _ ?_
    refine k3 _ _ ?_
    refine seqQ fun Q48 k48 z48 => ?_
    refine wp_region_lit ?_
    refine Y wn rfl (yLbs (us := [h2.v, h82.v, h84.v]) ST_29 (et rfl eje3_0_3) hst (mtR (mtR (mtR mhR))) rfl rfl) ?_
    refine YT wn rfl (r_stbn (vals' := [h2.v, h82.v, h84.v]) (us := [h2.v, h82.v, h84.v]) hst ST_29 (et rfl eje3_0_2) (et rfl rfl) rfl rfl (one_of rfl) rfl) ?_
    clear hst
    intro w hst
    refine wpList_nil ?_
    refine k48 _ _ ?_
    refine wp_ret ?_
    obtain rfl := someI hM
    exact hQ _ _ _ (fin1r Try.results15 (rcs2 rfl eje3_0_2 hst mhR ST_29 rfl) ⟨_, _, _, rfl, ((hst.pk 4 [1, 1] rfl).facts (allC q1 allI))⟩)
  replace hst := hst.rowNh 3 (rI .i64)
  replace hst := hst.rowNh 22 (rS (rI .i64))
  refine loopQ (fun s a w => ∃ (x40 : List Int) (x42 : List (List Int)) (x43 : Int) (f : Nat → Value) (h39 : Hdr) (h41 : Hdr), (x40, x42, x43) = s ∧ a = fr 41 f ∧ f 1 = .pointer (some ⟨b3, 0, none⟩) ∧ f 2 = .pointer (some ⟨b4, 0, none⟩) ∧ f 3 = .pointer (some ⟨b5, 0, none⟩) ∧ f 4 = .int .i64 x43 ∧ St w0 (ros) (box b3 27 [h2.v] :: box b4 29 [hnil.v, hnil.v, hnil.v] :: row 3 (rI .i64) h39.v x40 :: row 22 (rS (rI .i64)) h41.v x42 :: box b5 29 [h2.v, h39.v, h41.v] :: rs) w) go3 ⟨_, _, _, _, _, _, rfl, rfl, rfl, rfl, rfl, rfl, (hst.pk 5 [4, 3, 1, 0, 0] rfl)⟩ ?_
  clear hst
  rintro _ _ w r3_ ⟨x40, x42, x43, f, h39, h41, rfl, rfl, e3_1, e3_2, e3_3, e3_4, hst⟩ hM3 ho3 Q100003 n3 zz3
  refine seqQ fun Q49 k49 z49 => ?_
  refine seqQ fun Q50 k50 z50 => ?_
  refine wp_region_lit ?_
  refine Y wn rfl (ym (v := .int .i64 x43) (et rfl e3_4)) ?_
  refine Y wn rfl (yFb FL_27_0 (et rfl e3_1)) ?_
  refine Y wn rfl (yLb (u := h2.v) O_25 (et rfl rfl) hst mhR rfl) ?_
  refine Y wn rfl (yLen SL_25 (et rfl rfl) hst (rdI q1)) ?_
  refine Y wn rfl (ylss (et rfl rfl) (et rfl rfl)) ?_
  refine wpList_nil ?_
  refine k50 _ _ ?_
  rcases iteS hM3 with ⟨c86, hM3⟩ | ⟨c86, hM3⟩
  · refine condT (et rfl rfl) (decide_eq_true c86) ?_
    refine wp_skip ?_
    refine k49 _ _ ?_
    refine seqQ fun Q51 k51 z51 => ?_
    refine blockQ fun Q52 qb52 => ?_
    refine seqQ fun Q53 k53 z53 => ?_
    refine wp_region_lit ?_
    refine Y wn rfl (ya (v := hnil.v) rfl) ?_
    refine wpList_nil ?_
    refine k53 _ _ ?_
    refine seqQ fun Q54 k54 z54 => ?_
    refine seqQ fun Q55 k55 z55 => ?_
    refine wp_region_lit ?_
    refine Y wn rfl (ya (v := .int .i64 0) rfl) ?_
    refine wpList_nil ?_
    refine k55 _ _ ?_
    refine blockQ fun Q56 qb56 => ?_
    obtain ⟨o4, go4, hM3⟩ := bs hM3
    have je4_0 : ∀ (x106 : List Int) (h105 : Hdr) (f : Nat → Value) (w : World), f 1 = .pointer (some ⟨b3, 0, none⟩) → f 2 = .pointer (some ⟨b4, 0, none⟩) → f 3 = .pointer (some ⟨b5, 0, none⟩) → f 4 = .int .i64 x43 → f 5 = h105.v → St w0 (ros) (box b3 27 [h2.v] :: box b4 29 [hnil.v, hnil.v, hnil.v] :: row 3 (rI .i64) h39.v x40 :: row 22 (rS (rI .i64)) h41.v x42 :: box b5 29 [h2.v, h39.v, h41.v] :: row 3 (rI .i64) h105.v x106 :: rs) w → x106 = o4 → Q56 (.exit 2) (fr 41 f) w := by
      intro x106 h105 f w eje4_0_1 eje4_0_2 eje4_0_3 eje4_0_4 eje4_0_5 hst ho
      subst ho
      refine qb56 _ _ _ ?_
      refine k54 _ _ ?_
      refine seqQ fun Q65 k65 z65 => ?_
      refine wp_region_lit ?_
      refine Y wn rfl (yFb FL_29_1 (et rfl eje4_0_3)) ?_
      refine Y wn rfl (yLb (u := h39.v) O_22 (et rfl rfl) hst (mtR (mtR (mtR (mtR mhR)))) rfl) ?_
      refine YH wn rfl (rLt (n := 1) (l := [1]) hst SL_22 [.int .i64 1] (bp1 rfl) rfl rfl (mks1 (cs := [.int .i64 1]) rfl mkI mks0)) ?_
      clear hst
      intro h107 w hst
      obtain ⟨x109, gx109, hM3⟩ := bs hM3
      replace hst := hst.pk 4 [3, 0, 0, 0] rfl
      refine YH wn rfl (rAp hst SL_22 (et rfl rfl) (et rfl rfl) (rdO (mtR mhR)) gx109) ?_
      clear hst
      intro h108 w hst
      refine Y wn rfl (yFb FL_29_1 (et rfl eje4_0_3)) ?_
      replace hst := hst.pk 6 [5, 0, 0, 0, 0, 0] rfl
      refine YT wn rfl (r_stb1 (vals' := [h2.v, h108.v, h41.v]) hst O_22 (et rfl rfl) (et rfl rfl) rfl rfl rfl rfl) ?_
      clear hst
      intro w hst
      refine wpList_nil ?_
      refine k65 _ _ ?_
      refine wp_region_lit ?_
      refine Y wn rfl (yFb FL_29_2 (et rfl eje4_0_3)) ?_
      refine Y wn rfl (yLb (u := h41.v) O_25 (et rfl rfl) hst mhR rfl) ?_
      refine Y wn rfl (ym (v := h105.v) (et rfl eje4_0_5)) ?_
      replace hst := hst.pk 7 [6, 0, 0, 0, 0, 0, 0] rfl
      replace hst := hst.fz
      refine YH wn rfl (rLt (n := 1) (l := [x106]) hst SL_25 [h105.v] (bp1 (et rfl rfl)) rfl rfl (mks1 (cs := [h105.v]) rfl (mkS mhF) mks0)) ?_
      clear hst
      intro h110 w hst
      obtain ⟨x112, gx112, hM3⟩ := bs hM3
      replace hst := hst.pk 7 [6, 0, 0, 0, 0, 0, 0] rfl
      refine YH wn rfl (rAp hst SL_25 (et rfl rfl) (et rfl rfl) (rdO (mtR mhR)) gx112) ?_
      clear hst
      intro h111 w hst
      refine Y wn rfl (yFb FL_29_2 (et rfl eje4_0_3)) ?_
      replace hst := hst.pk 3 [2, 0, 0] rfl
      refine YT wn rfl (r_stb1 (vals' := [h2.v, h108.v, h111.v]) hst O_25 (et rfl rfl) (et rfl rfl) rfl rfl rfl rfl) ?_
      clear hst
      intro w hst
      refine wpList_nil ?_
      refine qb52 _ _ _ ?_
      refine k51 _ _ ?_
      refine wp_region_lit ?_
      refine Y wn rfl (ym (v := .int .i64 x43) (et rfl eje4_0_4)) ?_
      refine Y wn rfl (yadd (et rfl rfl) rfl) ?_
      refine Y wn rfl (ya (v := .int .i64 (wa .i64 x43 1)) (et rfl rfl)) ?_
      refine wpList_nil ?_
      obtain rfl := someI hM3
      exact n3 _ _ _ rfl ⟨_, _, _, _, _, _, rfl, rfl, eje4_0_1, eje4_0_2, eje4_0_3, rfl, ((hst.pk 7 [5, 5, 3, 1, 0] rfl).facts (allT allI))⟩
    replace hst := hst.rowNh 3 (rI .i64)
    refine loopQ (fun s a w => ∃ (x94 : List Int) (x95 : Int) (f : Nat → Value) (h93 : Hdr), (x94, x95) = s ∧ a = fr 41 f ∧ f 1 = .pointer (some ⟨b3, 0, none⟩) ∧ f 2 = .pointer (some ⟨b4, 0, none⟩) ∧ f 3 = .pointer (some ⟨b5, 0, none⟩) ∧ f 4 = .int .i64 x43 ∧ f 5 = h93.v ∧ f 6 = .int .i64 x95 ∧ St w0 (ros) (box b3 27 [h2.v] :: box b4 29 [hnil.v, hnil.v, hnil.v] :: row 3 (rI .i64) h39.v x40 :: row 22 (rS (rI .i64)) h41.v x42 :: box b5 29 [h2.v, h39.v, h41.v] :: row 3 (rI .i64) h93.v x94 :: rs) w) go4 ⟨_, _, _, _, rfl, rfl, e3_1, e3_2, e3_3, e3_4, rfl, rfl, (hst.pk 6 [1, 1, 1, 1, 1, 0] rfl)⟩ ?_
    clear hst
    rintro _ _ w r4_ ⟨x94, x95, f, h93, rfl, rfl, e4_1, e4_2, e4_3, e4_4, e4_5, e4_6, hst⟩ hM4 ho4 Q100004 n4 zz4
    refine seqQ fun Q66 k66 z66 => ?_
    refine seqQ fun Q67 k67 z67 => ?_
    refine wp_region_lit ?_
    refine Y wn rfl (ym (v := .int .i64 x95) (et rfl e4_6)) ?_
    refine Y wn rfl (yFb FL_27_0 (et rfl e4_1)) ?_
    refine Y wn rfl (yLb (u := h2.v) O_25 (et rfl rfl) hst mhR rfl) ?_
    refine Y wn rfl (ym (v := .int .i64 x43) (et rfl e4_4)) ?_
    obtain ⟨x113, gx113, hM4⟩ := bs hM4
    refine Y wn rfl (yIa SL_25 (et rfl rfl) (et rfl rfl) hst (rdI q1) gx113) ?_
    obtain ⟨h114, hst⟩ := iLs hst q1 gx113
    refine Y wn rfl (yCt O_22 (et rfl rfl) hst (mtF mhF) rfl) ?_
    refine Y wn rfl (yLen SL_22 (et rfl rfl) hst (rdI mhF)) ?_
    refine Y wn rfl (ylss (et rfl rfl) (et rfl rfl)) ?_
    refine wpList_nil ?_
    refine k67 _ _ ?_
    rcases iteS hM4 with ⟨c115, hM4⟩ | ⟨c115, hM4⟩
    · refine condT (et rfl rfl) (decide_eq_true c115) ?_
      refine wp_skip ?_
      refine k66 _ _ ?_
      refine seqQ fun Q68 k68 z68 => ?_
      refine blockQ fun Q69 qb69 => ?_
      refine wp_region_lit ?_
      refine Y wn rfl (ym (v := h93.v) (et rfl e4_5)) ?_
      refine YH wn rfl (rLt (n := 1) (l := [1]) hst SL_22 [.int .i64 1] (bp1 rfl) rfl rfl (mks1 (cs := [.int .i64 1]) rfl mkI mks0)) ?_
      clear hst
      intro h116 w hst
      obtain ⟨x118, gx118, hM4⟩ := bs hM4
      replace hst := hst.pk 7 [6, 0, 0, 0, 0, 0, 0] rfl
      refine YH wn rfl (rAp hst SL_22 (et rfl rfl) (et rfl rfl) (rdO (mtR mhR)) gx118) ?_
      clear hst
      intro h117 w hst
      refine Y wn rfl (ya (v := h117.v) (et rfl rfl)) ?_
      refine wpList_nil ?_
      refine qb69 _ _ _ ?_
      refine k68 _ _ ?_
      refine wp_region_lit ?_
      refine Y wn rfl (ym (v := .int .i64 x95) (et rfl e4_6)) ?_
      refine Y wn rfl (yadd (et rfl rfl) rfl) ?_
      refine Y wn rfl (ya (v := .int .i64 (wa .i64 x95 1)) (et rfl rfl)) ?_
      refine wpList_nil ?_
      obtain rfl := someI hM4
      exact n4 _ _ _ rfl ⟨_, _, _, _, rfl, rfl, e4_1, e4_2, e4_3, e4_4, rfl, rfl, ((hst.pk 7 [2, 2, 2, 2, 2, 0] rfl).facts (allT (allT allI)))⟩
    · refine condF (et rfl rfl) (decide_eq_false c115) ?_
      refine wp_exit ?_
      refine z66 _ _ _ rfl ?_
      obtain rfl := someI hM4
      refine zz4 _ _ _ _ rfl rfl ?_
      exact je4_0 _ _ _ _ e4_1 e4_2 e4_3 e4_4 e4_5 (hst.facts (allT (allT allI))) (ho4 _ rfl)
  · refine condF (et rfl rfl) (decide_eq_false c86) ?_
    refine wp_exit ?_
    refine z49 _ _ _ rfl ?_
    obtain rfl := someI hM3
    refine zz3 _ _ _ _ rfl rfl ?_
    exact je3_0 _ _ _ _ _ _ e3_2 e3_3 (hst.pk 5 [1, 1, 1, 1] rfl) (ho3 _ rfl)

theorem dissect_Bisect_ok {w0 : World} {ros : List Fact} {rs : List Res} {w : World} {x1 : List (List Int)} {x3 : List Int} {x5 : List (List Int)} {h2 : Hdr} {h4 : Hdr} {h6 : Hdr} {out : (List Int) × Int} (hM : dissect_Bisect x1 x3 x5 = some out) (q1 : imm (rS (rI .i64)) h2.v x1 ∈ ros) (q2 : imm (rI .i64) h4.v x3 ∈ ros) (q3 : imm (rS (rI .i64)) h6.v x5 ∈ ros) (hst : St w0 ros (rs) w) :
    Calls Try.prog 14 #[.agg #[h2.v, h4.v, h6.v]] w (fun e w => ∃ (h100001 : Hdr), e = .returned (.tuple #[h100001.v, .int .i64 out.2]) ∧ St w0 (ros) (row 3 (rI .i64) h100001.v out.1 :: rs) w) := by
  refine enterQ Try.func14 rfl Try.ntmps14 rfl fun Q hQ => ?_
  refine seqQ fun Q1 k1 z1 => ?_
  refine wp_region_lit ?_
  refine YB wn rfl (r_box (vals := [h2.v, h4.v, h6.v]) hst (et rfl rfl) rfl) ?_
  clear hst
  intro b7 w hst
  refine Y wn rfl (ya (v := hnil.v) rfl) ?_
  refine Y wn rfl (ya (v := .int .i64 0) rfl) ?_
  refine wpList_nil ?_
  refine k1 _ _ ?_
  refine seqQ fun Q2 k2 z2 => ?_
  refine wp_region_lit ?_
  refine Y wn rfl (yLbs (us := [h2.v, h4.v, h6.v]) ST_29 (et rfl rfl) hst mhR rfl rfl) ?_
  obtain ⟨r8, gr8, hM⟩ := bs hM
  refine Yc wn rfl (yCall FN_23 (a1 (et rfl rfl))) (dissect_CheckWeighted_ok (hM := gr8) (hst := hst) (q1 := q1) (q2 := q2) (q3 := q3)) ?_
  clear hst
  rintro _ w ⟨rfl, hst⟩
  refine ⟨_, rfl, ?_⟩
  refine Y wn rfl (ya (v := .int .i64 r8) (et rfl rfl)) ?_
  refine wpList_nil ?_
  refine k2 _ _ ?_
  refine seqQ fun Q3 k3 z3 => ?_
  refine seqQ fun Q4 k4 z4 => ?_
  refine wp_region_lit ?_
  refine Y wn rfl (ym (v := .int .i64 r8) (et rfl rfl)) ?_
  refine Y wn rfl (yneq (et rfl rfl) rfl) ?_
  refine wpList_nil ?_
  refine k4 _ _ ?_
  rcases iteS hM with ⟨c9, hM⟩ | ⟨c9, hM⟩
  · refine condF (et rfl rfl) (nF (decide_eq_true c9)) ?_
    refine wp_skip ?_
    refine k3 _ _ ?_
    refine seqQ fun Q5 k5 z5 => ?_
    refine wp_region_lit ?_
    refine Y wn rfl (yLbs (us := [h2.v, h4.v, h6.v]) ST_29 (et rfl rfl) hst mhR rfl rfl) ?_
    obtain ⟨r10, gr10, hM⟩ := bs hM
    refine Yc wn rfl (yCall FN_32 (a1 (et rfl rfl))) (dissect_bisect_ok (hM := gr10) (hst := hst) (q1 := q1) (q2 := q2) (q3 := q3)) ?_
    clear hst
    rintro _ w ⟨h11, rfl, hst⟩
    refine ⟨_, rfl, ?_⟩
    refine Y wn rfl (ym (v := .tuple #[h11.v, .bool r10.2]) (et rfl rfl)) ?_
    refine Y wn rfl (yx (v := h11.v) (et rfl rfl) rfl) ?_
    refine Y wn rfl (yx (v := .bool r10.2) (et rfl rfl) rfl) ?_
    refine Y wn rfl (ya (v := h11.v) (et rfl rfl)) ?_
    refine Y wn rfl (ya (v := .bool r10.2) (et rfl rfl)) ?_
    refine wpList_nil ?_
    refine k5 _ _ ?_
    refine seqQ fun Q6 k6 z6 => ?_
    refine seqQ fun Q7 k7 z7 => ?_
    refine wp_region_lit ?_
    refine Y wn rfl (ym (v := .bool r10.2) (et rfl rfl)) ?_
    refine Y wn rfl (ynot (et rfl rfl)) ?_
    refine wpList_nil ?_
    refine k7 _ _ ?_
    rcases iteS hM with ⟨c12, hM⟩ | ⟨c12, hM⟩
    · refine condF (et rfl rfl) (nF c12) ?_
      refine wp_skip ?_
      refine k6 _ _ ?_
      refine seqQ fun Q8 k8 z8 => ?_
      refine wp_region_lit ?_
      refine Y wn rfl (ym (v := h11.v) (et rfl rfl)) ?_
      refine Y wn rfl (ya (v := h11.v) (et rfl rfl)) ?_
      refine Y wn rfl (ya (v := .int .i64 0) rfl) ?_
      refine wpList_nil ?_
      refine k8 _ _ ?_
      refine wp_ret ?_
      obtain rfl := someI hM
      exact hQ _ _ _ (fin2r Try.results14 ⟨rfl, rfl⟩ ⟨rfl, rfl⟩ ⟨_, rfl, (hst.pk 2 [0] rfl)⟩)
    · refine condT (et rfl rfl) (nT (bfalse c12)) ?_
      refine seqQ fun Q9 k9 z9 => ?_
      refine wp_region_lit ?_
      refine Y wn rfl (ya (v := hnil.v) rfl) ?_
      refine Y wn rfl (ya (v := .int .i64 3) rfl) ?_
      refine wpList_nil ?_
      refine k9 _ _ ?_
      refine wp_ret ?_
      refine z6 _ _ _ rfl ?_
      obtain rfl := someI hM
      replace hst := hst.rowNh 3 (rI .i64)
      exact hQ _ _ _ (fin2r Try.results14 ⟨rfl, rfl⟩ ⟨rfl, rfl⟩ ⟨_, rfl, (hst.pk 3 [0] rfl)⟩)
  · refine condT (et rfl rfl) (nT (decide_eq_false c9)) ?_
    refine seqQ fun Q10 k10 z10 => ?_
    refine wp_region_lit ?_
    refine Y wn rfl (ym (v := .int .i64 r8) (et rfl rfl)) ?_
    refine Y wn rfl (ya (v := hnil.v) rfl) ?_
    refine Y wn rfl (ya (v := .int .i64 r8) (et rfl rfl)) ?_
    refine wpList_nil ?_
    refine k10 _ _ ?_
    refine wp_ret ?_
    refine z3 _ _ _ rfl ?_
    obtain rfl := someI hM
    replace hst := hst.rowNh 3 (rI .i64)
    exact hQ _ _ _ (fin2r Try.results14 ⟨rfl, rfl⟩ ⟨rfl, rfl⟩ ⟨_, rfl, (hst.pk 2 [0] rfl)⟩)

theorem sparsekit_TwinInts_ok {w0 : World} {ros : List Fact} {rs : List Res} {w : World} {x1 : List Int} {h2 : Hdr} {out : (List Int)} (hM : sparsekit_TwinInts x1 = some out) (q1 : imm (rI .i64) h2.v x1 ∈ ros) (hst : St w0 ros (rs) w) :
    Calls Try.prog 17 #[h2.v] w (fun e w => ∃ (h100001 : Hdr), e = .returned (h100001.v) ∧ St w0 (ros) (row 3 (rI .i64) h100001.v out :: rs) w) := by
  refine enterQ Try.func17 rfl Try.ntmps17 rfl fun Q hQ => ?_
  refine seqQ fun Q1 k1 z1 => ?_
  refine wp_region_lit ?_
  refine Y wn rfl (ya (v := hnil.v) rfl) ?_
  refine wpList_nil ?_
  refine k1 _ _ ?_
  refine seqQ fun Q2 k2 z2 => ?_
  refine wp_region_lit ?_
  refine Y wn rfl (ya (v := hnil.v) rfl) ?_
  refine wpList_nil ?_
  refine k2 _ _ ?_
  refine seqQ fun Q3 k3 z3 => ?_
  refine seqQ fun Q4 k4 z4 => ?_
  refine wp_region_lit ?_
  refine Y wn rfl (ya (v := .int .i64 0) rfl) ?_
  refine wpList_nil ?_
  refine k4 _ _ ?_
  refine blockQ fun Q5 qb5 => ?_
  obtain ⟨o1, go1, hM⟩ := bs hM
  have je1_0 : ∀ (x20 : List Int) (h19 : Hdr) (f : Nat → Value) (w : World), f 3 = h19.v → St w0 (ros) (row 3 (rI .i64) h19.v x20 :: rs) w → x20 = o1 → Q5 (.exit 0) (fr 19 f) w := by
    intro x20 h19 f w eje1_0_3 hst ho
    subst ho
    refine qb5 _ _ _ ?_
    refine k3 _ _ ?_
    refine seqQ fun Q14 k14 z14 => ?_
    refine wp_region_lit ?_
    refine Y wn rfl (ym (v := h19.v) (et rfl eje1_0_3)) ?_
    refine Y wn rfl (ya (v := h19.v) (et rfl rfl)) ?_
    refine wpList_nil ?_
    refine k14 _ _ ?_
    refine wp_ret ?_
    obtain rfl := someI hM
    exact hQ _ _ _ (fin1r Try.results17 ⟨rfl, rfl⟩ ⟨_, rfl, hst⟩)
  replace hst := hst.rowNh 3 (rI .i64)
  refine loopQ (fun s a w => ∃ (x9 : List Int) (x10 : Int) (f : Nat → Value) (h8 : Hdr), (x9, x10) = s ∧ a = fr 19 f ∧ f 0 = h2.v ∧ f 3 = h8.v ∧ f 4 = .int .i64 x10 ∧ St w0 (ros) (row 3 (rI .i64) h8.v x9 :: rs) w) go1 ⟨_, _, _, _, rfl, rfl, rfl, rfl, rfl, hst⟩ ?_
  clear hst
  rintro _ _ w r1_ ⟨x9, x10, f, h8, rfl, rfl, e1_0, e1_3, e1_4, hst⟩ hM1 ho1 Q100001 n1 zz1
  refine seqQ fun Q15 k15 z15 => ?_
  refine seqQ fun Q16 k16 z16 => ?_
  refine wp_region_lit ?_
  refine Y wn rfl (ym (v := .int .i64 x10) (et rfl e1_4)) ?_
  refine Y wn rfl (ym (v := h2.v) (et rfl e1_0)) ?_
  refine Y wn rfl (yLen SL_22 (et rfl rfl) hst (rdI q1)) ?_
  refine Y wn rfl (ylss (et rfl rfl) (et rfl rfl)) ?_
  refine wpList_nil ?_
  refine k16 _ _ ?_
  rcases iteS hM1 with ⟨c21, hM1⟩ | ⟨c21, hM1⟩
  · refine condT (et rfl rfl) (decide_eq_true c21) ?_
    refine wp_skip ?_
    refine k15 _ _ ?_
    refine seqQ fun Q17 k17 z17 => ?_
    refine blockQ fun Q18 qb18 => ?_
    refine wp_region_lit ?_
    refine Y wn rfl (ym (v := h8.v) (et rfl e1_3)) ?_
    refine Y wn rfl (ym (v := h2.v) (et rfl e1_0)) ?_
    refine Y wn rfl (ym (v := .int .i64 x10) (et rfl e1_4)) ?_
    obtain ⟨x22, gx22, hM1⟩ := bs hM1
    refine Y wn rfl (yIa SL_22 (et rfl rfl) (et rfl rfl) hst (rdI q1) gx22) ?_
    refine Y wn rfl (yI O_3 (et rfl rfl) hst (rdI q1) gx22) ?_
    refine YH wn rfl (rLt (n := 1) (l := [x22]) hst SL_22 [.int .i64 x22] (bp1 (et rfl rfl)) rfl rfl (mks1 (cs := [.int .i64 x22]) rfl mkI mks0)) ?_
    clear hst
    intro h23 w hst
    obtain ⟨x25, gx25, hM1⟩ := bs hM1
    replace hst := hst.pk 2 [1, 0] rfl
    refine YH wn rfl (rAp hst SL_22 (et rfl rfl) (et rfl rfl) (rdO (mtR mhR)) gx25) ?_
    clear hst
    intro h24 w hst
    refine Y wn rfl (ya (v := h24.v) (et rfl rfl)) ?_
    refine wpList_nil ?_
    refine qb18 _ _ _ ?_
    refine k17 _ _ ?_
    refine wp_region_lit ?_
    refine Y wn rfl (ym (v := .int .i64 x10) (et rfl e1_4)) ?_
    refine Y wn rfl (yadd (et rfl rfl) rfl) ?_
    refine Y wn rfl (ya (v := .int .i64 (wa .i64 x10 1)) (et rfl rfl)) ?_
    refine wpList_nil ?_
    obtain rfl := someI hM1
    exact n1 _ _ _ rfl ⟨_, _, _, _, rfl, rfl, e1_0, rfl, rfl, (hst.pk 2 [0] rfl)⟩
  · refine condF (et rfl rfl) (decide_eq_false c21) ?_
    refine wp_exit ?_
    refine z15 _ _ _ rfl ?_
    obtain rfl := someI hM1
    refine zz1 _ _ _ _ rfl rfl ?_
    exact je1_0 _ _ _ _ e1_3 hst (ho1 _ rfl)

theorem sparsekit_Perm_ok {w0 : World} {ros : List Fact} {rs : List Res} {w : World} {x1 : List Int} {x3 : Int} {h2 : Hdr} {out : Bool} (hM : sparsekit_Perm x1 x3 = some out) (q1 : imm (rI .i64) h2.v x1 ∈ ros) (hst : St w0 ros (rs) w) :
    Calls Try.prog 16 #[h2.v, .int .i64 x3] w (fun e w => e = .returned (.bool out) ∧ St w0 (ros) (rs) w) := by
  refine enterQ Try.func16 rfl Try.ntmps16 rfl fun Q hQ => ?_
  refine seqQ fun Q1 k1 z1 => ?_
  refine wp_region_lit ?_
  refine Y wn rfl (ya (v := .bool false) rfl) ?_
  refine wpList_nil ?_
  refine k1 _ _ ?_
  refine seqQ fun Q2 k2 z2 => ?_
  refine seqQ fun Q3 k3 z3 => ?_
  refine wp_region_lit ?_
  refine Y wn rfl (ym (v := h2.v) (et rfl rfl)) ?_
  refine Y wn rfl (yLen SL_22 (et rfl rfl) hst (rdI q1)) ?_
  refine Y wn rfl (ym (v := .int .i64 x3) (et rfl rfl)) ?_
  refine Y wn rfl (yneq (et rfl rfl) (et rfl rfl)) ?_
  refine wpList_nil ?_
  refine k3 _ _ ?_
  rcases iteS hM with ⟨c4, hM⟩ | ⟨c4, hM⟩
  · refine condF (et rfl rfl) (nF (decide_eq_true c4)) ?_
    refine wp_skip ?_
    refine k2 _ _ ?_
    refine seqQ fun Q4 k4 z4 => ?_
    refine wp_region_lit ?_
    refine Y wn rfl (ym (v := .int .i64 x3) (et rfl rfl)) ?_
    obtain ⟨x7, gx7, hM⟩ := bs hM
    refine YH wn rfl (rMk hst SL_67 (et rfl rfl) gx7) ?_
    clear hst
    intro h5 w hst
    refine Y wn rfl (ya (v := h5.v) (et rfl rfl)) ?_
    refine wpList_nil ?_
    refine k4 _ _ ?_
    refine seqQ fun Q5 k5 z5 => ?_
    refine seqQ fun Q6 k6 z6 => ?_
    refine wp_region_lit ?_
    refine Y wn rfl (ya (v := .int .i64 0) rfl) ?_
    refine wpList_nil ?_
    refine k6 _ _ ?_
    refine blockQ fun Q7 qb7 => ?_
    obtain ⟨o5, go5, hM⟩ := bs hM
    have je5_0 : ∀ (f : Nat → Value) (w : World), St w0 (ros) (rs) w → .inl () = o5 → Q7 (.exit 0) (fr 46 f) w := by
      intro f w hst ho
      subst ho
      refine qb7 _ _ _ ?_
      refine k5 _ _ ?_
      refine seqQ fun Q22 k22 z22 => ?_
      refine wp_region_lit ?_
      refine Y wn rfl (ya (v := .bool true) rfl) ?_
      refine wpList_nil ?_
      refine k22 _ _ ?_
      refine wp_ret ?_
      obtain rfl := someI hM
      exact hQ _ _ _ (fin1r Try.results16 ⟨rfl, rfl⟩ ⟨rfl, hst⟩)
    have je5_1 : ∀ (f : Nat → Value) (w : World), f 4 = .bool false → St w0 (ros) (rs) w → .inr () = o5 → Q7 .ret (fr 46 f) w := by
      intro f w eje5_1_4 hst ho
      subst ho
      refine qb7 _ _ _ ?_
      refine z5 _ _ _ rfl ?_
      obtain rfl := someI hM
      exact hQ _ _ _ (fin1r Try.results16 ⟨rfl, eje5_1_4⟩ ⟨rfl, hst⟩)
    refine loopQ (fun s a w => ∃ (x25 : List Bool) (x26 : Int) (f : Nat → Value), (x25, x26) = s ∧ a = fr 46 f ∧ f 0 = h2.v ∧ f 1 = .int .i64 x3 ∧ f 5 = h5.v ∧ f 6 = .int .i64 x26 ∧ St w0 (ros) (row 4 rB h5.v x25 :: rs) w) go5 ⟨_, _, _, rfl, rfl, rfl, rfl, rfl, rfl, hst⟩ ?_
    clear hst
    rintro _ _ w r5_ ⟨x25, x26, f, rfl, rfl, e5_0, e5_1, e5_5, e5_6, hst⟩ hM5 ho5 Q100005 n5 zz5
    refine seqQ fun Q23 k23 z23 => ?_
    refine seqQ fun Q24 k24 z24 => ?_
    refine wp_region_lit ?_
    refine Y wn rfl (ym (v := .int .i64 x26) (et rfl e5_6)) ?_
    refine Y wn rfl (ym (v := .int .i64 x3) (et rfl e5_1)) ?_
    refine Y wn rfl (ylss (et rfl rfl) (et rfl rfl)) ?_
    refine wpList_nil ?_
    refine k24 _ _ ?_
    rcases iteS hM5 with ⟨c46, hM5⟩ | ⟨c46, hM5⟩
    · refine condT (et rfl rfl) (decide_eq_true c46) ?_
      refine wp_skip ?_
      refine k23 _ _ ?_
      refine seqQ fun Q25 k25 z25 => ?_
      refine blockQ fun Q26 qb26 => ?_
      refine seqQ fun Q27 k27 z27 => ?_
      refine seqQ fun Q28 k28 z28 => ?_
      refine wp_region_lit ?_
      refine Y wn rfl (ym (v := h2.v) (et rfl e5_0)) ?_
      refine Y wn rfl (ym (v := .int .i64 x26) (et rfl e5_6)) ?_
      obtain ⟨x47, gx47, hM5⟩ := bs hM5
      refine Y wn rfl (yIa SL_22 (et rfl rfl) (et rfl rfl) hst (rdI q1) gx47) ?_
      refine Y wn rfl (yI O_3 (et rfl rfl) hst (rdI q1) gx47) ?_
      refine Y wn rfl (ylss (et rfl rfl) rfl) ?_
      refine Y wn rfl (ym (v := .bool (decide (x47 < 0))) (et rfl rfl)) ?_
      obtain ⟨r49, gr49, hM5⟩ := bs hM5
      refine joinW 7 (fun f w => f 0 = h2.v ∧ f 1 = .int .i64 x3 ∧ f 5 = h5.v ∧ f 6 = .int .i64 x26 ∧ f 30 = .bool r49 ∧ St w0 (ros) (row 4 rB h5.v x25 :: rs) w) (fun j6 => ?_) ?_
      · rcases iteS gr49 with ⟨c51, gr49⟩ | ⟨c51, gr49⟩
        · refine Gn (wx rfl rfl rfl (decide_eq_true c51)) rfl ?_
          refine Gn (wx rfl rfl rfl (decide_eq_true c51)) rfl ?_
          refine Gn (wx rfl rfl rfl (decide_eq_true c51)) rfl ?_
          refine Gn (wx rfl rfl rfl (decide_eq_true c51)) rfl ?_
          refine Gn (wx rfl rfl rfl (decide_eq_true c51)) rfl ?_
          refine Gn (wx rfl rfl rfl (decide_eq_true c51)) rfl ?_
          refine Y wn rfl (ypt (v := .bool true) (et rfl rfl) (decide_eq_true c51) rfl) ?_
          obtain rfl := someI gr49
          exact j6 _ _ ⟨e5_0, e5_1, e5_5, e5_6, rfl, hst⟩
        · refine Y (wg rfl rfl rfl (decide_eq_false c51)) rfl (ym (v := h2.v) (et rfl e5_0)) ?_
          refine Y (wg rfl rfl rfl (decide_eq_false c51)) rfl (ym (v := .int .i64 x26) (et rfl e5_6)) ?_
          obtain ⟨x52, gx52, gr49⟩ := bs gr49
          refine Y (wg rfl rfl rfl (decide_eq_false c51)) rfl (yIa SL_22 (et rfl rfl) (et rfl rfl) hst (rdI q1) gx52) ?_
          refine Y (wg rfl rfl rfl (decide_eq_false c51)) rfl (yI O_3 (et rfl rfl) hst (rdI q1) gx52) ?_
          refine Y (wg rfl rfl rfl (decide_eq_false c51)) rfl (ym (v := .int .i64 x3) (et rfl e5_1)) ?_
          refine Y (wg rfl rfl rfl (decide_eq_false c51)) rfl (ygeq (et rfl rfl) (et rfl rfl)) ?_
          refine Y wn rfl (ypf (v := .bool (decide (x3 ≤ x52))) (et rfl rfl) (decide_eq_false c51) (et rfl rfl)) ?_
          obtain rfl := someI gr49
          exact j6 _ _ ⟨e5_0, e5_1, e5_5, e5_6, rfl, hst⟩
      clear hst
      rintro f w ⟨e50_0, e50_1, e50_5, e50_6, e50_30, hst⟩
      refine Y wn rfl (ym (v := .bool r49) (et rfl e50_30)) ?_
      obtain ⟨r55, gr55, hM5⟩ := bs hM5
      refine joinW 8 (fun f w => f 0 = h2.v ∧ f 1 = .int .i64 x3 ∧ f 5 = h5.v ∧ f 6 = .int .i64 x26 ∧ f 39 = .bool r55 ∧ St w0 (ros) (row 4 rB h5.v x25 :: rs) w) (fun j7 => ?_) ?_
      · rcases iteS gr55 with ⟨c57, gr55⟩ | ⟨c57, gr55⟩
        · refine Gn (wx rfl rfl rfl c57) rfl ?_
          refine Gn (wx rfl rfl rfl c57) rfl ?_
          refine Gn (wx rfl rfl rfl c57) rfl ?_
          refine Gn (wx rfl rfl rfl c57) rfl ?_
          refine Gn (wx rfl rfl rfl c57) rfl ?_
          refine Gn (wx rfl rfl rfl c57) rfl ?_
          refine Gn (wx rfl rfl rfl c57) rfl ?_
          refine Y wn rfl (ypt (v := .bool true) (et rfl rfl) c57 rfl) ?_
          obtain rfl := someI gr55
          exact j7 _ _ ⟨e50_0, e50_1, e50_5, e50_6, rfl, hst⟩
        · refine Y (wg rfl rfl rfl (bfalse c57)) rfl (ym (v := h5.v) (et rfl e50_5)) ?_
          refine Y (wg rfl rfl rfl (bfalse c57)) rfl (ym (v := h2.v) (et rfl e50_0)) ?_
          refine Y (wg rfl rfl rfl (bfalse c57)) rfl (ym (v := .int .i64 x26) (et rfl e50_6)) ?_
          obtain ⟨x58, gx58, gr55⟩ := bs gr55
          refine Y (wg rfl rfl rfl (bfalse c57)) rfl (yIa SL_22 (et rfl rfl) (et rfl rfl) hst (rdI q1) gx58) ?_
          refine Y (wg rfl rfl rfl (bfalse c57)) rfl (yI O_3 (et rfl rfl) hst (rdI q1) gx58) ?_
          obtain ⟨x59, gx59, gr55⟩ := bs gr55
          refine Y (wg rfl rfl rfl (bfalse c57)) rfl (yIa SL_67 (et rfl rfl) (et rfl rfl) hst (rdO mhR) gx59) ?_
          refine Y (wg rfl rfl rfl (bfalse c57)) rfl (yB O_4 (et rfl rfl) hst (rdO mhR) gx59) ?_
          refine Y wn rfl (ypf (v := .bool x59) (et rfl rfl) (bfalse c57) (et rfl rfl)) ?_
          obtain rfl := someI gr55
          exact j7 _ _ ⟨e50_0, e50_1, e50_5, e50_6, rfl, hst⟩
      clear hst
      rintro f w ⟨e56_0, e56_1, e56_5, e56_6, e56_39, hst⟩
      refine wpList_nil ?_
      refine k28 _ _ ?_
      rcases iteS hM5 with ⟨c60, hM5⟩ | ⟨c60, hM5⟩
      · refine condT (et rfl e56_39) c60 ?_
        refine seqQ fun Q29 k29 z29 => ?_
        refine wp_region_lit ?_
        refine Y wn rfl (ya (v := .bool false) rfl) ?_
        refine wpList_nil ?_
        refine k29 _ _ ?_
        refine wp_ret ?_
        refine z27 _ _ _ rfl ?_
        refine qb26 _ _ _ ?_
        refine z25 _ _ _ rfl ?_
        obtain rfl := someI hM5
        refine zz5 _ _ _ _ rfl rfl ?_
        exact je5_1 _ _ rfl (hst.pk 1 [] rfl) (ho5 _ rfl)
      · refine condF (et rfl e56_39) (bfalse c60) ?_
        refine wp_skip ?_
        refine k27 _ _ ?_
        refine wp_region_lit ?_
        refine Y wn rfl (ym (v := h5.v) (et rfl e56_5)) ?_
        refine Y wn rfl (ym (v := h2.v) (et rfl e56_0)) ?_
        refine Y wn rfl (ym (v := .int .i64 x26) (et rfl e56_6)) ?_
        obtain ⟨x61, gx61, hM5⟩ := bs hM5
        refine Y wn rfl (yIa SL_22 (et rfl rfl) (et rfl rfl) hst (rdI q1) gx61) ?_
        refine Y wn rfl (yI O_3 (et rfl rfl) hst (rdI q1) gx61) ?_
        obtain ⟨x62, gx62, hM5⟩ := bs hM5
        refine Y wn rfl (yIs SL_67 (et rfl rfl) (et rfl rfl) hst (rdO mhR) gx62) ?_
        refine YT wn rfl (r_sti (cs := [.bool true]) hst O_4 rfl (et rfl rfl) rfl rfl mkB gx62) ?_
        clear hst
        intro w hst
        refine wpList_nil ?_
        refine qb26 _ _ _ ?_
        refine k25 _ _ ?_
        refine wp_region_lit ?_
        refine Y wn rfl (ym (v := .int .i64 x26) (et rfl e56_6)) ?_
        refine Y wn rfl (yadd (et rfl rfl) rfl) ?_
        refine Y wn rfl (ya (v := .int .i64 (wa .i64 x26 1)) (et rfl rfl)) ?_
        refine wpList_nil ?_
        obtain rfl := someI hM5
        exact n5 _ _ _ rfl ⟨_, _, _, rfl, rfl, e56_0, e56_1, e56_5, rfl, hst⟩
    · refine condF (et rfl rfl) (decide_eq_false c46) ?_
      refine wp_exit ?_
      refine z23 _ _ _ rfl ?_
      obtain rfl := someI hM5
      refine zz5 _ _ _ _ rfl rfl ?_
      exact je5_0 _ _ (hst.pk 1 [] rfl) (ho5 _ rfl)
  · refine condT (et rfl rfl) (nT (decide_eq_false c4)) ?_
    refine seqQ fun Q30 k30 z30 => ?_
    refine wp_region_lit ?_
    refine Y wn rfl (ya (v := .bool false) rfl) ?_
    refine wpList_nil ?_
    refine k30 _ _ ?_
    refine wp_ret ?_
    refine z2 _ _ _ rfl ?_
    obtain rfl := someI hM
    exact hQ _ _ _ (fin1r Try.results16 ⟨rfl, rfl⟩ ⟨rfl, hst⟩)
end Go.Proofs.Ythpeajepbffinaa
