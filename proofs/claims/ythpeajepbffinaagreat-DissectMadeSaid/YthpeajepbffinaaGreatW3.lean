/- Walks: each function computes its model, printed. -/
import Derived.Test.YthpeajepbffinaaGreatW2
namespace Go.Proofs.YthpeajepbffinaaGreat
open Go Sx M
set_option maxRecDepth 100000
set_option maxHeartbeats 4000000
set_option linter.unusedVariables false
attribute [local irreducible] wpList Code.wp Calls DR QR QS LA LS St
variable {w0 : World} {ros : List Fact} {rs : List Res} {w : World}
theorem matching_full_ok {x1 : Int} {x2 : Int} {out : (List Int)} (hM : matching_full x1 x2 = some out) (hst : St w0 ros (rs) w) :
  Calls Tryz.prog 157 #[iV x1, iV x2] w (fun e w => ∃ (h100001 : Hdr), e = .returned (h100001.v) ∧ St w0 (ros) (row 3 (rI .i64) h100001.v out :: rs) w) := by
 refine enterQ Tryz.func157 rfl Tryz.ntmps157 rfl fun Q hQ => seqQ fun Q1 k1 z1 => wR (Y wn rfl (ya (v := hnil.v) rfl) (wN (k1 _ _ (seqQ fun Q2 k2 z2 => wR (Y wn rfl (ym (v := iV x1) (e0 rfl)) ?_)))))
 obtain ⟨x5, gx5, hM⟩ := bs hM
 refine YH wn rfl (rMk hst SL_22 (e0 rfl) gx5) ?_
 intro h3 w hst
 refine Y wn rfl (ya (v := h3.v) (e0 rfl)) (wN (k2 _ _ (seqQ fun Q3 k3 z3 => seqQ fun Q4 k4 z4 => wR (Y wn rfl (ym (v := h3.v) (e0 rfl)) (Y wn rfl (yLen SL_22 (e0 rfl) hst (rdO mhR)) (Y wn rfl (ym (v := iV 0) rfl) (wN (k4 _ _ (blockQ fun Q5 qb5 => ?_)))))))))
 obtain ⟨o1, go1, hM⟩ := bs hM
 have je1_0 : ∀ (x14 : List Int) (f : Nat → Value) (w : World), f 5 = h3.v → St w0 (ros) (row 3 (rI .i64) h3.v x14 :: rs) w → x14 = o1 → Q5 (.exit 0) (fr 20 f) w := by
  intro x14 f w eje1_0_5 hst ho
  subst ho
  refine qb5 _ _ _ (k3 _ _ (seqQ fun Q16 k16 z16 => wR (Y wn rfl (ym (v := h3.v) (et rfl eje1_0_5)) (Y wn rfl (ya (v := h3.v) (e0 rfl)) (wN (k16 _ _ (wp_ret ?_)))))))
  obtain rfl := someI hM
  exact hQ _ _ _ (fin1r Tryz.results157 ⟨rfl, rfl⟩ ⟨_, rfl, hst⟩)
 refine loopQ (fun s a w => ∃ (x8 : List Int) (x9 : Int) (f : Nat → Value), (x8, x9) = s ∧ a = fr 20 f ∧ f 1 = iV x2 ∧ f 5 = h3.v ∧ f 10 = iV (x5.length : Int) ∧ f 11 = iV x9 ∧ St w0 (ros) (row 3 (rI .i64) h3.v x8 :: rs) w) go1 ⟨_, _, _, rfl, rfl, rfl, rfl, rfl, rfl, hst⟩ ?_
 rintro _ _ w r1_ ⟨x8, x9, f, rfl, rfl, e1_1, e1_5, e1_10, e1_11, hst⟩ hM1 ho1 Q100001 n1 zz1
 refine seqQ fun Q17 k17 z17 => wR (Y wn rfl (ylss (et rfl e1_11) (et rfl e1_10)) (wN (k17 _ _ (seqQ fun Q18 k18 z18 => ?_))))
 rcases iteS hM1 with ⟨c15, hM1⟩ | ⟨c15, hM1⟩
 ·refine condT (e0 rfl) (dT c15) (wp_skip (k18 _ _ (seqQ fun Q19 k19 z19 => blockQ fun Q20 qb20 => seqQ fun Q21 k21 z21 => wR (Y wn rfl (ym (v := iV x9) (et rfl e1_11)) (Y wn rfl (ya (v := iV x9) (e0 rfl)) (wN (k21 _ _ (wR (Y wn rfl (ym (v := h3.v) (et rfl e1_5)) (Y wn rfl (ym (v := iV x9) (e0 rfl)) ?_))))))))))
  refine Y wn rfl (ym (v := iV x2) (et rfl e1_1)) ?_
  obtain ⟨x16, gx16, hM1⟩ := bs hM1
  refine Y wn rfl (yIs SL_22 (e0 rfl) (e0 rfl) hst (rdO mhR) gx16) (YT wn rfl (r_sti (cs := [iV x2]) hst O_3 rfl (e0 rfl) (e0 rfl) rfl mkI gx16) ?_)
  intro w hst
  refine wN (qb20 _ _ _ (k19 _ _ (wR (Y wn rfl (yadd (et rfl e1_11) rfl) (Y wn rfl (ym (v := iV (wa .i64 x9 1)) (e0 rfl)) (wN ?_))))))
  obtain rfl := someI hM1
  exact n1 _ _ _ rfl ⟨_, _, _, rfl, rfl, e1_1, e1_5, e1_10, rfl, hst⟩
 ·refine condF (e0 rfl) (dF c15) (wp_exit (z18 _ _ _ rfl ?_))
  obtain rfl := someI hM1
  exact zz1 _ _ _ _ rfl rfl (je1_0 _ _ _ e1_5 hst (ho1 _ rfl))

theorem matching_kuhn_try_step {rec : (List (List Int)) → (List Int) → (List Int) → (List Bool) → Int → Option ((List Int) × (List Int) × (List Bool) × Bool)} (hrec : ∀ {w0 : World} {ros : List Fact} {rs : List Res} {w : World} {x2 : List (List Int)} {x4 : List Int} {x6 : List Int} {x8 : List Bool} {x10 : Int} {b1 : Nat} {h3 : Hdr} {h5 : Hdr} {h7 : Hdr} {h9 : Hdr} {out : (List Int) × (List Int) × (List Bool) × Bool} (hM : rec x2 x4 x6 x8 x10 = some out) (hst : St w0 ros (box b1 164 [h3.v, h5.v, h7.v, h9.v] :: row 22 (rS (rI .i64)) h3.v x2 :: row 3 (rI .i64) h5.v x4 :: row 3 (rI .i64) h7.v x6 :: row 4 rB h9.v x8 :: rs) w), Calls Tryz.prog 158 #[(pB b1), iV x10] w (fun e w => e = .returned (.bool out.2.2.2) ∧ St w0 (ros) (row 22 (rS (rI .i64)) h3.v x2 :: row 3 (rI .i64) h5.v out.1 :: row 3 (rI .i64) h7.v out.2.1 :: row 4 rB h9.v out.2.2.1 :: box b1 164 [h3.v, h5.v, h7.v, h9.v] :: rs) w)) {w0 : World} {ros : List Fact} {rs : List Res} {w : World} {x2 : List (List Int)} {x4 : List Int} {x6 : List Int} {x8 : List Bool} {x10 : Int} {b1 : Nat} {h3 : Hdr} {h5 : Hdr} {h7 : Hdr} {h9 : Hdr} {out : (List Int) × (List Int) × (List Bool) × Bool} (hM : matching_kuhn_try_body rec x2 x4 x6 x8 x10 = some out) (hst : St w0 ros (box b1 164 [h3.v, h5.v, h7.v, h9.v] :: row 22 (rS (rI .i64)) h3.v x2 :: row 3 (rI .i64) h5.v x4 :: row 3 (rI .i64) h7.v x6 :: row 4 rB h9.v x8 :: rs) w) :
  Calls Tryz.prog 158 #[(pB b1), iV x10] w (fun e w => e = .returned (.bool out.2.2.2) ∧ St w0 (ros) (row 22 (rS (rI .i64)) h3.v x2 :: row 3 (rI .i64) h5.v out.1 :: row 3 (rI .i64) h7.v out.2.1 :: row 4 rB h9.v out.2.2.1 :: box b1 164 [h3.v, h5.v, h7.v, h9.v] :: rs) w) := by
 refine enterQ Tryz.func158 rfl Tryz.ntmps158 rfl fun Q hQ => seqQ fun Q1 k1 z1 => wR (Y wn rfl (ya (v := .bool false) rfl) (wN (k1 _ _ (seqQ fun Q2 k2 z2 => seqQ fun Q3 k3 z3 => wR (Y wn rfl (ym (v := (pB b1)) (e0 rfl)) (Y wn rfl (yn (e0 rfl)) (Y wn rfl (yFb FL_164_0 (e0 rfl)) (Y wn rfl (yLb (u := h3.v) O_24 (e0 rfl) hst mhR rfl) (Y wn rfl (ym (v := iV x10) (e0 rfl)) ?_)))))))))
 obtain ⟨x11, gx11, hM⟩ := bs hM
 refine Y wn rfl (yIa SL_24 (e0 rfl) (e0 rfl) hst (rdO (mtR mhR)) gx11) ?_
 obtain ⟨h12, ch12, hst⟩ := rLs hst (rdO (mtR mhR)) gx11
 refine Y wn rfl (yCe O_22 (e0 rfl) ch12 rfl) (Y wn rfl (yLen SL_22 (e0 rfl) hst (rdI mhF)) (Y wn rfl (ym (v := iV 0) rfl) (wN (k3 _ _ (blockQ fun Q4 qb4 => ?_)))))
 obtain ⟨o9, go9, hM⟩ := bs hM
 have je9_0 : ∀ (x137 : List Int) (x138 : List Int) (x139 : List Bool) (f : Nat → Value) (w : World), St w0 (ros) (row 22 (rS (rI .i64)) h3.v x2 :: row 3 (rI .i64) h5.v x137 :: row 3 (rI .i64) h7.v x138 :: row 4 rB h9.v x139 :: box b1 164 [h3.v, h5.v, h7.v, h9.v] :: rs) w → .inl (x137, x138, x139) = o9 → Q4 (.exit 0) (fr 66 f) w := by
  intro x137 x138 x139 f w hst ho
  subst ho
  refine qb4 _ _ _ (k2 _ _ (seqQ fun Q59 k59 z59 => wR (Y wn rfl (ya (v := .bool false) rfl) (wN (k59 _ _ (wp_ret ?_))))))
  obtain rfl := someI hM
  exact hQ _ _ _ (fin1r Tryz.results158 ⟨rfl, rfl⟩ ⟨rfl, hst⟩)
 have je9_1 : ∀ (x140 : List Int) (x141 : List Int) (x142 : List Bool) (f : Nat → Value) (w : World), f 4 = .bool true → St w0 (ros) (row 22 (rS (rI .i64)) h3.v x2 :: row 3 (rI .i64) h5.v x140 :: row 3 (rI .i64) h7.v x141 :: row 4 rB h9.v x142 :: box b1 164 [h3.v, h5.v, h7.v, h9.v] :: rs) w → .inr (x140, x141, x142) = o9 → Q4 .ret (fr 66 f) w := by
  intro x140 x141 x142 f w eje9_1_4 hst ho
  subst ho
  refine qb4 _ _ _ (z2 _ _ _ rfl ?_)
  obtain rfl := someI hM
  exact hQ _ _ _ (fin1r Tryz.results158 ⟨rfl, eje9_1_4⟩ ⟨rfl, hst⟩)
 refine loopQ (fun s a w => ∃ (x71 : List Int) (x72 : List Int) (x73 : List Bool) (x74 : Int) (f : Nat → Value), (x71, x72, x73, x74) = s ∧ a = fr 66 f ∧ f 0 = (pB b1) ∧ f 1 = iV x10 ∧ f 13 = h12.v ∧ f 14 = iV (x11.length : Int) ∧ f 15 = iV x74 ∧ St w0 (imm (rI .i64) h12.v x11 :: ros) (row 22 (rS (rI .i64)) h3.v x2 :: row 3 (rI .i64) h5.v x71 :: row 3 (rI .i64) h7.v x72 :: row 4 rB h9.v x73 :: box b1 164 [h3.v, h5.v, h7.v, h9.v] :: rs) w) go9 ⟨_, _, _, _, _, rfl, rfl, rfl, rfl, rfl, rfl, rfl, (hst.pk 5 [1, 1, 1, 1, 0] rfl)⟩ ?_
 rintro _ _ w r9_ ⟨x71, x72, x73, x74, f, rfl, rfl, e9_0, e9_1, e9_13, e9_14, e9_15, hst⟩ hM9 ho9 Q100009 n9 zz9
 refine seqQ fun Q60 k60 z60 => wR (Y wn rfl (ylss (et rfl e9_15) (et rfl e9_14)) (wN (k60 _ _ (seqQ fun Q61 k61 z61 => ?_))))
 rcases iteS hM9 with ⟨c143, hM9⟩ | ⟨c143, hM9⟩
 ·refine condT (e0 rfl) (dT c143) (wp_skip (k61 _ _ (seqQ fun Q62 k62 z62 => ?_)))
  have j12 : ∀ (x180 : List Int) (x181 : List Int) (x182 : List Bool) (f : Nat → Value) (w : World), f 0 = (pB b1) → f 1 = iV x10 → f 13 = h12.v → f 14 = iV (x11.length : Int) → f 15 = iV x74 → St w0 (imm (rI .i64) h12.v x11 :: ros) (row 22 (rS (rI .i64)) h3.v x2 :: row 3 (rI .i64) h5.v x180 :: row 3 (rI .i64) h7.v x181 :: row 4 rB h9.v x182 :: box b1 164 [h3.v, h5.v, h7.v, h9.v] :: rs) w → matching_kuhn_try_j12 x74 x180 x181 x182 = some r9_ → Q62 .normal (fr 66 f) w := by
   intro x180 x181 x182 f w ej12_0 ej12_1 ej12_13 ej12_14 ej12_15 hst hM
   refine k62 _ _ (wR (Y wn rfl (yadd (et rfl ej12_15) rfl) (Y wn rfl (ym (v := iV (wa .i64 x74 1)) (e0 rfl)) (wN ?_))))
   obtain rfl := someI hM
   exact n9 _ _ _ rfl ⟨_, _, _, _, _, rfl, rfl, ej12_0, ej12_1, ej12_13, ej12_14, rfl, hst⟩
  refine blockQ fun Q79 qb79 => seqQ fun Q80 k80 z80 => wR ?_
  obtain ⟨x183, gx183, hM9⟩ := bs hM9
  refine Y wn rfl (yIa SL_22 (et rfl e9_13) (et rfl e9_15) hst (rdI mhF) gx183) (Y wn rfl (yI O_3 (e0 rfl) hst (rdI mhF) gx183) (Y wn rfl (ya (v := iV x183) (e0 rfl)) (wN (k80 _ _ (seqQ fun Q81 k81 z81 => seqQ fun Q82 k82 z82 => wR (Y wn rfl (ym (v := (pB b1)) (et rfl e9_0)) (Y wn rfl (yn (e0 rfl)) (Y wn rfl (yFb FL_164_3 (e0 rfl)) (Y wn rfl (yLb (u := h9.v) O_93 (e0 rfl) hst (mtR (mtR (mtR (mtR mhR)))) rfl) (Y wn rfl (ym (v := iV x183) (e0 rfl)) ?_))))))))))
  obtain ⟨x184, gx184, hM9⟩ := bs hM9
  refine Y wn rfl (yIa SL_93 (e0 rfl) (e0 rfl) hst (rdO (mtR (mtR (mtR mhR)))) gx184) (Y wn rfl (yB O_4 (e0 rfl) hst (rdO (mtR (mtR (mtR mhR)))) gx184) (wN (k82 _ _ ?_)))
  rcases iteS hM9 with ⟨c185, hM9⟩ | ⟨c185, hM9⟩
  ·exact condT (e0 rfl) c185 (wp_exit (z81 _ _ _ rfl (qb79 _ _ _ (j12 _ _ _ _ _ e9_0 e9_1 e9_13 e9_14 e9_15 hst hM9))))
  ·refine condF (e0 rfl) (bfalse c185) (wp_skip (k81 _ _ (seqQ fun Q83 k83 z83 => wR (Y wn rfl (ym (v := (pB b1)) (et rfl e9_0)) (Y wn rfl (yn (e0 rfl)) (Y wn rfl (yFb FL_164_3 (e0 rfl)) (Y wn rfl (yLb (u := h9.v) O_93 (e0 rfl) hst (mtR (mtR (mtR (mtR mhR)))) rfl) (Y wn rfl (ym (v := iV x183) (e0 rfl)) ?_))))))))
   obtain ⟨x186, gx186, hM9⟩ := bs hM9
   refine Y wn rfl (yIs SL_93 (e0 rfl) (e0 rfl) hst (rdO (mtR (mtR (mtR mhR)))) gx186) ?_
   replace hst := hst.pk 4 [3, 0, 0, 0] rfl
   refine YT wn rfl (r_sti (cs := [.bool true]) hst O_4 rfl (e0 rfl) rfl rfl mkB gx186) ?_
   intro w hst
   refine wN (k83 _ _ (seqQ fun Q84 k84 z84 => wR (Y wn rfl (ym (v := (pB b1)) (et rfl e9_0)) (Y wn rfl (yn (e0 rfl)) (Y wn rfl (yFb FL_164_2 (e0 rfl)) (Y wn rfl (yLb (u := h7.v) O_22 (e0 rfl) hst (mtR (mtR (mtR (mtR mhR)))) rfl) (Y wn rfl (ym (v := iV x183) (e0 rfl)) ?_)))))))
   obtain ⟨x187, gx187, hM9⟩ := bs hM9
   refine Y wn rfl (yIa SL_22 (e0 rfl) (e0 rfl) hst (rdO (mtR (mtR (mtR mhR)))) gx187) (Y wn rfl (yI O_3 (e0 rfl) hst (rdO (mtR (mtR (mtR mhR)))) gx187) (Y wn rfl (yeql (e0 rfl) rfl) (Y wn rfl (ym (v := .bool (decide (x187 = (-1)))) (e0 rfl)) ?_)))
   obtain ⟨r190, gr190, hM9⟩ := bs hM9
   refine joinW 10 (fun f w => f 0 = (pB b1) ∧ f 1 = iV x10 ∧ f 6 = iV x183 ∧ f 13 = h12.v ∧ f 14 = iV (x11.length : Int) ∧ f 15 = iV x74 ∧ f 50 = .bool r190.1 ∧ St w0 (imm (rI .i64) h12.v x11 :: ros) (row 22 (rS (rI .i64)) h3.v x2 :: row 3 (rI .i64) h5.v r190.2.1 :: row 3 (rI .i64) h7.v r190.2.2.1 :: row 4 rB h9.v r190.2.2.2 :: box b1 164 [h3.v, h5.v, h7.v, h9.v] :: rs) w) (fun j13 => ?_) ?_
   ·rcases iteS gr190 with ⟨c195, gr190⟩ | ⟨c195, gr190⟩
    ·refine Gn (wx rfl rfl rfl (dT c195)) rfl (Gn (wx rfl rfl rfl (dT c195)) rfl (Gn (wx rfl rfl rfl (dT c195)) rfl (Gn (wx rfl rfl rfl (dT c195)) rfl (Gn (wx rfl rfl rfl (dT c195)) rfl (Gn (wx rfl rfl rfl (dT c195)) rfl (Gn (wx rfl rfl rfl (dT c195)) rfl (Gn (wx rfl rfl rfl (dT c195)) rfl (Gn (wx rfl rfl rfl (dT c195)) rfl (Y wn rfl (ypt (v := .bool true) (e0 rfl) (dT c195) rfl) ?_)))))))))
     obtain rfl := someI gr190
     exact j13 _ _ ⟨e9_0, e9_1, rfl, e9_13, e9_14, e9_15, rfl, (hst.pk 5 [1, 1, 1, 0, 0] rfl)⟩
    ·refine Y (wg rfl rfl rfl (dF c195)) rfl (ym (v := (pB b1)) (et rfl e9_0)) (Y (wg rfl rfl rfl (dF c195)) rfl (ym (v := (pB b1)) (et rfl e9_0)) (Y (wg rfl rfl rfl (dF c195)) rfl (yn (e0 rfl)) (Y (wg rfl rfl rfl (dF c195)) rfl (yFb FL_164_2 (e0 rfl)) (Y (wg rfl rfl rfl (dF c195)) rfl (yLb (u := h7.v) O_22 (e0 rfl) hst (mtR (mtR (mtR (mtR mhR)))) rfl) (Y (wg rfl rfl rfl (dF c195)) rfl (ym (v := iV x183) (e0 rfl)) ?_)))))
     obtain ⟨x196, gx196, gr190⟩ := bs gr190
     refine Y (wg rfl rfl rfl (dF c195)) rfl (yIa SL_22 (e0 rfl) (e0 rfl) hst (rdO (mtR (mtR (mtR mhR)))) gx196) (Y (wg rfl rfl rfl (dF c195)) rfl (yI O_3 (e0 rfl) hst (rdO (mtR (mtR (mtR mhR)))) gx196) ?_)
     obtain ⟨r197, gr197, gr190⟩ := bs gr190
     replace hst := hst.pk 5 [4, 1, 1, 1, 0] rfl
     refine Yc (wg rfl rfl rfl (dF c195)) rfl (yCall FN_158 (a2 (e0 rfl) (e0 rfl))) (hrec (hM := gr197) (hst := hst) ) ?_
     rintro _ w ⟨rfl, hst⟩
     refine ⟨_, rfl, ?_⟩
     refine Y wn rfl (ypf (v := .bool r197.2.2.2) (e0 rfl) (dF c195) (e0 rfl)) ?_
     obtain rfl := someI gr190
     exact j13 _ _ ⟨e9_0, e9_1, rfl, e9_13, e9_14, e9_15, rfl, hst⟩
   rintro f w ⟨e194_0, e194_1, e194_6, e194_13, e194_14, e194_15, e194_50, hst⟩
   refine wN (k84 _ _ ?_)
   rcases iteS hM9 with ⟨c198, hM9⟩ | ⟨c198, hM9⟩
   ·refine condT (et rfl e194_50) c198 (seqQ fun Q85 k85 z85 => ?_)
    obtain ⟨x199, gx199, hM9⟩ := bs hM9
    obtain ⟨x200, gx200, hM9⟩ := bs hM9
    refine wp_drawR [0, 1, 3, 7, 0, 0, 32, 96, 224, 0, 0, 0, 1535, 5631, 16383, 32767] [13, 15] 2 folM (by kernel_rfl) (by kernel_rfl) (by kernel_rfl) ?_
    replace hst := hst.drew
    refine DRn (l1 := [0, 1, 2, 3, 4, 5, 6, 7, 8, 9, 10, 11, 12]) (l2 := []) (lc := [13]) (by kernel_rfl) (by kernel_rfl) (by kernel_rfl) (Ry rfl rfl wn (ym (v := (pB b1)) (et rfl e194_0)) (Ry rfl rfl wn (yn (e0 rfl)) (Ry rfl rfl wn (yFb FL_164_1 (e0 rfl)) (Ry rfl rfl wn (yLb (u := h5.v) O_22 (e0 rfl) hst (mtR (mtR (mtR (mtR mhR)))) rfl) (Ry rfl rfl wn (ym (v := iV x10) (et rfl e194_1)) (Ry rfl rfl wn (ym (v := (pB b1)) (et rfl e194_0)) (Ry rfl rfl wn (yn (e0 rfl)) (Ry rfl rfl wn (yFb FL_164_2 (e0 rfl)) (Ry rfl rfl wn (yLb (u := h7.v) O_22 (e0 rfl) hst (mtR (mtR (mtR (mtR mhR)))) rfl) (Ry rfl rfl wn (ym (v := iV x183) (et rfl e194_6)) (Ry rfl rfl wn (ym (v := iV x183) (et rfl e194_6)) (Ry rfl rfl wn (ym (v := iV x10) (et rfl e194_1)) (Ry rfl rfl wn (yIs SL_22 (e0 rfl) (e0 rfl) hst (rdO (mtR mhR)) gx199) ?_)))))))))))))
    refine Rn QSn ?_
    refine Lc rfl ?_ LAn
    replace hst := hst.pk 2 [1, 0] rfl
    refine LT wn (r_sti (cs := [iV x183]) hst O_3 rfl (e0 rfl) (e0 rfl) rfl mkI gx199) ?_
    intro w hst
    refine DRn (l1 := [14]) (l2 := [9, 11]) (lc := [15]) (by kernel_rfl) (by kernel_rfl) (by kernel_rfl) (Ry rfl rfl wn (yIs SL_22 (e0 rfl) (e0 rfl) hst (rdO (mtR (mtR mhR))) gx200) (Rn (Sy rfl rfl wn (ym (v := iV x183) (et rfl e194_6)) rfl (Sy rfl rfl wn (ym (v := iV x10) (et rfl e194_1)) rfl QSn)) ?_))
    refine Lc rfl ?_ LAn
    replace hst := hst.pk 3 [2, 0, 0] rfl
    refine LT wn (r_sti (cs := [iV x10]) hst O_3 rfl (e0 rfl) (e0 rfl) rfl mkI gx200) ?_
    intro w hst
    refine DRz (l1 := []) (l2 := []) (by kernel_rfl) (by kernel_rfl) (Rn QSn (k85 _ _ (seqQ fun Q86 k86 z86 => wR (Y wn rfl (ya (v := .bool true) rfl) (wN (k86 _ _ (wp_ret (qb79 _ _ _ (z62 _ _ _ rfl ?_)))))))))
    obtain rfl := someI hM9
    exact zz9 _ _ _ _ rfl rfl (je9_1 _ _ _ _ _ rfl ((hst.pk 5 [2, 1, 0, 0, 0] rfl).facts (allT allI)) (ho9 _ rfl))
   ·exact condF (et rfl e194_50) (bfalse c198) (wp_skip (qb79 _ _ _ (j12 _ _ _ _ _ e194_0 e194_1 e194_13 e194_14 e194_15 hst hM9)))
 ·refine condF (e0 rfl) (dF c143) (wp_exit (z61 _ _ _ rfl ?_))
  obtain rfl := someI hM9
  exact zz9 _ _ _ _ rfl rfl (je9_0 _ _ _ _ _ (hst.facts (allT allI)) (ho9 _ rfl))
theorem matching_kuhn_try_ok_n (n : Nat) : ∀ {w0 : World} {ros : List Fact} {rs : List Res} {w : World} {x2 : List (List Int)} {x4 : List Int} {x6 : List Int} {x8 : List Bool} {x10 : Int} {b1 : Nat} {h3 : Hdr} {h5 : Hdr} {h7 : Hdr} {h9 : Hdr} {out : (List Int) × (List Int) × (List Bool) × Bool} (hM : matching_kuhn_try n x2 x4 x6 x8 x10 = some out) (hst : St w0 ros (box b1 164 [h3.v, h5.v, h7.v, h9.v] :: row 22 (rS (rI .i64)) h3.v x2 :: row 3 (rI .i64) h5.v x4 :: row 3 (rI .i64) h7.v x6 :: row 4 rB h9.v x8 :: rs) w),
  Calls Tryz.prog 158 #[(pB b1), iV x10] w (fun e w => e = .returned (.bool out.2.2.2) ∧ St w0 (ros) (row 22 (rS (rI .i64)) h3.v x2 :: row 3 (rI .i64) h5.v out.1 :: row 3 (rI .i64) h7.v out.2.1 :: row 4 rB h9.v out.2.2.1 :: box b1 164 [h3.v, h5.v, h7.v, h9.v] :: rs) w) := by
 induction n with
 | zero => intro _ _ _ _ _ _ _ _ _ _ _ _ _ _ out hM; cases hM
 | succ n ih => exact fun hM hst => matching_kuhn_try_step (rec := matching_kuhn_try n) ih (hM := hM) (hst := hst)
theorem matching_kuhn_try_ok {x2 : List (List Int)} {x4 : List Int} {x6 : List Int} {x8 : List Bool} {x10 : Int} {b1 : Nat} {h3 : Hdr} {h5 : Hdr} {h7 : Hdr} {h9 : Hdr} {out : (List Int) × (List Int) × (List Bool) × Bool} (hM : matching_kuhn_try FUEL x2 x4 x6 x8 x10 = some out) (hst : St w0 ros (box b1 164 [h3.v, h5.v, h7.v, h9.v] :: row 22 (rS (rI .i64)) h3.v x2 :: row 3 (rI .i64) h5.v x4 :: row 3 (rI .i64) h7.v x6 :: row 4 rB h9.v x8 :: rs) w) :
  Calls Tryz.prog 158 #[(pB b1), iV x10] w (fun e w => e = .returned (.bool out.2.2.2) ∧ St w0 (ros) (row 22 (rS (rI .i64)) h3.v x2 :: row 3 (rI .i64) h5.v out.1 :: row 3 (rI .i64) h7.v out.2.1 :: row 4 rB h9.v out.2.2.1 :: box b1 164 [h3.v, h5.v, h7.v, h9.v] :: rs) w) := matching_kuhn_try_ok_n FUEL (hM := hM) (hst := hst)

theorem matching_matched_ok {x1 : Int} {x2 : Int} {x3 : List Int} {x5 : List Int} {x7 : List Int} {h4 : Hdr} {h6 : Hdr} {h8 : Hdr} {out : (List (List Int)) × (List Int) × (List Int) × (List Bool)} (hM : matching_matched x1 x2 x3 x5 x7 = some out) (q1 : imm (rI .i64) h4.v x3 ∈ ros) (q2 : imm (rI .i64) h6.v x5 ∈ ros) (q3 : imm (rI .u64) h8.v x7 ∈ ros) (hst : St w0 ros (rs) w) :
  Calls Tryz.prog 140 #[.agg #[iV x1, iV x2, h4.v, h6.v, h8.v]] w (fun e w => ∃ (b100001 : Nat) (h100002 : Hdr) (h100004 : Hdr) (h100006 : Hdr) (h100008 : Hdr), e = .returned ((pB b100001)) ∧ St w0 (ros) (row 22 (rS (rI .i64)) h100002.v out.1 :: row 3 (rI .i64) h100004.v out.2.1 :: row 3 (rI .i64) h100006.v out.2.2.1 :: row 4 rB h100008.v out.2.2.2 :: box b100001 164 [h100002.v, h100004.v, h100006.v, h100008.v] :: rs) w) := by
 refine enterQ Tryz.func140 rfl Tryz.ntmps140 rfl fun Q hQ => seqQ fun Q1 k1 z1 => wR (YB wn rfl (r_box (vals := [iV x1, iV x2, h4.v, h6.v, h8.v]) hst (e0 rfl) rfl) ?_)
 intro b9 w hst
 refine Y wn rfl (ya (v := .pointer none) rfl) (wN (k1 _ _ (seqQ fun Q2 k2 z2 => ?_)))
 obtain ⟨r10, gr10, hM⟩ := bs hM
 obtain ⟨r12, gr12, hM⟩ := bs hM
 obtain ⟨r14, gr14, hM⟩ := bs hM
 refine wp_drawR [0, 1, 0, 4, 15, 0, 32, 127, 255, 511, 1023] [1, 4, 7, 9, 10] 5 folM (by kernel_rfl) (by kernel_rfl) (by kernel_rfl) ?_
 replace hst := hst.drew
 refine DRn (l1 := [0, 2, 3, 5, 6]) (l2 := []) (lc := [1]) (by kernel_rfl) (by kernel_rfl) (by kernel_rfl) (Ry rfl rfl wn (yLbs (us := [iV x1, iV x2, h4.v, h6.v, h8.v]) ST_91 (e0 rfl) hst mhR rfl rfl) (Ry rfl rfl wn (yFb FL_91_1 (e0 rfl)) (Ry rfl rfl wn (yLb (u := iV x2) O_3 (e0 rfl) hst mhR rfl) (Ry rfl rfl wn (yFb FL_91_0 (e0 rfl)) (Ry rfl rfl wn (yLb (u := iV x1) O_3 (e0 rfl) hst mhR rfl) (Rn QSn ?_))))))
 refine Lc rfl ?_ LAn
 refine Lk wn (yCall FN_156 (a1 (e0 rfl))) (matching_Edges_ok (hM := gr10) (hst := hst) (q1 := q1) (q2 := q2) (q3 := q3)) ?_
 rintro _ w ⟨h11, rfl, hst⟩
 refine ⟨_, rfl, ?_⟩
 refine DRn (l1 := []) (l2 := [2, 3, 5, 6]) (lc := [4]) (by kernel_rfl) (by kernel_rfl) (by kernel_rfl) (Rn (Sy rfl rfl wn (yFb FL_91_1 (e0 rfl)) rfl (Sy rfl rfl wn (yLb (u := iV x2) O_3 (e0 rfl) hst (mtR mhR) rfl) rfl (Sy rfl rfl wn (yFb FL_91_0 (e0 rfl)) rfl (Sy rfl rfl wn (yLb (u := iV x1) O_3 (e0 rfl) hst (mtR mhR) rfl) rfl QSn)))) ?_)
 refine Lc rfl ?_ LAn
 refine Lk wn (yCall FN_157 (a2 (e0 rfl) rfl)) (matching_full_ok (hM := gr12) (hst := hst) ) ?_
 rintro _ w ⟨h13, rfl, hst⟩
 refine ⟨_, rfl, ?_⟩
 refine DRn (l1 := []) (l2 := [5, 6]) (lc := [7]) (by kernel_rfl) (by kernel_rfl) (by kernel_rfl) (Rn (Sy rfl rfl wn (yFb FL_91_0 (e0 rfl)) rfl (Sy rfl rfl wn (yLb (u := iV x1) O_3 (e0 rfl) hst (mtR (mtR mhR)) rfl) rfl QSn)) ?_)
 refine Lc rfl ?_ LAn
 refine Lk wn (yCall FN_157 (a2 (e0 rfl) rfl)) (matching_full_ok (hM := gr14) (hst := hst) ) ?_
 rintro _ w ⟨h15, rfl, hst⟩
 refine ⟨_, rfl, ?_⟩
 refine DRn (l1 := [8]) (l2 := []) (lc := [9]) (by kernel_rfl) (by kernel_rfl) (by kernel_rfl) (Ry rfl rfl wn (ybuild (us := [h11.v, h13.v, h15.v, hnil.v]) [(0, h11.v), (1, h13.v), (2, h15.v)] SO_164 (bp3 (e0 rfl) (e0 rfl) (e0 rfl)) rfl) (Rn QSn ?_))
 refine Lc rfl ?_ LAn
 refine LB wn (r_box (vals := [h11.v, h13.v, h15.v, hnil.v]) hst (e0 rfl) rfl) ?_
 intro b16 w hst
 refine DRn (l1 := []) (l2 := []) (lc := [10]) (by kernel_rfl) (by kernel_rfl) (by kernel_rfl) (Rn QSn ?_)
 refine Lc rfl ?_ LAn
 refine Ly wn (ya (v := (pB b16)) (e0 rfl)) (DRz (l1 := []) (l2 := []) (by kernel_rfl) (by kernel_rfl) (Rn QSn (k2 _ _ (seqQ fun Q3 k3 z3 => seqQ fun Q4 k4 z4 => wR (Y wn rfl (yFb FL_91_1 (e0 rfl)) (Y wn rfl (yLb (u := iV x2) O_3 (e0 rfl) hst (mtR (mtR (mtR (mtR mhR)))) rfl) (Y wn rfl (ym (v := iV 0) rfl) (wN (k4 _ _ (blockQ fun Q5 qb5 => ?_))))))))))
 obtain ⟨o1, go1, hM⟩ := bs hM
 have je1_0 : ∀ (x37 : List Int) (x38 : List Int) (x40 : List Bool) (h39 : Hdr) (f : Nat → Value) (w : World), f 3 = (pB b16) → St w0 (ros) (row 22 (rS (rI .i64)) h11.v r10 :: row 3 (rI .i64) h13.v x37 :: row 3 (rI .i64) h15.v x38 :: row 4 rB h39.v x40 :: box b16 164 [h11.v, h13.v, h15.v, h39.v] :: rs) w → (x37, x38, x40) = o1 → Q5 (.exit 0) (fr 31 f) w := by
  intro x37 x38 x40 h39 f w eje1_0_3 hst ho
  subst ho
  refine qb5 _ _ _ (k3 _ _ (seqQ fun Q18 k18 z18 => wR (Y wn rfl (ym (v := (pB b16)) (et rfl eje1_0_3)) (Y wn rfl (ya (v := (pB b16)) (e0 rfl)) (wN (k18 _ _ (wp_ret ?_)))))))
  obtain rfl := someI hM
  exact hQ _ _ _ (fin1r Tryz.results140 ⟨rfl, rfl⟩ ⟨_, _, _, _, _, rfl, hst⟩)
 replace hst := hst.rowNh 4 rB
 refine loopQ (fun s a w => ∃ (x22 : List Int) (x23 : List Int) (x25 : List Bool) (x26 : Int) (f : Nat → Value) (h24 : Hdr), (x22, x23, x25, x26) = s ∧ a = fr 31 f ∧ f 1 = (pB b9) ∧ f 3 = (pB b16) ∧ f 16 = iV x2 ∧ f 17 = iV x26 ∧ St w0 (ros) (box b9 91 [iV x1, iV x2, h4.v, h6.v, h8.v] :: row 22 (rS (rI .i64)) h11.v r10 :: row 3 (rI .i64) h13.v x22 :: row 3 (rI .i64) h15.v x23 :: row 4 rB h24.v x25 :: box b16 164 [h11.v, h13.v, h15.v, h24.v] :: rs) w) go1 ⟨_, _, _, _, _, _, rfl, rfl, rfl, rfl, rfl, rfl, (hst.pk 6 [5, 4, 3, 2, 0, 0] rfl)⟩ ?_
 rintro _ _ w r1_ ⟨x22, x23, x25, x26, f, h24, rfl, rfl, e1_1, e1_3, e1_16, e1_17, hst⟩ hM1 ho1 Q100001 n1 zz1
 refine seqQ fun Q19 k19 z19 => wR (Y wn rfl (ylss (et rfl e1_17) (et rfl e1_16)) (wN (k19 _ _ (seqQ fun Q20 k20 z20 => ?_))))
 rcases iteS hM1 with ⟨c41, hM1⟩ | ⟨c41, hM1⟩
 ·refine condT (e0 rfl) (dT c41) (wp_skip (k20 _ _ (seqQ fun Q21 k21 z21 => blockQ fun Q22 qb22 => seqQ fun Q23 k23 z23 => wR (Y wn rfl (ym (v := iV x26) (et rfl e1_17)) (Y wn rfl (ya (v := iV x26) (e0 rfl)) (wN (k23 _ _ (seqQ fun Q24 k24 z24 => wR (Y wn rfl (ym (v := (pB b16)) (et rfl e1_3)) ?_)))))))))
  refine Y wn rfl (yFb FL_91_0 (et rfl e1_1)) (Y wn rfl (yLb (u := iV x1) O_3 (e0 rfl) hst mhR rfl) ?_)
  obtain ⟨x44, gx44, hM1⟩ := bs hM1
  refine YH wn rfl (rMk hst SL_93 (e0 rfl) gx44) ?_
  intro h42 w hst
  refine Y wn rfl (yn (e0 rfl)) (Y wn rfl (yFb FL_164_3 (e0 rfl)) ?_)
  replace hst := hst.pk 7 [6, 0, 0, 0, 0, 0, 0] rfl
  refine YT wn rfl (r_stb1 (vals' := [h11.v, h13.v, h15.v, h42.v]) hst O_93 (e0 rfl) (e0 rfl) rfl rfl rfl rfl) ?_
  intro w hst
  refine wN (k24 _ _ (wR (Y wn rfl (ym (v := (pB b16)) (et rfl e1_3)) (Y wn rfl (ym (v := iV x26) (e0 rfl)) ?_))))
  obtain ⟨r45, gr45, hM1⟩ := bs hM1
  replace hst := hst.pk 6 [0, 2, 2, 2, 0, 0] rfl
  refine Yc wn rfl (yCall FN_158 (a2 (e0 rfl) (e0 rfl))) (matching_kuhn_try_ok (hM := gr45) (hst := hst) ) ?_
  rintro _ w ⟨rfl, hst⟩
  refine ⟨_, rfl, ?_⟩
  refine wN (qb22 _ _ _ (k21 _ _ (wR (Y wn rfl (yadd (et rfl e1_17) rfl) (Y wn rfl (ym (v := iV (wa .i64 x26 1)) (e0 rfl)) (wN ?_))))))
  obtain rfl := someI hM1
  exact n1 _ _ _ rfl ⟨_, _, _, _, _, _, rfl, rfl, e1_1, e1_3, e1_16, rfl, (hst.pk 7 [5, 0, 0, 0, 0, 0] rfl)⟩
 ·refine condF (e0 rfl) (dF c41) (wp_exit (z20 _ _ _ rfl ?_))
  obtain rfl := someI hM1
  exact zz1 _ _ _ _ rfl rfl (je1_0 _ _ _ _ _ _ e1_3 (hst.pk 6 [1, 1, 1, 1, 1] rfl) (ho1 _ rfl))

theorem matching_Reachable_ok {x1 : Int} {x2 : Int} {x3 : List Int} {x5 : List Int} {x7 : List Int} {h4 : Hdr} {h6 : Hdr} {h8 : Hdr} {out : (List Bool) × (List Bool)} (hM : matching_Reachable x1 x2 x3 x5 x7 = some out) (q1 : imm (rI .i64) h4.v x3 ∈ ros) (q2 : imm (rI .i64) h6.v x5 ∈ ros) (q3 : imm (rI .u64) h8.v x7 ∈ ros) (hst : St w0 ros (rs) w) :
  Calls Tryz.prog 123 #[.agg #[iV x1, iV x2, h4.v, h6.v, h8.v]] w (fun e w => ∃ (h100001 : Hdr) (h100003 : Hdr), e = .returned (.tuple #[h100001.v, h100003.v]) ∧ St w0 (ros) (row 4 rB h100001.v out.1 :: row 4 rB h100003.v out.2 :: rs) w) := by
 refine enterQ Tryz.func123 rfl Tryz.ntmps123 rfl fun Q hQ => seqQ fun Q1 k1 z1 => wR (YB wn rfl (r_box (vals := [iV x1, iV x2, h4.v, h6.v, h8.v]) hst (e0 rfl) rfl) ?_)
 intro b9 w hst
 refine Y wn rfl (ya (v := hnil.v) rfl) (Y wn rfl (ya (v := hnil.v) rfl) (wN (k1 _ _ (seqQ fun Q2 k2 z2 => wR (Y wn rfl (yLbs (us := [iV x1, iV x2, h4.v, h6.v, h8.v]) ST_91 (e0 rfl) hst mhR rfl rfl) ?_)))))
 obtain ⟨r10, gr10, hM⟩ := bs hM
 refine Yc wn rfl (yCall FN_140 (a1 (e0 rfl))) (matching_matched_ok (hM := gr10) (hst := hst) (q1 := q1) (q2 := q2) (q3 := q3)) ?_
 rintro _ w ⟨b11, h12, h13, h14, h15, rfl, hst⟩
 refine ⟨_, rfl, ?_⟩
 refine Y wn rfl (ya (v := (pB b11)) (e0 rfl)) (wN (k2 _ _ (seqQ fun Q3 k3 z3 => ?_)))
 obtain ⟨x18, gx18, hM⟩ := bs hM
 obtain ⟨x21, gx21, hM⟩ := bs hM
 refine joinN (n := 89) (fun f w => ∃ (h22 : Hdr) (h23 : Hdr), f 2 = h22.v ∧ f 3 = h23.v ∧ f 4 = (pB b11) ∧ St w0 (ros) (row 4 rB h22.v x18 :: row 4 rB h23.v x21 :: row 22 (rS (rI .i64)) h12.v r10.1 :: row 3 (rI .i64) h13.v r10.2.1 :: row 3 (rI .i64) h14.v r10.2.2.1 :: row 4 rB h15.v r10.2.2.2 :: box b11 164 [h12.v, h13.v, h14.v, h15.v] :: rs) w) (fun j1 => ?_) ?_
 ·refine wp_drawR [0, 1, 3, 0, 8, 24, 7, 127] [2, 5, 6, 7] 4 folM (by kernel_rfl) (by kernel_rfl) (by kernel_rfl) ?_
  replace hst := hst.drew
  refine DRn (l1 := [0, 1, 3, 4]) (l2 := []) (lc := [2, 5]) (by kernel_rfl) (by kernel_rfl) (by kernel_rfl) (Ry rfl rfl wn (yFb FL_91_0 (e0 rfl)) (Ry rfl rfl wn (yLb (u := iV x1) O_3 (e0 rfl) hst (mtR (mtR (mtR (mtR (mtR mhR))))) rfl) (Ry rfl rfl wn (yFb FL_91_1 (e0 rfl)) (Ry rfl rfl wn (yLb (u := iV x2) O_3 (e0 rfl) hst (mtR (mtR (mtR (mtR (mtR mhR))))) rfl) (Rn QSn ?_)))))
  refine Lc rfl ?_ (Lc rfl ?_ LAn)
  ·refine LH wn (rMk hst SL_93 (e0 rfl) gx18) ?_
   intro h16 w hst
   refine DRn (l1 := []) (l2 := [3, 4]) (lc := [5, 6]) (by kernel_rfl) (by kernel_rfl) (by kernel_rfl) (Rn (Sy rfl rfl wn (yFb FL_91_1 (e0 rfl)) rfl (Sy rfl rfl wn (yLb (u := iV x2) O_3 (e0 rfl) hst (mtR (mtR (mtR (mtR (mtR (mtR mhR)))))) rfl) rfl QSn)) ?_)
   refine Lc rfl ?_ (Lc rfl ?_ LAn)
   ·refine LH wn (rMk hst SL_93 (e0 rfl) gx21) ?_
    intro h19 w hst
    refine DRn (l1 := []) (l2 := []) (lc := [6]) (by kernel_rfl) (by kernel_rfl) (by kernel_rfl) (Rn QSn ?_)
    refine Lc rfl ?_ LAn
    refine Ly wn (ya (v := h16.v) (e0 rfl)) (DRn (l1 := []) (l2 := []) (lc := [7]) (by kernel_rfl) (by kernel_rfl) (by kernel_rfl) (Rn QSn ?_))
    refine Lc rfl ?_ LAn
    exact Ly wn (ya (v := h19.v) (e0 rfl)) (DRz (l1 := []) (l2 := []) (by kernel_rfl) (by kernel_rfl) (Rn QSn (j1 _ _ ⟨_, _, rfl, rfl, rfl, (hst.pk 8 [1, 0, 0, 0, 0, 0, 0] rfl)⟩)))
   ·refine Ly wn (ya (v := h16.v) (e0 rfl)) (DRn (l1 := []) (l2 := [3, 4]) (lc := [5]) (by kernel_rfl) (by kernel_rfl) (by kernel_rfl) (Rn (Sy rfl rfl wn (yFb FL_91_1 (e0 rfl)) rfl (Sy rfl rfl wn (yLb (u := iV x2) O_3 (e0 rfl) hst (mtR (mtR (mtR (mtR (mtR (mtR mhR)))))) rfl) rfl QSn)) ?_))
    refine Lc rfl ?_ LAn
    refine LH wn (rMk hst SL_93 (e0 rfl) gx21) ?_
    intro h19 w hst
    refine DRn (l1 := []) (l2 := []) (lc := [7]) (by kernel_rfl) (by kernel_rfl) (by kernel_rfl) (Rn QSn ?_)
    refine Lc rfl ?_ LAn
    exact Ly wn (ya (v := h19.v) (e0 rfl)) (DRz (l1 := []) (l2 := []) (by kernel_rfl) (by kernel_rfl) (Rn QSn (j1 _ _ ⟨_, _, rfl, rfl, rfl, (hst.pk 8 [1, 0, 0, 0, 0, 0, 0] rfl)⟩)))
  ·refine LH wn (rMk hst SL_93 (e0 rfl) gx21) ?_
   intro h19 w hst
   refine DRn (l1 := []) (l2 := [0, 1]) (lc := [2]) (by kernel_rfl) (by kernel_rfl) (by kernel_rfl) (Rn (Sy rfl rfl wn (yFb FL_91_0 (e0 rfl)) rfl (Sy rfl rfl wn (yLb (u := iV x1) O_3 (e0 rfl) hst (mtR (mtR (mtR (mtR (mtR (mtR mhR)))))) rfl) rfl QSn)) ?_)
   refine Lc rfl ?_ LAn
   refine LH wn (rMk hst SL_93 (e0 rfl) gx18) ?_
   intro h16 w hst
   refine DRn (l1 := []) (l2 := []) (lc := [6]) (by kernel_rfl) (by kernel_rfl) (by kernel_rfl) (Rn QSn ?_)
   refine Lc rfl ?_ LAn
   refine Ly wn (ya (v := h16.v) (e0 rfl)) (DRn (l1 := []) (l2 := []) (lc := [7]) (by kernel_rfl) (by kernel_rfl) (by kernel_rfl) (Rn QSn ?_))
   refine Lc rfl ?_ LAn
   exact Ly wn (ya (v := h19.v) (e0 rfl)) (DRz (l1 := []) (l2 := []) (by kernel_rfl) (by kernel_rfl) (Rn QSn (j1 _ _ ⟨_, _, rfl, rfl, rfl, (hst.pk 8 [0, 0, 0, 0, 0, 0, 0] rfl)⟩)))
 rintro f w ⟨h22, h23, e24_2, e24_3, e24_4, hst⟩
 refine k3 _ _ (seqQ fun Q4 k4 z4 => wR (Y wn rfl (ya (v := hnil.v) rfl) (wN (k4 _ _ (seqQ fun Q5 k5 z5 => seqQ fun Q6 k6 z6 => wR (Y wn rfl (ym (v := (pB b11)) (et rfl e24_4)) (Y wn rfl (yn (e0 rfl)) (Y wn rfl (yFb FL_164_1 (e0 rfl)) (Y wn rfl (yLb (u := h13.v) O_22 (e0 rfl) hst (mtR (mtR (mtR (mtR (mtR (mtR mhR)))))) rfl) (Y wn rfl (yLen SL_22 (e0 rfl) hst (rdO (mtR (mtR (mtR mhR))))) ?_))))))))))
 refine Y wn rfl (ym (v := iV 0) rfl) (wN (k6 _ _ (blockQ fun Q7 qb7 => ?_)))
 obtain ⟨o4, go4, hM⟩ := bs hM
 have je4_0 : ∀ (x61 : List Bool) (x63 : List Int) (h62 : Hdr) (f : Nat → Value) (w : World), f 2 = h22.v → f 3 = h23.v → f 4 = (pB b11) → f 5 = h62.v → St w0 (ros) (row 4 rB h22.v x18 :: row 4 rB h23.v x61 :: row 22 (rS (rI .i64)) h12.v r10.1 :: row 3 (rI .i64) h13.v r10.2.1 :: row 3 (rI .i64) h14.v r10.2.2.1 :: row 4 rB h15.v r10.2.2.2 :: box b11 164 [h12.v, h13.v, h14.v, h15.v] :: row 3 (rI .i64) h62.v x63 :: rs) w → (x61, x63) = o4 → Q7 (.exit 0) (fr 89 f) w := by
  intro x61 x63 h62 f w eje4_0_2 eje4_0_3 eje4_0_4 eje4_0_5 hst ho
  subst ho
  refine qb7 _ _ _ (k5 _ _ (seqQ fun Q24 k24 z24 => blockQ fun Q25 qb25 => ?_))
  obtain ⟨o19, go19, hM⟩ := bs hM
  have je19_0 : ∀ (x236 : List Bool) (x237 : List Bool) (f : Nat → Value) (w : World), f 2 = h22.v → f 3 = h23.v → St w0 (ros) (row 4 rB h22.v x236 :: row 4 rB h23.v x237 :: rs) w → (x236, x237) = o19 → Q25 (.exit 2) (fr 89 f) w := by
   intro x236 x237 f w eje19_0_2 eje19_0_3 hst ho
   subst ho
   refine qb25 _ _ _ (k24 _ _ (seqQ fun Q100 k100 z100 => wR (Y wn rfl (ym (v := h22.v) (et rfl eje19_0_2)) (Y wn rfl (ym (v := h23.v) (et rfl eje19_0_3)) (Y wn rfl (ya (v := h22.v) (e0 rfl)) (Y wn rfl (ya (v := h23.v) (e0 rfl)) (wN (k100 _ _ (wp_ret ?_)))))))))
   obtain rfl := someI hM
   exact hQ _ _ _ (fin2r Tryz.results123 ⟨rfl, rfl⟩ ⟨rfl, rfl⟩ ⟨_, _, rfl, hst⟩)
  replace hst := hst.pk 8 [7, 0, 0, 0, 0, 0, 0, 0] rfl
  replace hst := hst.toQ
  refine loopQ (fun s a w => ∃ (x146 : List Bool) (x147 : List Bool) (x149 : List Int) (f : Nat → Value) (h148 : Hdr), (x146, x147, x149) = s ∧ a = fr 89 f ∧ f 2 = h22.v ∧ f 3 = h23.v ∧ f 4 = (pB b11) ∧ f 5 = h148.v ∧ St w0 (ros) (row 4 rB h22.v x146 :: row 4 rB h23.v x147 :: row 22 (rS (rI .i64)) h12.v r10.1 :: row 3 (rI .i64) h13.v r10.2.1 :: row 3 (rI .i64) h14.v r10.2.2.1 :: row 4 rB h15.v r10.2.2.2 :: box b11 164 [h12.v, h13.v, h14.v, h15.v] :: rowS 3 (rI .i64) h148.v x149 :: rs) w) go19 ⟨_, _, _, _, _, rfl, rfl, eje4_0_2, eje4_0_3, eje4_0_4, eje4_0_5, (hst.pk 8 [1, 1, 1, 1, 1, 1, 1, 0] rfl)⟩ ?_
  rintro _ _ w r19_ ⟨x146, x147, x149, f, h148, rfl, rfl, e19_2, e19_3, e19_4, e19_5, hst⟩ hM19 ho19 Q100019 n19 zz19
  refine seqQ fun Q101 k101 z101 => seqQ fun Q102 k102 z102 => wR (Y wn rfl (ym (v := h148.v) (et rfl e19_5)) (Y wn rfl (yLen SL_22 (e0 rfl) hst (rdQ (mtR (mtR (mtR (mtR (mtR (mtR (mtR mhR))))))))) (Y wn rfl (ygtr (e0 rfl) rfl) (wN (k102 _ _ ?_)))))
  rcases iteS hM19 with ⟨c238, hM19⟩ | ⟨c238, hM19⟩
  ·refine condT (e0 rfl) (dT c238) (wp_skip (k101 _ _ (blockQ fun Q103 qb103 => seqQ fun Q104 k104 z104 => wR (Y wn rfl (ym (v := h148.v) (et rfl e19_5)) ?_))))
   obtain ⟨x239, gx239, hM19⟩ := bs hM19
   refine Y wn rfl (yIa SL_22 (e0 rfl) rfl hst (rdQ (mtR (mtR (mtR (mtR (mtR (mtR (mtR mhR)))))))) gx239) (Y wn rfl (yI O_3 (e0 rfl) hst (rdQ (mtR (mtR (mtR (mtR (mtR (mtR (mtR mhR)))))))) gx239) (Y wn rfl (ya (v := iV x239) (e0 rfl)) (wN (k104 _ _ (seqQ fun Q105 k105 z105 => wR (Y wn rfl (ym (v := h148.v) (et rfl e19_5)) ?_))))))
   obtain ⟨x240, gx240, hM19⟩ := bs hM19
   replace hst := hst.pk 8 [7, 0, 0, 0, 0, 0, 0, 0] rfl
   refine Y wn rfl (ySl (k2 := .i64) SL_22 (e0 rfl) hst (rdQ mhR) (.inl (congrArg some rfl)) (.inr ⟨rfl, rfl⟩) gx240) ?_
   replace hst := hst.qcut gx240 rfl
   refine Y wn rfl (ya (v := (subH h148 1 1 (x149.length : Int)).v) (e0 rfl)) (wN (k105 _ _ (seqQ fun Q106 k106 z106 => wR (Y wn rfl (ym (v := (pB b11)) (et rfl e19_4)) (Y wn rfl (yn (e0 rfl)) (Y wn rfl (yFb FL_164_0 (e0 rfl)) (Y wn rfl (yLb (u := h12.v) O_24 (e0 rfl) hst (mtR (mtR (mtR (mtR (mtR (mtR (mtR mhR))))))) rfl) (Y wn rfl (ym (v := iV x239) (e0 rfl)) ?_))))))))
   obtain ⟨x241, gx241, hM19⟩ := bs hM19
   refine Y wn rfl (yIa SL_24 (e0 rfl) (e0 rfl) hst (rdO (mtR (mtR (mtR mhR)))) gx241) ?_
   obtain ⟨h242, ch242, hst⟩ := rLs hst (rdO (mtR (mtR (mtR mhR)))) gx241
   refine Y wn rfl (yCe O_22 (e0 rfl) ch242 rfl) (Y wn rfl (yLen SL_22 (e0 rfl) hst (rdI mhF)) (Y wn rfl (ym (v := iV 0) rfl) (wN (k106 _ _ (blockQ fun Q107 qb107 => ?_)))))
   obtain ⟨o24, go24, hM19⟩ := bs hM19
   have je24_0 : ∀ (x295 : List Bool) (x296 : List Bool) (x298 : List Int) (h297 : Hdr) (f : Nat → Value) (w : World), f 2 = h22.v → f 3 = h23.v → f 4 = (pB b11) → f 5 = h297.v → St w0 (ros) (row 4 rB h22.v x295 :: row 4 rB h23.v x296 :: row 22 (rS (rI .i64)) h12.v r10.1 :: row 3 (rI .i64) h13.v r10.2.1 :: row 3 (rI .i64) h14.v r10.2.2.1 :: row 4 rB h15.v r10.2.2.2 :: box b11 164 [h12.v, h13.v, h14.v, h15.v] :: rowS 3 (rI .i64) h297.v x298 :: rs) w → (x295, x296, x298) = o24 → Q107 (.exit 4) (fr 89 f) w := by
    intro x295 x296 x298 h297 f w eje24_0_2 eje24_0_3 eje24_0_4 eje24_0_5 hst ho
    subst ho
    refine qb107 _ _ _ (qb103 _ _ _ ?_)
    obtain rfl := someI hM19
    exact n19 _ _ _ rfl ⟨_, _, _, _, _, rfl, rfl, eje24_0_2, eje24_0_3, eje24_0_4, eje24_0_5, hst⟩
   refine loopQ (fun s a w => ∃ (x264 : List Bool) (x265 : List Bool) (x267 : List Int) (x268 : Int) (f : Nat → Value) (h266 : Hdr), (x264, x265, x267, x268) = s ∧ a = fr 89 f ∧ f 2 = h22.v ∧ f 3 = h23.v ∧ f 4 = (pB b11) ∧ f 5 = h266.v ∧ f 54 = h242.v ∧ f 55 = iV (x241.length : Int) ∧ f 56 = iV x268 ∧ St w0 (imm (rI .i64) h242.v x241 :: ros) (row 4 rB h22.v x264 :: row 4 rB h23.v x265 :: row 22 (rS (rI .i64)) h12.v r10.1 :: row 3 (rI .i64) h13.v r10.2.1 :: row 3 (rI .i64) h14.v r10.2.2.1 :: row 4 rB h15.v r10.2.2.2 :: box b11 164 [h12.v, h13.v, h14.v, h15.v] :: rowS 3 (rI .i64) h266.v x267 :: rs) w) go24 ⟨_, _, _, _, _, _, rfl, rfl, e19_2, e19_3, e19_4, rfl, rfl, rfl, rfl, (hst.pk 8 [1, 1, 1, 1, 1, 1, 1, 0] rfl)⟩ ?_
   rintro _ _ w r24_ ⟨x264, x265, x267, x268, f, h266, rfl, rfl, e24_2, e24_3, e24_4, e24_5, e24_54, e24_55, e24_56, hst⟩ hM24 ho24 Q100024 n24 zz24
   refine seqQ fun Q128 k128 z128 => wR (Y wn rfl (ylss (et rfl e24_56) (et rfl e24_55)) (wN (k128 _ _ (seqQ fun Q129 k129 z129 => ?_))))
   rcases iteS hM24 with ⟨c299, hM24⟩ | ⟨c299, hM24⟩
   ·refine condT (e0 rfl) (dT c299) (wp_skip (k129 _ _ (seqQ fun Q130 k130 z130 => blockQ fun Q131 qb131 => seqQ fun Q132 k132 z132 => wR ?_)))
    obtain ⟨x300, gx300, hM24⟩ := bs hM24
    refine Y wn rfl (yIa SL_22 (et rfl e24_54) (et rfl e24_56) hst (rdI mhF) gx300) (Y wn rfl (yI O_3 (e0 rfl) hst (rdI mhF) gx300) (Y wn rfl (ya (v := iV x300) (e0 rfl)) (wN (k132 _ _ (seqQ fun Q133 k133 z133 => wR (Y wn rfl (ym (v := h22.v) (et rfl e24_2)) (Y wn rfl (ym (v := iV x300) (e0 rfl)) ?_)))))))
    obtain ⟨x301, gx301, hM24⟩ := bs hM24
    refine Y wn rfl (yIs SL_93 (e0 rfl) (e0 rfl) hst (rdO mhR) gx301) (YT wn rfl (r_sti (cs := [.bool true]) hst O_4 rfl (e0 rfl) rfl rfl mkB gx301) ?_)
    intro w hst
    refine wN (k133 _ _ (seqQ fun Q134 k134 z134 => wR (Y wn rfl (ym (v := (pB b11)) (et rfl e24_4)) (Y wn rfl (yn (e0 rfl)) (Y wn rfl (yFb FL_164_2 (e0 rfl)) (Y wn rfl (yLb (u := h14.v) O_22 (e0 rfl) hst (mtR (mtR (mtR (mtR (mtR (mtR mhR)))))) rfl) (Y wn rfl (ym (v := iV x300) (e0 rfl)) ?_)))))))
    obtain ⟨x302, gx302, hM24⟩ := bs hM24
    refine Y wn rfl (yIa SL_22 (e0 rfl) (e0 rfl) hst (rdO (mtR (mtR (mtR (mtR mhR))))) gx302) (Y wn rfl (yI O_3 (e0 rfl) hst (rdO (mtR (mtR (mtR (mtR mhR))))) gx302) (Y wn rfl (ya (v := iV x302) (e0 rfl)) (wN (k134 _ _ (seqQ fun Q135 k135 z135 => wR (Y wn rfl (ym (v := iV x302) (e0 rfl)) (Y wn rfl (yneq (e0 rfl) rfl) (Y wn rfl (ym (v := .bool (!(decide (x302 = (-1))))) (e0 rfl)) ?_))))))))
    obtain ⟨r304, gr304, hM24⟩ := bs hM24
    refine joinW 6 (fun f w => f 2 = h22.v ∧ f 3 = h23.v ∧ f 4 = (pB b11) ∧ f 5 = h266.v ∧ f 11 = iV x302 ∧ f 54 = h242.v ∧ f 55 = iV (x241.length : Int) ∧ f 56 = iV x268 ∧ f 78 = .bool r304 ∧ St w0 (imm (rI .i64) h242.v x241 :: ros) (row 4 rB h22.v x301 :: row 4 rB h23.v x265 :: row 22 (rS (rI .i64)) h12.v r10.1 :: row 3 (rI .i64) h13.v r10.2.1 :: row 3 (rI .i64) h14.v r10.2.2.1 :: row 4 rB h15.v r10.2.2.2 :: box b11 164 [h12.v, h13.v, h14.v, h15.v] :: rowS 3 (rI .i64) h266.v x267 :: rs) w) (fun j25 => ?_) ?_
    ·rcases iteS gr304 with ⟨c306, gr304⟩ | ⟨c306, gr304⟩
     ·refine Gn (wx rfl rfl rfl (nF (dT c306))) rfl (Gn (wx rfl rfl rfl (nF (dT c306))) rfl (Gn (wx rfl rfl rfl (nF (dT c306))) rfl (Gn (wx rfl rfl rfl (nF (dT c306))) rfl (Gn (wx rfl rfl rfl (nF (dT c306))) rfl (Y wn rfl (ypf (v := .bool false) (e0 rfl) (nF (dT c306)) rfl) ?_)))))
      obtain rfl := someI gr304
      exact j25 _ _ ⟨e24_2, e24_3, e24_4, e24_5, rfl, e24_54, e24_55, e24_56, rfl, hst⟩
     ·refine Y (wg rfl rfl rfl (nT (dF c306))) rfl (ym (v := h23.v) (et rfl e24_3)) (Y (wg rfl rfl rfl (nT (dF c306))) rfl (ym (v := iV x302) (e0 rfl)) ?_)
      obtain ⟨x307, gx307, gr304⟩ := bs gr304
      refine Y (wg rfl rfl rfl (nT (dF c306))) rfl (yIa SL_93 (e0 rfl) (e0 rfl) hst (rdO (mtR mhR)) gx307) (Y (wg rfl rfl rfl (nT (dF c306))) rfl (yB O_4 (e0 rfl) hst (rdO (mtR mhR)) gx307) (Y (wg rfl rfl rfl (nT (dF c306))) rfl (ynot (e0 rfl)) (Y wn rfl (ypt (v := .bool (!(x307))) (e0 rfl) (nT (dF c306)) (e0 rfl)) ?_)))
      obtain rfl := someI gr304
      exact j25 _ _ ⟨e24_2, e24_3, e24_4, e24_5, rfl, e24_54, e24_55, e24_56, rfl, hst⟩
    rintro f w ⟨e305_2, e305_3, e305_4, e305_5, e305_11, e305_54, e305_55, e305_56, e305_78, hst⟩
    refine wN (k135 _ _ ?_)
    have j26 : ∀ (x312 : List Bool) (x314 : List Int) (h313 : Hdr) (f : Nat → Value) (w : World), f 2 = h22.v → f 3 = h23.v → f 4 = (pB b11) → f 5 = h313.v → f 54 = h242.v → f 55 = iV (x241.length : Int) → f 56 = iV x268 → St w0 (imm (rI .i64) h242.v x241 :: ros) (row 4 rB h22.v x301 :: row 4 rB h23.v x312 :: row 22 (rS (rI .i64)) h12.v r10.1 :: row 3 (rI .i64) h13.v r10.2.1 :: row 3 (rI .i64) h14.v r10.2.2.1 :: row 4 rB h15.v r10.2.2.2 :: box b11 164 [h12.v, h13.v, h14.v, h15.v] :: rowS 3 (rI .i64) h313.v x314 :: rs) w → matching_Reachable_j26 x301 x268 x312 x314 = some r24_ → Q131 .normal (fr 89 f) w := by
     intro x312 x314 h313 f w ej26_2 ej26_3 ej26_4 ej26_5 ej26_54 ej26_55 ej26_56 hst hM
     refine qb131 _ _ _ (k130 _ _ (wR (Y wn rfl (yadd (et rfl ej26_56) rfl) (Y wn rfl (ym (v := iV (wa .i64 x268 1)) (e0 rfl)) (wN ?_)))))
     obtain rfl := someI hM
     exact n24 _ _ _ rfl ⟨_, _, _, _, _, _, rfl, rfl, ej26_2, ej26_3, ej26_4, ej26_5, ej26_54, ej26_55, rfl, hst⟩
    rcases iteS hM24 with ⟨c315, hM24⟩ | ⟨c315, hM24⟩
    ·refine condT (et rfl e305_78) c315 (seqQ fun Q137 k137 z137 => wR (Y wn rfl (ym (v := h23.v) (et rfl e305_3)) (Y wn rfl (ym (v := iV x302) (et rfl e305_11)) ?_)))
     obtain ⟨x316, gx316, hM24⟩ := bs hM24
     refine Y wn rfl (yIs SL_93 (e0 rfl) (e0 rfl) hst (rdO (mtR mhR)) gx316) ?_
     replace hst := hst.pk 2 [1, 0] rfl
     refine YT wn rfl (r_sti (cs := [.bool true]) hst O_4 rfl (e0 rfl) rfl rfl mkB gx316) ?_
     intro w hst
     refine wN (k137 _ _ (wR (Y wn rfl (ym (v := h266.v) (et rfl e305_5)) (Y wn rfl (ym (v := iV x302) (et rfl e305_11)) (YH wn rfl (rLt (n := 1) (l := [x302]) hst SL_22 [iV x302] (bp1 (e0 rfl)) rfl rfl (mks1 (cs := [iV x302]) rfl mkI mks0)) ?_)))))
     intro h317 w hst
     obtain ⟨x319, gx319, hM24⟩ := bs hM24
     replace hst := hst.pk 9 [8, 0, 0, 0, 0, 0, 0, 0, 0] rfl
     refine YH wn rfl (rQAp hst SL_22 (e0 rfl) (e0 rfl) (rdO (mtR mhR)) (List.cons_ne_nil _ _) gx319) ?_
     intro h318 w hst
     exact Y wn rfl (ya (v := h318.v) (e0 rfl)) (wN (j26 _ _ _ _ _ e305_2 e305_3 e305_4 rfl e305_54 e305_55 e305_56 (hst.pk 9 [3, 2, 2, 2, 2, 2, 2, 0] rfl) hM24))
    ·exact condF (et rfl e305_78) (bfalse c315) (wp_skip (j26 _ _ _ _ _ e305_2 e305_3 e305_4 e305_5 e305_54 e305_55 e305_56 hst hM24))
   ·refine condF (e0 rfl) (dF c299) (wp_exit (z129 _ _ _ rfl ?_))
    obtain rfl := someI hM24
    exact zz24 _ _ _ _ rfl rfl (je24_0 _ _ _ _ _ _ e24_2 e24_3 e24_4 e24_5 (hst.facts (allT allI)) (ho24 _ rfl))
  ·refine condF (e0 rfl) (dF c238) (wp_exit (z101 _ _ _ rfl ?_))
   obtain rfl := someI hM19
   exact zz19 _ _ _ _ rfl rfl (je19_0 _ _ _ _ e19_2 e19_3 (hst.pk 8 [0, 0] rfl) (ho19 _ rfl))
 replace hst := hst.rowNh 3 (rI .i64)
 refine loopQ (fun s a w => ∃ (x39 : List Bool) (x41 : List Int) (x42 : Int) (f : Nat → Value) (h40 : Hdr), (x39, x41, x42) = s ∧ a = fr 89 f ∧ f 2 = h22.v ∧ f 3 = h23.v ∧ f 4 = (pB b11) ∧ f 5 = h40.v ∧ f 23 = h13.v ∧ f 24 = iV (r10.2.1.length : Int) ∧ f 25 = iV x42 ∧ St w0 (ros) (row 4 rB h22.v x18 :: row 4 rB h23.v x39 :: row 22 (rS (rI .i64)) h12.v r10.1 :: row 3 (rI .i64) h13.v r10.2.1 :: row 3 (rI .i64) h14.v r10.2.2.1 :: row 4 rB h15.v r10.2.2.2 :: box b11 164 [h12.v, h13.v, h14.v, h15.v] :: row 3 (rI .i64) h40.v x41 :: rs) w) go4 ⟨_, _, _, _, _, rfl, rfl, e24_2, e24_3, e24_4, rfl, rfl, rfl, rfl, (hst.pk 8 [1, 1, 1, 1, 1, 1, 1, 0] rfl)⟩ ?_
 rintro _ _ w r4_ ⟨x39, x41, x42, f, h40, rfl, rfl, e4_2, e4_3, e4_4, e4_5, e4_23, e4_24, e4_25, hst⟩ hM4 ho4 Q100004 n4 zz4
 refine seqQ fun Q138 k138 z138 => wR (Y wn rfl (ylss (et rfl e4_25) (et rfl e4_24)) (wN (k138 _ _ (seqQ fun Q139 k139 z139 => ?_))))
 rcases iteS hM4 with ⟨c320, hM4⟩ | ⟨c320, hM4⟩
 ·refine condT (e0 rfl) (dT c320) (wp_skip (k139 _ _ (seqQ fun Q140 k140 z140 => blockQ fun Q141 qb141 => seqQ fun Q142 k142 z142 => wR (Y wn rfl (ym (v := iV x42) (et rfl e4_25)) ?_))))
  obtain ⟨x321, gx321, hM4⟩ := bs hM4
  refine Y wn rfl (yIa SL_22 (et rfl e4_23) (et rfl e4_25) hst (rdO (mtR (mtR (mtR mhR)))) gx321) (Y wn rfl (yI O_3 (e0 rfl) hst (rdO (mtR (mtR (mtR mhR)))) gx321) (Y wn rfl (ya (v := iV x42) (e0 rfl)) (Y wn rfl (ya (v := iV x321) (e0 rfl)) (wN (k142 _ _ (seqQ fun Q143 k143 z143 => wR (Y wn rfl (ym (v := iV x321) (e0 rfl)) (Y wn rfl (yeql (e0 rfl) rfl) (wN (k143 _ _ ?_))))))))))
  have j27 : ∀ (x326 : List Bool) (x328 : List Int) (h327 : Hdr) (f : Nat → Value) (w : World), f 2 = h22.v → f 3 = h23.v → f 4 = (pB b11) → f 5 = h327.v → f 23 = h13.v → f 24 = iV (r10.2.1.length : Int) → f 25 = iV x42 → St w0 (ros) (row 4 rB h22.v x18 :: row 4 rB h23.v x326 :: row 22 (rS (rI .i64)) h12.v r10.1 :: row 3 (rI .i64) h13.v r10.2.1 :: row 3 (rI .i64) h14.v r10.2.2.1 :: row 4 rB h15.v r10.2.2.2 :: box b11 164 [h12.v, h13.v, h14.v, h15.v] :: row 3 (rI .i64) h327.v x328 :: rs) w → matching_Reachable_j27 x42 x326 x328 = some r4_ → Q141 .normal (fr 89 f) w := by
   intro x326 x328 h327 f w ej27_2 ej27_3 ej27_4 ej27_5 ej27_23 ej27_24 ej27_25 hst hM
   refine qb141 _ _ _ (k140 _ _ (wR (Y wn rfl (yadd (et rfl ej27_25) rfl) (Y wn rfl (ym (v := iV (wa .i64 x42 1)) (e0 rfl)) (wN ?_)))))
   obtain rfl := someI hM
   exact n4 _ _ _ rfl ⟨_, _, _, _, _, rfl, rfl, ej27_2, ej27_3, ej27_4, ej27_5, ej27_23, ej27_24, rfl, hst⟩
  rcases iteS hM4 with ⟨c329, hM4⟩ | ⟨c329, hM4⟩
  ·refine condT (e0 rfl) (dT c329) (seqQ fun Q145 k145 z145 => wR (Y wn rfl (ym (v := h23.v) (et rfl e4_3)) (Y wn rfl (ym (v := iV x42) (e0 rfl)) ?_)))
   obtain ⟨x330, gx330, hM4⟩ := bs hM4
   refine Y wn rfl (yIs SL_93 (e0 rfl) (e0 rfl) hst (rdO (mtR mhR)) gx330) ?_
   replace hst := hst.pk 2 [1, 0] rfl
   refine YT wn rfl (r_sti (cs := [.bool true]) hst O_4 rfl (e0 rfl) rfl rfl mkB gx330) ?_
   intro w hst
   refine wN (k145 _ _ (wR (Y wn rfl (ym (v := h40.v) (et rfl e4_5)) (Y wn rfl (ym (v := iV x42) (e0 rfl)) (YH wn rfl (rLt (n := 1) (l := [x42]) hst SL_22 [iV x42] (bp1 (e0 rfl)) rfl rfl (mks1 (cs := [iV x42]) rfl mkI mks0)) ?_)))))
   intro h331 w hst
   obtain ⟨x333, gx333, hM4⟩ := bs hM4
   replace hst := hst.pk 9 [8, 0, 0, 0, 0, 0, 0, 0, 0] rfl
   refine YH wn rfl (rAp hst SL_22 (e0 rfl) (e0 rfl) (rdO (mtR mhR)) gx333) ?_
   intro h332 w hst
   exact Y wn rfl (ya (v := h332.v) (e0 rfl)) (wN (j27 _ _ _ _ _ e4_2 e4_3 e4_4 rfl e4_23 e4_24 e4_25 (hst.pk 9 [3, 2, 2, 2, 2, 2, 2, 0] rfl) hM4))
  ·exact condF (e0 rfl) (dF c329) (wp_skip (j27 _ _ _ _ _ e4_2 e4_3 e4_4 e4_5 e4_23 e4_24 e4_25 hst hM4))
 ·refine condF (e0 rfl) (dF c320) (wp_exit (z139 _ _ _ rfl ?_))
  obtain rfl := someI hM4
  exact zz4 _ _ _ _ rfl rfl (je4_0 _ _ _ _ _ e4_2 e4_3 e4_4 e4_5 hst (ho4 _ rfl))

theorem matching_List_ok {x1 : List Bool} {x3 : Bool} {h2 : Hdr} {out : (List Int)} (hM : matching_List x1 x3 = some out) (q1 : imm rB h2.v x1 ∈ ros) (hst : St w0 ros (rs) w) :
  Calls Tryz.prog 124 #[h2.v, .bool x3] w (fun e w => ∃ (h100001 : Hdr), e = .returned (h100001.v) ∧ St w0 (ros) (row 3 (rI .i64) h100001.v out :: rs) w) := by
 refine enterQ Tryz.func124 rfl Tryz.ntmps124 rfl fun Q hQ => seqQ fun Q1 k1 z1 => wR (Y wn rfl (ya (v := hnil.v) rfl) (wN (k1 _ _ (seqQ fun Q2 k2 z2 => wR (Y wn rfl (ya (v := hnil.v) rfl) (wN (k2 _ _ (seqQ fun Q3 k3 z3 => seqQ fun Q4 k4 z4 => wR ?_))))))))
 refine Y wn rfl (ym (v := h2.v) (e0 rfl)) (Y wn rfl (yLen SL_93 (e0 rfl) hst (rdI q1)) (Y wn rfl (ym (v := iV 0) rfl) (wN (k4 _ _ (blockQ fun Q5 qb5 => ?_)))))
 obtain ⟨o3, go3, hM⟩ := bs hM
 have je3_0 : ∀ (x33 : List Int) (h32 : Hdr) (f : Nat → Value) (w : World), f 5 = h32.v → St w0 (ros) (row 3 (rI .i64) h32.v x33 :: rs) w → x33 = o3 → Q5 (.exit 0) (fr 24 f) w := by
  intro x33 h32 f w eje3_0_5 hst ho
  subst ho
  refine qb5 _ _ _ (k3 _ _ (seqQ fun Q18 k18 z18 => wR (Y wn rfl (ym (v := h32.v) (et rfl eje3_0_5)) (Y wn rfl (ya (v := h32.v) (e0 rfl)) (wN (k18 _ _ (wp_ret ?_)))))))
  obtain rfl := someI hM
  exact hQ _ _ _ (fin1r Tryz.results124 ⟨rfl, rfl⟩ ⟨_, rfl, hst⟩)
 replace hst := hst.rowNh 3 (rI .i64)
 refine loopQ (fun s a w => ∃ (x16 : List Int) (x17 : Int) (f : Nat → Value) (h15 : Hdr), (x16, x17) = s ∧ a = fr 24 f ∧ f 1 = .bool x3 ∧ f 5 = h15.v ∧ f 8 = h2.v ∧ f 9 = iV (x1.length : Int) ∧ f 10 = iV x17 ∧ St w0 (ros) (row 3 (rI .i64) h15.v x16 :: rs) w) go3 ⟨_, _, _, _, rfl, rfl, rfl, rfl, rfl, rfl, rfl, hst⟩ ?_
 rintro _ _ w r3_ ⟨x16, x17, f, h15, rfl, rfl, e3_1, e3_5, e3_8, e3_9, e3_10, hst⟩ hM3 ho3 Q100003 n3 zz3
 refine seqQ fun Q19 k19 z19 => wR (Y wn rfl (ylss (et rfl e3_10) (et rfl e3_9)) (wN (k19 _ _ (seqQ fun Q20 k20 z20 => ?_))))
 rcases iteS hM3 with ⟨c34, hM3⟩ | ⟨c34, hM3⟩
 ·refine condT (e0 rfl) (dT c34) (wp_skip (k20 _ _ (seqQ fun Q21 k21 z21 => blockQ fun Q22 qb22 => seqQ fun Q23 k23 z23 => wR (Y wn rfl (ym (v := iV x17) (et rfl e3_10)) ?_))))
  obtain ⟨x35, gx35, hM3⟩ := bs hM3
  refine Y wn rfl (yIa SL_93 (et rfl e3_8) (et rfl e3_10) hst (rdI q1) gx35) (Y wn rfl (yB O_4 (e0 rfl) hst (rdI q1) gx35) (Y wn rfl (ya (v := iV x17) (e0 rfl)) (Y wn rfl (ya (v := .bool x35) (e0 rfl)) (wN (k23 _ _ (seqQ fun Q24 k24 z24 => wR (Y wn rfl (ym (v := .bool x35) (e0 rfl)) (Y wn rfl (ym (v := .bool x3) (et rfl e3_1)) (Y wn rfl (yeqb (by kernel_rfl) (e0 rfl) (e0 rfl)) (wN (k24 _ _ ?_)))))))))))
  have j4 : ∀ (x40 : List Int) (h39 : Hdr) (f : Nat → Value) (w : World), f 1 = .bool x3 → f 5 = h39.v → f 8 = h2.v → f 9 = iV (x1.length : Int) → f 10 = iV x17 → St w0 (ros) (row 3 (rI .i64) h39.v x40 :: rs) w → matching_List_j4 x17 x40 = some r3_ → Q22 .normal (fr 24 f) w := by
   intro x40 h39 f w ej4_1 ej4_5 ej4_8 ej4_9 ej4_10 hst hM
   refine qb22 _ _ _ (k21 _ _ (wR (Y wn rfl (yadd (et rfl ej4_10) rfl) (Y wn rfl (ym (v := iV (wa .i64 x17 1)) (e0 rfl)) (wN ?_)))))
   obtain rfl := someI hM
   exact n3 _ _ _ rfl ⟨_, _, _, _, rfl, rfl, ej4_1, ej4_5, ej4_8, ej4_9, rfl, hst⟩
  rcases iteS hM3 with ⟨c41, hM3⟩ | ⟨c41, hM3⟩
  ·refine condT (e0 rfl) c41 (wR (Y wn rfl (ym (v := h15.v) (et rfl e3_5)) (Y wn rfl (ym (v := iV x17) (e0 rfl)) (YH wn rfl (rLt (n := 1) (l := [x17]) hst SL_22 [iV x17] (bp1 (e0 rfl)) rfl rfl (mks1 (cs := [iV x17]) rfl mkI mks0)) ?_))))
   intro h42 w hst
   obtain ⟨x44, gx44, hM3⟩ := bs hM3
   replace hst := hst.pk 2 [1, 0] rfl
   refine YH wn rfl (rAp hst SL_22 (e0 rfl) (e0 rfl) (rdO (mtR mhR)) gx44) ?_
   intro h43 w hst
   exact Y wn rfl (ya (v := h43.v) (e0 rfl)) (wN (j4 _ _ _ _ e3_1 rfl e3_8 e3_9 e3_10 (hst.pk 2 [0] rfl) hM3))
  ·exact condF (e0 rfl) (bfalse c41) (wp_skip (j4 _ _ _ _ e3_1 e3_5 e3_8 e3_9 e3_10 hst hM3))
 ·refine condF (e0 rfl) (dF c34) (wp_exit (z20 _ _ _ rfl ?_))
  obtain rfl := someI hM3
  exact zz3 _ _ _ _ rfl rfl (je3_0 _ _ _ _ e3_5 hst (ho3 _ rfl))

theorem matching_Cover_ok {x1 : Int} {x2 : Int} {x3 : List Int} {x5 : List Int} {x7 : List Int} {h4 : Hdr} {h6 : Hdr} {h8 : Hdr} {out : (List Int) × (List Int) × Int} (hM : matching_Cover x1 x2 x3 x5 x7 = some out) (q1 : imm (rI .i64) h4.v x3 ∈ ros) (q2 : imm (rI .i64) h6.v x5 ∈ ros) (q3 : imm (rI .u64) h8.v x7 ∈ ros) (hst : St w0 ros (rs) w) :
  Calls Tryz.prog 104 #[.agg #[iV x1, iV x2, h4.v, h6.v, h8.v]] w (fun e w => ∃ (h100001 : Hdr) (h100003 : Hdr), e = .returned (.tuple #[.agg #[h100001.v, h100003.v], iV out.2.2]) ∧ St w0 (ros) (row 3 (rI .i64) h100001.v out.1 :: row 3 (rI .i64) h100003.v out.2.1 :: rs) w) := by
 refine enterQ Tryz.func104 rfl Tryz.ntmps104 rfl fun Q hQ => seqQ fun Q1 k1 z1 => wR (YB wn rfl (r_box (vals := [iV x1, iV x2, h4.v, h6.v, h8.v]) hst (e0 rfl) rfl) ?_)
 intro b9 w hst
 refine YB wn rfl (rAl hst ZT_86) ?_
 intro b10 w hst
 refine Y wn rfl (ya (v := iV 0) rfl) (wN (k1 _ _ (seqQ fun Q2 k2 z2 => wR (Y wn rfl (yLbs (us := [iV x1, iV x2, h4.v, h6.v, h8.v]) ST_91 (e0 rfl) hst (mtR mhR) rfl rfl) ?_))))
 obtain ⟨r11, gr11, hM⟩ := bs hM
 refine Yc wn rfl (yCall FN_122 (a1 (e0 rfl))) (matrix_Check_ok (hM := gr11) (hst := hst) (q1 := q1) (q2 := q2) (q3 := q3)) ?_
 rintro _ w ⟨rfl, hst⟩
 refine ⟨_, rfl, ?_⟩
 refine Y wn rfl (ya (v := iV r11) (e0 rfl)) (wN (k2 _ _ (seqQ fun Q3 k3 z3 => seqQ fun Q4 k4 z4 => wR (Y wn rfl (ym (v := iV r11) (e0 rfl)) (Y wn rfl (yneq (e0 rfl) rfl) (wN (k4 _ _ ?_)))))))
 rcases iteS hM with ⟨c12, hM⟩ | ⟨c12, hM⟩
 ·refine condF (e0 rfl) (nF (dT c12)) (wp_skip (k3 _ _ (seqQ fun Q5 k5 z5 => wR (Y wn rfl (yLbs (us := [iV x1, iV x2, h4.v, h6.v, h8.v]) ST_91 (e0 rfl) hst (mtR mhR) rfl rfl) ?_))))
  obtain ⟨r13, gr13, hM⟩ := bs hM
  refine Yc wn rfl (yCall FN_123 (a1 (e0 rfl))) (matching_Reachable_ok (hM := gr13) (hst := hst) (q1 := q1) (q2 := q2) (q3 := q3)) ?_
  rintro _ w ⟨h14, h15, rfl, hst⟩
  refine ⟨_, rfl, ?_⟩
  refine Y wn rfl (ym (v := .tuple #[h14.v, h15.v]) (e0 rfl)) (Y wn rfl (yx (v := h14.v) (e0 rfl) rfl) (Y wn rfl (yx (v := h15.v) (e0 rfl) rfl) (Y wn rfl (ya (v := h14.v) (e0 rfl)) (Y wn rfl (ya (v := h15.v) (e0 rfl)) (wN (k5 _ _ (seqQ fun Q6 k6 z6 => wR (Y wn rfl (ym (v := h14.v) (e0 rfl)) ?_))))))))
  obtain ⟨r16, gr16, hM⟩ := bs hM
  replace hst := hst.fz
  refine Yc wn rfl (yCall FN_124 (a2 (e0 rfl) rfl)) (matching_List_ok (hM := gr16) (hst := hst) (q1 := mhF)) ?_
  rintro _ w ⟨h17, rfl, hst⟩
  refine ⟨_, rfl, ?_⟩
  refine Y wn rfl (ym (v := h15.v) (e0 rfl)) ?_
  obtain ⟨r18, gr18, hM⟩ := bs hM
  replace hst := hst.pk 2 [1, 0] rfl
  replace hst := hst.fz
  refine Yc wn rfl (yCall FN_124 (a2 (e0 rfl) rfl)) (matching_List_ok (hM := gr18) (hst := hst) (q1 := mhF)) ?_
  rintro _ w ⟨h19, rfl, hst⟩
  refine ⟨_, rfl, ?_⟩
  refine Y wn rfl (ybuild (us := [h17.v, h19.v]) [(0, h17.v), (1, h19.v)] SO_86 (bp2 (e0 rfl) (e0 rfl)) rfl) ?_
  replace hst := hst.pk 3 [2, 0, 0] rfl
  refine YT wn rfl (r_stbn (vals' := [h17.v, h19.v]) (us := [h17.v, h19.v]) hst ST_86 (e0 rfl) (e0 rfl) rfl rfl (one_of rfl) rfl) ?_
  intro w hst
  refine Y wn rfl (ya (v := iV 0) rfl) (wN (k6 _ _ (wp_ret ?_)))
  obtain rfl := someI hM
  exact hQ _ _ _ (fin2r Tryz.results104 (rcs2 rfl rfl hst mhR ST_86 rfl) ⟨rfl, rfl⟩ ⟨_, _, rfl, ((hst.pk 4 [2, 1] rfl).facts (allT (allT allI)))⟩)
 ·refine condT (e0 rfl) (nT (dF c12)) (seqQ fun Q7 k7 z7 => wR (Y wn rfl (ybuild (us := [hnil.v, hnil.v]) [] SO_86 bp0 rfl) (Y wn rfl (ym (v := iV r11) (e0 rfl)) (YT wn rfl (r_stbn (vals' := [hnil.v, hnil.v]) (us := [hnil.v, hnil.v]) hst ST_86 (e0 rfl) (e0 rfl) rfl rfl (one_of rfl) rfl) ?_))))
  intro w hst
  refine Y wn rfl (ya (v := iV r11) (e0 rfl)) (wN (k7 _ _ (wp_ret (z3 _ _ _ rfl ?_))))
  obtain rfl := someI hM
  replace hst := hst.rowNh 3 (rI .i64)
  replace hst := hst.rowNh 3 (rI .i64)
  exact hQ _ _ _ (fin2r Tryz.results104 (rcs2 rfl rfl hst (mtR (mtR mhR)) ST_86 rfl) ⟨rfl, rfl⟩ ⟨_, _, rfl, (hst.pk 4 [1, 0] rfl)⟩)

theorem dissect_cover_ok {x1 : List (List Int)} {x3 : List Int} {h2 : Hdr} {h4 : Hdr} {out : (List Bool)} (hM : dissect_cover x1 x3 = some out) (q1 : imm (rS (rI .i64)) h2.v x1 ∈ ros) (q2 : imm (rI .i64) h4.v x3 ∈ ros) (hst : St w0 ros (rs) w) :
  Calls Tryz.prog 86 #[.agg #[h2.v], h4.v] w (fun e w => ∃ (h100001 : Hdr), e = .returned (h100001.v) ∧ St w0 (ros) (row 4 rB h100001.v out :: rs) w) := by
 refine enterQ Tryz.func86 rfl Tryz.ntmps86 rfl fun Q hQ => seqQ fun Q1 k1 z1 => wR (YB wn rfl (r_box (vals := [h2.v]) hst (e0 rfl) rfl) ?_)
 intro b5 w hst
 refine Y wn rfl (ya (v := hnil.v) rfl) (wN (k1 _ _ (seqQ fun Q2 k2 z2 => ?_)))
 obtain ⟨r6, gr6, hM⟩ := bs hM
 obtain ⟨r8, gr8, hM⟩ := bs hM
 refine wp_drawR [0, 0, 3, 0, 0, 31, 63, 127] [2, 5, 6, 7] 4 folM (by kernel_rfl) (by kernel_rfl) (by kernel_rfl) ?_
 replace hst := hst.drew
 refine DRn (l1 := [0, 1, 3, 4]) (l2 := []) (lc := [2]) (by kernel_rfl) (by kernel_rfl) (by kernel_rfl) (Ry rfl rfl wn (yLbs (us := [h2.v]) ST_26 (e0 rfl) hst mhR rfl rfl) (Ry rfl rfl wn (ym (v := h4.v) (e0 rfl)) (Ry rfl rfl wn (yLbs (us := [h2.v]) ST_26 (e0 rfl) hst mhR rfl rfl) (Ry rfl rfl wn (ym (v := h4.v) (e0 rfl)) (Rn QSn ?_)))))
 refine Lc rfl ?_ LAn
 refine Lk wn (yCall FN_103 (a3 (e0 rfl) (e0 rfl) rfl)) (dissect_border_ok (hM := gr6) (hst := hst) (q1 := q1) (q2 := q2)) ?_
 rintro _ w ⟨h7, rfl, hst⟩
 refine ⟨_, rfl, ?_⟩
 refine DRn (l1 := []) (l2 := [3, 4]) (lc := [5]) (by kernel_rfl) (by kernel_rfl) (by kernel_rfl) (Rn (Sy rfl rfl wn (yLbs (us := [h2.v]) ST_26 (e0 rfl) hst (mtR mhR) rfl rfl) rfl (Sy rfl rfl wn (ym (v := h4.v) (e0 rfl)) rfl QSn)) ?_)
 refine Lc rfl ?_ LAn
 refine Lk wn (yCall FN_103 (a3 (e0 rfl) (e0 rfl) rfl)) (dissect_border_ok (hM := gr8) (hst := hst) (q1 := q1) (q2 := q2)) ?_
 rintro _ w ⟨h9, rfl, hst⟩
 refine ⟨_, rfl, ?_⟩
 refine DRn (l1 := []) (l2 := []) (lc := [6]) (by kernel_rfl) (by kernel_rfl) (by kernel_rfl) (Rn QSn ?_)
 refine Lc rfl ?_ LAn
 refine Ly wn (ya (v := h7.v) (e0 rfl)) (DRn (l1 := []) (l2 := []) (lc := [7]) (by kernel_rfl) (by kernel_rfl) (by kernel_rfl) (Rn QSn ?_))
 refine Lc rfl ?_ LAn
 refine Ly wn (ya (v := h9.v) (e0 rfl)) (DRz (l1 := []) (l2 := []) (by kernel_rfl) (by kernel_rfl) (Rn QSn (k2 _ _ (seqQ fun Q3 k3 z3 => wR (Y wn rfl (ym (v := h7.v) (e0 rfl)) (Y wn rfl (yLen SL_22 (e0 rfl) hst (rdO (mtR mhR))) (Y wn rfl (ym (v := h9.v) (e0 rfl)) (Y wn rfl (yLen SL_22 (e0 rfl) hst (rdO mhR)) (YH wn rfl (rLt (n := 1) (l := [0]) hst SL_22 [iV 0] (bp1 rfl) rfl rfl (mks1 (cs := [iV 0]) rfl mkI mks0)) ?_)))))))))
 intro h10 w hst
 refine Y wn rfl (ybuild (us := [iV (r6.length : Int), iV (r8.length : Int), h10.v, hnil.v, hnil.v]) [(0, iV (r6.length : Int)), (1, iV (r8.length : Int)), (2, h10.v)] SO_91 (bp3 (e0 rfl) (e0 rfl) (e0 rfl)) rfl) (YB wn rfl (rAl hst ZT_91) ?_)
 intro b11 w hst
 refine YT wn rfl (r_stbn (vals' := [iV (r6.length : Int), iV (r8.length : Int), h10.v, hnil.v, hnil.v]) (us := [iV (r6.length : Int), iV (r8.length : Int), h10.v, hnil.v, hnil.v]) hst ST_91 (e0 rfl) (e0 rfl) rfl rfl (one_of rfl) rfl) ?_
 intro w hst
 refine wN (k3 _ _ (seqQ fun Q4 k4 z4 => seqQ fun Q5 k5 z5 => wR (Y wn rfl (ym (v := h9.v) (e0 rfl)) (Y wn rfl (yLen SL_22 (e0 rfl) hst (rdO (mtR (mtR mhR)))) (Y wn rfl (ym (v := iV 0) rfl) (wN (k5 _ _ (blockQ fun Q6 qb6 => ?_))))))))
 obtain ⟨o21, go21, hM⟩ := bs hM
 have je21_0 : ∀ (x233 : List Int) (x235 : List Int) (x237 : List Int) (h232 : Hdr) (h234 : Hdr) (h236 : Hdr) (f : Nat → Value) (w : World), f 2 = (pB b5) → f 5 = h7.v → f 6 = h9.v → f 7 = (pB b11) → St w0 (ros) (box b5 26 [h2.v] :: row 3 (rI .i64) h7.v r6 :: row 3 (rI .i64) h9.v r8 :: row 3 (rI .i64) h232.v x233 :: row 3 (rI .i64) h234.v x235 :: row 82 (rI .u64) h236.v x237 :: box b11 91 [iV (r6.length : Int), iV (r8.length : Int), h232.v, h234.v, h236.v] :: rs) w → (x233, x235, x237) = o21 → Q6 (.exit 0) (fr 119 f) w := by
  intro x233 x235 x237 h232 h234 h236 f w eje21_0_2 eje21_0_5 eje21_0_6 eje21_0_7 hst ho
  subst ho
  refine qb6 _ _ _ (k4 _ _ (seqQ fun Q65 k65 z65 => wR (Y wn rfl (yFb FL_26_0 (et rfl eje21_0_2)) (Y wn rfl (yLb (u := h2.v) O_24 (e0 rfl) hst mhR rfl) (Y wn rfl (yLen SL_24 (e0 rfl) hst (rdI q1)) ?_)))))
  obtain ⟨x240, gx240, hM⟩ := bs hM
  refine YH wn rfl (rMk hst SL_93 (e0 rfl) gx240) ?_
  intro h238 w hst
  refine Y wn rfl (ya (v := h238.v) (e0 rfl)) (wN (k65 _ _ (seqQ fun Q66 k66 z66 => wR (Y wn rfl (yLbs (us := [iV (r6.length : Int), iV (r8.length : Int), h232.v, h234.v, h236.v]) ST_91 (et rfl eje21_0_7) hst (mtR (mtR (mtR (mtR (mtR (mtR (mtR mhR))))))) rfl rfl) ?_))))
  obtain ⟨r241, gr241, hM⟩ := bs hM
  replace hst := hst.pk 5 [4, 0, 0, 0, 0] rfl
  replace hst := hst.fz
  replace hst := hst.pk 5 [4, 0, 0, 0, 0] rfl
  replace hst := hst.fz
  replace hst := hst.pk 5 [4, 0, 0, 0, 0] rfl
  replace hst := hst.fz
  refine Yc wn rfl (yCall FN_104 (a1 (e0 rfl))) (matching_Cover_ok (hM := gr241) (hst := hst) (q1 := (mtF (mtF mhF))) (q2 := (mtF mhF)) (q3 := mhF)) ?_
  rintro _ w ⟨h242, h243, rfl, hst⟩
  refine ⟨_, rfl, ?_⟩
  refine Y wn rfl (ym (v := .tuple #[.agg #[h242.v, h243.v], iV r241.2.2]) (e0 rfl)) (Y wn rfl (yx (v := .agg #[h242.v, h243.v]) (e0 rfl) rfl) (Y wn rfl (yx (v := iV r241.2.2) (e0 rfl) rfl) (YB wn rfl (rAl hst ZT_86) ?_)))
  intro b244 w hst
  refine YT wn rfl (r_stbn (vals' := [h242.v, h243.v]) (us := [h242.v, h243.v]) hst ST_86 (e0 rfl) (e0 rfl) rfl rfl (one_of rfl) rfl) ?_
  intro w hst
  refine Y wn rfl (ya (v := iV r241.2.2) (e0 rfl)) (wN (k66 _ _ (seqQ fun Q67 k67 z67 => seqQ fun Q68 k68 z68 => wR (Y wn rfl (ym (v := iV r241.2.2) (e0 rfl)) (Y wn rfl (yneq (e0 rfl) rfl) (wN (k68 _ _ ?_)))))))
  rcases iteS hM with ⟨c245, hM⟩ | ⟨c245, hM⟩
  ·refine condF (e0 rfl) (nF (dT c245)) (wp_skip (k67 _ _ (seqQ fun Q69 k69 z69 => seqQ fun Q70 k70 z70 => wR (Y wn rfl (yFb FL_86_0 (e0 rfl)) (Y wn rfl (yLb (u := h242.v) O_22 (e0 rfl) hst mhR rfl) (Y wn rfl (yLen SL_22 (e0 rfl) hst (rdO (mtR mhR))) (Y wn rfl (ym (v := iV 0) rfl) (wN (k70 _ _ (blockQ fun Q71 qb71 => ?_))))))))))
   obtain ⟨o22, go22, hM⟩ := bs hM
   have je22_0 : ∀ (x258 : List Bool) (f : Nat → Value) (w : World), f 6 = h9.v → f 14 = h238.v → f 15 = (pB b244) → St w0 (ros) (row 3 (rI .i64) h9.v r8 :: row 4 rB h238.v x258 :: row 3 (rI .i64) h242.v r241.1 :: row 3 (rI .i64) h243.v r241.2.1 :: box b244 86 [h242.v, h243.v] :: rs) w → x258 = o22 → Q71 (.exit 4) (fr 119 f) w := by
    intro x258 f w eje22_0_6 eje22_0_14 eje22_0_15 hst ho
    subst ho
    refine qb71 _ _ _ (k69 _ _ (seqQ fun Q82 k82 z82 => seqQ fun Q83 k83 z83 => wR (Y wn rfl (yFb FL_86_1 (et rfl eje22_0_15)) (Y wn rfl (yLb (u := h243.v) O_22 (e0 rfl) hst (mtR (mtR (mtR (mtR mhR)))) rfl) (Y wn rfl (yLen SL_22 (e0 rfl) hst (rdO (mtR (mtR (mtR mhR))))) (Y wn rfl (ym (v := iV 0) rfl) (wN (k83 _ _ (blockQ fun Q84 qb84 => ?_)))))))))
    obtain ⟨o23, go23, hM⟩ := bs hM
    have je23_0 : ∀ (x271 : List Bool) (f : Nat → Value) (w : World), f 14 = h238.v → St w0 (ros) (row 4 rB h238.v x271 :: rs) w → x271 = o23 → Q84 (.exit 6) (fr 119 f) w := by
     intro x271 f w eje23_0_14 hst ho
     subst ho
     refine qb84 _ _ _ (k82 _ _ (seqQ fun Q95 k95 z95 => wR (Y wn rfl (ym (v := h238.v) (et rfl eje23_0_14)) (Y wn rfl (ya (v := h238.v) (e0 rfl)) (wN (k95 _ _ (wp_ret ?_)))))))
     obtain rfl := someI hM
     exact hQ _ _ _ (fin1r Tryz.results86 ⟨rfl, rfl⟩ ⟨_, rfl, hst⟩)
    refine loopQ (fun s a w => ∃ (x263 : List Bool) (x264 : Int) (f : Nat → Value), (x263, x264) = s ∧ a = fr 119 f ∧ f 6 = h9.v ∧ f 14 = h238.v ∧ f 105 = h243.v ∧ f 106 = iV (r241.2.1.length : Int) ∧ f 107 = iV x264 ∧ St w0 (ros) (row 3 (rI .i64) h9.v r8 :: row 4 rB h238.v x263 :: row 3 (rI .i64) h243.v r241.2.1 :: rs) w) go23 ⟨_, _, _, rfl, rfl, eje22_0_6, eje22_0_14, rfl, rfl, rfl, (hst.pk 5 [0, 0, 1] rfl)⟩ ?_
    rintro _ _ w r23_ ⟨x263, x264, f, rfl, rfl, e23_6, e23_14, e23_105, e23_106, e23_107, hst⟩ hM23 ho23 Q100023 n23 zz23
    refine seqQ fun Q96 k96 z96 => wR (Y wn rfl (ylss (et rfl e23_107) (et rfl e23_106)) (wN (k96 _ _ (seqQ fun Q97 k97 z97 => ?_))))
    rcases iteS hM23 with ⟨c272, hM23⟩ | ⟨c272, hM23⟩
    ·refine condT (e0 rfl) (dT c272) (wp_skip (k97 _ _ (seqQ fun Q98 k98 z98 => blockQ fun Q99 qb99 => seqQ fun Q100 k100 z100 => wR ?_)))
     obtain ⟨x273, gx273, hM23⟩ := bs hM23
     refine Y wn rfl (yIa SL_22 (et rfl e23_105) (et rfl e23_107) hst (rdO (mtR (mtR mhR))) gx273) (Y wn rfl (yI O_3 (e0 rfl) hst (rdO (mtR (mtR mhR))) gx273) (Y wn rfl (ya (v := iV x273) (e0 rfl)) (wN (k100 _ _ (wR (Y wn rfl (ym (v := h238.v) (et rfl e23_14)) (Y wn rfl (ym (v := h9.v) (et rfl e23_6)) (Y wn rfl (ym (v := iV x273) (e0 rfl)) ?_))))))))
     obtain ⟨x274, gx274, hM23⟩ := bs hM23
     refine Y wn rfl (yIa SL_22 (e0 rfl) (e0 rfl) hst (rdO mhR) gx274) (Y wn rfl (yI O_3 (e0 rfl) hst (rdO mhR) gx274) ?_)
     obtain ⟨x275, gx275, hM23⟩ := bs hM23
     refine Y wn rfl (yIs SL_93 (e0 rfl) (e0 rfl) hst (rdO (mtR mhR)) gx275) ?_
     replace hst := hst.pk 2 [1, 0] rfl
     refine YT wn rfl (r_sti (cs := [.bool true]) hst O_4 rfl (e0 rfl) rfl rfl mkB gx275) ?_
     intro w hst
     refine wN (qb99 _ _ _ (k98 _ _ (wR (Y wn rfl (yadd (et rfl e23_107) rfl) (Y wn rfl (ym (v := iV (wa .i64 x264 1)) (e0 rfl)) (wN ?_))))))
     obtain rfl := someI hM23
     exact n23 _ _ _ rfl ⟨_, _, _, rfl, rfl, e23_6, e23_14, e23_105, e23_106, rfl, (hst.pk 3 [1, 0, 0] rfl)⟩
    ·refine condF (e0 rfl) (dF c272) (wp_exit (z97 _ _ _ rfl ?_))
     obtain rfl := someI hM23
     exact zz23 _ _ _ _ rfl rfl (je23_0 _ _ _ e23_14 (hst.pk 3 [1] rfl) (ho23 _ rfl))
   refine loopQ (fun s a w => ∃ (x250 : List Bool) (x251 : Int) (f : Nat → Value), (x250, x251) = s ∧ a = fr 119 f ∧ f 5 = h7.v ∧ f 6 = h9.v ∧ f 14 = h238.v ∧ f 15 = (pB b244) ∧ f 91 = h242.v ∧ f 92 = iV (r241.1.length : Int) ∧ f 93 = iV x251 ∧ St w0 (ros) (row 3 (rI .i64) h7.v r6 :: row 3 (rI .i64) h9.v r8 :: row 4 rB h238.v x250 :: row 3 (rI .i64) h242.v r241.1 :: row 3 (rI .i64) h243.v r241.2.1 :: box b244 86 [h242.v, h243.v] :: rs) w) go22 ⟨_, _, _, rfl, rfl, eje21_0_5, eje21_0_6, rfl, rfl, rfl, rfl, rfl, ((hst.pk 8 [5, 5, 3, 1, 1, 0] rfl).facts (allT (allT (allT allI))))⟩ ?_
   rintro _ _ w r22_ ⟨x250, x251, f, rfl, rfl, e22_5, e22_6, e22_14, e22_15, e22_91, e22_92, e22_93, hst⟩ hM22 ho22 Q100022 n22 zz22
   refine seqQ fun Q101 k101 z101 => wR (Y wn rfl (ylss (et rfl e22_93) (et rfl e22_92)) (wN (k101 _ _ (seqQ fun Q102 k102 z102 => ?_))))
   rcases iteS hM22 with ⟨c276, hM22⟩ | ⟨c276, hM22⟩
   ·refine condT (e0 rfl) (dT c276) (wp_skip (k102 _ _ (seqQ fun Q103 k103 z103 => blockQ fun Q104 qb104 => seqQ fun Q105 k105 z105 => wR ?_)))
    obtain ⟨x277, gx277, hM22⟩ := bs hM22
    refine Y wn rfl (yIa SL_22 (et rfl e22_91) (et rfl e22_93) hst (rdO (mtR (mtR (mtR mhR)))) gx277) (Y wn rfl (yI O_3 (e0 rfl) hst (rdO (mtR (mtR (mtR mhR)))) gx277) (Y wn rfl (ya (v := iV x277) (e0 rfl)) (wN (k105 _ _ (wR (Y wn rfl (ym (v := h238.v) (et rfl e22_14)) (Y wn rfl (ym (v := h7.v) (et rfl e22_5)) (Y wn rfl (ym (v := iV x277) (e0 rfl)) ?_))))))))
    obtain ⟨x278, gx278, hM22⟩ := bs hM22
    refine Y wn rfl (yIa SL_22 (e0 rfl) (e0 rfl) hst (rdO mhR) gx278) (Y wn rfl (yI O_3 (e0 rfl) hst (rdO mhR) gx278) ?_)
    obtain ⟨x279, gx279, hM22⟩ := bs hM22
    refine Y wn rfl (yIs SL_93 (e0 rfl) (e0 rfl) hst (rdO (mtR (mtR mhR))) gx279) ?_
    replace hst := hst.pk 3 [2, 0, 0] rfl
    refine YT wn rfl (r_sti (cs := [.bool true]) hst O_4 rfl (e0 rfl) rfl rfl mkB gx279) ?_
    intro w hst
    refine wN (qb104 _ _ _ (k103 _ _ (wR (Y wn rfl (yadd (et rfl e22_93) rfl) (Y wn rfl (ym (v := iV (wa .i64 x251 1)) (e0 rfl)) (wN ?_))))))
    obtain rfl := someI hM22
    exact n22 _ _ _ rfl ⟨_, _, _, rfl, rfl, e22_5, e22_6, e22_14, e22_15, e22_91, e22_92, rfl, (hst.pk 6 [1, 1, 0, 0, 0, 0] rfl)⟩
   ·refine condF (e0 rfl) (dF c276) (wp_exit (z102 _ _ _ rfl ?_))
    obtain rfl := someI hM22
    exact zz22 _ _ _ _ rfl rfl (je22_0 _ _ _ e22_6 e22_14 e22_15 (hst.pk 6 [1, 1, 1, 1, 1] rfl) (ho22 _ rfl))
  ·refine condT (e0 rfl) (nT (dF c245)) (seqQ fun Q106 k106 z106 => wR (Y wn rfl (ym (v := h238.v) (e0 rfl)) (Y wn rfl (ya (v := h238.v) (e0 rfl)) (wN (k106 _ _ (wp_ret (z67 _ _ _ rfl ?_)))))))
   obtain rfl := someI hM
   exact hQ _ _ _ (fin1r Tryz.results86 ⟨rfl, rfl⟩ ⟨_, rfl, ((hst.pk 8 [3] rfl).facts (allT (allT (allT allI))))⟩)
 replace hst := hst.rowNh 3 (rI .i64)
 replace hst := hst.rowNh 82 (rI .u64)
 refine loopQ (fun s a w => ∃ (x116 : List Int) (x118 : List Int) (x120 : List Int) (x121 : Int) (f : Nat → Value) (h115 : Hdr) (h117 : Hdr) (h119 : Hdr), (x116, x118, x120, x121) = s ∧ a = fr 119 f ∧ f 2 = (pB b5) ∧ f 5 = h7.v ∧ f 6 = h9.v ∧ f 7 = (pB b11) ∧ f 33 = h9.v ∧ f 34 = iV (r8.length : Int) ∧ f 35 = iV x121 ∧ St w0 (ros) (box b5 26 [h2.v] :: row 3 (rI .i64) h7.v r6 :: row 3 (rI .i64) h9.v r8 :: row 3 (rI .i64) h115.v x116 :: row 3 (rI .i64) h117.v x118 :: row 82 (rI .u64) h119.v x120 :: box b11 91 [iV (r6.length : Int), iV (r8.length : Int), h115.v, h117.v, h119.v] :: rs) w) go21 ⟨_, _, _, _, _, _, _, _, rfl, rfl, rfl, rfl, rfl, rfl, rfl, rfl, rfl, (hst.pk 7 [6, 5, 4, 3, 1, 0, 0] rfl)⟩ ?_
 rintro _ _ w r21_ ⟨x116, x118, x120, x121, f, h115, h117, h119, rfl, rfl, e21_2, e21_5, e21_6, e21_7, e21_33, e21_34, e21_35, hst⟩ hM21 ho21 Q100021 n21 zz21
 refine seqQ fun Q107 k107 z107 => wR (Y wn rfl (ylss (et rfl e21_35) (et rfl e21_34)) (wN (k107 _ _ (seqQ fun Q108 k108 z108 => ?_))))
 rcases iteS hM21 with ⟨c280, hM21⟩ | ⟨c280, hM21⟩
 ·refine condT (e0 rfl) (dT c280) (wp_skip (k108 _ _ (seqQ fun Q109 k109 z109 => blockQ fun Q110 qb110 => seqQ fun Q111 k111 z111 => wR ?_)))
  obtain ⟨x281, gx281, hM21⟩ := bs hM21
  refine Y wn rfl (yIa SL_22 (et rfl e21_33) (et rfl e21_35) hst (rdO (mtR (mtR mhR))) gx281) (Y wn rfl (yI O_3 (e0 rfl) hst (rdO (mtR (mtR mhR))) gx281) (Y wn rfl (ya (v := iV x281) (e0 rfl)) (wN (k111 _ _ (seqQ fun Q112 k112 z112 => seqQ fun Q113 k113 z113 => wR (Y wn rfl (ym (v := h7.v) (et rfl e21_5)) (Y wn rfl (yLen SL_22 (e0 rfl) hst (rdO (mtR mhR))) (Y wn rfl (ym (v := iV 0) rfl) (wN (k113 _ _ (blockQ fun Q114 qb114 => ?_)))))))))))
  obtain ⟨o30, go30, hM21⟩ := bs hM21
  have je30_0 : ∀ (x349 : List Int) (x351 : List Int) (h348 : Hdr) (h350 : Hdr) (f : Nat → Value) (w : World), f 2 = (pB b5) → f 5 = h7.v → f 6 = h9.v → f 7 = (pB b11) → f 33 = h9.v → f 34 = iV (r8.length : Int) → f 35 = iV x121 → St w0 (ros) (box b5 26 [h2.v] :: row 3 (rI .i64) h7.v r6 :: row 3 (rI .i64) h9.v r8 :: row 3 (rI .i64) h115.v x116 :: row 3 (rI .i64) h348.v x349 :: row 82 (rI .u64) h350.v x351 :: box b11 91 [iV (r6.length : Int), iV (r8.length : Int), h115.v, h348.v, h350.v] :: rs) w → (x349, x351) = o30 → Q114 (.exit 2) (fr 119 f) w := by
   intro x349 x351 h348 h350 f w eje30_0_2 eje30_0_5 eje30_0_6 eje30_0_7 eje30_0_33 eje30_0_34 eje30_0_35 hst ho
   subst ho
   refine qb114 _ _ _ (k112 _ _ (wR (Y wn rfl (yFb FL_91_2 (et rfl eje30_0_7)) (Y wn rfl (yLb (u := h115.v) O_22 (e0 rfl) hst (mtR (mtR (mtR (mtR (mtR (mtR mhR)))))) rfl) (Y wn rfl (yFb FL_91_3 (et rfl eje30_0_7)) (Y wn rfl (yLb (u := h348.v) O_22 (e0 rfl) hst (mtR (mtR (mtR (mtR (mtR (mtR mhR)))))) rfl) (Y wn rfl (yLen SL_22 (e0 rfl) hst (rdO (mtR (mtR (mtR (mtR mhR)))))) (YH wn rfl (rLt (n := 1) (l := [(x349.length : Int)]) hst SL_22 [iV (x349.length : Int)] (bp1 (e0 rfl)) rfl rfl (mks1 (cs := [iV (x349.length : Int)]) rfl mkI mks0)) ?_))))))))
   intro h352 w hst
   obtain ⟨x354, gx354, hM21⟩ := bs hM21
   replace hst := hst.pk 5 [4, 0, 0, 0, 0] rfl
   refine YH wn rfl (rAp hst SL_22 (e0 rfl) (e0 rfl) (rdO (mtR mhR)) gx354) ?_
   intro h353 w hst
   refine Y wn rfl (yFb FL_91_2 (et rfl eje30_0_7)) ?_
   replace hst := hst.pk 8 [7, 0, 0, 0, 0, 0, 0, 0] rfl
   refine YT wn rfl (r_stb1 (vals' := [iV (r6.length : Int), iV (r8.length : Int), h353.v, h348.v, h350.v]) hst O_22 (e0 rfl) (e0 rfl) rfl rfl rfl rfl) ?_
   intro w hst
   refine wN (qb110 _ _ _ (k109 _ _ (wR (Y wn rfl (yadd (et rfl eje30_0_35) rfl) (Y wn rfl (ym (v := iV (wa .i64 x121 1)) (e0 rfl)) (wN ?_))))))
   obtain rfl := someI hM21
   exact n21 _ _ _ rfl ⟨_, _, _, _, _, _, _, _, rfl, rfl, eje30_0_2, eje30_0_5, eje30_0_6, eje30_0_7, eje30_0_33, eje30_0_34, rfl, (hst.pk 8 [3, 3, 3, 1, 2, 2, 0] rfl)⟩
  refine loopQ (fun s a w => ∃ (x311 : List Int) (x313 : List Int) (x314 : Int) (f : Nat → Value) (h310 : Hdr) (h312 : Hdr), (x311, x313, x314) = s ∧ a = fr 119 f ∧ f 2 = (pB b5) ∧ f 5 = h7.v ∧ f 6 = h9.v ∧ f 7 = (pB b11) ∧ f 9 = iV x281 ∧ f 33 = h9.v ∧ f 34 = iV (r8.length : Int) ∧ f 35 = iV x121 ∧ f 39 = h7.v ∧ f 40 = iV (r6.length : Int) ∧ f 41 = iV x314 ∧ St w0 (ros) (box b5 26 [h2.v] :: row 3 (rI .i64) h7.v r6 :: row 3 (rI .i64) h9.v r8 :: row 3 (rI .i64) h115.v x116 :: row 3 (rI .i64) h310.v x311 :: row 82 (rI .u64) h312.v x313 :: box b11 91 [iV (r6.length : Int), iV (r8.length : Int), h115.v, h310.v, h312.v] :: rs) w) go30 ⟨_, _, _, _, _, _, rfl, rfl, e21_2, e21_5, e21_6, e21_7, rfl, e21_33, e21_34, e21_35, rfl, rfl, rfl, hst⟩ ?_
  rintro _ _ w r30_ ⟨x311, x313, x314, f, h310, h312, rfl, rfl, e30_2, e30_5, e30_6, e30_7, e30_9, e30_33, e30_34, e30_35, e30_39, e30_40, e30_41, hst⟩ hM30 ho30 Q100030 n30 zz30
  refine seqQ fun Q129 k129 z129 => wR (Y wn rfl (ylss (et rfl e30_41) (et rfl e30_40)) (wN (k129 _ _ (seqQ fun Q130 k130 z130 => ?_))))
  rcases iteS hM30 with ⟨c355, hM30⟩ | ⟨c355, hM30⟩
  ·refine condT (e0 rfl) (dT c355) (wp_skip (k130 _ _ (seqQ fun Q131 k131 z131 => blockQ fun Q132 qb132 => seqQ fun Q133 k133 z133 => wR (Y wn rfl (ym (v := iV x314) (et rfl e30_41)) ?_))))
   obtain ⟨x356, gx356, hM30⟩ := bs hM30
   refine Y wn rfl (yIa SL_22 (et rfl e30_39) (et rfl e30_41) hst (rdO (mtR mhR)) gx356) (Y wn rfl (yI O_3 (e0 rfl) hst (rdO (mtR mhR)) gx356) (Y wn rfl (ya (v := iV x314) (e0 rfl)) (Y wn rfl (ya (v := iV x356) (e0 rfl)) (wN (k133 _ _ (seqQ fun Q134 k134 z134 => wR (Y wn rfl (yFb FL_26_0 (et rfl e30_2)) (Y wn rfl (yLb (u := h2.v) O_24 (e0 rfl) hst mhR rfl) (Y wn rfl (ym (v := iV x281) (et rfl e30_9)) ?_)))))))))
   obtain ⟨x357, gx357, hM30⟩ := bs hM30
   refine Y wn rfl (yIa SL_24 (e0 rfl) (e0 rfl) hst (rdI q1) gx357) ?_
   obtain ⟨h358, hst⟩ := iLs hst q1 gx357
   refine Y wn rfl (yCt O_22 (e0 rfl) hst (mtF mhF) rfl) (Y wn rfl (ym (v := iV x356) (e0 rfl)) ?_)
   obtain ⟨r359, gr359, hM30⟩ := bs hM30
   refine Yc wn rfl (yCall FN_84 (a2 (e0 rfl) (e0 rfl))) (slices_BinarySearch_int_ok (hM := gr359) (hst := hst) (q1 := mhF)) ?_
   rintro _ w ⟨rfl, hst⟩
   refine ⟨_, rfl, ?_⟩
   refine Y wn rfl (ym (v := .tuple #[iV r359.1, .bool r359.2]) (e0 rfl)) (Y wn rfl (yx (v := iV r359.1) (e0 rfl) rfl) (Y wn rfl (yx (v := .bool r359.2) (e0 rfl) rfl) (Y wn rfl (ya (v := iV r359.1) (e0 rfl)) (Y wn rfl (ya (v := .bool r359.2) (e0 rfl)) (wN (k134 _ _ (seqQ fun Q135 k135 z135 => wR (Y wn rfl (ym (v := .bool r359.2) (e0 rfl)) (wN (k135 _ _ ?_))))))))))
   have j32 : ∀ (x370 : List Int) (x372 : List Int) (h369 : Hdr) (h371 : Hdr) (f : Nat → Value) (w : World), f 2 = (pB b5) → f 5 = h7.v → f 6 = h9.v → f 7 = (pB b11) → f 9 = iV x281 → f 33 = h9.v → f 34 = iV (r8.length : Int) → f 35 = iV x121 → f 39 = h7.v → f 40 = iV (r6.length : Int) → f 41 = iV x314 → St w0 (ros) (box b5 26 [h2.v] :: row 3 (rI .i64) h7.v r6 :: row 3 (rI .i64) h9.v r8 :: row 3 (rI .i64) h115.v x116 :: row 3 (rI .i64) h369.v x370 :: row 82 (rI .u64) h371.v x372 :: box b11 91 [iV (r6.length : Int), iV (r8.length : Int), h115.v, h369.v, h371.v] :: rs) w → dissect_cover_j32 x314 x370 x372 = some r30_ → Q132 .normal (fr 119 f) w := by
    intro x370 x372 h369 h371 f w ej32_2 ej32_5 ej32_6 ej32_7 ej32_9 ej32_33 ej32_34 ej32_35 ej32_39 ej32_40 ej32_41 hst hM
    refine qb132 _ _ _ (k131 _ _ (wR (Y wn rfl (yadd (et rfl ej32_41) rfl) (Y wn rfl (ym (v := iV (wa .i64 x314 1)) (e0 rfl)) (wN ?_)))))
    obtain rfl := someI hM
    exact n30 _ _ _ rfl ⟨_, _, _, _, _, _, rfl, rfl, ej32_2, ej32_5, ej32_6, ej32_7, ej32_9, ej32_33, ej32_34, ej32_35, ej32_39, ej32_40, rfl, hst⟩
   rcases iteS hM30 with ⟨c373, hM30⟩ | ⟨c373, hM30⟩
   ·refine condT (e0 rfl) c373 ?_
    obtain ⟨x376, gx376, hM30⟩ := bs hM30
    obtain ⟨x379, gx379, hM30⟩ := bs hM30
    refine joinN (n := 119) (fun f w => ∃ (h380 : Hdr) (h381 : Hdr), f 2 = (pB b5) ∧ f 5 = h7.v ∧ f 6 = h9.v ∧ f 7 = (pB b11) ∧ f 9 = iV x281 ∧ f 33 = h9.v ∧ f 34 = iV (r8.length : Int) ∧ f 35 = iV x121 ∧ f 39 = h7.v ∧ f 40 = iV (r6.length : Int) ∧ f 41 = iV x314 ∧ St w0 (ros) (box b5 26 [h2.v] :: row 3 (rI .i64) h7.v r6 :: row 3 (rI .i64) h9.v r8 :: row 3 (rI .i64) h115.v x116 :: row 3 (rI .i64) h380.v x376 :: row 82 (rI .u64) h381.v x379 :: box b11 91 [iV (r6.length : Int), iV (r8.length : Int), h115.v, h380.v, h381.v] :: rs) w) (fun j33 => ?_) ?_
    ·refine wp_drawR [0, 1, 0, 4, 15, 0, 32, 0, 255, 127, 1023, 2047, 4095] [3, 4, 7, 8, 10, 12] 6 folM (by kernel_rfl) (by kernel_rfl) (by kernel_rfl) ?_
     replace hst := hst.drew
     refine DRn (l1 := [0, 1, 2, 5, 6]) (l2 := []) (lc := [3, 7]) (by kernel_rfl) (by kernel_rfl) (by kernel_rfl) (Ry rfl rfl wn (yFb FL_91_3 (et rfl e30_7)) (Ry rfl rfl wn (yLb (u := h310.v) O_22 (e0 rfl) hst (mtR (mtR (mtR (mtR (mtR (mtR mhR)))))) rfl) (Ry rfl rfl wn (ym (v := iV x314) (e0 rfl)) (Ry rfl rfl wn (yFb FL_91_4 (et rfl e30_7)) (Ry rfl rfl wn (yLb (u := h312.v) O_89 (e0 rfl) hst (mtR (mtR (mtR (mtR (mtR (mtR mhR)))))) rfl) (Rn QSn ?_))))))
     refine Lc rfl ?_ (Lc rfl ?_ LAn)
     ·refine LH wn (rLt (n := 1) (l := [x314]) hst SL_22 [iV x314] (bp1 (e0 rfl)) rfl rfl (mks1 (cs := [iV x314]) rfl mkI mks0)) ?_
      intro h374 w hst
      refine DRn (l1 := []) (l2 := [0, 1, 5, 6]) (lc := [4, 7]) (by kernel_rfl) (by kernel_rfl) (by kernel_rfl) (Rn (Sy rfl rfl wn (yFb FL_91_3 (et rfl e30_7)) rfl (Sy rfl rfl wn (yLb (u := h310.v) O_22 (e0 rfl) hst (mtR (mtR (mtR (mtR (mtR (mtR (mtR mhR))))))) rfl) rfl (Sy rfl rfl wn (yFb FL_91_4 (et rfl e30_7)) rfl (Sy rfl rfl wn (yLb (u := h312.v) O_89 (e0 rfl) hst (mtR (mtR (mtR (mtR (mtR (mtR (mtR mhR))))))) rfl) rfl QSn)))) ?_)
      refine Lc rfl ?_ (Lc rfl ?_ LAn)
      ·replace hst := hst.pk 6 [5, 0, 0, 0, 0, 0] rfl
       refine LH wn (rAp hst SL_22 (e0 rfl) (e0 rfl) (rdO (mtR mhR)) gx376) ?_
       intro h375 w hst
       refine DRn (l1 := [9]) (l2 := [5, 6]) (lc := [7]) (by kernel_rfl) (by kernel_rfl) (by kernel_rfl) (Ry rfl rfl wn (yFb FL_91_3 (et rfl e30_7)) (Rn (Sy rfl rfl wn (yFb FL_91_4 (et rfl e30_7)) rfl (Sy rfl rfl wn (yLb (u := h312.v) O_89 (e0 rfl) hst (mtR (mtR (mtR (mtR (mtR (mtR (mtR mhR))))))) rfl) rfl QSn)) ?_))
       refine Lc rfl ?_ LAn
       refine LH wn (rLt (n := 1) (l := [4607182418800017408]) hst SL_89 [.int .u64 4607182418800017408] (bp1 rfl) rfl rfl (mks1 (cs := [.int .u64 4607182418800017408]) rfl mkI mks0)) ?_
       intro h377 w hst
       refine DRn (l1 := []) (l2 := [5, 6, 9]) (lc := [8]) (by kernel_rfl) (by kernel_rfl) (by kernel_rfl) (Rn (Sy rfl rfl wn (yFb FL_91_4 (et rfl e30_7)) rfl (Sy rfl rfl wn (yLb (u := h312.v) O_89 (e0 rfl) hst (mtR (mtR (mtR (mtR (mtR (mtR (mtR (mtR mhR)))))))) rfl) rfl (Sy rfl rfl wn (yFb FL_91_3 (et rfl e30_7)) rfl QSn))) ?_)
       refine Lc rfl ?_ LAn
       replace hst := hst.pk 8 [7, 0, 0, 0, 0, 0, 0, 0] rfl
       refine LH wn (rAp hst SL_89 (e0 rfl) (e0 rfl) (rdO (mtR mhR)) gx379) ?_
       intro h378 w hst
       refine DRn (l1 := []) (l2 := [9]) (lc := [10]) (by kernel_rfl) (by kernel_rfl) (by kernel_rfl) (Rn (Sy rfl rfl wn (yFb FL_91_3 (et rfl e30_7)) rfl QSn) ?_)
       refine Lc rfl ?_ LAn
       replace hst := hst.pk 9 [8, 0, 0, 0, 0, 0, 0, 0, 0] rfl
       refine LT wn (r_stb1 (vals' := [iV (r6.length : Int), iV (r8.length : Int), h115.v, h375.v, h312.v]) hst O_22 (e0 rfl) (e0 rfl) rfl rfl rfl rfl) ?_
       intro w hst
       refine DRn (l1 := [11]) (l2 := []) (lc := [12]) (by kernel_rfl) (by kernel_rfl) (by kernel_rfl) (Ry rfl rfl wn (yFb FL_91_4 (et rfl e30_7)) (Rn QSn ?_))
       refine Lc rfl ?_ LAn
       refine LT wn (r_stb1 (vals' := [iV (r6.length : Int), iV (r8.length : Int), h115.v, h375.v, h378.v]) hst O_89 (e0 rfl) (e0 rfl) rfl rfl rfl rfl) ?_
       intro w hst
       exact DRz (l1 := []) (l2 := []) (by kernel_rfl) (by kernel_rfl) (Rn QSn (j33 _ _ ⟨_, _, e30_2, e30_5, e30_6, e30_7, e30_9, e30_33, e30_34, e30_35, e30_39, e30_40, e30_41, ((hst.pk 9 [5, 5, 5, 5, 3, 1, 0] rfl).facts (allT (allT allI)))⟩))
      ·refine LH wn (rLt (n := 1) (l := [4607182418800017408]) hst SL_89 [.int .u64 4607182418800017408] (bp1 rfl) rfl rfl (mks1 (cs := [.int .u64 4607182418800017408]) rfl mkI mks0)) ?_
       intro h377 w hst
       refine DRn (l1 := []) (l2 := [0, 1, 5, 6]) (lc := [4]) (by kernel_rfl) (by kernel_rfl) (by kernel_rfl) (Rn (Sy rfl rfl wn (yFb FL_91_3 (et rfl e30_7)) rfl (Sy rfl rfl wn (yLb (u := h310.v) O_22 (e0 rfl) hst (mtR (mtR (mtR (mtR (mtR (mtR (mtR (mtR mhR)))))))) rfl) rfl (Sy rfl rfl wn (yFb FL_91_4 (et rfl e30_7)) rfl (Sy rfl rfl wn (yLb (u := h312.v) O_89 (e0 rfl) hst (mtR (mtR (mtR (mtR (mtR (mtR (mtR (mtR mhR)))))))) rfl) rfl QSn)))) ?_)
       refine Lc rfl ?_ LAn
       replace hst := hst.pk 7 [6, 0, 0, 0, 0, 0, 0] rfl
       refine LH wn (rAp hst SL_22 (e0 rfl) (e0 rfl) (rdO (mtR (mtR mhR))) gx376) ?_
       intro h375 w hst
       refine DRn (l1 := [9]) (l2 := [5, 6]) (lc := [8]) (by kernel_rfl) (by kernel_rfl) (by kernel_rfl) (Ry rfl rfl wn (yFb FL_91_3 (et rfl e30_7)) (Rn (Sy rfl rfl wn (yFb FL_91_4 (et rfl e30_7)) rfl (Sy rfl rfl wn (yLb (u := h312.v) O_89 (e0 rfl) hst (mtR (mtR (mtR (mtR (mtR (mtR (mtR (mtR mhR)))))))) rfl) rfl QSn)) ?_))
       refine Lc rfl ?_ LAn
       replace hst := hst.pk 8 [7, 0, 0, 0, 0, 0, 0, 0] rfl
       refine LH wn (rAp hst SL_89 (e0 rfl) (e0 rfl) (rdO (mtR (mtR mhR))) gx379) ?_
       intro h378 w hst
       refine DRn (l1 := []) (l2 := [9]) (lc := [10]) (by kernel_rfl) (by kernel_rfl) (by kernel_rfl) (Rn (Sy rfl rfl wn (yFb FL_91_3 (et rfl e30_7)) rfl QSn) ?_)
       refine Lc rfl ?_ LAn
       replace hst := hst.pk 9 [8, 0, 0, 0, 0, 0, 0, 0, 0] rfl
       refine LT wn (r_stb1 (vals' := [iV (r6.length : Int), iV (r8.length : Int), h115.v, h375.v, h312.v]) hst O_22 (e0 rfl) (e0 rfl) rfl rfl rfl rfl) ?_
       intro w hst
       refine DRn (l1 := [11]) (l2 := []) (lc := [12]) (by kernel_rfl) (by kernel_rfl) (by kernel_rfl) (Ry rfl rfl wn (yFb FL_91_4 (et rfl e30_7)) (Rn QSn ?_))
       refine Lc rfl ?_ LAn
       refine LT wn (r_stb1 (vals' := [iV (r6.length : Int), iV (r8.length : Int), h115.v, h375.v, h378.v]) hst O_89 (e0 rfl) (e0 rfl) rfl rfl rfl rfl) ?_
       intro w hst
       exact DRz (l1 := []) (l2 := []) (by kernel_rfl) (by kernel_rfl) (Rn QSn (j33 _ _ ⟨_, _, e30_2, e30_5, e30_6, e30_7, e30_9, e30_33, e30_34, e30_35, e30_39, e30_40, e30_41, ((hst.pk 9 [5, 5, 5, 5, 2, 1, 0] rfl).facts (allT (allT allI)))⟩))
     ·refine LH wn (rLt (n := 1) (l := [4607182418800017408]) hst SL_89 [.int .u64 4607182418800017408] (bp1 rfl) rfl rfl (mks1 (cs := [.int .u64 4607182418800017408]) rfl mkI mks0)) ?_
      intro h377 w hst
      refine DRn (l1 := []) (l2 := [0, 1, 2, 5, 6]) (lc := [3]) (by kernel_rfl) (by kernel_rfl) (by kernel_rfl) (Rn (Sy rfl rfl wn (yFb FL_91_3 (et rfl e30_7)) rfl (Sy rfl rfl wn (yLb (u := h310.v) O_22 (e0 rfl) hst (mtR (mtR (mtR (mtR (mtR (mtR (mtR mhR))))))) rfl) rfl (Sy rfl rfl wn (ym (v := iV x314) (e0 rfl)) rfl (Sy rfl rfl wn (yFb FL_91_4 (et rfl e30_7)) rfl (Sy rfl rfl wn (yLb (u := h312.v) O_89 (e0 rfl) hst (mtR (mtR (mtR (mtR (mtR (mtR (mtR mhR))))))) rfl) rfl QSn))))) ?_)
      refine Lc rfl ?_ LAn
      refine LH wn (rLt (n := 1) (l := [x314]) hst SL_22 [iV x314] (bp1 (e0 rfl)) rfl rfl (mks1 (cs := [iV x314]) rfl mkI mks0)) ?_
      intro h374 w hst
      refine DRn (l1 := []) (l2 := [0, 1, 5, 6]) (lc := [4]) (by kernel_rfl) (by kernel_rfl) (by kernel_rfl) (Rn (Sy rfl rfl wn (yFb FL_91_3 (et rfl e30_7)) rfl (Sy rfl rfl wn (yLb (u := h310.v) O_22 (e0 rfl) hst (mtR (mtR (mtR (mtR (mtR (mtR (mtR (mtR mhR)))))))) rfl) rfl (Sy rfl rfl wn (yFb FL_91_4 (et rfl e30_7)) rfl (Sy rfl rfl wn (yLb (u := h312.v) O_89 (e0 rfl) hst (mtR (mtR (mtR (mtR (mtR (mtR (mtR (mtR mhR)))))))) rfl) rfl QSn)))) ?_)
      refine Lc rfl ?_ LAn
      replace hst := hst.pk 7 [6, 0, 0, 0, 0, 0, 0] rfl
      refine LH wn (rAp hst SL_22 (e0 rfl) (e0 rfl) (rdO (mtR mhR)) gx376) ?_
      intro h375 w hst
      refine DRn (l1 := [9]) (l2 := [5, 6]) (lc := [8]) (by kernel_rfl) (by kernel_rfl) (by kernel_rfl) (Ry rfl rfl wn (yFb FL_91_3 (et rfl e30_7)) (Rn (Sy rfl rfl wn (yFb FL_91_4 (et rfl e30_7)) rfl (Sy rfl rfl wn (yLb (u := h312.v) O_89 (e0 rfl) hst (mtR (mtR (mtR (mtR (mtR (mtR (mtR (mtR mhR)))))))) rfl) rfl QSn)) ?_))
      refine Lc rfl ?_ LAn
      replace hst := hst.pk 8 [7, 0, 0, 0, 0, 0, 0, 0] rfl
      refine LH wn (rAp hst SL_89 (e0 rfl) (e0 rfl) (rdO (mtR (mtR (mtR mhR)))) gx379) ?_
      intro h378 w hst
      refine DRn (l1 := []) (l2 := [9]) (lc := [10]) (by kernel_rfl) (by kernel_rfl) (by kernel_rfl) (Rn (Sy rfl rfl wn (yFb FL_91_3 (et rfl e30_7)) rfl QSn) ?_)
      refine Lc rfl ?_ LAn
      replace hst := hst.pk 9 [8, 0, 0, 0, 0, 0, 0, 0, 0] rfl
      refine LT wn (r_stb1 (vals' := [iV (r6.length : Int), iV (r8.length : Int), h115.v, h375.v, h312.v]) hst O_22 (e0 rfl) (e0 rfl) rfl rfl rfl rfl) ?_
      intro w hst
      refine DRn (l1 := [11]) (l2 := []) (lc := [12]) (by kernel_rfl) (by kernel_rfl) (by kernel_rfl) (Ry rfl rfl wn (yFb FL_91_4 (et rfl e30_7)) (Rn QSn ?_))
      refine Lc rfl ?_ LAn
      refine LT wn (r_stb1 (vals' := [iV (r6.length : Int), iV (r8.length : Int), h115.v, h375.v, h378.v]) hst O_89 (e0 rfl) (e0 rfl) rfl rfl rfl rfl) ?_
      intro w hst
      exact DRz (l1 := []) (l2 := []) (by kernel_rfl) (by kernel_rfl) (Rn QSn (j33 _ _ ⟨_, _, e30_2, e30_5, e30_6, e30_7, e30_9, e30_33, e30_34, e30_35, e30_39, e30_40, e30_41, ((hst.pk 9 [5, 5, 5, 5, 2, 1, 0] rfl).facts (allT (allT allI)))⟩))
    rintro f w ⟨h380, h381, e382_2, e382_5, e382_6, e382_7, e382_9, e382_33, e382_34, e382_35, e382_39, e382_40, e382_41, hst⟩
    exact j32 _ _ _ _ _ _ e382_2 e382_5 e382_6 e382_7 e382_9 e382_33 e382_34 e382_35 e382_39 e382_40 e382_41 hst hM30
   ·exact condF (e0 rfl) (bfalse c373) (wp_skip (j32 _ _ _ _ _ _ e30_2 e30_5 e30_6 e30_7 e30_9 e30_33 e30_34 e30_35 e30_39 e30_40 e30_41 (hst.facts (allT (allT allI))) hM30))
  ·refine condF (e0 rfl) (dF c355) (wp_exit (z130 _ _ _ rfl ?_))
   obtain rfl := someI hM30
   exact zz30 _ _ _ _ rfl rfl (je30_0 _ _ _ _ _ _ e30_2 e30_5 e30_6 e30_7 e30_33 e30_34 e30_35 hst (ho30 _ rfl))
 ·refine condF (e0 rfl) (dF c280) (wp_exit (z108 _ _ _ rfl ?_))
  obtain rfl := someI hM21
  exact zz21 _ _ _ _ rfl rfl (je21_0 _ _ _ _ _ _ _ _ e21_2 e21_5 e21_6 e21_7 hst (ho21 _ rfl))

theorem dissect_separate_ok {x1 : List (List Int)} {h2 : Hdr} {out : (List Int) × (List Int) × (List Int)} (hM : dissect_separate x1 = some out) (q1 : imm (rS (rI .i64)) h2.v x1 ∈ ros) (hst : St w0 ros (rs) w) :
  Calls Tryz.prog 56 #[.agg #[h2.v]] w (fun e w => ∃ (h100001 : Hdr) (h100003 : Hdr) (h100005 : Hdr), e = .returned (.agg #[h100001.v, h100003.v, h100005.v]) ∧ St w0 (ros) (row 3 (rI .i64) h100001.v out.1 :: row 3 (rI .i64) h100003.v out.2.1 :: row 3 (rI .i64) h100005.v out.2.2 :: rs) w) := by
 refine enterQ Tryz.func56 rfl Tryz.ntmps56 rfl fun Q hQ => seqQ fun Q1 k1 z1 => wR (YB wn rfl (r_box (vals := [h2.v]) hst (e0 rfl) rfl) ?_)
 intro b3 w hst
 refine YB wn rfl (rAl hst ZT_46) ?_
 intro b4 w hst
 refine wN (k1 _ _ (seqQ fun Q2 k2 z2 => wR (Y wn rfl (yLbs (us := [h2.v]) ST_26 (e0 rfl) hst (mtR mhR) rfl rfl) ?_)))
 obtain ⟨r5, gr5, hM⟩ := bs hM
 refine Yc wn rfl (yCall FN_85 (a1 (e0 rfl))) (dissect_units_ok (hM := gr5) (hst := hst) (q1 := q1)) ?_
 rintro _ w ⟨h6, h7, h8, rfl, hst⟩
 refine ⟨_, rfl, ?_⟩
 obtain ⟨r9, gr9, hM⟩ := bs hM
 replace hst := hst.fz
 replace hst := hst.fz
 refine Yc wn rfl (yCall FN_43 (a1 (e0 rfl))) (dissect_bisect_ok (hM := gr9) (hst := hst) (q1 := (mtF (mtF mhF))) (q2 := (mtF mhF)) (q3 := mhF)) ?_
 rintro _ w ⟨h10, rfl, hst⟩
 refine ⟨_, rfl, ?_⟩
 refine Y wn rfl (ym (v := .tuple #[h10.v, .bool r9.2]) (e0 rfl)) (Y wn rfl (yx (v := h10.v) (e0 rfl) rfl) (Y wn rfl (yx (v := .bool r9.2) (e0 rfl) rfl) (Y wn rfl (ya (v := h10.v) (e0 rfl)) (Y wn rfl (ya (v := .bool r9.2) (e0 rfl)) (wN (k2 _ _ (seqQ fun Q3 k3 z3 => wR (Y wn rfl (yLbs (us := [h2.v]) ST_26 (e0 rfl) hst (mtR (mtR mhR)) rfl rfl) (Y wn rfl (ym (v := h10.v) (e0 rfl)) ?_)))))))))
 obtain ⟨r11, gr11, hM⟩ := bs hM
 replace hst := hst.fz
 refine Yc wn rfl (yCall FN_86 (a2 (e0 rfl) (e0 rfl))) (dissect_cover_ok (hM := gr11) (hst := hst) (q1 := (mtF (mtF (mtF (mtF q1))))) (q2 := mhF)) ?_
 rintro _ w ⟨h12, rfl, hst⟩
 refine ⟨_, rfl, ?_⟩
 refine Y wn rfl (ya (v := h12.v) (e0 rfl)) (wN (k3 _ _ (seqQ fun Q4 k4 z4 => wR (YB wn rfl (rAl hst ZT_46) ?_))))
 intro b13 w hst
 refine wN (k4 _ _ (seqQ fun Q5 k5 z5 => seqQ fun Q6 k6 z6 => wR (Y wn rfl (yFb FL_26_0 (e0 rfl)) (Y wn rfl (yLb (u := h2.v) O_24 (e0 rfl) hst (mtR (mtR (mtR mhR))) rfl) (Y wn rfl (yLen SL_24 (e0 rfl) hst (rdI (mtF (mtF (mtF (mtF q1)))))) (Y wn rfl (ym (v := iV 0) rfl) (wN (k6 _ _ (blockQ fun Q7 qb7 => ?_)))))))))
 obtain ⟨o7, go7, hM⟩ := bs hM
 have je7_0 : ∀ (x131 : List Int) (x133 : List Int) (x135 : List Int) (h130 : Hdr) (h132 : Hdr) (h134 : Hdr) (f : Nat → Value) (w : World), f 2 = (pB b4) → f 6 = (pB b13) → St w0 (ros) (box b4 46 [hnil.v, hnil.v, hnil.v] :: row 3 (rI .i64) h130.v x131 :: row 3 (rI .i64) h132.v x133 :: row 3 (rI .i64) h134.v x135 :: box b13 46 [h130.v, h132.v, h134.v] :: rs) w → (x131, x133, x135) = o7 → Q7 (.exit 0) (fr 54 f) w := by
  intro x131 x133 x135 h130 h132 h134 f w eje7_0_2 eje7_0_6 hst ho
  subst ho
  refine qb7 _ _ _ (k5 _ _ (seqQ fun Q26 k26 z26 => wR (Y wn rfl (yLbs (us := [h130.v, h132.v, h134.v]) ST_46 (et rfl eje7_0_6) hst (mtR (mtR (mtR (mtR mhR)))) rfl rfl) (YT wn rfl (r_stbn (vals' := [h130.v, h132.v, h134.v]) (us := [h130.v, h132.v, h134.v]) hst ST_46 (et rfl eje7_0_2) (e0 rfl) rfl rfl (one_of rfl) rfl) ?_))))
  intro w hst
  refine wN (k26 _ _ (wp_ret ?_))
  obtain rfl := someI hM
  exact hQ _ _ _ (fin1r Tryz.results56 (rcs2 rfl eje7_0_2 hst mhR ST_46 rfl) ⟨_, _, _, rfl, (hst.pk 5 [1, 1, 1] rfl)⟩)
 replace hst := hst.rowNh 3 (rI .i64)
 replace hst := hst.rowNh 3 (rI .i64)
 replace hst := hst.rowNh 3 (rI .i64)
 refine loopQ (fun s a w => ∃ (x66 : List Int) (x68 : List Int) (x70 : List Int) (x71 : Int) (f : Nat → Value) (h65 : Hdr) (h67 : Hdr) (h69 : Hdr), (x66, x68, x70, x71) = s ∧ a = fr 54 f ∧ f 2 = (pB b4) ∧ f 3 = h10.v ∧ f 5 = h12.v ∧ f 6 = (pB b13) ∧ f 19 = iV (x1.length : Int) ∧ f 20 = iV x71 ∧ St w0 (imm (rI .i64) h10.v r9.1 :: ros) (box b4 46 [hnil.v, hnil.v, hnil.v] :: row 4 rB h12.v r11 :: row 3 (rI .i64) h65.v x66 :: row 3 (rI .i64) h67.v x68 :: row 3 (rI .i64) h69.v x70 :: box b13 46 [h65.v, h67.v, h69.v] :: rs) w) go7 ⟨_, _, _, _, _, _, _, _, rfl, rfl, rfl, rfl, rfl, rfl, rfl, rfl, ((hst.pk 7 [5, 4, 2, 1, 0, 0] rfl).facts (allC mhF (allT (allT (allT (allT allI))))))⟩ ?_
 rintro _ _ w r7_ ⟨x66, x68, x70, x71, f, h65, h67, h69, rfl, rfl, e7_2, e7_3, e7_5, e7_6, e7_19, e7_20, hst⟩ hM7 ho7 Q100007 n7 zz7
 refine seqQ fun Q27 k27 z27 => wR (Y wn rfl (ylss (et rfl e7_20) (et rfl e7_19)) (wN (k27 _ _ (seqQ fun Q28 k28 z28 => ?_))))
 rcases iteS hM7 with ⟨c136, hM7⟩ | ⟨c136, hM7⟩
 ·refine condT (e0 rfl) (dT c136) (wp_skip (k28 _ _ (seqQ fun Q29 k29 z29 => blockQ fun Q30 qb30 => seqQ fun Q31 k31 z31 => wR (Y wn rfl (ym (v := iV x71) (et rfl e7_20)) (Y wn rfl (ya (v := iV x71) (e0 rfl)) (wN (k31 _ _ (blockQ fun Q32 qb32 => seqQ fun Q33 k33 z33 => wR ?_))))))))
  refine Y wn rfl (ym (v := h12.v) (et rfl e7_5)) (Y wn rfl (ym (v := iV x71) (e0 rfl)) ?_)
  obtain ⟨x137, gx137, hM7⟩ := bs hM7
  refine Y wn rfl (yIa SL_93 (e0 rfl) (e0 rfl) hst (rdO (mtR mhR)) gx137) (Y wn rfl (yB O_4 (e0 rfl) hst (rdO (mtR mhR)) gx137) (Y wn rfl (ya (v := .bool x137) (e0 rfl)) (wN (k33 _ _ ?_))))
  have j9 : ∀ (x160 : List Int) (x162 : List Int) (x164 : List Int) (h159 : Hdr) (h161 : Hdr) (h163 : Hdr) (f : Nat → Value) (w : World), f 2 = (pB b4) → f 3 = h10.v → f 5 = h12.v → f 6 = (pB b13) → f 19 = iV (x1.length : Int) → f 20 = iV x71 → St w0 (imm (rI .i64) h10.v r9.1 :: ros) (box b4 46 [hnil.v, hnil.v, hnil.v] :: row 4 rB h12.v r11 :: row 3 (rI .i64) h159.v x160 :: row 3 (rI .i64) h161.v x162 :: row 3 (rI .i64) h163.v x164 :: box b13 46 [h159.v, h161.v, h163.v] :: rs) w → dissect_separate_j9 x71 x160 x162 x164 = some r7_ → Q32 .normal (fr 54 f) w := by
   intro x160 x162 x164 h159 h161 h163 f w ej9_2 ej9_3 ej9_5 ej9_6 ej9_19 ej9_20 hst hM
   refine qb32 _ _ _ (qb30 _ _ _ (k29 _ _ (wR (Y wn rfl (yadd (et rfl ej9_20) rfl) (Y wn rfl (ym (v := iV (wa .i64 x71 1)) (e0 rfl)) (wN ?_))))))
   obtain rfl := someI hM
   exact n7 _ _ _ rfl ⟨_, _, _, _, _, _, _, _, rfl, rfl, ej9_2, ej9_3, ej9_5, ej9_6, ej9_19, rfl, hst⟩
  rcases iteS hM7 with ⟨c165, hM7⟩ | ⟨c165, hM7⟩
  ·refine condT (e0 rfl) c165 (wR (Y wn rfl (yFb FL_46_2 (et rfl e7_6)) (Y wn rfl (yLb (u := h69.v) O_22 (e0 rfl) hst (mtR (mtR (mtR (mtR (mtR mhR))))) rfl) (Y wn rfl (ym (v := iV x71) (e0 rfl)) (YH wn rfl (rLt (n := 1) (l := [x71]) hst SL_22 [iV x71] (bp1 (e0 rfl)) rfl rfl (mks1 (cs := [iV x71]) rfl mkI mks0)) ?_)))))
   intro h166 w hst
   obtain ⟨x168, gx168, hM7⟩ := bs hM7
   replace hst := hst.pk 6 [5, 0, 0, 0, 0, 0] rfl
   refine YH wn rfl (rAp hst SL_22 (e0 rfl) (e0 rfl) (rdO (mtR mhR)) gx168) ?_
   intro h167 w hst
   refine Y wn rfl (yFb FL_46_2 (et rfl e7_6)) ?_
   replace hst := hst.pk 7 [6, 0, 0, 0, 0, 0, 0] rfl
   refine YT wn rfl (r_stb1 (vals' := [h65.v, h67.v, h167.v]) hst O_22 (e0 rfl) (e0 rfl) rfl rfl rfl rfl) ?_
   intro w hst
   exact wN (j9 _ _ _ _ _ _ _ _ e7_2 e7_3 e7_5 e7_6 e7_19 e7_20 (hst.pk 7 [3, 3, 3, 3, 1, 0] rfl) hM7)
  ·refine condF (e0 rfl) (bfalse c165) (seqQ fun Q35 k35 z35 => wR (Y wn rfl (ym (v := h10.v) (et rfl e7_3)) (Y wn rfl (ym (v := iV x71) (e0 rfl)) ?_)))
   obtain ⟨x169, gx169, hM7⟩ := bs hM7
   refine Y wn rfl (yIa SL_22 (e0 rfl) (e0 rfl) hst (rdI mhF) gx169) (Y wn rfl (yI O_3 (e0 rfl) hst (rdI mhF) gx169) (Y wn rfl (yeql (e0 rfl) rfl) (Y wn rfl (ya (v := .bool (decide (x169 = 0))) (e0 rfl)) (wN (k35 _ _ ?_)))))
   have j10 : ∀ (x177 : List Int) (x179 : List Int) (h176 : Hdr) (h178 : Hdr) (f : Nat → Value) (w : World), f 2 = (pB b4) → f 3 = h10.v → f 5 = h12.v → f 6 = (pB b13) → f 19 = iV (x1.length : Int) → f 20 = iV x71 → St w0 (imm (rI .i64) h10.v r9.1 :: ros) (box b4 46 [hnil.v, hnil.v, hnil.v] :: row 4 rB h12.v r11 :: row 3 (rI .i64) h176.v x177 :: row 3 (rI .i64) h178.v x179 :: row 3 (rI .i64) h69.v x70 :: box b13 46 [h176.v, h178.v, h69.v] :: rs) w → dissect_separate_j10 x71 x70 x177 x179 = some r7_ → Q32 .normal (fr 54 f) w := by
    intro x177 x179 h176 h178 f w ej10_2 ej10_3 ej10_5 ej10_6 ej10_19 ej10_20 hst hM
    exact j9 _ _ _ _ _ _ _ _ ej10_2 ej10_3 ej10_5 ej10_6 ej10_19 ej10_20 hst hM
   rcases iteS hM7 with ⟨c180, hM7⟩ | ⟨c180, hM7⟩
   ·refine condT (e0 rfl) (dT c180) (wR (Y wn rfl (yFb FL_46_0 (et rfl e7_6)) (Y wn rfl (yLb (u := h65.v) O_22 (e0 rfl) hst (mtR (mtR (mtR (mtR (mtR mhR))))) rfl) (Y wn rfl (ym (v := iV x71) (e0 rfl)) (YH wn rfl (rLt (n := 1) (l := [x71]) hst SL_22 [iV x71] (bp1 (e0 rfl)) rfl rfl (mks1 (cs := [iV x71]) rfl mkI mks0)) ?_)))))
    intro h181 w hst
    obtain ⟨x183, gx183, hM7⟩ := bs hM7
    replace hst := hst.pk 4 [3, 0, 0, 0] rfl
    refine YH wn rfl (rAp hst SL_22 (e0 rfl) (e0 rfl) (rdO (mtR mhR)) gx183) ?_
    intro h182 w hst
    refine Y wn rfl (yFb FL_46_0 (et rfl e7_6)) ?_
    replace hst := hst.pk 7 [6, 0, 0, 0, 0, 0, 0] rfl
    refine YT wn rfl (r_stb1 (vals' := [h182.v, h67.v, h69.v]) hst O_22 (e0 rfl) (e0 rfl) rfl rfl rfl rfl) ?_
    intro w hst
    exact wN (j10 _ _ _ _ _ _ e7_2 e7_3 e7_5 e7_6 e7_19 e7_20 (hst.pk 7 [3, 3, 1, 2, 2, 0] rfl) hM7)
   ·refine condF (e0 rfl) (dF c180) (wR (Y wn rfl (yFb FL_46_1 (et rfl e7_6)) (Y wn rfl (yLb (u := h67.v) O_22 (e0 rfl) hst (mtR (mtR (mtR (mtR (mtR mhR))))) rfl) (Y wn rfl (ym (v := iV x71) (e0 rfl)) (YH wn rfl (rLt (n := 1) (l := [x71]) hst SL_22 [iV x71] (bp1 (e0 rfl)) rfl rfl (mks1 (cs := [iV x71]) rfl mkI mks0)) ?_)))))
    intro h184 w hst
    obtain ⟨x186, gx186, hM7⟩ := bs hM7
    replace hst := hst.pk 5 [4, 0, 0, 0, 0] rfl
    refine YH wn rfl (rAp hst SL_22 (e0 rfl) (e0 rfl) (rdO (mtR mhR)) gx186) ?_
    intro h185 w hst
    refine Y wn rfl (yFb FL_46_1 (et rfl e7_6)) ?_
    replace hst := hst.pk 7 [6, 0, 0, 0, 0, 0, 0] rfl
    refine YT wn rfl (r_stb1 (vals' := [h65.v, h185.v, h69.v]) hst O_22 (e0 rfl) (e0 rfl) rfl rfl rfl rfl) ?_
    intro w hst
    exact wN (j10 _ _ _ _ _ _ e7_2 e7_3 e7_5 e7_6 e7_19 e7_20 (hst.pk 7 [3, 3, 3, 1, 2, 0] rfl) hM7)
 ·refine condF (e0 rfl) (dF c136) (wp_exit (z28 _ _ _ rfl ?_))
  obtain rfl := someI hM7
  exact zz7 _ _ _ _ rfl rfl (je7_0 _ _ _ _ _ _ _ _ e7_2 e7_6 ((hst.pk 6 [0, 1, 1, 1, 1] rfl).facts (allT allI)) (ho7 _ rfl))

theorem dissect_Separate_ok {x1 : List (List Int)} {h2 : Hdr} {out : (List Int) × (List Int) × (List Int) × Int} (hM : dissect_Separate x1 = some out) (q1 : imm (rS (rI .i64)) h2.v x1 ∈ ros) (hst : St w0 ros (rs) w) :
  Calls Tryz.prog 27 #[.agg #[h2.v]] w (fun e w => ∃ (h100001 : Hdr) (h100003 : Hdr) (h100005 : Hdr), e = .returned (.tuple #[.agg #[h100001.v, h100003.v, h100005.v], iV out.2.2.2]) ∧ St w0 (ros) (row 3 (rI .i64) h100001.v out.1 :: row 3 (rI .i64) h100003.v out.2.1 :: row 3 (rI .i64) h100005.v out.2.2.1 :: rs) w) := by
 refine enterQ Tryz.func27 rfl Tryz.ntmps27 rfl fun Q hQ => seqQ fun Q1 k1 z1 => wR (YB wn rfl (r_box (vals := [h2.v]) hst (e0 rfl) rfl) ?_)
 intro b3 w hst
 refine YB wn rfl (rAl hst ZT_46) ?_
 intro b4 w hst
 refine Y wn rfl (ya (v := iV 0) rfl) (wN (k1 _ _ (seqQ fun Q2 k2 z2 => wR (Y wn rfl (yLbs (us := [h2.v]) ST_26 (e0 rfl) hst (mtR mhR) rfl rfl) ?_))))
 obtain ⟨r5, gr5, hM⟩ := bs hM
 refine Yc wn rfl (yCall FN_51 (a1 (e0 rfl))) (graph_Check_ok (hM := gr5) (hst := hst) (q1 := q1)) ?_
 rintro _ w ⟨rfl, hst⟩
 refine ⟨_, rfl, ?_⟩
 refine Y wn rfl (ya (v := iV r5) (e0 rfl)) (wN (k2 _ _ (seqQ fun Q3 k3 z3 => seqQ fun Q4 k4 z4 => wR (Y wn rfl (ym (v := iV r5) (e0 rfl)) (Y wn rfl (yneq (e0 rfl) rfl) (wN (k4 _ _ ?_)))))))
 rcases iteS hM with ⟨c6, hM⟩ | ⟨c6, hM⟩
 ·refine condF (e0 rfl) (nF (dT c6)) (wp_skip (k3 _ _ (seqQ fun Q5 k5 z5 => wR (Y wn rfl (yLbs (us := [h2.v]) ST_26 (e0 rfl) hst (mtR mhR) rfl rfl) ?_))))
  obtain ⟨r7, gr7, hM⟩ := bs hM
  refine Yc wn rfl (yCall FN_56 (a1 (e0 rfl))) (dissect_separate_ok (hM := gr7) (hst := hst) (q1 := q1)) ?_
  rintro _ w ⟨h8, h9, h10, rfl, hst⟩
  refine ⟨_, rfl, ?_⟩
  replace hst := hst.pk 4 [3, 0, 0, 0] rfl
  refine YT wn rfl (r_stbn (vals' := [h8.v, h9.v, h10.v]) (us := [h8.v, h9.v, h10.v]) hst ST_46 (e0 rfl) (e0 rfl) rfl rfl (one_of rfl) rfl) ?_
  intro w hst
  refine Y wn rfl (ya (v := iV 0) rfl) (wN (k5 _ _ (wp_ret ?_)))
  obtain rfl := someI hM
  exact hQ _ _ _ (fin2r Tryz.results27 (rcs2 rfl rfl hst mhR ST_46 rfl) ⟨rfl, rfl⟩ ⟨_, _, _, rfl, (hst.pk 5 [1, 1, 1] rfl)⟩)
 ·refine condT (e0 rfl) (nT (dF c6)) (seqQ fun Q6 k6 z6 => wR (Y wn rfl (ybuild (us := [hnil.v, hnil.v, hnil.v]) [] SO_46 bp0 rfl) (Y wn rfl (ym (v := iV r5) (e0 rfl)) (YT wn rfl (r_stbn (vals' := [hnil.v, hnil.v, hnil.v]) (us := [hnil.v, hnil.v, hnil.v]) hst ST_46 (e0 rfl) (e0 rfl) rfl rfl (one_of rfl) rfl) ?_))))
  intro w hst
  refine Y wn rfl (ya (v := iV r5) (e0 rfl)) (wN (k6 _ _ (wp_ret (z3 _ _ _ rfl ?_))))
  obtain rfl := someI hM
  replace hst := hst.rowNh 3 (rI .i64)
  replace hst := hst.rowNh 3 (rI .i64)
  replace hst := hst.rowNh 3 (rI .i64)
  exact hQ _ _ _ (fin2r Tryz.results27 (rcs2 rfl rfl hst (mtR (mtR (mtR mhR))) ST_46 rfl) ⟨rfl, rfl⟩ ⟨_, _, _, rfl, (hst.pk 5 [2, 1, 0] rfl)⟩)

theorem sparsekit_Ints_ok {x1 : List Int} {x3 : List Int} {h2 : Hdr} {h4 : Hdr} {out : Bool} (hM : sparsekit_Ints x1 x3 = some out) (q1 : imm (rI .i64) h2.v x1 ∈ ros) (q2 : imm (rI .i64) h4.v x3 ∈ ros) (hst : St w0 ros (rs) w) :
  Calls Tryz.prog 13 #[h2.v, h4.v] w (fun e w => e = .returned (.bool out) ∧ St w0 (ros) (rs) w) := by
 refine enterQ Tryz.func13 rfl Tryz.ntmps13 rfl fun Q hQ => seqQ fun Q1 k1 z1 => wR (Y wn rfl (ya (v := .bool false) rfl) (wN (k1 _ _ (seqQ fun Q2 k2 z2 => seqQ fun Q3 k3 z3 => wR (Y wn rfl (ym (v := h2.v) (e0 rfl)) (Y wn rfl (yLen SL_22 (e0 rfl) hst (rdI q1)) (Y wn rfl (ym (v := h4.v) (e0 rfl)) (Y wn rfl (yLen SL_22 (e0 rfl) hst (rdI q2)) (Y wn rfl (yneq (e0 rfl) (e0 rfl)) ?_)))))))))
 refine wN (k3 _ _ ?_)
 rcases iteS hM with ⟨c5, hM⟩ | ⟨c5, hM⟩
 ·refine condF (e0 rfl) (nF (dT c5)) (wp_skip (k2 _ _ (seqQ fun Q4 k4 z4 => seqQ fun Q5 k5 z5 => wR (Y wn rfl (ya (v := iV 0) rfl) (wN (k5 _ _ (blockQ fun Q6 qb6 => ?_)))))))
  obtain ⟨o1, go1, hM⟩ := bs hM
  have je1_0 : ∀ (f : Nat → Value) (w : World), St w0 (ros) (rs) w → .inl () = o1 → Q6 (.exit 0) (fr 26 f) w := by
   intro f w hst ho
   subst ho
   refine qb6 _ _ _ (k4 _ _ (seqQ fun Q19 k19 z19 => wR (Y wn rfl (ya (v := .bool true) rfl) (wN (k19 _ _ (wp_ret ?_))))))
   obtain rfl := someI hM
   exact hQ _ _ _ (fin1r Tryz.results13 ⟨rfl, rfl⟩ ⟨rfl, hst⟩)
  have je1_1 : ∀ (f : Nat → Value) (w : World), f 4 = .bool false → St w0 (ros) (rs) w → .inr () = o1 → Q6 .ret (fr 26 f) w := by
   intro f w eje1_1_4 hst ho
   subst ho
   refine qb6 _ _ _ (z4 _ _ _ rfl ?_)
   obtain rfl := someI hM
   exact hQ _ _ _ (fin1r Tryz.results13 ⟨rfl, eje1_1_4⟩ ⟨rfl, hst⟩)
  refine loopQ (fun s a w => ∃ (x10 : Int) (f : Nat → Value), x10 = s ∧ a = fr 26 f ∧ f 0 = h2.v ∧ f 1 = h4.v ∧ f 5 = iV x10 ∧ St w0 (ros) (rs) w) go1 ⟨_, _, rfl, rfl, rfl, rfl, rfl, hst⟩ ?_
  rintro _ _ w r1_ ⟨x10, f, rfl, rfl, e1_0, e1_1, e1_5, hst⟩ hM1 ho1 Q100001 n1 zz1
  refine seqQ fun Q20 k20 z20 => seqQ fun Q21 k21 z21 => wR (Y wn rfl (ym (v := iV x10) (et rfl e1_5)) (Y wn rfl (ym (v := h2.v) (et rfl e1_0)) (Y wn rfl (yLen SL_22 (e0 rfl) hst (rdI q1)) (Y wn rfl (ylss (e0 rfl) (e0 rfl)) (wN (k21 _ _ ?_))))))
  rcases iteS hM1 with ⟨c16, hM1⟩ | ⟨c16, hM1⟩
  ·refine condT (e0 rfl) (dT c16) (wp_skip (k20 _ _ (seqQ fun Q22 k22 z22 => blockQ fun Q23 qb23 => seqQ fun Q24 k24 z24 => ?_)))
   obtain ⟨x17, gx17, hM1⟩ := bs hM1
   obtain ⟨x18, gx18, hM1⟩ := bs hM1
   refine wp_drawR [0, 0, 3, 7, 0, 0, 48, 112, 255] [] 0 folM (by kernel_rfl) (by kernel_rfl) (by kernel_rfl) ?_
   replace hst := hst.drew
   refine DRz (l1 := [0, 1, 2, 3, 4, 5, 6, 7, 8]) (l2 := []) (by kernel_rfl) (by kernel_rfl) (Ry rfl rfl wn (ym (v := h2.v) (et rfl e1_0)) (Ry rfl rfl wn (ym (v := iV x10) (et rfl e1_5)) (Ry rfl rfl wn (yIa SL_22 (e0 rfl) (e0 rfl) hst (rdI q1) gx17) (Ry rfl rfl wn (yI O_3 (e0 rfl) hst (rdI q1) gx17) (Ry rfl rfl wn (ym (v := h4.v) (et rfl e1_1)) (Ry rfl rfl wn (ym (v := iV x10) (et rfl e1_5)) (Ry rfl rfl wn (yIa SL_22 (e0 rfl) (e0 rfl) hst (rdI q2) gx18) (Ry rfl rfl wn (yI O_3 (e0 rfl) hst (rdI q2) gx18) (Ry rfl rfl wn (yneq (e0 rfl) (e0 rfl)) (Rn QSn (k24 _ _ ?_)))))))))))
   rcases iteS hM1 with ⟨c19, hM1⟩ | ⟨c19, hM1⟩
   ·refine condF (e0 rfl) (nF (dT c19)) (wp_skip (qb23 _ _ _ (k22 _ _ (wR (Y wn rfl (ym (v := iV x10) (et rfl e1_5)) (Y wn rfl (yadd (e0 rfl) rfl) (Y wn rfl (ya (v := iV (wa .i64 x10 1)) (e0 rfl)) (wN ?_))))))))
    obtain rfl := someI hM1
    exact n1 _ _ _ rfl ⟨_, _, rfl, rfl, e1_0, e1_1, rfl, hst⟩
   ·refine condT (e0 rfl) (nT (dF c19)) (seqQ fun Q25 k25 z25 => wR (Y wn rfl (ya (v := .bool false) rfl) (wN (k25 _ _ (wp_ret (qb23 _ _ _ (z22 _ _ _ rfl ?_)))))))
    obtain rfl := someI hM1
    exact zz1 _ _ _ _ rfl rfl (je1_1 _ _ rfl hst (ho1 _ rfl))
  ·refine condF (e0 rfl) (dF c16) (wp_exit (z20 _ _ _ rfl ?_))
   obtain rfl := someI hM1
   exact zz1 _ _ _ _ rfl rfl (je1_0 _ _ hst (ho1 _ rfl))
 ·refine condT (e0 rfl) (nT (dF c5)) (seqQ fun Q26 k26 z26 => wR (Y wn rfl (ya (v := .bool false) rfl) (wN (k26 _ _ (wp_ret (z2 _ _ _ rfl ?_))))))
  obtain rfl := someI hM
  exact hQ _ _ _ (fin1r Tryz.results13 ⟨rfl, rfl⟩ ⟨rfl, hst⟩)

theorem sparsekit_Split_ok {x1 : List Int} {x3 : List Int} {x5 : List Int} {x7 : List Int} {x9 : List Int} {x11 : List Int} {h2 : Hdr} {h4 : Hdr} {h6 : Hdr} {h8 : Hdr} {h10 : Hdr} {h12 : Hdr} {out : Bool} (hM : sparsekit_Split x1 x3 x5 x7 x9 x11 = some out) (q1 : imm (rI .i64) h2.v x1 ∈ ros) (q2 : imm (rI .i64) h4.v x3 ∈ ros) (q3 : imm (rI .i64) h6.v x5 ∈ ros) (q4 : imm (rI .i64) h8.v x7 ∈ ros) (q5 : imm (rI .i64) h10.v x9 ∈ ros) (q6 : imm (rI .i64) h12.v x11 ∈ ros) (hst : St w0 ros (rs) w) :
  Calls Tryz.prog 31 #[.agg #[h2.v, h4.v, h6.v], .agg #[h8.v, h10.v, h12.v]] w (fun e w => e = .returned (.bool out) ∧ St w0 (ros) (rs) w) := by
 refine enterQ Tryz.func31 rfl Tryz.ntmps31 rfl fun Q hQ => seqQ fun Q1 k1 z1 => wR (YB wn rfl (r_box (vals := [h2.v, h4.v, h6.v]) hst (e0 rfl) rfl) ?_)
 intro b13 w hst
 refine YB wn rfl (r_box (vals := [h8.v, h10.v, h12.v]) hst (e0 rfl) rfl) ?_
 intro b14 w hst
 refine Y wn rfl (ya (v := .bool false) rfl) (wN (k1 _ _ (seqQ fun Q2 k2 z2 => wR (Y wn rfl (yFb FL_46_0 (e0 rfl)) (Y wn rfl (yLb (u := h2.v) O_22 (e0 rfl) hst (mtR mhR) rfl) (Y wn rfl (yFb FL_46_0 (e0 rfl)) (Y wn rfl (yLb (u := h8.v) O_22 (e0 rfl) hst mhR rfl) ?_)))))))
 obtain ⟨r15, gr15, hM⟩ := bs hM
 refine Yc wn rfl (yCall FN_13 (a2 (e0 rfl) (e0 rfl))) (sparsekit_Ints_ok (hM := gr15) (hst := hst) (q1 := q1) (q2 := q4)) ?_
 rintro _ w ⟨rfl, hst⟩
 refine ⟨_, rfl, ?_⟩
 refine Y wn rfl (ym (v := .bool r15) (e0 rfl)) ?_
 obtain ⟨r17, gr17, hM⟩ := bs hM
 refine joinW 6 (fun f w => f 2 = (pB b13) ∧ f 3 = (pB b14) ∧ f 16 = .bool r17 ∧ St w0 (ros) (box b13 46 [h2.v, h4.v, h6.v] :: box b14 46 [h8.v, h10.v, h12.v] :: rs) w) (fun j1 => ?_) ?_
 ·rcases iteS gr17 with ⟨c19, gr17⟩ | ⟨c19, gr17⟩
  ·refine Y (wg rfl rfl rfl c19) rfl (yFb FL_46_1 (e0 rfl)) (Y (wg rfl rfl rfl c19) rfl (yLb (u := h4.v) O_22 (e0 rfl) hst (mtR mhR) rfl) (Y (wg rfl rfl rfl c19) rfl (yFb FL_46_1 (e0 rfl)) (Y (wg rfl rfl rfl c19) rfl (yLb (u := h10.v) O_22 (e0 rfl) hst mhR rfl) ?_)))
   obtain ⟨r20, gr20, gr17⟩ := bs gr17
   refine Yc (wg rfl rfl rfl c19) rfl (yCall FN_13 (a2 (e0 rfl) (e0 rfl))) (sparsekit_Ints_ok (hM := gr20) (hst := hst) (q1 := q2) (q2 := q5)) ?_
   rintro _ w ⟨rfl, hst⟩
   refine ⟨_, rfl, ?_⟩
   refine Y wn rfl (ypt (v := .bool r20) (e0 rfl) c19 (e0 rfl)) ?_
   obtain rfl := someI gr17
   exact j1 _ _ ⟨rfl, rfl, rfl, (hst.pk 2 [1, 0] rfl)⟩
  ·refine Gn (wx rfl rfl rfl (bfalse c19)) rfl (Gn (wx rfl rfl rfl (bfalse c19)) rfl (Gn (wx rfl rfl rfl (bfalse c19)) rfl (Gn (wx rfl rfl rfl (bfalse c19)) rfl (Gn (wx rfl rfl rfl (bfalse c19)) rfl (Y wn rfl (ypf (v := .bool false) (e0 rfl) (bfalse c19) rfl) ?_)))))
   obtain rfl := someI gr17
   exact j1 _ _ ⟨rfl, rfl, rfl, (hst.pk 2 [1, 0] rfl)⟩
 rintro f w ⟨e18_2, e18_3, e18_16, hst⟩
 refine Y wn rfl (ym (v := .bool r17) (et rfl e18_16)) ?_
 obtain ⟨r22, gr22, hM⟩ := bs hM
 refine joinW 6 (fun f w => f 23 = .bool r22 ∧ St w0 (ros) (rs) w) (fun j2 => ?_) ?_
 ·rcases iteS gr22 with ⟨c24, gr22⟩ | ⟨c24, gr22⟩
  ·refine Y (wg rfl rfl rfl c24) rfl (yFb FL_46_2 (et rfl e18_2)) (Y (wg rfl rfl rfl c24) rfl (yLb (u := h6.v) O_22 (e0 rfl) hst mhR rfl) (Y (wg rfl rfl rfl c24) rfl (yFb FL_46_2 (et rfl e18_3)) (Y (wg rfl rfl rfl c24) rfl (yLb (u := h12.v) O_22 (e0 rfl) hst (mtR mhR) rfl) ?_)))
   obtain ⟨r25, gr25, gr22⟩ := bs gr22
   refine Yc (wg rfl rfl rfl c24) rfl (yCall FN_13 (a2 (e0 rfl) (e0 rfl))) (sparsekit_Ints_ok (hM := gr25) (hst := hst) (q1 := q3) (q2 := q6)) ?_
   rintro _ w ⟨rfl, hst⟩
   refine ⟨_, rfl, ?_⟩
   refine Y wn rfl (ypt (v := .bool r25) (e0 rfl) c24 (e0 rfl)) ?_
   obtain rfl := someI gr22
   exact j2 _ _ ⟨rfl, (hst.pk 2 [] rfl)⟩
  ·refine Gn (wx rfl rfl rfl (bfalse c24)) rfl (Gn (wx rfl rfl rfl (bfalse c24)) rfl (Gn (wx rfl rfl rfl (bfalse c24)) rfl (Gn (wx rfl rfl rfl (bfalse c24)) rfl (Gn (wx rfl rfl rfl (bfalse c24)) rfl (Y wn rfl (ypf (v := .bool false) (e0 rfl) (bfalse c24) rfl) ?_)))))
   obtain rfl := someI gr22
   exact j2 _ _ ⟨rfl, (hst.pk 2 [] rfl)⟩
 rintro f w ⟨e23_23, hst⟩
 refine Y wn rfl (ya (v := .bool r22) (et rfl e23_23)) (wN (k2 _ _ (wp_ret ?_)))
 obtain rfl := someI hM
 exact hQ _ _ _ (fin1r Tryz.results31 ⟨rfl, rfl⟩ ⟨rfl, hst⟩)

theorem dissect_parts_ok {x1 : Int} {x2 : List (List Int)} {h3 : Hdr} {out : (List Int) × Bool} (hM : dissect_parts x1 x2 = some out) (q1 : imm (rS (rI .i64)) h3.v x2 ∈ ros) (hst : St w0 ros (rs) w) :
  Calls Tryz.prog 65 #[iV x1, h3.v] w (fun e w => ∃ (h100001 : Hdr), e = .returned (.tuple #[h100001.v, .bool out.2]) ∧ St w0 (ros) (row 3 (rI .i64) h100001.v out.1 :: rs) w) := by
 refine enterQ Tryz.func65 rfl Tryz.ntmps65 rfl fun Q hQ => seqQ fun Q1 k1 z1 => wR (Y wn rfl (ya (v := hnil.v) rfl) (Y wn rfl (ya (v := .bool false) rfl) (wN (k1 _ _ (seqQ fun Q2 k2 z2 => wR (YH wn rfl (rLt (n := 1) (l := [(-1)]) hst SL_22 [iV (-1)] (bp1 rfl) rfl rfl (mks1 (cs := [iV (-1)]) rfl mkI mks0)) ?_))))))
 intro h4 w hst
 refine Y wn rfl (ym (v := iV x1) (e0 rfl)) ?_
 obtain ⟨r5, gr5, hM⟩ := bs hM
 replace hst := hst.fz
 refine Yc wn rfl (yCall FN_72 (a2 (e0 rfl) (e0 rfl))) (slices_Repeat_int_ok (hM := gr5) (hst := hst) (q1 := mhF)) ?_
 rintro _ w ⟨h6, rfl, hst⟩
 refine ⟨_, rfl, ?_⟩
 refine Y wn rfl (ya (v := h6.v) (e0 rfl)) (wN (k2 _ _ (seqQ fun Q3 k3 z3 => wR (Y wn rfl (ya (v := iV 0) rfl) (wN (k3 _ _ (seqQ fun Q4 k4 z4 => seqQ fun Q5 k5 z5 => wR (Y wn rfl (ym (v := h3.v) (e0 rfl)) (Y wn rfl (yLen SL_24 (e0 rfl) hst (rdI (mtF q1))) (Y wn rfl (ym (v := iV 0) rfl) ?_))))))))))
 refine wN (k5 _ _ (blockQ fun Q6 qb6 => ?_))
 obtain ⟨o15, go15, hM⟩ := bs hM
 have je15_0 : ∀ (x105 : List Int) (x106 : Int) (f : Nat → Value) (w : World), f 0 = iV x1 → f 6 = h6.v → f 7 = iV x106 → St w0 (ros) (row 3 (rI .i64) h6.v x105 :: rs) w → .inl (x105, x106) = o15 → Q6 (.exit 0) (fr 57 f) w := by
  intro x105 x106 f w eje15_0_0 eje15_0_6 eje15_0_7 hst ho
  subst ho
  refine qb6 _ _ _ (k4 _ _ (seqQ fun Q77 k77 z77 => wR (Y wn rfl (ym (v := h6.v) (et rfl eje15_0_6)) (Y wn rfl (ym (v := iV x106) (et rfl eje15_0_7)) (Y wn rfl (ym (v := iV x1) (et rfl eje15_0_0)) (Y wn rfl (yeql (e0 rfl) (e0 rfl)) (Y wn rfl (ya (v := h6.v) (e0 rfl)) (Y wn rfl (ya (v := .bool (decide (x106 = x1))) (e0 rfl)) (wN (k77 _ _ (wp_ret ?_)))))))))))
  obtain rfl := someI hM
  exact hQ _ _ _ (fin2r Tryz.results65 ⟨rfl, rfl⟩ ⟨rfl, rfl⟩ ⟨_, rfl, hst⟩)
 have je15_1 : ∀ (f : Nat → Value) (w : World), f 4 = hnil.v → f 5 = .bool false → St w0 (ros) (rs) w → .inr () = o15 → Q6 .ret (fr 57 f) w := by
  intro f w eje15_1_4 eje15_1_5 hst ho
  subst ho
  refine qb6 _ _ _ (z4 _ _ _ rfl ?_)
  obtain rfl := someI hM
  replace hst := hst.rowNh 3 (rI .i64)
  exact hQ _ _ _ (fin2r Tryz.results65 ⟨rfl, eje15_1_4⟩ ⟨rfl, eje15_1_5⟩ ⟨_, rfl, hst⟩)
 refine loopQ (fun s a w => ∃ (x53 : List Int) (x54 : Int) (x55 : Int) (f : Nat → Value), (x53, x54, x55) = s ∧ a = fr 57 f ∧ f 0 = iV x1 ∧ f 6 = h6.v ∧ f 7 = iV x54 ∧ f 16 = h3.v ∧ f 17 = iV (x2.length : Int) ∧ f 18 = iV x55 ∧ St w0 (ros) (row 3 (rI .i64) h6.v x53 :: rs) w) go15 ⟨_, _, _, _, rfl, rfl, rfl, rfl, rfl, rfl, rfl, rfl, (hst.facts (allT allI))⟩ ?_
 rintro _ _ w r15_ ⟨x53, x54, x55, f, rfl, rfl, e15_0, e15_6, e15_7, e15_16, e15_17, e15_18, hst⟩ hM15 ho15 Q100015 n15 zz15
 refine seqQ fun Q78 k78 z78 => wR (Y wn rfl (ylss (et rfl e15_18) (et rfl e15_17)) (wN (k78 _ _ (seqQ fun Q79 k79 z79 => ?_))))
 rcases iteS hM15 with ⟨c107, hM15⟩ | ⟨c107, hM15⟩
 ·refine condT (e0 rfl) (dT c107) (wp_skip (k79 _ _ (seqQ fun Q80 k80 z80 => blockQ fun Q81 qb81 => seqQ fun Q82 k82 z82 => wR (Y wn rfl (ym (v := iV x55) (et rfl e15_18)) ?_))))
  obtain ⟨x108, gx108, hM15⟩ := bs hM15
  refine Y wn rfl (yIa SL_24 (et rfl e15_16) (et rfl e15_18) hst (rdI q1) gx108) ?_
  obtain ⟨h109, hst⟩ := iLs hst q1 gx108
  refine Y wn rfl (yCt O_22 (e0 rfl) hst (mtF mhF) rfl) (Y wn rfl (ya (v := iV x55) (e0 rfl)) (Y wn rfl (ya (v := h109.v) (e0 rfl)) (wN (k82 _ _ (seqQ fun Q83 k83 z83 => wR (Y wn rfl (ya (v := iV (-1)) rfl) (wN (k83 _ _ (seqQ fun Q84 k84 z84 => wR (Y wn rfl (ym (v := h109.v) (e0 rfl)) (Y wn rfl (yLen SL_22 (e0 rfl) hst (rdI mhF)) ?_)))))))))))
  refine Y wn rfl (ym (v := iV 0) rfl) (wN (k84 _ _ (blockQ fun Q85 qb85 => ?_)))
  obtain ⟨o20, go20, hM15⟩ := bs hM15
  have je20_0 : ∀ (x140 : List Int) (x141 : Int) (f : Nat → Value) (w : World), f 0 = iV x1 → f 6 = h6.v → f 7 = iV x141 → f 16 = h3.v → f 17 = iV (x2.length : Int) → f 18 = iV x55 → St w0 (ros) (row 3 (rI .i64) h6.v x140 :: rs) w → .inl (x140, x141) = o20 → Q85 (.exit 2) (fr 57 f) w := by
   intro x140 x141 f w eje20_0_0 eje20_0_6 eje20_0_7 eje20_0_16 eje20_0_17 eje20_0_18 hst ho
   subst ho
   refine qb85 _ _ _ (qb81 _ _ _ (k80 _ _ (wR (Y wn rfl (yadd (et rfl eje20_0_18) rfl) (Y wn rfl (ym (v := iV (wa .i64 x55 1)) (e0 rfl)) (wN ?_))))))
   obtain rfl := someI hM15
   exact n15 _ _ _ rfl ⟨_, _, _, _, rfl, rfl, eje20_0_0, eje20_0_6, eje20_0_7, eje20_0_16, eje20_0_17, rfl, hst⟩
  have je20_1 : ∀ (f : Nat → Value) (w : World), f 4 = hnil.v → f 5 = .bool false → St w0 (ros) (rs) w → .inr () = o20 → Q85 .ret (fr 57 f) w := by
   intro f w eje20_1_4 eje20_1_5 hst ho
   subst ho
   refine qb85 _ _ _ (qb81 _ _ _ (z80 _ _ _ rfl ?_))
   obtain rfl := someI hM15
   exact zz15 _ _ _ _ rfl rfl (je15_1 _ _ eje20_1_4 eje20_1_5 hst (ho15 _ rfl))
  refine loopQ (fun s a w => ∃ (x121 : List Int) (x122 : Int) (x123 : Int) (x124 : Int) (f : Nat → Value), (x121, x122, x123, x124) = s ∧ a = fr 57 f ∧ f 0 = iV x1 ∧ f 6 = h6.v ∧ f 7 = iV x122 ∧ f 8 = iV x55 ∧ f 10 = iV x123 ∧ f 16 = h3.v ∧ f 17 = iV (x2.length : Int) ∧ f 18 = iV x55 ∧ f 23 = h109.v ∧ f 24 = iV (x108.length : Int) ∧ f 25 = iV x124 ∧ St w0 (imm (rI .i64) h109.v x108 :: ros) (row 3 (rI .i64) h6.v x121 :: rs) w) go20 ⟨_, _, _, _, _, rfl, rfl, e15_0, e15_6, e15_7, rfl, rfl, e15_16, e15_17, e15_18, rfl, rfl, rfl, (hst.facts (allC mhF (allT (allT allI))))⟩ ?_
  rintro _ _ w r20_ ⟨x121, x122, x123, x124, f, rfl, rfl, e20_0, e20_6, e20_7, e20_8, e20_10, e20_16, e20_17, e20_18, e20_23, e20_24, e20_25, hst⟩ hM20 ho20 Q100020 n20 zz20
  refine seqQ fun Q104 k104 z104 => wR (Y wn rfl (ylss (et rfl e20_25) (et rfl e20_24)) (wN (k104 _ _ (seqQ fun Q105 k105 z105 => ?_))))
  rcases iteS hM20 with ⟨c142, hM20⟩ | ⟨c142, hM20⟩
  ·refine condT (e0 rfl) (dT c142) (wp_skip (k105 _ _ (seqQ fun Q106 k106 z106 => blockQ fun Q107 qb107 => seqQ fun Q108 k108 z108 => wR ?_)))
   obtain ⟨x143, gx143, hM20⟩ := bs hM20
   refine Y wn rfl (yIa SL_22 (et rfl e20_23) (et rfl e20_25) hst (rdI mhF) gx143) (Y wn rfl (yI O_3 (e0 rfl) hst (rdI mhF) gx143) (Y wn rfl (ya (v := iV x143) (e0 rfl)) (wN (k108 _ _ (seqQ fun Q109 k109 z109 => seqQ fun Q110 k110 z110 => wR (Y wn rfl (ym (v := iV x143) (e0 rfl)) (Y wn rfl (ym (v := iV x123) (et rfl e20_10)) (Y wn rfl (yleq (e0 rfl) (e0 rfl)) (Y wn rfl (ym (v := .bool (decide (x143 ≤ x123))) (e0 rfl)) ?_)))))))))
   refine joinW 4 (fun f w => f 0 = iV x1 ∧ f 6 = h6.v ∧ f 7 = iV x122 ∧ f 8 = iV x55 ∧ f 12 = iV x143 ∧ f 16 = h3.v ∧ f 17 = iV (x2.length : Int) ∧ f 18 = iV x55 ∧ f 23 = h109.v ∧ f 24 = iV (x108.length : Int) ∧ f 25 = iV x124 ∧ f 36 = .bool ((decide (x143 ≤ x123)) || (decide (x1 ≤ x143))) ∧ St w0 (imm (rI .i64) h109.v x108 :: ros) (row 3 (rI .i64) h6.v x121 :: rs) w) (fun j21 => ?_) ?_
   ·rcases Bool.eq_false_or_eq_true (decide (x143 ≤ x123)) with c145 | c145
    ·exact Gn (wx rfl rfl rfl c145) rfl (Gn (wx rfl rfl rfl c145) rfl (Gn (wx rfl rfl rfl c145) rfl (Y wn rfl (ypt (v := .bool true) (e0 rfl) c145 rfl) (j21 _ _ ⟨e20_0, e20_6, e20_7, e20_8, rfl, e20_16, e20_17, e20_18, e20_23, e20_24, e20_25, (congrArg Value.bool (orT c145)), hst⟩))))
    ·exact Y (wg rfl rfl rfl c145) rfl (ym (v := iV x143) (e0 rfl)) (Y (wg rfl rfl rfl c145) rfl (ym (v := iV x1) (et rfl e20_0)) (Y (wg rfl rfl rfl c145) rfl (ygeq (e0 rfl) (e0 rfl)) (Y wn rfl (ypf (v := .bool (decide (x1 ≤ x143))) (e0 rfl) c145 (e0 rfl)) (j21 _ _ ⟨e20_0, e20_6, e20_7, e20_8, rfl, e20_16, e20_17, e20_18, e20_23, e20_24, e20_25, (congrArg Value.bool (orF c145)), hst⟩))))
   rintro f w ⟨e144_0, e144_6, e144_7, e144_8, e144_12, e144_16, e144_17, e144_18, e144_23, e144_24, e144_25, e144_36, hst⟩
   refine Y wn rfl (ym (v := .bool ((decide (x143 ≤ x123)) || (decide (x1 ≤ x143)))) (et rfl e144_36)) ?_
   obtain ⟨r147, gr147, hM20⟩ := bs hM20
   refine joinW 6 (fun f w => f 0 = iV x1 ∧ f 6 = h6.v ∧ f 7 = iV x122 ∧ f 8 = iV x55 ∧ f 12 = iV x143 ∧ f 16 = h3.v ∧ f 17 = iV (x2.length : Int) ∧ f 18 = iV x55 ∧ f 23 = h109.v ∧ f 24 = iV (x108.length : Int) ∧ f 25 = iV x124 ∧ f 43 = .bool r147 ∧ St w0 (imm (rI .i64) h109.v x108 :: ros) (row 3 (rI .i64) h6.v x121 :: rs) w) (fun j22 => ?_) ?_
   ·rcases iteS gr147 with ⟨c149, gr147⟩ | ⟨c149, gr147⟩
    ·refine Gn (wx rfl rfl rfl c149) rfl (Gn (wx rfl rfl rfl c149) rfl (Gn (wx rfl rfl rfl c149) rfl (Gn (wx rfl rfl rfl c149) rfl (Gn (wx rfl rfl rfl c149) rfl (Y wn rfl (ypt (v := .bool true) (e0 rfl) c149 rfl) ?_)))))
     obtain rfl := someI gr147
     exact j22 _ _ ⟨e144_0, e144_6, e144_7, e144_8, e144_12, e144_16, e144_17, e144_18, e144_23, e144_24, e144_25, rfl, hst⟩
    ·refine Y (wg rfl rfl rfl (bfalse c149)) rfl (ym (v := h6.v) (et rfl e144_6)) (Y (wg rfl rfl rfl (bfalse c149)) rfl (ym (v := iV x143) (et rfl e144_12)) ?_)
     obtain ⟨x150, gx150, gr147⟩ := bs gr147
     refine Y (wg rfl rfl rfl (bfalse c149)) rfl (yIa SL_22 (e0 rfl) (e0 rfl) hst (rdO mhR) gx150) (Y (wg rfl rfl rfl (bfalse c149)) rfl (yI O_3 (e0 rfl) hst (rdO mhR) gx150) (Y (wg rfl rfl rfl (bfalse c149)) rfl (yneq (e0 rfl) rfl) (Y wn rfl (ypf (v := .bool (!(decide (x150 = (-1))))) (e0 rfl) (bfalse c149) (e0 rfl)) ?_)))
     obtain rfl := someI gr147
     exact j22 _ _ ⟨e144_0, e144_6, e144_7, e144_8, e144_12, e144_16, e144_17, e144_18, e144_23, e144_24, e144_25, rfl, hst⟩
   rintro f w ⟨e148_0, e148_6, e148_7, e148_8, e148_12, e148_16, e148_17, e148_18, e148_23, e148_24, e148_25, e148_43, hst⟩
   refine wN (k110 _ _ ?_)
   rcases iteS hM20 with ⟨c151, hM20⟩ | ⟨c151, hM20⟩
   ·refine condT (et rfl e148_43) c151 (seqQ fun Q111 k111 z111 => wR (Y wn rfl (ya (v := hnil.v) rfl) (Y wn rfl (ya (v := .bool false) rfl) (wN (k111 _ _ (wp_ret (z109 _ _ _ rfl (qb107 _ _ _ (z106 _ _ _ rfl ?_)))))))))
    obtain rfl := someI hM20
    exact zz20 _ _ _ _ rfl rfl (je20_1 _ _ rfl rfl ((hst.pk 1 [] rfl).facts (allT allI)) (ho20 _ rfl))
   ·refine condF (et rfl e148_43) (bfalse c151) (wp_skip (k109 _ _ (seqQ fun Q112 k112 z112 => wR (Y wn rfl (ym (v := h6.v) (et rfl e148_6)) (Y wn rfl (ym (v := iV x143) (et rfl e148_12)) (Y wn rfl (ym (v := iV x55) (et rfl e148_8)) (Y wn rfl (ym (v := iV x143) (et rfl e148_12)) ?_)))))))
    obtain ⟨x152, gx152, hM20⟩ := bs hM20
    refine Y wn rfl (yIs SL_22 (e0 rfl) (e0 rfl) hst (rdO mhR) gx152) (YT wn rfl (r_sti (cs := [iV x55]) hst O_3 rfl (e0 rfl) (e0 rfl) rfl mkI gx152) ?_)
    intro w hst
    refine Y wn rfl (ya (v := iV x143) (e0 rfl)) (wN (k112 _ _ (wR (Y wn rfl (ym (v := iV x122) (et rfl e148_7)) (Y wn rfl (yadd (e0 rfl) rfl) (Y wn rfl (ya (v := iV (wa .i64 x122 1)) (e0 rfl)) (wN (qb107 _ _ _ (k106 _ _ (wR (Y wn rfl (yadd (et rfl e148_25) rfl) (Y wn rfl (ym (v := iV (wa .i64 x124 1)) (e0 rfl)) (wN ?_)))))))))))))
    obtain rfl := someI hM20
    exact n20 _ _ _ rfl ⟨_, _, _, _, _, rfl, rfl, e148_0, e148_6, rfl, e148_8, rfl, e148_16, e148_17, e148_18, e148_23, e148_24, rfl, hst⟩
  ·refine condF (e0 rfl) (dF c142) (wp_exit (z105 _ _ _ rfl ?_))
   obtain rfl := someI hM20
   exact zz20 _ _ _ _ rfl rfl (je20_0 _ _ _ _ e20_0 e20_6 e20_7 e20_16 e20_17 e20_18 (hst.facts (allT allI)) (ho20 _ rfl))
 ·refine condF (e0 rfl) (dF c107) (wp_exit (z79 _ _ _ rfl ?_))
  obtain rfl := someI hM15
  exact zz15 _ _ _ _ rfl rfl (je15_0 _ _ _ _ e15_0 e15_6 e15_7 hst (ho15 _ rfl))

theorem dissect_Check_ok {x1 : List (List Int)} {x3 : List Int} {x5 : List Int} {x7 : List Int} {h2 : Hdr} {h4 : Hdr} {h6 : Hdr} {h8 : Hdr} {out : Int} (hM : dissect_Check x1 x3 x5 x7 = some out) (q1 : imm (rS (rI .i64)) h2.v x1 ∈ ros) (q2 : imm (rI .i64) h4.v x3 ∈ ros) (q3 : imm (rI .i64) h6.v x5 ∈ ros) (q4 : imm (rI .i64) h8.v x7 ∈ ros) (hst : St w0 ros (rs) w) :
  Calls Tryz.prog 32 #[.agg #[h2.v], .agg #[h4.v, h6.v, h8.v]] w (fun e w => e = .returned (iV out) ∧ St w0 (ros) (rs) w) := by
 refine enterQ Tryz.func32 rfl Tryz.ntmps32 rfl fun Q hQ => seqQ fun Q1 k1 z1 => wR (YB wn rfl (r_box (vals := [h2.v]) hst (e0 rfl) rfl) ?_)
 intro b9 w hst
 refine YB wn rfl (r_box (vals := [h4.v, h6.v, h8.v]) hst (e0 rfl) rfl) ?_
 intro b10 w hst
 refine Y wn rfl (ya (v := iV 0) rfl) (wN (k1 _ _ (seqQ fun Q2 k2 z2 => wR (Y wn rfl (yLbs (us := [h2.v]) ST_26 (e0 rfl) hst (mtR mhR) rfl rfl) ?_))))
 obtain ⟨r11, gr11, hM⟩ := bs hM
 refine Yc wn rfl (yCall FN_51 (a1 (e0 rfl))) (graph_Check_ok (hM := gr11) (hst := hst) (q1 := q1)) ?_
 rintro _ w ⟨rfl, hst⟩
 refine ⟨_, rfl, ?_⟩
 refine Y wn rfl (ya (v := iV r11) (e0 rfl)) (wN (k2 _ _ (seqQ fun Q3 k3 z3 => seqQ fun Q4 k4 z4 => wR (Y wn rfl (ym (v := iV r11) (e0 rfl)) (Y wn rfl (yneq (e0 rfl) rfl) (wN (k4 _ _ ?_)))))))
 rcases iteS hM with ⟨c12, hM⟩ | ⟨c12, hM⟩
 ·refine condF (e0 rfl) (nF (dT c12)) (wp_skip (k3 _ _ (seqQ fun Q5 k5 z5 => wR (Y wn rfl (yFb FL_26_0 (e0 rfl)) (Y wn rfl (yLb (u := h2.v) O_24 (e0 rfl) hst (mtR mhR) rfl) (Y wn rfl (yLen SL_24 (e0 rfl) hst (rdI q1)) (Y wn rfl (yFb FL_46_0 (e0 rfl)) (Y wn rfl (yLb (u := h4.v) O_22 (e0 rfl) hst mhR rfl) (Y wn rfl (yFb FL_46_1 (e0 rfl)) (Y wn rfl (yLb (u := h6.v) O_22 (e0 rfl) hst mhR rfl) (Y wn rfl (yFb FL_46_2 (e0 rfl)) (Y wn rfl (yLb (u := h8.v) O_22 (e0 rfl) hst mhR rfl) ?_))))))))))))
  refine YH wn rfl (rLt (n := 3) (l := [x3, x5, x7]) hst SL_24 [h4.v, h6.v, h8.v] (bp3 (e0 rfl) (e0 rfl) (e0 rfl)) rfl rfl (mks1 (cs := [h4.v]) rfl (mkS q2) (mks1 (cs := [h6.v]) rfl (mkS q3) (mks1 (cs := [h8.v]) rfl (mkS q4) mks0)))) ?_
  intro h13 w hst
  obtain ⟨r14, gr14, hM⟩ := bs hM
  replace hst := hst.fz
  refine Yc wn rfl (yCall FN_65 (a2 (e0 rfl) (e0 rfl))) (dissect_parts_ok (hM := gr14) (hst := hst) (q1 := mhF)) ?_
  rintro _ w ⟨h15, rfl, hst⟩
  refine ⟨_, rfl, ?_⟩
  refine Y wn rfl (ym (v := .tuple #[h15.v, .bool r14.2]) (e0 rfl)) (Y wn rfl (yx (v := h15.v) (e0 rfl) rfl) (Y wn rfl (yx (v := .bool r14.2) (e0 rfl) rfl) (Y wn rfl (ya (v := h15.v) (e0 rfl)) (Y wn rfl (ya (v := .bool r14.2) (e0 rfl)) (wN (k5 _ _ (seqQ fun Q6 k6 z6 => seqQ fun Q7 k7 z7 => wR (Y wn rfl (ym (v := .bool r14.2) (e0 rfl)) (Y wn rfl (ynot (e0 rfl)) (wN (k7 _ _ ?_)))))))))))
  rcases iteS hM with ⟨c16, hM⟩ | ⟨c16, hM⟩
  ·refine condF (e0 rfl) (nF c16) (wp_skip (k6 _ _ (seqQ fun Q8 k8 z8 => seqQ fun Q9 k9 z9 => wR (Y wn rfl (yFb FL_26_0 (e0 rfl)) (Y wn rfl (yLb (u := h2.v) O_24 (e0 rfl) hst (mtR (mtR mhR)) rfl) (Y wn rfl (yLen SL_24 (e0 rfl) hst (rdI (mtF q1))) (Y wn rfl (ym (v := iV 0) rfl) (wN (k9 _ _ (blockQ fun Q10 qb10 => ?_))))))))))
   obtain ⟨o9, go9, hM⟩ := bs hM
   have je9_0 : ∀ (f : Nat → Value) (w : World), St w0 (ros) (rs) w → .inl () = o9 → Q10 (.exit 0) (fr 61 f) w := by
    intro f w hst ho
    subst ho
    refine qb10 _ _ _ (k8 _ _ (seqQ fun Q67 k67 z67 => wR (Y wn rfl (ya (v := iV 0) rfl) (wN (k67 _ _ (wp_ret ?_))))))
    obtain rfl := someI hM
    exact hQ _ _ _ (fin1r Tryz.results32 ⟨rfl, rfl⟩ ⟨rfl, hst⟩)
   have je9_1 : ∀ (f : Nat → Value) (w : World), f 4 = iV 180 → St w0 (ros) (rs) w → .inr () = o9 → Q10 .ret (fr 61 f) w := by
    intro f w eje9_1_4 hst ho
    subst ho
    refine qb10 _ _ _ (z8 _ _ _ rfl ?_)
    obtain rfl := someI hM
    exact hQ _ _ _ (fin1r Tryz.results32 ⟨rfl, eje9_1_4⟩ ⟨rfl, hst⟩)
   refine loopQ (fun s a w => ∃ (x49 : Int) (f : Nat → Value), x49 = s ∧ a = fr 61 f ∧ f 6 = h15.v ∧ f 34 = h2.v ∧ f 35 = iV (x1.length : Int) ∧ f 36 = iV x49 ∧ St w0 (ros) (row 3 (rI .i64) h15.v r14.1 :: rs) w) go9 ⟨_, _, rfl, rfl, rfl, rfl, rfl, rfl, ((hst.pk 3 [0] rfl).facts (allT allI))⟩ ?_
   rintro _ _ w r9_ ⟨x49, f, rfl, rfl, e9_6, e9_34, e9_35, e9_36, hst⟩ hM9 ho9 Q100009 n9 zz9
   refine seqQ fun Q68 k68 z68 => wR (Y wn rfl (ylss (et rfl e9_36) (et rfl e9_35)) (wN (k68 _ _ (seqQ fun Q69 k69 z69 => ?_))))
   rcases iteS hM9 with ⟨c83, hM9⟩ | ⟨c83, hM9⟩
   ·refine condT (e0 rfl) (dT c83) (wp_skip (k69 _ _ (seqQ fun Q70 k70 z70 => blockQ fun Q71 qb71 => seqQ fun Q72 k72 z72 => wR (Y wn rfl (ym (v := iV x49) (et rfl e9_36)) ?_))))
    obtain ⟨x84, gx84, hM9⟩ := bs hM9
    refine Y wn rfl (yIa SL_24 (et rfl e9_34) (et rfl e9_36) hst (rdI q1) gx84) ?_
    obtain ⟨h85, hst⟩ := iLs hst q1 gx84
    refine Y wn rfl (yCt O_22 (e0 rfl) hst (mtF mhF) rfl) (Y wn rfl (ya (v := iV x49) (e0 rfl)) (Y wn rfl (ya (v := h85.v) (e0 rfl)) (wN (k72 _ _ (seqQ fun Q73 k73 z73 => wR (Y wn rfl (ym (v := h85.v) (e0 rfl)) (Y wn rfl (yLen SL_22 (e0 rfl) hst (rdI mhF)) (Y wn rfl (ym (v := iV 0) rfl) (wN (k73 _ _ (blockQ fun Q74 qb74 => ?_)))))))))))
    obtain ⟨o12, go12, hM9⟩ := bs hM9
    have je12_0 : ∀ (f : Nat → Value) (w : World), f 6 = h15.v → f 34 = h2.v → f 35 = iV (x1.length : Int) → f 36 = iV x49 → St w0 (ros) (row 3 (rI .i64) h15.v r14.1 :: rs) w → .inl () = o12 → Q74 (.exit 2) (fr 61 f) w := by
     intro f w eje12_0_6 eje12_0_34 eje12_0_35 eje12_0_36 hst ho
     subst ho
     refine qb74 _ _ _ (qb71 _ _ _ (k70 _ _ (wR (Y wn rfl (yadd (et rfl eje12_0_36) rfl) (Y wn rfl (ym (v := iV (wa .i64 x49 1)) (e0 rfl)) (wN ?_))))))
     obtain rfl := someI hM9
     exact n9 _ _ _ rfl ⟨_, _, rfl, rfl, eje12_0_6, eje12_0_34, eje12_0_35, rfl, hst⟩
    have je12_1 : ∀ (f : Nat → Value) (w : World), f 4 = iV 180 → St w0 (ros) (rs) w → .inr () = o12 → Q74 .ret (fr 61 f) w := by
     intro f w eje12_1_4 hst ho
     subst ho
     refine qb74 _ _ _ (qb71 _ _ _ (z70 _ _ _ rfl ?_))
     obtain rfl := someI hM9
     exact zz9 _ _ _ _ rfl rfl (je9_1 _ _ eje12_1_4 hst (ho9 _ rfl))
    refine loopQ (fun s a w => ∃ (x95 : Int) (f : Nat → Value), x95 = s ∧ a = fr 61 f ∧ f 6 = h15.v ∧ f 8 = iV x49 ∧ f 34 = h2.v ∧ f 35 = iV (x1.length : Int) ∧ f 36 = iV x49 ∧ f 41 = h85.v ∧ f 42 = iV (x84.length : Int) ∧ f 43 = iV x95 ∧ St w0 (imm (rI .i64) h85.v x84 :: ros) (row 3 (rI .i64) h15.v r14.1 :: rs) w) go12 ⟨_, _, rfl, rfl, e9_6, rfl, e9_34, e9_35, e9_36, rfl, rfl, rfl, (hst.facts (allC mhF (allT (allT allI))))⟩ ?_
    rintro _ _ w r12_ ⟨x95, f, rfl, rfl, e12_6, e12_8, e12_34, e12_35, e12_36, e12_41, e12_42, e12_43, hst⟩ hM12 ho12 Q100012 n12 zz12
    refine seqQ fun Q89 k89 z89 => wR (Y wn rfl (ylss (et rfl e12_43) (et rfl e12_42)) (wN (k89 _ _ (seqQ fun Q90 k90 z90 => ?_))))
    rcases iteS hM12 with ⟨c106, hM12⟩ | ⟨c106, hM12⟩
    ·refine condT (e0 rfl) (dT c106) (wp_skip (k90 _ _ (seqQ fun Q91 k91 z91 => blockQ fun Q92 qb92 => seqQ fun Q93 k93 z93 => wR ?_)))
     obtain ⟨x107, gx107, hM12⟩ := bs hM12
     refine Y wn rfl (yIa SL_22 (et rfl e12_41) (et rfl e12_43) hst (rdI mhF) gx107) (Y wn rfl (yI O_3 (e0 rfl) hst (rdI mhF) gx107) (Y wn rfl (ya (v := iV x107) (e0 rfl)) (wN (k93 _ _ (seqQ fun Q94 k94 z94 => wR (Y wn rfl (ym (v := h15.v) (et rfl e12_6)) (Y wn rfl (ym (v := iV x49) (et rfl e12_8)) ?_)))))))
     obtain ⟨x108, gx108, hM12⟩ := bs hM12
     refine Y wn rfl (yIa SL_22 (e0 rfl) (e0 rfl) hst (rdO mhR) gx108) (Y wn rfl (yI O_3 (e0 rfl) hst (rdO mhR) gx108) (Y wn rfl (yeql (e0 rfl) rfl) (Y wn rfl (ym (v := .bool (decide (x108 = 0))) (e0 rfl)) ?_)))
     obtain ⟨r110, gr110, hM12⟩ := bs hM12
     refine joinW 6 (fun f w => f 6 = h15.v ∧ f 8 = iV x49 ∧ f 34 = h2.v ∧ f 35 = iV (x1.length : Int) ∧ f 36 = iV x49 ∧ f 41 = h85.v ∧ f 42 = iV (x84.length : Int) ∧ f 43 = iV x95 ∧ f 58 = .bool r110 ∧ St w0 (imm (rI .i64) h85.v x84 :: ros) (row 3 (rI .i64) h15.v r14.1 :: rs) w) (fun j13 => ?_) ?_
     ·rcases iteS gr110 with ⟨c112, gr110⟩ | ⟨c112, gr110⟩
      ·refine Y (wg rfl rfl rfl (dT c112)) rfl (ym (v := h15.v) (et rfl e12_6)) (Y (wg rfl rfl rfl (dT c112)) rfl (ym (v := iV x107) (e0 rfl)) ?_)
       obtain ⟨x113, gx113, gr110⟩ := bs gr110
       refine Y (wg rfl rfl rfl (dT c112)) rfl (yIa SL_22 (e0 rfl) (e0 rfl) hst (rdO mhR) gx113) (Y (wg rfl rfl rfl (dT c112)) rfl (yI O_3 (e0 rfl) hst (rdO mhR) gx113) (Y (wg rfl rfl rfl (dT c112)) rfl (yeql (e0 rfl) rfl) (Y wn rfl (ypt (v := .bool (decide (x113 = 1))) (e0 rfl) (dT c112) (e0 rfl)) ?_)))
       obtain rfl := someI gr110
       exact j13 _ _ ⟨e12_6, e12_8, e12_34, e12_35, e12_36, e12_41, e12_42, e12_43, rfl, hst⟩
      ·refine Gn (wx rfl rfl rfl (dF c112)) rfl (Gn (wx rfl rfl rfl (dF c112)) rfl (Gn (wx rfl rfl rfl (dF c112)) rfl (Gn (wx rfl rfl rfl (dF c112)) rfl (Gn (wx rfl rfl rfl (dF c112)) rfl (Y wn rfl (ypf (v := .bool false) (e0 rfl) (dF c112) rfl) ?_)))))
       obtain rfl := someI gr110
       exact j13 _ _ ⟨e12_6, e12_8, e12_34, e12_35, e12_36, e12_41, e12_42, e12_43, rfl, hst⟩
     rintro f w ⟨e111_6, e111_8, e111_34, e111_35, e111_36, e111_41, e111_42, e111_43, e111_58, hst⟩
     refine wN (k94 _ _ ?_)
     rcases iteS hM12 with ⟨c114, hM12⟩ | ⟨c114, hM12⟩
     ·refine condT (et rfl e111_58) c114 (seqQ fun Q95 k95 z95 => wR (Y wn rfl (ya (v := iV 180) rfl) (wN (k95 _ _ (wp_ret (qb92 _ _ _ (z91 _ _ _ rfl ?_)))))))
      obtain rfl := someI hM12
      exact zz12 _ _ _ _ rfl rfl (je12_1 _ _ rfl ((hst.pk 1 [] rfl).facts (allT allI)) (ho12 _ rfl))
     ·refine condF (et rfl e111_58) (bfalse c114) (wp_skip (qb92 _ _ _ (k91 _ _ (wR (Y wn rfl (yadd (et rfl e111_43) rfl) (Y wn rfl (ym (v := iV (wa .i64 x95 1)) (e0 rfl)) (wN ?_)))))))
      obtain rfl := someI hM12
      exact n12 _ _ _ rfl ⟨_, _, rfl, rfl, e111_6, e111_8, e111_34, e111_35, e111_36, e111_41, e111_42, rfl, hst⟩
    ·refine condF (e0 rfl) (dF c106) (wp_exit (z90 _ _ _ rfl ?_))
     obtain rfl := someI hM12
     exact zz12 _ _ _ _ rfl rfl (je12_0 _ _ e12_6 e12_34 e12_35 e12_36 (hst.facts (allT allI)) (ho12 _ rfl))
   ·refine condF (e0 rfl) (dF c83) (wp_exit (z69 _ _ _ rfl ?_))
    obtain rfl := someI hM9
    exact zz9 _ _ _ _ rfl rfl (je9_0 _ _ (hst.pk 1 [] rfl) (ho9 _ rfl))
  ·refine condT (e0 rfl) (nT (bfalse c16)) (seqQ fun Q96 k96 z96 => wR (Y wn rfl (ya (v := iV 180) rfl) (wN (k96 _ _ (wp_ret (z6 _ _ _ rfl ?_))))))
   obtain rfl := someI hM
   exact hQ _ _ _ (fin1r Tryz.results32 ⟨rfl, rfl⟩ ⟨rfl, ((hst.pk 3 [] rfl).facts (allT allI))⟩)
 ·refine condT (e0 rfl) (nT (dF c12)) (seqQ fun Q97 k97 z97 => wR (Y wn rfl (ym (v := iV r11) (e0 rfl)) (Y wn rfl (ya (v := iV r11) (e0 rfl)) (wN (k97 _ _ (wp_ret (z3 _ _ _ rfl ?_)))))))
  obtain rfl := someI hM
  exact hQ _ _ _ (fin1r Tryz.results32 ⟨rfl, rfl⟩ ⟨rfl, (hst.pk 2 [] rfl)⟩)

theorem sparselaw18_awake_ok {out : Bool} (hM : sparselaw18_awake = some out) (hst : St w0 ros (rs) w) :
  Calls Tryz.prog 8 #[] w (fun e w => e = .returned (.bool out) ∧ St w0 (ros) (rs) w) := by
 refine enterQ Tryz.func8 rfl Tryz.ntmps8 rfl fun Q hQ => seqQ fun Q1 k1 z1 => wR (Y wn rfl (ya (v := .bool false) rfl) (wN (k1 _ _ (seqQ fun Q2 k2 z2 => wR (YH wn rfl (rLt (n := 1) (l := [1]) hst SL_22 [iV 1] (bp1 rfl) rfl rfl (mks1 (cs := [iV 1]) rfl mkI mks0)) ?_)))))
 intro h1 w hst
 refine YH wn rfl (rLt (n := 2) (l := [0, 2]) hst SL_22 [iV 0, iV 2] (bp2 rfl rfl) rfl rfl (mks1 (cs := [iV 0]) rfl mkI (mks1 (cs := [iV 2]) rfl mkI mks0))) ?_
 intro h2 w hst
 refine YH wn rfl (rLt (n := 2) (l := [1, 3]) hst SL_22 [iV 1, iV 3] (bp2 rfl rfl) rfl rfl (mks1 (cs := [iV 1]) rfl mkI (mks1 (cs := [iV 3]) rfl mkI mks0))) ?_
 intro h3 w hst
 refine YH wn rfl (rLt (n := 1) (l := [2]) hst SL_22 [iV 2] (bp1 rfl) rfl rfl (mks1 (cs := [iV 2]) rfl mkI mks0)) ?_
 intro h4 w hst
 replace hst := hst.pk 4 [3, 0, 0, 0] rfl
 replace hst := hst.fz
 replace hst := hst.pk 3 [2, 0, 0] rfl
 replace hst := hst.fz
 replace hst := hst.pk 2 [1, 0] rfl
 replace hst := hst.fz
 replace hst := hst.fz
 refine YH wn rfl (rLt (n := 4) (l := [[1], [0, 2], [1, 3], [2]]) hst SL_24 [h1.v, h2.v, h3.v, h4.v] (bp4 (e0 rfl) (e0 rfl) (e0 rfl) (e0 rfl)) rfl rfl (mks1 (cs := [h1.v]) rfl (mkS (mtF (mtF (mtF mhF)))) (mks1 (cs := [h2.v]) rfl (mkS (mtF (mtF mhF))) (mks1 (cs := [h3.v]) rfl (mkS (mtF mhF)) (mks1 (cs := [h4.v]) rfl (mkS mhF) mks0))))) ?_
 intro h5 w hst
 refine Y wn rfl (ybuild (us := [h5.v]) [(0, h5.v)] SO_26 (bp1 (e0 rfl)) rfl) (YB wn rfl (rAl hst ZT_26) ?_)
 intro b6 w hst
 refine YT wn rfl (r_stbn (vals' := [h5.v]) (us := [h5.v]) hst ST_26 (e0 rfl) (e0 rfl) rfl rfl (one_of rfl) rfl) ?_
 intro w hst
 refine wN (k2 _ _ (seqQ fun Q3 k3 z3 => wR (Y wn rfl (yLbs (us := [h5.v]) ST_26 (e0 rfl) hst mhR rfl rfl) ?_)))
 obtain ⟨r7, gr7, hM⟩ := bs hM
 replace hst := hst.pk 2 [1, 0] rfl
 replace hst := hst.fz
 refine Yc wn rfl (yCall FN_27 (a1 (e0 rfl))) (dissect_Separate_ok (hM := gr7) (hst := hst) (q1 := mhF)) ?_
 rintro _ w ⟨h8, h9, h10, rfl, hst⟩
 refine ⟨_, rfl, ?_⟩
 refine Y wn rfl (ym (v := .tuple #[.agg #[h8.v, h9.v, h10.v], iV r7.2.2.2]) (e0 rfl)) (Y wn rfl (yx (v := .agg #[h8.v, h9.v, h10.v]) (e0 rfl) rfl) (Y wn rfl (yx (v := iV r7.2.2.2) (e0 rfl) rfl) (YB wn rfl (rAl hst ZT_46) ?_)))
 intro b11 w hst
 refine YT wn rfl (r_stbn (vals' := [h8.v, h9.v, h10.v]) (us := [h8.v, h9.v, h10.v]) hst ST_46 (e0 rfl) (e0 rfl) rfl rfl (one_of rfl) rfl) ?_
 intro w hst
 refine Y wn rfl (ya (v := iV r7.2.2.2) (e0 rfl)) (wN (k3 _ _ (seqQ fun Q4 k4 z4 => wR (Y wn rfl (ym (v := iV r7.2.2.2) (e0 rfl)) (Y wn rfl (yeql (e0 rfl) rfl) (Y wn rfl (ym (v := .bool (decide (r7.2.2.2 = 0))) (e0 rfl)) ?_))))))
 obtain ⟨r16, gr16, hM⟩ := bs hM
 refine joinW 7 (fun f w => f 1 = (pB b6) ∧ f 2 = (pB b11) ∧ f 24 = .bool r16 ∧ St w0 (imm (rS (rI .i64)) h5.v [[1], [0, 2], [1, 3], [2]] :: imm (rI .i64) h8.v r7.1 :: imm (rI .i64) h9.v r7.2.1 :: imm (rI .i64) h10.v r7.2.2.1 :: ros) (box b6 26 [h5.v] :: box b11 46 [h8.v, h9.v, h10.v] :: rs) w) (fun j1 => ?_) ?_
 ·rcases iteS gr16 with ⟨c18, gr16⟩ | ⟨c18, gr16⟩
  ·refine Y (wg rfl rfl rfl (dT c18)) rfl (yLbs (us := [h8.v, h9.v, h10.v]) ST_46 (e0 rfl) hst mhR rfl rfl) (YH (wg rfl rfl rfl (dT c18)) rfl (rLt (n := 2) (l := [0, 1]) hst SL_22 [iV 0, iV 1] (bp2 rfl rfl) rfl rfl (mks1 (cs := [iV 0]) rfl mkI (mks1 (cs := [iV 1]) rfl mkI mks0))) ?_)
   intro h19 w hst
   refine YH (wg rfl rfl rfl (dT c18)) rfl (rLt (n := 1) (l := [3]) hst SL_22 [iV 3] (bp1 rfl) rfl rfl (mks1 (cs := [iV 3]) rfl mkI mks0)) ?_
   intro h20 w hst
   refine YH (wg rfl rfl rfl (dT c18)) rfl (rLt (n := 1) (l := [2]) hst SL_22 [iV 2] (bp1 rfl) rfl rfl (mks1 (cs := [iV 2]) rfl mkI mks0)) ?_
   intro h21 w hst
   refine Y (wg rfl rfl rfl (dT c18)) rfl (ybuild (us := [h19.v, h20.v, h21.v]) [(0, h19.v), (1, h20.v), (2, h21.v)] SO_46 (bp3 (e0 rfl) (e0 rfl) (e0 rfl)) rfl) ?_
   obtain ⟨r22, gr22, gr16⟩ := bs gr16
   replace hst := hst.pk 5 [4, 0, 0, 0, 0] rfl
   replace hst := hst.fz
   replace hst := hst.pk 5 [4, 0, 0, 0, 0] rfl
   replace hst := hst.fz
   replace hst := hst.pk 5 [4, 0, 0, 0, 0] rfl
   replace hst := hst.fz
   replace hst := hst.pk 3 [2, 0, 0] rfl
   replace hst := hst.fz
   replace hst := hst.pk 2 [1, 0] rfl
   replace hst := hst.fz
   replace hst := hst.fz
   refine Yc (wg rfl rfl rfl (dT c18)) rfl (yCall FN_31 (a2 (e0 rfl) (e0 rfl))) (sparsekit_Split_ok (hM := gr22) (hst := hst) (q1 := (mtF (mtF (mtF (mtF (mtF mhF)))))) (q2 := (mtF (mtF (mtF (mtF mhF))))) (q3 := (mtF (mtF (mtF mhF)))) (q4 := (mtF (mtF mhF))) (q5 := (mtF mhF)) (q6 := mhF)) ?_
   rintro _ w ⟨rfl, hst⟩
   refine ⟨_, rfl, ?_⟩
   refine Y wn rfl (ypt (v := .bool r22) (e0 rfl) (dT c18) (e0 rfl)) ?_
   obtain rfl := someI gr16
   exact j1 _ _ ⟨rfl, rfl, rfl, ((hst.pk 2 [1, 0] rfl).facts (allC (mtF (mtF (mtF (mtF (mtF (mtF mhF)))))) (allC (mtF (mtF (mtF (mtF (mtF mhF))))) (allC (mtF (mtF (mtF (mtF mhF)))) (allC (mtF (mtF (mtF mhF))) (allT (allT (allT (allT (allT (allT (allT (allT (allT (allT (allT allI))))))))))))))))⟩
  ·refine Gn (wx rfl rfl rfl (dF c18)) rfl (Gn (wx rfl rfl rfl (dF c18)) rfl (Gn (wx rfl rfl rfl (dF c18)) rfl (Gn (wx rfl rfl rfl (dF c18)) rfl (Gn (wx rfl rfl rfl (dF c18)) rfl (Gn (wx rfl rfl rfl (dF c18)) rfl (Y wn rfl (ypf (v := .bool false) (e0 rfl) (dF c18) rfl) ?_))))))
   obtain rfl := someI gr16
   replace hst := hst.pk 2 [1, 0] rfl
   replace hst := hst.fz
   replace hst := hst.pk 2 [1, 0] rfl
   replace hst := hst.fz
   replace hst := hst.pk 2 [1, 0] rfl
   replace hst := hst.fz
   exact j1 _ _ ⟨rfl, rfl, rfl, ((hst.pk 2 [1, 0] rfl).facts (allC (mtF (mtF (mtF mhF))) (allC (mtF (mtF mhF)) (allC (mtF mhF) (allC mhF (allT (allT (allT (allT (allT (allT (allT (allT allI)))))))))))))⟩
 rintro f w ⟨e17_1, e17_2, e17_24, hst⟩
 refine Y wn rfl (ym (v := .bool r16) (et rfl e17_24)) ?_
 obtain ⟨r24, gr24, hM⟩ := bs hM
 refine joinW 5 (fun f w => f 30 = .bool r24 ∧ St w0 (ros) (rs) w) (fun j2 => ?_) ?_
 ·rcases iteS gr24 with ⟨c26, gr24⟩ | ⟨c26, gr24⟩
  ·refine Y (wg rfl rfl rfl c26) rfl (yLbs (us := [h5.v]) ST_26 (et rfl e17_1) hst mhR rfl rfl) (Y (wg rfl rfl rfl c26) rfl (yLbs (us := [h8.v, h9.v, h10.v]) ST_46 (et rfl e17_2) hst (mtR mhR) rfl rfl) ?_)
   obtain ⟨r27, gr27, gr24⟩ := bs gr24
   refine Yc (wg rfl rfl rfl c26) rfl (yCall FN_32 (a2 (e0 rfl) (e0 rfl))) (dissect_Check_ok (hM := gr27) (hst := hst) (q1 := mhF) (q2 := (mtF mhF)) (q3 := (mtF (mtF mhF))) (q4 := (mtF (mtF (mtF mhF))))) ?_
   rintro _ w ⟨rfl, hst⟩
   refine ⟨_, rfl, ?_⟩
   refine Y (wg rfl rfl rfl c26) rfl (yeql (e0 rfl) rfl) (Y wn rfl (ypt (v := .bool (decide (r27 = 0))) (e0 rfl) c26 (e0 rfl)) ?_)
   obtain rfl := someI gr24
   exact j2 _ _ ⟨rfl, ((hst.pk 2 [] rfl).facts (allT (allT (allT (allT allI)))))⟩
  ·refine Gn (wx rfl rfl rfl (bfalse c26)) rfl (Gn (wx rfl rfl rfl (bfalse c26)) rfl (Gn (wx rfl rfl rfl (bfalse c26)) rfl (Gn (wx rfl rfl rfl (bfalse c26)) rfl (Y wn rfl (ypf (v := .bool false) (e0 rfl) (bfalse c26) rfl) ?_))))
   obtain rfl := someI gr24
   exact j2 _ _ ⟨rfl, ((hst.pk 2 [] rfl).facts (allT (allT (allT (allT allI)))))⟩
 rintro f w ⟨e25_30, hst⟩
 refine Y wn rfl (ya (v := .bool r24) (et rfl e25_30)) (wN (k4 _ _ (wp_ret ?_)))
 obtain rfl := someI hM
 exact hQ _ _ _ (fin1r Tryz.results8 ⟨rfl, rfl⟩ ⟨rfl, hst⟩)
end Go.Proofs.YthpeajepbffinaaGreat
