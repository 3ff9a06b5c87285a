/- Walks: each function computes its model, printed. -/
import Derived.Test.YtcknmegldjnjjaaGreatDoorW7
namespace Go.Proofs.YtcknmegldjnjjaaGreatDoor
open Go Sx M
set_option maxRecDepth 100000
set_option maxHeartbeats 400000
set_option linter.unusedVariables false
attribute [local irreducible] wpList Code.wp Calls DR QR QS LA LS St
theorem graph_induced_ok {w0 : World} {ros : List Fact} {rs : List Res} {w : World} {x1 : List (List Int)} {x3 : List Int} {h2 : Hdr} {h4 : Hdr} {out : (List (List Int))} (hM : graph_induced x1 x3 = some out) (q1 : imm (rS (rI .i64)) h2.v x1 ∈ ros) (q2 : imm (rI .i64) h4.v x3 ∈ ros) (hst : St w0 ros (rs) w) :
    Calls Tryz.prog 35 #[.agg #[h2.v], h4.v] w (fun e w => ∃ (h100001 : Hdr), e = .returned (.agg #[h100001.v]) ∧ St w0 (ros) (row 22 (rS (rI .i64)) h100001.v out :: rs) w) := by
  refine enterQ Tryz.func35 rfl Tryz.ntmps35 rfl fun Q hQ => ?_
  refine seqQ fun Q1 k1 z1 => ?_
  refine wp_region_lit ?_
  refine YB wn rfl (r_box (vals := [h2.v]) hst (et rfl rfl) rfl) ?_
  clear hst
  intro b5 w hst
  refine YB wn rfl (rAl hst ZT_31) ?_
  clear hst
  intro b6 w hst
  refine wpList_nil ?_
  refine k1 _ _ ?_
  refine seqQ fun Q2 k2 z2 => ?_
  refine wp_region_lit ?_
  refine Y wn rfl (ym (v := h4.v) (et rfl rfl)) ?_
  refine Y wn rfl (yLen SL_22 (et rfl rfl) hst (rdI q2)) ?_
  obtain ⟨r7, gr7, hM⟩ := bs hM
  refine Yc wn rfl (yCall FN_27 (a1 (et rfl rfl))) (graph_NewSets_ok (hM := gr7) (hst := hst) ) ?_
  clear hst
  rintro _ w ⟨h8, y9, rfl, hst⟩
  refine ⟨_, rfl, ?_⟩
  refine Y wn rfl (ya (v := h8.v) (et rfl rfl)) ?_
  refine wpList_nil ?_
  refine k2 _ _ ?_
  refine seqQ fun Q3 k3 z3 => ?_
  refine seqQ fun Q4 k4 z4 => ?_
  refine wp_region_lit ?_
  refine Y wn rfl (ym (v := h4.v) (et rfl rfl)) ?_
  refine Y wn rfl (yLen SL_22 (et rfl rfl) hst (rdI q2)) ?_
  refine Y wn rfl (ym (v := .int .i64 0) rfl) ?_
  refine wpList_nil ?_
  refine k4 _ _ ?_
  refine blockQ fun Q5 qb5 => ?_
  obtain ⟨o9, go9, hM⟩ := bs hM
  have je9_0 : ∀ (x72 : List (List Bool)) (f : Nat → Value) (w : World), f 4 = .pointer (some ⟨b6, 0, none⟩) → f 5 = h8.v → St w0 (ros) (box b6 31 [hnil.v] :: row 76 rH h8.v y9 :: fam 4 rB y9 x72 :: rs) w → x72 = o9 → Q5 (.exit 0) (fr 41 f) w := by
    intro x72 f w eje9_0_4 eje9_0_5 hst ho
    subst ho
    refine qb5 _ _ _ ?_
    refine k3 _ _ ?_
    refine seqQ fun Q56 k56 z56 => ?_
    refine wp_region_lit ?_
    refine Y wn rfl (ym (v := h8.v) (et rfl eje9_0_5)) ?_
    obtain ⟨r73, gr73, hM⟩ := bs hM
    replace hst := hst.pk 3 [1, 1, 0] rfl
    replace hst := hst.ffz
    refine Yc wn rfl (yCall FN_29 (a1 (et rfl rfl))) (graph_Sets_Graph_ok (hM := gr73) (hst := hst) (q1 := mhF)) ?_
    clear hst
    rintro _ w ⟨h74, rfl, hst⟩
    refine ⟨_, rfl, ?_⟩
    replace hst := hst.pk 2 [1, 0] rfl
    refine YT wn rfl (r_stbn (vals' := [h74.v]) (us := [h74.v]) hst ST_31 (et rfl eje9_0_4) (et rfl rfl) rfl rfl (one_of rfl) rfl) ?_
    clear hst
    intro w hst
    refine wpList_nil ?_
    refine k56 _ _ ?_
    refine wp_ret ?_
    obtain rfl := someI hM
    exact hQ _ _ _ (fin1r Tryz.results35 (rcs2 rfl eje9_0_4 hst mhR ST_31 rfl) ⟨_, rfl, ((hst.pk 2 [1] rfl).facts (allT allI))⟩)
  refine loopQ (fun s a w => ∃ (x39 : List (List Bool)) (x40 : Int) (f : Nat → Value), (x39, x40) = s ∧ a = fr 41 f ∧ f 1 = h4.v ∧ f 2 = .pointer (some ⟨b5, 0, none⟩) ∧ f 4 = .pointer (some ⟨b6, 0, none⟩) ∧ f 5 = h8.v ∧ f 13 = h4.v ∧ f 14 = .int .i64 (x3.length : Int) ∧ f 15 = .int .i64 x40 ∧ St w0 (ros) (box b5 31 [h2.v] :: box b6 31 [hnil.v] :: row 76 rH h8.v y9 :: fam 4 rB y9 x39 :: rs) w) go9 ⟨_, _, _, rfl, rfl, rfl, rfl, rfl, rfl, rfl, rfl, rfl, (hst.pk 4 [3, 2, 0, 0] rfl)⟩ ?_
  clear hst
  rintro _ _ w r9_ ⟨x39, x40, f, rfl, rfl, e9_1, e9_2, e9_4, e9_5, e9_13, e9_14, e9_15, hst⟩ hM9 ho9 Q100009 n9 zz9
  refine seqQ fun Q57 k57 z57 => ?_
  refine wp_region_lit ?_
  refine Y wn rfl (ylss (et rfl e9_15) (et rfl e9_14)) ?_
  refine wpList_nil ?_
  refine k57 _ _ ?_
  refine seqQ fun Q58 k58 z58 => ?_
  rcases iteS hM9 with ⟨c75, hM9⟩ | ⟨c75, hM9⟩
  · refine condT (et rfl rfl) (decide_eq_true c75) ?_
    refine wp_skip ?_
    refine k58 _ _ ?_
    refine seqQ fun Q59 k59 z59 => ?_
    refine blockQ fun Q60 qb60 => ?_
    refine seqQ fun Q61 k61 z61 => ?_
    refine wp_region_lit ?_
    refine Y wn rfl (ym (v := .int .i64 x40) (et rfl e9_15)) ?_
    obtain ⟨x76, gx76, hM9⟩ := bs hM9
    refine Y wn rfl (yIa SL_22 (et rfl e9_13) (et rfl e9_15) hst (rdI q2) gx76) ?_
    refine Y wn rfl (yI O_3 (et rfl rfl) hst (rdI q2) gx76) ?_
    refine Y wn rfl (ya (v := .int .i64 x40) (et rfl rfl)) ?_
    refine Y wn rfl (ya (v := .int .i64 x76) (et rfl rfl)) ?_
    refine wpList_nil ?_
    refine k61 _ _ ?_
    refine seqQ fun Q62 k62 z62 => ?_
    refine wp_region_lit ?_
    refine Y wn rfl (ym (v := h4.v) (et rfl e9_1)) ?_
    refine Y wn rfl (ym (v := .int .i64 x40) (et rfl rfl)) ?_
    obtain ⟨x77, gx77, hM9⟩ := bs hM9
    refine Y wn rfl (ySl (k1 := .i64) SL_22 (et rfl rfl) hst (rdI q2) (.inr ⟨rfl, rfl⟩) (.inl (congrArg some (et rfl rfl))) gx77) ?_
    replace hst := hst.sub q2 gx77
    refine Y wn rfl (yLen SL_22 (et rfl rfl) hst (rdI mhF)) ?_
    refine Y wn rfl (ym (v := .int .i64 0) rfl) ?_
    refine wpList_nil ?_
    refine k62 _ _ ?_
    refine blockQ fun Q63 qb63 => ?_
    obtain ⟨o12, go12, hM9⟩ := bs hM9
    have je12_0 : ∀ (x96 : List (List Bool)) (f : Nat → Value) (w : World), f 1 = h4.v → f 2 = .pointer (some ⟨b5, 0, none⟩) → f 4 = .pointer (some ⟨b6, 0, none⟩) → f 5 = h8.v → f 13 = h4.v → f 14 = .int .i64 (x3.length : Int) → f 15 = .int .i64 x40 → St w0 (ros) (box b5 31 [h2.v] :: box b6 31 [hnil.v] :: row 76 rH h8.v y9 :: fam 4 rB y9 x96 :: rs) w → x96 = o12 → Q63 (.exit 2) (fr 41 f) w := by
      intro x96 f w eje12_0_1 eje12_0_2 eje12_0_4 eje12_0_5 eje12_0_13 eje12_0_14 eje12_0_15 hst ho
      subst ho
      refine qb63 _ _ _ ?_
      refine qb60 _ _ _ ?_
      refine k59 _ _ ?_
      refine wp_region_lit ?_
      refine Y wn rfl (yadd (et rfl eje12_0_15) rfl) ?_
      refine Y wn rfl (ym (v := .int .i64 (wa .i64 x40 1)) (et rfl rfl)) ?_
      refine wpList_nil ?_
      obtain rfl := someI hM9
      exact n9 _ _ _ rfl ⟨_, _, _, rfl, rfl, eje12_0_1, eje12_0_2, eje12_0_4, eje12_0_5, eje12_0_13, eje12_0_14, rfl, hst⟩
    refine loopQ (fun s a w => ∃ (x85 : List (List Bool)) (x86 : Int) (f : Nat → Value), (x85, x86) = s ∧ a = fr 41 f ∧ f 1 = h4.v ∧ f 2 = .pointer (some ⟨b5, 0, none⟩) ∧ f 4 = .pointer (some ⟨b6, 0, none⟩) ∧ f 5 = h8.v ∧ f 6 = .int .i64 x40 ∧ f 7 = .int .i64 x76 ∧ f 13 = h4.v ∧ f 14 = .int .i64 (x3.length : Int) ∧ f 15 = .int .i64 x40 ∧ f 22 = (subH h4 1 0 x40).v ∧ f 23 = .int .i64 (x77.length : Int) ∧ f 24 = .int .i64 x86 ∧ St w0 (imm (rI .i64) (subH h4 1 0 x40).v x77 :: ros) (box b5 31 [h2.v] :: box b6 31 [hnil.v] :: row 76 rH h8.v y9 :: fam 4 rB y9 x85 :: rs) w) go12 ⟨_, _, _, rfl, rfl, e9_1, e9_2, e9_4, e9_5, rfl, rfl, e9_13, e9_14, e9_15, rfl, rfl, rfl, hst⟩ ?_
    clear hst
    rintro _ _ w r12_ ⟨x85, x86, f, rfl, rfl, e12_1, e12_2, e12_4, e12_5, e12_6, e12_7, e12_13, e12_14, e12_15, e12_22, e12_23, e12_24, hst⟩ hM12 ho12 Q100012 n12 zz12
    refine seqQ fun Q76 k76 z76 => ?_
    refine wp_region_lit ?_
    refine Y wn rfl (ylss (et rfl e12_24) (et rfl e12_23)) ?_
    refine wpList_nil ?_
    refine k76 _ _ ?_
    refine seqQ fun Q77 k77 z77 => ?_
    rcases iteS hM12 with ⟨c97, hM12⟩ | ⟨c97, hM12⟩
    · refine condT (et rfl rfl) (decide_eq_true c97) ?_
      refine wp_skip ?_
      refine k77 _ _ ?_
      refine seqQ fun Q78 k78 z78 => ?_
      refine blockQ fun Q79 qb79 => ?_
      refine seqQ fun Q80 k80 z80 => ?_
      refine wp_region_lit ?_
      refine Y wn rfl (ym (v := .int .i64 x86) (et rfl e12_24)) ?_
      obtain ⟨x98, gx98, hM12⟩ := bs hM12
      refine Y wn rfl (yIa SL_22 (et rfl e12_22) (et rfl e12_24) hst (rdI mhF) gx98) ?_
      refine Y wn rfl (yI O_3 (et rfl rfl) hst (rdI mhF) gx98) ?_
      refine Y wn rfl (ya (v := .int .i64 x86) (et rfl rfl)) ?_
      refine Y wn rfl (ya (v := .int .i64 x98) (et rfl rfl)) ?_
      refine wpList_nil ?_
      refine k80 _ _ ?_
      refine seqQ fun Q81 k81 z81 => ?_
      refine wp_region_lit ?_
      refine Y wn rfl (yLbs (us := [h2.v]) ST_31 (et rfl e12_2) hst mhR rfl rfl) ?_
      refine Y wn rfl (ym (v := .int .i64 x76) (et rfl e12_7)) ?_
      refine Y wn rfl (ym (v := .int .i64 x98) (et rfl rfl)) ?_
      obtain ⟨r99, gr99, hM12⟩ := bs hM12
      refine Yc wn rfl (yCall FN_39 (a3 (et rfl rfl) (et rfl rfl) (et rfl rfl))) (graph_joined_ok (hM := gr99) (hst := hst) (q1 := (mtF q1))) ?_
      clear hst
      rintro _ w ⟨rfl, hst⟩
      refine ⟨_, rfl, ?_⟩
      refine wpList_nil ?_
      refine k81 _ _ ?_
      have j13 : ∀ (x101 : List (List Bool)) (f : Nat → Value) (w : World), f 1 = h4.v → f 2 = .pointer (some ⟨b5, 0, none⟩) → f 4 = .pointer (some ⟨b6, 0, none⟩) → f 5 = h8.v → f 6 = .int .i64 x40 → f 7 = .int .i64 x76 → f 13 = h4.v → f 14 = .int .i64 (x3.length : Int) → f 15 = .int .i64 x40 → f 22 = (subH h4 1 0 x40).v → f 23 = .int .i64 (x77.length : Int) → f 24 = .int .i64 x86 → St w0 (imm (rI .i64) (subH h4 1 0 x40).v x77 :: ros) (box b5 31 [h2.v] :: box b6 31 [hnil.v] :: row 76 rH h8.v y9 :: fam 4 rB y9 x101 :: rs) w → graph_induced_j13 x86 x101 = some r12_ → Q79 .normal (fr 41 f) w := by
        intro x101 f w ej13_1 ej13_2 ej13_4 ej13_5 ej13_6 ej13_7 ej13_13 ej13_14 ej13_15 ej13_22 ej13_23 ej13_24 hst hM
        refine qb79 _ _ _ ?_
        refine k78 _ _ ?_
        refine wp_region_lit ?_
        refine Y wn rfl (yadd (et rfl ej13_24) rfl) ?_
        refine Y wn rfl (ym (v := .int .i64 (wa .i64 x86 1)) (et rfl rfl)) ?_
        refine wpList_nil ?_
        obtain rfl := someI hM
        exact n12 _ _ _ rfl ⟨_, _, _, rfl, rfl, ej13_1, ej13_2, ej13_4, ej13_5, ej13_6, ej13_7, ej13_13, ej13_14, ej13_15, ej13_22, ej13_23, rfl, hst⟩
      rcases iteS hM12 with ⟨c102, hM12⟩ | ⟨c102, hM12⟩
      · refine condT (et rfl rfl) c102 ?_
        refine wp_region_lit ?_
        refine Y wn rfl (ym (v := h8.v) (et rfl e12_5)) ?_
        refine Y wn rfl (ym (v := .int .i64 x40) (et rfl e12_6)) ?_
        refine Y wn rfl (ym (v := .int .i64 x86) (et rfl rfl)) ?_
        obtain ⟨r103, gr103, hM12⟩ := bs hM12
        replace hst := hst.pk 4 [2, 2, 0, 0] rfl
        refine Yc wn rfl (yCall FN_28 (a3 (et rfl rfl) (et rfl rfl) (et rfl rfl))) (graph_Sets_Join_ok (hM := gr103) (hst := hst) ) ?_
        clear hst
        rintro _ w ⟨rfl, hst⟩
        refine ⟨_, rfl, ?_⟩
        refine wpList_nil ?_
        exact j13 _ _ _ e12_1 e12_2 e12_4 e12_5 e12_6 e12_7 e12_13 e12_14 e12_15 e12_22 e12_23 e12_24 (hst.pk 4 [2, 2, 0, 0] rfl) hM12
      · refine condF (et rfl rfl) (bfalse c102) ?_
        refine wp_skip ?_
        exact j13 _ _ _ e12_1 e12_2 e12_4 e12_5 e12_6 e12_7 e12_13 e12_14 e12_15 e12_22 e12_23 e12_24 hst hM12
    · refine condF (et rfl rfl) (decide_eq_false c97) ?_
      refine wp_exit ?_
      refine z77 _ _ _ rfl ?_
      obtain rfl := someI hM12
      refine zz12 _ _ _ _ rfl rfl ?_
      exact je12_0 _ _ _ e12_1 e12_2 e12_4 e12_5 e12_13 e12_14 e12_15 (hst.facts (allT allI)) (ho12 _ rfl)
  · refine condF (et rfl rfl) (decide_eq_false c75) ?_
    refine wp_exit ?_
    refine z58 _ _ _ rfl ?_
    obtain rfl := someI hM9
    refine zz9 _ _ _ _ rfl rfl ?_
    exact je9_0 _ _ _ e9_4 e9_5 (hst.pk 4 [1, 1, 1] rfl) (ho9 _ rfl)

theorem graph_Relabel_ok {w0 : World} {ros : List Fact} {rs : List Res} {w : World} {x1 : List (List Int)} {x3 : List Int} {h2 : Hdr} {h4 : Hdr} {out : (List (List Int)) × Int} (hM : graph_Relabel x1 x3 = some out) (q1 : imm (rS (rI .i64)) h2.v x1 ∈ ros) (q2 : imm (rI .i64) h4.v x3 ∈ ros) (hst : St w0 ros (rs) w) :
    Calls Tryz.prog 16 #[.agg #[h2.v], h4.v] w (fun e w => ∃ (h100001 : Hdr), e = .returned (.tuple #[.agg #[h100001.v], .int .i64 out.2]) ∧ St w0 (ros) (row 22 (rS (rI .i64)) h100001.v out.1 :: rs) w) := by
  refine enterQ Tryz.func16 rfl Tryz.ntmps16 rfl fun Q hQ => ?_
  refine seqQ fun Q1 k1 z1 => ?_
  refine wp_region_lit ?_
  refine YB wn rfl (r_box (vals := [h2.v]) hst (et rfl rfl) rfl) ?_
  clear hst
  intro b5 w hst
  refine YB wn rfl (rAl hst ZT_31) ?_
  clear hst
  intro b6 w hst
  refine Y wn rfl (ya (v := .int .i64 0) rfl) ?_
  refine wpList_nil ?_
  refine k1 _ _ ?_
  refine seqQ fun Q2 k2 z2 => ?_
  refine wp_region_lit ?_
  refine Y wn rfl (yLbs (us := [h2.v]) ST_31 (et rfl rfl) hst (mtR mhR) rfl rfl) ?_
  refine Y wn rfl (ym (v := h4.v) (et rfl rfl)) ?_
  obtain ⟨r7, gr7, hM⟩ := bs hM
  refine Yc wn rfl (yCall FN_34 (a2 (et rfl rfl) (et rfl rfl))) (graph_Permuted_ok (hM := gr7) (hst := hst) (q1 := q1) (q2 := q2)) ?_
  clear hst
  rintro _ w ⟨rfl, hst⟩
  refine ⟨_, rfl, ?_⟩
  refine Y wn rfl (ya (v := .int .i64 r7) (et rfl rfl)) ?_
  refine wpList_nil ?_
  refine k2 _ _ ?_
  refine seqQ fun Q3 k3 z3 => ?_
  refine seqQ fun Q4 k4 z4 => ?_
  refine wp_region_lit ?_
  refine Y wn rfl (ym (v := .int .i64 r7) (et rfl rfl)) ?_
  refine Y wn rfl (yneq (et rfl rfl) rfl) ?_
  refine wpList_nil ?_
  refine k4 _ _ ?_
  rcases iteS hM with ⟨c8, hM⟩ | ⟨c8, hM⟩
  · refine condF (et rfl rfl) (nF (decide_eq_true c8)) ?_
    refine wp_skip ?_
    refine k3 _ _ ?_
    refine seqQ fun Q5 k5 z5 => ?_
    refine wp_region_lit ?_
    refine Y wn rfl (yLbs (us := [h2.v]) ST_31 (et rfl rfl) hst (mtR mhR) rfl rfl) ?_
    refine Y wn rfl (ym (v := h4.v) (et rfl rfl)) ?_
    obtain ⟨r9, gr9, hM⟩ := bs hM
    refine Yc wn rfl (yCall FN_35 (a2 (et rfl rfl) (et rfl rfl))) (graph_induced_ok (hM := gr9) (hst := hst) (q1 := q1) (q2 := q2)) ?_
    clear hst
    rintro _ w ⟨h10, rfl, hst⟩
    refine ⟨_, rfl, ?_⟩
    replace hst := hst.pk 2 [1, 0] rfl
    refine YT wn rfl (r_stbn (vals' := [h10.v]) (us := [h10.v]) hst ST_31 (et rfl rfl) (et rfl rfl) rfl rfl (one_of rfl) rfl) ?_
    clear hst
    intro w hst
    refine Y wn rfl (ya (v := .int .i64 0) rfl) ?_
    refine wpList_nil ?_
    refine k5 _ _ ?_
    refine wp_ret ?_
    obtain rfl := someI hM
    exact hQ _ _ _ (fin2r Tryz.results16 (rcs2 rfl rfl hst mhR ST_31 rfl) ⟨rfl, rfl⟩ ⟨_, rfl, (hst.pk 3 [1] rfl)⟩)
  · refine condT (et rfl rfl) (nT (decide_eq_false c8)) ?_
    refine seqQ fun Q6 k6 z6 => ?_
    refine wp_region_lit ?_
    refine Y wn rfl (ybuild (us := [hnil.v]) [] SO_31 bp0 rfl) ?_
    refine Y wn rfl (ym (v := .int .i64 r7) (et rfl rfl)) ?_
    refine YT wn rfl (r_stbn (vals' := [hnil.v]) (us := [hnil.v]) hst ST_31 (et rfl rfl) (et rfl rfl) rfl rfl (one_of rfl) rfl) ?_
    clear hst
    intro w hst
    refine Y wn rfl (ya (v := .int .i64 r7) (et rfl rfl)) ?_
    refine wpList_nil ?_
    refine k6 _ _ ?_
    refine wp_ret ?_
    refine z3 _ _ _ rfl ?_
    obtain rfl := someI hM
    replace hst := hst.rowNh 22 (rS (rI .i64))
    exact hQ _ _ _ (fin2r Tryz.results16 (rcs2 rfl rfl hst (mtR mhR) ST_31 rfl) ⟨rfl, rfl⟩ ⟨_, rfl, (hst.pk 3 [0] rfl)⟩)

theorem sparsekit_TwinInts_ok {w0 : World} {ros : List Fact} {rs : List Res} {w : World} {x1 : List Int} {h2 : Hdr} {out : (List Int)} (hM : sparsekit_TwinInts x1 = some out) (q1 : imm (rI .i64) h2.v x1 ∈ ros) (hst : St w0 ros (rs) w) :
    Calls Tryz.prog 36 #[h2.v] w (fun e w => ∃ (h100001 : Hdr), e = .returned (h100001.v) ∧ St w0 (ros) (row 3 (rI .i64) h100001.v out :: rs) w) := by
  refine enterQ Tryz.func36 rfl Tryz.ntmps36 rfl fun Q hQ => ?_
  refine seqQ fun Q1 k1 z1 => ?_
  refine wp_region_lit ?_
  refine Y wn rfl (ya (v := hnil.v) rfl) ?_
  refine wpList_nil ?_
  refine k1 _ _ ?_
  refine seqQ fun Q2 k2 z2 => ?_
  refine wp_region_lit ?_
  refine Y wn rfl (ya (v := hnil.v) rfl) ?_
  refine wpList_nil ?_
  refine k2 _ _ ?_
  refine seqQ fun Q3 k3 z3 => ?_
  refine seqQ fun Q4 k4 z4 => ?_
  refine wp_region_lit ?_
  refine Y wn rfl (ya (v := .int .i64 0) rfl) ?_
  refine wpList_nil ?_
  refine k4 _ _ ?_
  refine blockQ fun Q5 qb5 => ?_
  obtain ⟨o1, go1, hM⟩ := bs hM
  have je1_0 : ∀ (x20 : List Int) (h19 : Hdr) (f : Nat → Value) (w : World), f 3 = h19.v → St w0 (ros) (row 3 (rI .i64) h19.v x20 :: rs) w → x20 = o1 → Q5 (.exit 0) (fr 19 f) w := by
    intro x20 h19 f w eje1_0_3 hst ho
    subst ho
    refine qb5 _ _ _ ?_
    refine k3 _ _ ?_
    refine seqQ fun Q14 k14 z14 => ?_
    refine wp_region_lit ?_
    refine Y wn rfl (ym (v := h19.v) (et rfl eje1_0_3)) ?_
    refine Y wn rfl (ya (v := h19.v) (et rfl rfl)) ?_
    refine wpList_nil ?_
    refine k14 _ _ ?_
    refine wp_ret ?_
    obtain rfl := someI hM
    exact hQ _ _ _ (fin1r Tryz.results36 ⟨rfl, rfl⟩ ⟨_, rfl, hst⟩)
  replace hst := hst.rowNh 3 (rI .i64)
  refine loopQ (fun s a w => ∃ (x9 : List Int) (x10 : Int) (f : Nat → Value) (h8 : Hdr), (x9, x10) = s ∧ a = fr 19 f ∧ f 0 = h2.v ∧ f 3 = h8.v ∧ f 4 = .int .i64 x10 ∧ St w0 (ros) (row 3 (rI .i64) h8.v x9 :: rs) w) go1 ⟨_, _, _, _, rfl, rfl, rfl, rfl, rfl, hst⟩ ?_
  clear hst
  rintro _ _ w r1_ ⟨x9, x10, f, h8, rfl, rfl, e1_0, e1_3, e1_4, hst⟩ hM1 ho1 Q100001 n1 zz1
  refine seqQ fun Q15 k15 z15 => ?_
  refine seqQ fun Q16 k16 z16 => ?_
  refine wp_region_lit ?_
  refine Y wn rfl (ym (v := .int .i64 x10) (et rfl e1_4)) ?_
  refine Y wn rfl (ym (v := h2.v) (et rfl e1_0)) ?_
  refine Y wn rfl (yLen SL_22 (et rfl rfl) hst (rdI q1)) ?_
  refine Y wn rfl (ylss (et rfl rfl) (et rfl rfl)) ?_
  refine wpList_nil ?_
  refine k16 _ _ ?_
  rcases iteS hM1 with ⟨c21, hM1⟩ | ⟨c21, hM1⟩
  · refine condT (et rfl rfl) (decide_eq_true c21) ?_
    refine wp_skip ?_
    refine k15 _ _ ?_
    refine seqQ fun Q17 k17 z17 => ?_
    refine blockQ fun Q18 qb18 => ?_
    refine wp_region_lit ?_
    refine Y wn rfl (ym (v := h8.v) (et rfl e1_3)) ?_
    refine Y wn rfl (ym (v := h2.v) (et rfl e1_0)) ?_
    refine Y wn rfl (ym (v := .int .i64 x10) (et rfl e1_4)) ?_
    obtain ⟨x22, gx22, hM1⟩ := bs hM1
    refine Y wn rfl (yIa SL_22 (et rfl rfl) (et rfl rfl) hst (rdI q1) gx22) ?_
    refine Y wn rfl (yI O_3 (et rfl rfl) hst (rdI q1) gx22) ?_
    refine YH wn rfl (rLt (n := 1) (l := [x22]) hst SL_22 [.int .i64 x22] (bp1 (et rfl rfl)) rfl rfl (mks1 (cs := [.int .i64 x22]) rfl mkI mks0)) ?_
    clear hst
    intro h23 w hst
    obtain ⟨x25, gx25, hM1⟩ := bs hM1
    replace hst := hst.pk 2 [1, 0] rfl
    refine YH wn rfl (rAp hst SL_22 (et rfl rfl) (et rfl rfl) (rdO (mtR mhR)) gx25) ?_
    clear hst
    intro h24 w hst
    refine Y wn rfl (ya (v := h24.v) (et rfl rfl)) ?_
    refine wpList_nil ?_
    refine qb18 _ _ _ ?_
    refine k17 _ _ ?_
    refine wp_region_lit ?_
    refine Y wn rfl (ym (v := .int .i64 x10) (et rfl e1_4)) ?_
    refine Y wn rfl (yadd (et rfl rfl) rfl) ?_
    refine Y wn rfl (ya (v := .int .i64 (wa .i64 x10 1)) (et rfl rfl)) ?_
    refine wpList_nil ?_
    obtain rfl := someI hM1
    exact n1 _ _ _ rfl ⟨_, _, _, _, rfl, rfl, e1_0, rfl, rfl, (hst.pk 2 [0] rfl)⟩
  · refine condF (et rfl rfl) (decide_eq_false c21) ?_
    refine wp_exit ?_
    refine z15 _ _ _ rfl ?_
    obtain rfl := someI hM1
    refine zz1 _ _ _ _ rfl rfl ?_
    exact je1_0 _ _ _ _ e1_3 hst (ho1 _ rfl)

theorem sparsekit_TwinFloats_ok {w0 : World} {ros : List Fact} {rs : List Res} {w : World} {x1 : List Int} {h2 : Hdr} {out : (List Int)} (hM : sparsekit_TwinFloats x1 = some out) (q1 : imm (rI .u64) h2.v x1 ∈ ros) (hst : St w0 ros (rs) w) :
    Calls Tryz.prog 37 #[h2.v] w (fun e w => ∃ (h100001 : Hdr), e = .returned (h100001.v) ∧ St w0 (ros) (row 46 (rI .u64) h100001.v out :: rs) w) := by
  refine enterQ Tryz.func37 rfl Tryz.ntmps37 rfl fun Q hQ => ?_
  refine seqQ fun Q1 k1 z1 => ?_
  refine wp_region_lit ?_
  refine Y wn rfl (ya (v := hnil.v) rfl) ?_
  refine wpList_nil ?_
  refine k1 _ _ ?_
  refine seqQ fun Q2 k2 z2 => ?_
  refine wp_region_lit ?_
  refine Y wn rfl (ya (v := hnil.v) rfl) ?_
  refine wpList_nil ?_
  refine k2 _ _ ?_
  refine seqQ fun Q3 k3 z3 => ?_
  refine seqQ fun Q4 k4 z4 => ?_
  refine wp_region_lit ?_
  refine Y wn rfl (ya (v := .int .i64 0) rfl) ?_
  refine wpList_nil ?_
  refine k4 _ _ ?_
  refine blockQ fun Q5 qb5 => ?_
  obtain ⟨o1, go1, hM⟩ := bs hM
  have je1_0 : ∀ (x20 : List Int) (h19 : Hdr) (f : Nat → Value) (w : World), f 3 = h19.v → St w0 (ros) (row 46 (rI .u64) h19.v x20 :: rs) w → x20 = o1 → Q5 (.exit 0) (fr 19 f) w := by
    intro x20 h19 f w eje1_0_3 hst ho
    subst ho
    refine qb5 _ _ _ ?_
    refine k3 _ _ ?_
    refine seqQ fun Q14 k14 z14 => ?_
    refine wp_region_lit ?_
    refine Y wn rfl (ym (v := h19.v) (et rfl eje1_0_3)) ?_
    refine Y wn rfl (ya (v := h19.v) (et rfl rfl)) ?_
    refine wpList_nil ?_
    refine k14 _ _ ?_
    refine wp_ret ?_
    obtain rfl := someI hM
    exact hQ _ _ _ (fin1r Tryz.results37 ⟨rfl, rfl⟩ ⟨_, rfl, hst⟩)
  replace hst := hst.rowNh 46 (rI .u64)
  refine loopQ (fun s a w => ∃ (x9 : List Int) (x10 : Int) (f : Nat → Value) (h8 : Hdr), (x9, x10) = s ∧ a = fr 19 f ∧ f 0 = h2.v ∧ f 3 = h8.v ∧ f 4 = .int .i64 x10 ∧ St w0 (ros) (row 46 (rI .u64) h8.v x9 :: rs) w) go1 ⟨_, _, _, _, rfl, rfl, rfl, rfl, rfl, hst⟩ ?_
  clear hst
  rintro _ _ w r1_ ⟨x9, x10, f, h8, rfl, rfl, e1_0, e1_3, e1_4, hst⟩ hM1 ho1 Q100001 n1 zz1
  refine seqQ fun Q15 k15 z15 => ?_
  refine seqQ fun Q16 k16 z16 => ?_
  refine wp_region_lit ?_
  refine Y wn rfl (ym (v := .int .i64 x10) (et rfl e1_4)) ?_
  refine Y wn rfl (ym (v := h2.v) (et rfl e1_0)) ?_
  refine Y wn rfl (yLen SL_25 (et rfl rfl) hst (rdI q1)) ?_
  refine Y wn rfl (ylss (et rfl rfl) (et rfl rfl)) ?_
  refine wpList_nil ?_
  refine k16 _ _ ?_
  rcases iteS hM1 with ⟨c21, hM1⟩ | ⟨c21, hM1⟩
  · refine condT (et rfl rfl) (decide_eq_true c21) ?_
    refine wp_skip ?_
    refine k15 _ _ ?_
    refine seqQ fun Q17 k17 z17 => ?_
    refine blockQ fun Q18 qb18 => ?_
    refine wp_region_lit ?_
    refine Y wn rfl (ym (v := h8.v) (et rfl e1_3)) ?_
    refine Y wn rfl (ym (v := h2.v) (et rfl e1_0)) ?_
    refine Y wn rfl (ym (v := .int .i64 x10) (et rfl e1_4)) ?_
    obtain ⟨x22, gx22, hM1⟩ := bs hM1
    refine Y wn rfl (yIa SL_25 (et rfl rfl) (et rfl rfl) hst (rdI q1) gx22) ?_
    refine Y wn rfl (yI O_46 (et rfl rfl) hst (rdI q1) gx22) ?_
    refine YH wn rfl (rLt (n := 1) (l := [x22]) hst SL_25 [.int .u64 x22] (bp1 (et rfl rfl)) rfl rfl (mks1 (cs := [.int .u64 x22]) rfl mkI mks0)) ?_
    clear hst
    intro h23 w hst
    obtain ⟨x25, gx25, hM1⟩ := bs hM1
    replace hst := hst.pk 2 [1, 0] rfl
    refine YH wn rfl (rAp hst SL_25 (et rfl rfl) (et rfl rfl) (rdO (mtR mhR)) gx25) ?_
    clear hst
    intro h24 w hst
    refine Y wn rfl (ya (v := h24.v) (et rfl rfl)) ?_
    refine wpList_nil ?_
    refine qb18 _ _ _ ?_
    refine k17 _ _ ?_
    refine wp_region_lit ?_
    refine Y wn rfl (ym (v := .int .i64 x10) (et rfl e1_4)) ?_
    refine Y wn rfl (yadd (et rfl rfl) rfl) ?_
    refine Y wn rfl (ya (v := .int .i64 (wa .i64 x10 1)) (et rfl rfl)) ?_
    refine wpList_nil ?_
    obtain rfl := someI hM1
    exact n1 _ _ _ rfl ⟨_, _, _, _, rfl, rfl, e1_0, rfl, rfl, (hst.pk 2 [0] rfl)⟩
  · refine condF (et rfl rfl) (decide_eq_false c21) ?_
    refine wp_exit ?_
    refine z15 _ _ _ rfl ?_
    obtain rfl := someI hM1
    refine zz1 _ _ _ _ rfl rfl ?_
    exact je1_0 _ _ _ _ e1_3 hst (ho1 _ rfl)

theorem sparsekit_TwinMatrix_ok {w0 : World} {ros : List Fact} {rs : List Res} {w : World} {x1 : Int} {x2 : Int} {x3 : List Int} {x5 : List Int} {x7 : List Int} {h4 : Hdr} {h6 : Hdr} {h8 : Hdr} {out : Int × Int × (List Int) × (List Int) × (List Int)} (hM : sparsekit_TwinMatrix x1 x2 x3 x5 x7 = some out) (q1 : imm (rI .i64) h4.v x3 ∈ ros) (q2 : imm (rI .i64) h6.v x5 ∈ ros) (q3 : imm (rI .u64) h8.v x7 ∈ ros) (hst : St w0 ros (rs) w) :
    Calls Tryz.prog 17 #[.agg #[.int .i64 x1, .int .i64 x2, h4.v, h6.v, h8.v]] w (fun e w => ∃ (h100003 : Hdr) (h100005 : Hdr) (h100007 : Hdr), e = .returned (.agg #[.int .i64 out.1, .int .i64 out.2.1, h100003.v, h100005.v, h100007.v]) ∧ St w0 (ros) (row 3 (rI .i64) h100003.v out.2.2.1 :: row 3 (rI .i64) h100005.v out.2.2.2.1 :: row 46 (rI .u64) h100007.v out.2.2.2.2 :: rs) w) := by
  refine enterQ Tryz.func17 rfl Tryz.ntmps17 rfl fun Q hQ => ?_
  refine seqQ fun Q1 k1 z1 => ?_
  refine wp_region_lit ?_
  refine YB wn rfl (r_box (vals := [.int .i64 x1, .int .i64 x2, h4.v, h6.v, h8.v]) hst (et rfl rfl) rfl) ?_
  clear hst
  intro b9 w hst
  refine YB wn rfl (rAl hst ZT_27) ?_
  clear hst
  intro b10 w hst
  refine wpList_nil ?_
  refine k1 _ _ ?_
  refine seqQ fun Q2 k2 z2 => ?_
  obtain ⟨r11, gr11, hM⟩ := bs hM
  obtain ⟨r13, gr13, hM⟩ := bs hM
  obtain ⟨r15, gr15, hM⟩ := bs hM
  refine wp_drawR [0, 1, 0, 4, 0, 16, 48, 0, 128, 496, 0, 1024, 4080, 8191, 16383] [6, 9, 12, 14] 4 folM (by kernel_rfl) (by kernel_rfl) (by kernel_rfl) ?_
  replace hst := hst.drew
  refine DRn (l1 := [0, 1, 2, 3, 4, 5, 7, 8, 10, 11]) (l2 := []) (lc := [6]) (by kernel_rfl) (by kernel_rfl) (by kernel_rfl) ?_
  refine Ry rfl rfl wn (yFb FL_27_0 (et rfl rfl)) ?_
  refine Ry rfl rfl wn (yLb (u := .int .i64 x1) O_3 (et rfl rfl) hst (mtR mhR) rfl) ?_
  refine Ry rfl rfl wn (yFb FL_27_1 (et rfl rfl)) ?_
  refine Ry rfl rfl wn (yLb (u := .int .i64 x2) O_3 (et rfl rfl) hst (mtR mhR) rfl) ?_
  refine Ry rfl rfl wn (yFb FL_27_2 (et rfl rfl)) ?_
  refine Ry rfl rfl wn (yLb (u := h4.v) O_22 (et rfl rfl) hst (mtR mhR) rfl) ?_
  refine Ry rfl rfl wn (yFb FL_27_3 (et rfl rfl)) ?_
  refine Ry rfl rfl wn (yLb (u := h6.v) O_22 (et rfl rfl) hst (mtR mhR) rfl) ?_
  refine Ry rfl rfl wn (yFb FL_27_4 (et rfl rfl)) ?_
  refine Ry rfl rfl wn (yLb (u := h8.v) O_25 (et rfl rfl) hst (mtR mhR) rfl) ?_
  refine Rn QSn ?_
  refine Lc rfl ?_ LAn
  refine Lk wn (yCall FN_36 (a1 (et rfl rfl))) (sparsekit_TwinInts_ok (hM := gr11) (hst := hst) (q1 := q1)) ?_
  clear hst
  rintro _ w ⟨h12, rfl, hst⟩
  refine ⟨_, rfl, ?_⟩
  refine DRn (l1 := []) (l2 := [0, 1, 2, 3, 7, 8, 10, 11]) (lc := [9]) (by kernel_rfl) (by kernel_rfl) (by kernel_rfl) ?_
  refine Rn (Sy rfl rfl wn (yFb FL_27_0 (et rfl rfl)) rfl (Sy rfl rfl wn (yLb (u := .int .i64 x1) O_3 (et rfl rfl) hst (mtR (mtR mhR)) rfl) rfl (Sy rfl rfl wn (yFb FL_27_1 (et rfl rfl)) rfl (Sy rfl rfl wn (yLb (u := .int .i64 x2) O_3 (et rfl rfl) hst (mtR (mtR mhR)) rfl) rfl (Sy rfl rfl wn (yFb FL_27_3 (et rfl rfl)) rfl (Sy rfl rfl wn (yLb (u := h6.v) O_22 (et rfl rfl) hst (mtR (mtR mhR)) rfl) rfl (Sy rfl rfl wn (yFb FL_27_4 (et rfl rfl)) rfl (Sy rfl rfl wn (yLb (u := h8.v) O_25 (et rfl rfl) hst (mtR (mtR mhR)) rfl) rfl QSn)))))))) ?_
  refine Lc rfl ?_ LAn
  refine Lk wn (yCall FN_36 (a1 (et rfl rfl))) (sparsekit_TwinInts_ok (hM := gr13) (hst := hst) (q1 := q2)) ?_
  clear hst
  rintro _ w ⟨h14, rfl, hst⟩
  refine ⟨_, rfl, ?_⟩
  refine DRn (l1 := []) (l2 := [0, 1, 2, 3, 10, 11]) (lc := [12]) (by kernel_rfl) (by kernel_rfl) (by kernel_rfl) ?_
  refine Rn (Sy rfl rfl wn (yFb FL_27_0 (et rfl rfl)) rfl (Sy rfl rfl wn (yLb (u := .int .i64 x1) O_3 (et rfl rfl) hst (mtR (mtR (mtR mhR))) rfl) rfl (Sy rfl rfl wn (yFb FL_27_1 (et rfl rfl)) rfl (Sy rfl rfl wn (yLb (u := .int .i64 x2) O_3 (et rfl rfl) hst (mtR (mtR (mtR mhR))) rfl) rfl (Sy rfl rfl wn (yFb FL_27_4 (et rfl rfl)) rfl (Sy rfl rfl wn (yLb (u := h8.v) O_25 (et rfl rfl) hst (mtR (mtR (mtR mhR))) rfl) rfl QSn)))))) ?_
  refine Lc rfl ?_ LAn
  refine Lk wn (yCall FN_37 (a1 (et rfl rfl))) (sparsekit_TwinFloats_ok (hM := gr15) (hst := hst) (q1 := q3)) ?_
  clear hst
  rintro _ w ⟨h16, rfl, hst⟩
  refine ⟨_, rfl, ?_⟩
  refine DRn (l1 := [13]) (l2 := [0, 1, 2, 3]) (lc := [14]) (by kernel_rfl) (by kernel_rfl) (by kernel_rfl) ?_
  refine Ry rfl rfl wn (ybuild (us := [.int .i64 x1, .int .i64 x2, h12.v, h14.v, h16.v]) [(0, .int .i64 x1), (1, .int .i64 x2), (2, h12.v), (3, h14.v), (4, h16.v)] SO_27 (bp5 (et rfl rfl) (et rfl rfl) (et rfl rfl) (et rfl rfl) (et rfl rfl)) rfl) ?_
  refine Rn (Sy rfl rfl wn (yFb FL_27_0 (et rfl rfl)) rfl (Sy rfl rfl wn (yLb (u := .int .i64 x1) O_3 (et rfl rfl) hst (mtR (mtR (mtR (mtR mhR)))) rfl) rfl (Sy rfl rfl wn (yFb FL_27_1 (et rfl rfl)) rfl (Sy rfl rfl wn (yLb (u := .int .i64 x2) O_3 (et rfl rfl) hst (mtR (mtR (mtR (mtR mhR)))) rfl) rfl QSn)))) ?_
  refine Lc rfl ?_ LAn
  replace hst := hst.pk 4 [3, 0, 0, 0] rfl
  refine LT wn (r_stbn (vals' := [.int .i64 x1, .int .i64 x2, h12.v, h14.v, h16.v]) (us := [.int .i64 x1, .int .i64 x2, h12.v, h14.v, h16.v]) hst ST_27 (et rfl rfl) (et rfl rfl) rfl rfl (one_of rfl) rfl) ?_
  clear hst
  intro w hst
  refine DRz (l1 := []) (l2 := []) (by kernel_rfl) (by kernel_rfl) ?_
  refine Rn QSn ?_
  refine k2 _ _ ?_
  refine wp_ret ?_
  obtain rfl := someI hM
  exact hQ _ _ _ (fin1r Tryz.results17 (rcs2 rfl rfl hst mhR ST_27 rfl) ⟨_, _, _, rfl, (hst.pk 5 [3, 2, 1] rfl)⟩)

theorem sparselaw12_GraphPattern_ok {w0 : World} {ros : List Fact} {rs : List Res} {w : World} {x1 : Int} {x2 : List Int} {x4 : List Int} {h3 : Hdr} {h5 : Hdr} {out : Bool} (hM : sparselaw12_GraphPattern x1 x2 x4 = some out) (q1 : imm (rI .i64) h3.v x2 ∈ ros) (q2 : imm (rI .i64) h5.v x4 ∈ ros) (q3 : globF ∈ ros) (hst : St w0 ros (rs) w) :
    Calls Tryz.prog 4 #[.int .i64 x1, h3.v, h5.v] w (fun e w => e = .returned (.bool out) ∧ St w0 (ros) (rs) w) := by
  refine enterQ Tryz.func4 rfl Tryz.ntmps4 rfl fun Q hQ => ?_
  refine seqQ fun Q1 k1 z1 => ?_
  refine wp_region_lit ?_
  refine Y wn rfl (ya (v := .bool false) rfl) ?_
  refine wpList_nil ?_
  refine k1 _ _ ?_
  refine seqQ fun Q2 k2 z2 => ?_
  refine seqQ fun Q3 k3 z3 => ?_
  refine wp_region_lit ?_
  refine Y wn rfl (ym (v := h3.v) (et rfl rfl)) ?_
  refine Y wn rfl (yLen SL_22 (et rfl rfl) hst (rdI q1)) ?_
  refine Y wn rfl (ygtr (et rfl rfl) rfl) ?_
  refine wpList_nil ?_
  refine k3 _ _ ?_
  rcases iteS hM with ⟨c6, hM⟩ | ⟨c6, hM⟩
  · refine condT (et rfl rfl) (decide_eq_true c6) ?_
    refine seqQ fun Q4 k4 z4 => ?_
    refine wp_region_lit ?_
    obtain ⟨r7, gr7, hM⟩ := bs hM
    refine Yc wn rfl (yCall FN_5 a0) (sparselaw12_awake_ok (hM := gr7) (hst := hst) ) ?_
    clear hst
    rintro _ w ⟨rfl, hst⟩
    refine ⟨_, rfl, ?_⟩
    refine Y wn rfl (ya (v := .bool r7) (et rfl rfl)) ?_
    refine wpList_nil ?_
    refine k4 _ _ ?_
    refine wp_ret ?_
    refine z2 _ _ _ rfl ?_
    obtain rfl := someI hM
    exact hQ _ _ _ (fin1r Tryz.results4 ⟨rfl, rfl⟩ ⟨rfl, hst⟩)
  · refine condF (et rfl rfl) (decide_eq_false c6) ?_
    refine wp_skip ?_
    refine k2 _ _ ?_
    refine seqQ fun Q5 k5 z5 => ?_
    refine wp_region_lit ?_
    refine Y wn rfl (ym (v := .int .i64 x1) (et rfl rfl)) ?_
    obtain ⟨r8, gr8, hM⟩ := bs hM
    refine Yc wn rfl (yCall FN_6 (a2 (et rfl rfl) rfl)) (sparsekit_Place_ok (hM := gr8) (hst := hst) ) ?_
    clear hst
    rintro _ w ⟨rfl, hst⟩
    refine ⟨_, rfl, ?_⟩
    refine Y wn rfl (ya (v := .int .i64 r8) (et rfl rfl)) ?_
    refine wpList_nil ?_
    refine k5 _ _ ?_
    refine seqQ fun Q6 k6 z6 => ?_
    refine wp_region_lit ?_
    refine Y wn rfl (ym (v := .int .i64 r8) (et rfl rfl)) ?_
    refine Y wn rfl (ym (v := .int .i64 r8) (et rfl rfl)) ?_
    refine Y wn rfl (ym (v := h3.v) (et rfl rfl)) ?_
    obtain ⟨r9, gr9, hM⟩ := bs hM
    refine Yc wn rfl (yCall FN_7 (a3 (et rfl rfl) (et rfl rfl) (et rfl rfl))) (sparsemake_Matrix_ok (hM := gr9) (hst := hst) (q1 := q1) (q2 := q3)) ?_
    clear hst
    rintro _ w ⟨h10, h11, h12, rfl, hst⟩
    refine ⟨_, rfl, ?_⟩
    refine YB wn rfl (rAl hst ZT_27) ?_
    clear hst
    intro b13 w hst
    refine YT wn rfl (r_stbn (vals' := [.int .i64 r9.1, .int .i64 r9.2.1, h10.v, h11.v, h12.v]) (us := [.int .i64 r9.1, .int .i64 r9.2.1, h10.v, h11.v, h12.v]) hst ST_27 (et rfl rfl) (et rfl rfl) rfl rfl (one_of rfl) rfl) ?_
    clear hst
    intro w hst
    refine wpList_nil ?_
    refine k6 _ _ ?_
    refine seqQ fun Q7 k7 z7 => ?_
    refine wp_region_lit ?_
    refine Y wn rfl (yLbs (us := [.int .i64 r9.1, .int .i64 r9.2.1, h10.v, h11.v, h12.v]) ST_27 (et rfl rfl) hst mhR rfl rfl) ?_
    obtain ⟨r14, gr14, hM⟩ := bs hM
    replace hst := hst.pk 2 [1, 0] rfl
    replace hst := hst.fz
    replace hst := hst.pk 2 [1, 0] rfl
    replace hst := hst.fz
    replace hst := hst.pk 2 [1, 0] rfl
    replace hst := hst.fz
    refine Yc wn rfl (yCall FN_14 (a1 (et rfl rfl))) (graph_FromMatrix_ok (hM := gr14) (hst := hst) (q1 := (mtF (mtF mhF))) (q2 := (mtF mhF)) (q3 := mhF)) ?_
    clear hst
    rintro _ w ⟨h15, rfl, hst⟩
    refine ⟨_, rfl, ?_⟩
    refine Y wn rfl (ym (v := .tuple #[.agg #[h15.v], .int .i64 r14.2]) (et rfl rfl)) ?_
    refine Y wn rfl (yx (v := .agg #[h15.v]) (et rfl rfl) rfl) ?_
    refine Y wn rfl (yx (v := .int .i64 r14.2) (et rfl rfl) rfl) ?_
    refine YB wn rfl (rAl hst ZT_31) ?_
    clear hst
    intro b16 w hst
    refine YT wn rfl (r_stbn (vals' := [h15.v]) (us := [h15.v]) hst ST_31 (et rfl rfl) (et rfl rfl) rfl rfl (one_of rfl) rfl) ?_
    clear hst
    intro w hst
    refine Y wn rfl (ya (v := .int .i64 r14.2) (et rfl rfl)) ?_
    refine wpList_nil ?_
    refine k7 _ _ ?_
    refine seqQ fun Q8 k8 z8 => ?_
    refine wp_region_lit ?_
    refine Y wn rfl (yLbs (us := [.int .i64 r9.1, .int .i64 r9.2.1, h10.v, h11.v, h12.v]) ST_27 (et rfl rfl) hst (mtR (mtR mhR)) rfl rfl) ?_
    obtain ⟨r17, gr17, hM⟩ := bs hM
    refine Yc wn rfl (yCall FN_15 (a1 (et rfl rfl))) (matrix_Transpose_ok (hM := gr17) (hst := hst) (q1 := (mtF (mtF mhF))) (q2 := (mtF mhF)) (q3 := mhF)) ?_
    clear hst
    rintro _ w ⟨h18, h19, h20, rfl, hst⟩
    refine ⟨_, rfl, ?_⟩
    refine Y wn rfl (ym (v := .tuple #[.agg #[.int .i64 r17.1, .int .i64 r17.2.1, h18.v, h19.v, h20.v], .int .i64 r17.2.2.2.2.2]) (et rfl rfl)) ?_
    refine Y wn rfl (yx (v := .agg #[.int .i64 r17.1, .int .i64 r17.2.1, h18.v, h19.v, h20.v]) (et rfl rfl) rfl) ?_
    refine Y wn rfl (yx (v := .int .i64 r17.2.2.2.2.2) (et rfl rfl) rfl) ?_
    refine YB wn rfl (rAl hst ZT_27) ?_
    clear hst
    intro b21 w hst
    refine YT wn rfl (r_stbn (vals' := [.int .i64 r17.1, .int .i64 r17.2.1, h18.v, h19.v, h20.v]) (us := [.int .i64 r17.1, .int .i64 r17.2.1, h18.v, h19.v, h20.v]) hst ST_27 (et rfl rfl) (et rfl rfl) rfl rfl (one_of rfl) rfl) ?_
    clear hst
    intro w hst
    refine Y wn rfl (ya (v := .int .i64 r17.2.2.2.2.2) (et rfl rfl)) ?_
    refine wpList_nil ?_
    refine k8 _ _ ?_
    refine seqQ fun Q9 k9 z9 => ?_
    refine wp_region_lit ?_
    refine Y wn rfl (yLbs (us := [.int .i64 r17.1, .int .i64 r17.2.1, h18.v, h19.v, h20.v]) ST_27 (et rfl rfl) hst mhR rfl rfl) ?_
    obtain ⟨r22, gr22, hM⟩ := bs hM
    replace hst := hst.pk 2 [1, 0] rfl
    replace hst := hst.fz
    replace hst := hst.pk 2 [1, 0] rfl
    replace hst := hst.fz
    replace hst := hst.pk 2 [1, 0] rfl
    replace hst := hst.fz
    refine Yc wn rfl (yCall FN_14 (a1 (et rfl rfl))) (graph_FromMatrix_ok (hM := gr22) (hst := hst) (q1 := (mtF (mtF mhF))) (q2 := (mtF mhF)) (q3 := mhF)) ?_
    clear hst
    rintro _ w ⟨h23, rfl, hst⟩
    refine ⟨_, rfl, ?_⟩
    refine Y wn rfl (ym (v := .tuple #[.agg #[h23.v], .int .i64 r22.2]) (et rfl rfl)) ?_
    refine Y wn rfl (yx (v := .agg #[h23.v]) (et rfl rfl) rfl) ?_
    refine Y wn rfl (yx (v := .int .i64 r22.2) (et rfl rfl) rfl) ?_
    refine YB wn rfl (rAl hst ZT_31) ?_
    clear hst
    intro b24 w hst
    refine YT wn rfl (r_stbn (vals' := [h23.v]) (us := [h23.v]) hst ST_31 (et rfl rfl) (et rfl rfl) rfl rfl (one_of rfl) rfl) ?_
    clear hst
    intro w hst
    refine Y wn rfl (ya (v := .int .i64 r22.2) (et rfl rfl)) ?_
    refine wpList_nil ?_
    refine k9 _ _ ?_
    refine seqQ fun Q10 k10 z10 => ?_
    refine wp_region_lit ?_
    refine Y wn rfl (ym (v := h5.v) (et rfl rfl)) ?_
    refine Y wn rfl (ym (v := .int .i64 r8) (et rfl rfl)) ?_
    obtain ⟨r25, gr25, hM⟩ := bs hM
    refine Yc wn rfl (yCall FN_10 (a2 (et rfl rfl) (et rfl rfl))) (sparsekit_Shuffle_ok (hM := gr25) (hst := hst) (q1 := (mtF (mtF (mtF (mtF (mtF (mtF q2)))))))) ?_
    clear hst
    rintro _ w ⟨h26, rfl, hst⟩
    refine ⟨_, rfl, ?_⟩
    refine Y wn rfl (ya (v := h26.v) (et rfl rfl)) ?_
    refine wpList_nil ?_
    refine k10 _ _ ?_
    refine seqQ fun Q11 k11 z11 => ?_
    refine wp_region_lit ?_
    refine Y wn rfl (yLbs (us := [.int .i64 r9.1, .int .i64 r9.2.1, h10.v, h11.v, h12.v]) ST_27 (et rfl rfl) hst (mtR (mtR (mtR (mtR (mtR (mtR mhR)))))) rfl rfl) ?_
    refine Y wn rfl (ym (v := h26.v) (et rfl rfl)) ?_
    refine Y wn rfl (ym (v := h26.v) (et rfl rfl)) ?_
    obtain ⟨r27, gr27, hM⟩ := bs hM
    replace hst := hst.fz
    refine Yc wn rfl (yCall FN_9 (a3 (et rfl rfl) (et rfl rfl) (et rfl rfl))) (matrix_Permute_ok (hM := gr27) (hst := hst) (q1 := (mtF (mtF (mtF (mtF (mtF (mtF mhF))))))) (q2 := (mtF (mtF (mtF (mtF (mtF mhF)))))) (q3 := (mtF (mtF (mtF (mtF mhF))))) (q4 := mhF) (q5 := mhF)) ?_
    clear hst
    rintro _ w ⟨h28, h29, h30, rfl, hst⟩
    refine ⟨_, rfl, ?_⟩
    refine Y wn rfl (ym (v := .tuple #[.agg #[.int .i64 r27.1, .int .i64 r27.2.1, h28.v, h29.v, h30.v], .int .i64 r27.2.2.2.2.2]) (et rfl rfl)) ?_
    refine Y wn rfl (yx (v := .agg #[.int .i64 r27.1, .int .i64 r27.2.1, h28.v, h29.v, h30.v]) (et rfl rfl) rfl) ?_
    refine Y wn rfl (yx (v := .int .i64 r27.2.2.2.2.2) (et rfl rfl) rfl) ?_
    refine YB wn rfl (rAl hst ZT_27) ?_
    clear hst
    intro b31 w hst
    refine YT wn rfl (r_stbn (vals' := [.int .i64 r27.1, .int .i64 r27.2.1, h28.v, h29.v, h30.v]) (us := [.int .i64 r27.1, .int .i64 r27.2.1, h28.v, h29.v, h30.v]) hst ST_27 (et rfl rfl) (et rfl rfl) rfl rfl (one_of rfl) rfl) ?_
    clear hst
    intro w hst
    refine Y wn rfl (ya (v := .int .i64 r27.2.2.2.2.2) (et rfl rfl)) ?_
    refine wpList_nil ?_
    refine k11 _ _ ?_
    refine seqQ fun Q12 k12 z12 => ?_
    refine wp_region_lit ?_
    refine Y wn rfl (yLbs (us := [.int .i64 r27.1, .int .i64 r27.2.1, h28.v, h29.v, h30.v]) ST_27 (et rfl rfl) hst mhR rfl rfl) ?_
    obtain ⟨r32, gr32, hM⟩ := bs hM
    replace hst := hst.pk 2 [1, 0] rfl
    replace hst := hst.fz
    replace hst := hst.pk 2 [1, 0] rfl
    replace hst := hst.fz
    replace hst := hst.pk 2 [1, 0] rfl
    replace hst := hst.fz
    refine Yc wn rfl (yCall FN_14 (a1 (et rfl rfl))) (graph_FromMatrix_ok (hM := gr32) (hst := hst) (q1 := (mtF (mtF mhF))) (q2 := (mtF mhF)) (q3 := mhF)) ?_
    clear hst
    rintro _ w ⟨h33, rfl, hst⟩
    refine ⟨_, rfl, ?_⟩
    refine Y wn rfl (ym (v := .tuple #[.agg #[h33.v], .int .i64 r32.2]) (et rfl rfl)) ?_
    refine Y wn rfl (yx (v := .agg #[h33.v]) (et rfl rfl) rfl) ?_
    refine Y wn rfl (yx (v := .int .i64 r32.2) (et rfl rfl) rfl) ?_
    refine YB wn rfl (rAl hst ZT_31) ?_
    clear hst
    intro b34 w hst
    refine YT wn rfl (r_stbn (vals' := [h33.v]) (us := [h33.v]) hst ST_31 (et rfl rfl) (et rfl rfl) rfl rfl (one_of rfl) rfl) ?_
    clear hst
    intro w hst
    refine Y wn rfl (ya (v := .int .i64 r32.2) (et rfl rfl)) ?_
    refine wpList_nil ?_
    refine k12 _ _ ?_
    refine seqQ fun Q13 k13 z13 => ?_
    refine wp_region_lit ?_
    refine Y wn rfl (yLbs (us := [h15.v]) ST_31 (et rfl rfl) hst (mtR (mtR (mtR (mtR (mtR (mtR mhR)))))) rfl rfl) ?_
    refine Y wn rfl (ym (v := h26.v) (et rfl rfl)) ?_
    obtain ⟨r35, gr35, hM⟩ := bs hM
    replace hst := hst.pk 8 [7, 0, 0, 0, 0, 0, 0, 0] rfl
    replace hst := hst.fz
    refine Yc wn rfl (yCall FN_16 (a2 (et rfl rfl) (et rfl rfl))) (graph_Relabel_ok (hM := gr35) (hst := hst) (q1 := mhF) (q2 := (mtF (mtF (mtF (mtF mhF)))))) ?_
    clear hst
    rintro _ w ⟨h36, rfl, hst⟩
    refine ⟨_, rfl, ?_⟩
    refine Y wn rfl (ym (v := .tuple #[.agg #[h36.v], .int .i64 r35.2]) (et rfl rfl)) ?_
    refine Y wn rfl (yx (v := .agg #[h36.v]) (et rfl rfl) rfl) ?_
    refine Y wn rfl (yx (v := .int .i64 r35.2) (et rfl rfl) rfl) ?_
    refine YB wn rfl (rAl hst ZT_31) ?_
    clear hst
    intro b37 w hst
    refine YT wn rfl (r_stbn (vals' := [h36.v]) (us := [h36.v]) hst ST_31 (et rfl rfl) (et rfl rfl) rfl rfl (one_of rfl) rfl) ?_
    clear hst
    intro w hst
    refine Y wn rfl (ya (v := .int .i64 r35.2) (et rfl rfl)) ?_
    refine wpList_nil ?_
    refine k13 _ _ ?_
    refine seqQ fun Q14 k14 z14 => ?_
    refine wp_region_lit ?_
    refine Y wn rfl (yLbs (us := [.int .i64 r9.1, .int .i64 r9.2.1, h10.v, h11.v, h12.v]) ST_27 (et rfl rfl) hst (mtR (mtR (mtR (mtR (mtR (mtR (mtR (mtR (mtR mhR))))))))) rfl rfl) ?_
    obtain ⟨r38, gr38, hM⟩ := bs hM
    refine Yc wn rfl (yCall FN_17 (a1 (et rfl rfl))) (sparsekit_TwinMatrix_ok (hM := gr38) (hst := hst) (q1 := (mtF (mtF (mtF (mtF (mtF (mtF (mtF (mtF (mtF (mtF mhF))))))))))) (q2 := (mtF (mtF (mtF (mtF (mtF (mtF (mtF (mtF (mtF mhF)))))))))) (q3 := (mtF (mtF (mtF (mtF (mtF (mtF (mtF (mtF mhF)))))))))) ?_
    clear hst
    rintro _ w ⟨h39, h40, h41, rfl, hst⟩
    refine ⟨_, rfl, ?_⟩
    refine YB wn rfl (rAl hst ZT_27) ?_
    clear hst
    intro b42 w hst
    refine YT wn rfl (r_stbn (vals' := [.int .i64 r38.1, .int .i64 r38.2.1, h39.v, h40.v, h41.v]) (us := [.int .i64 r38.1, .int .i64 r38.2.1, h39.v, h40.v, h41.v]) hst ST_27 (et rfl rfl) (et rfl rfl) rfl rfl (one_of rfl) rfl) ?_
    clear hst
    intro w hst
    refine wpList_nil ?_
    refine k14 _ _ ?_
    refine seqQ fun Q15 k15 z15 => ?_
    refine seqQ fun Q16 k16 z16 => ?_
    refine wp_region_lit ?_
    refine Y wn rfl (ya (v := .int .i64 0) rfl) ?_
    refine wpList_nil ?_
    refine k16 _ _ ?_
    refine blockQ fun Q17 qb17 => ?_
    obtain ⟨o1, go1, hM⟩ := bs hM
    have je1_0 : ∀ (x51 : List Int) (f : Nat → Value) (w : World), f 0 = .int .i64 r8 → f 8 = .pointer (some ⟨b16, 0, none⟩) → f 9 = .int .i64 r14.2 → f 11 = .int .i64 r17.2.2.2.2.2 → f 12 = .pointer (some ⟨b24, 0, none⟩) → f 13 = .int .i64 r22.2 → f 16 = .int .i64 r27.2.2.2.2.2 → f 17 = .pointer (some ⟨b34, 0, none⟩) → f 18 = .int .i64 r32.2 → f 19 = .pointer (some ⟨b37, 0, none⟩) → f 20 = .int .i64 r35.2 → f 21 = .pointer (some ⟨b42, 0, none⟩) → St w0 (imm (rS (rI .i64)) h15.v r14.1 :: ros) (box b16 31 [h15.v] :: row 22 (rS (rI .i64)) h23.v r22.1 :: box b24 31 [h23.v] :: row 22 (rS (rI .i64)) h33.v r32.1 :: box b34 31 [h33.v] :: row 22 (rS (rI .i64)) h36.v r35.1 :: box b37 31 [h36.v] :: row 3 (rI .i64) h39.v r38.2.2.1 :: row 3 (rI .i64) h40.v r38.2.2.2.1 :: row 46 (rI .u64) h41.v x51 :: box b42 27 [.int .i64 r38.1, .int .i64 r38.2.1, h39.v, h40.v, h41.v] :: rs) w → x51 = o1 → Q17 (.exit 0) (fr 140 f) w := by
      intro x51 f w eje1_0_0 eje1_0_8 eje1_0_9 eje1_0_11 eje1_0_12 eje1_0_13 eje1_0_16 eje1_0_17 eje1_0_18 eje1_0_19 eje1_0_20 eje1_0_21 hst ho
      subst ho
      refine qb17 _ _ _ ?_
      refine k15 _ _ ?_
      refine seqQ fun Q26 k26 z26 => ?_
      refine wp_region_lit ?_
      refine Y wn rfl (yLbs (us := [.int .i64 r38.1, .int .i64 r38.2.1, h39.v, h40.v, h41.v]) ST_27 (et rfl eje1_0_21) hst (mtR (mtR (mtR (mtR (mtR (mtR (mtR (mtR (mtR (mtR mhR)))))))))) rfl rfl) ?_
      obtain ⟨r52, gr52, hM⟩ := bs hM
      replace hst := hst.pk 8 [7, 0, 0, 0, 0, 0, 0, 0] rfl
      replace hst := hst.fz
      replace hst := hst.pk 8 [7, 0, 0, 0, 0, 0, 0, 0] rfl
      replace hst := hst.fz
      replace hst := hst.pk 8 [7, 0, 0, 0, 0, 0, 0, 0] rfl
      replace hst := hst.fz
      refine Yc wn rfl (yCall FN_14 (a1 (et rfl rfl))) (graph_FromMatrix_ok (hM := gr52) (hst := hst) (q1 := (mtF (mtF mhF))) (q2 := (mtF mhF)) (q3 := mhF)) ?_
      clear hst
      rintro _ w ⟨h53, rfl, hst⟩
      refine ⟨_, rfl, ?_⟩
      refine Y wn rfl (ym (v := .tuple #[.agg #[h53.v], .int .i64 r52.2]) (et rfl rfl)) ?_
      refine Y wn rfl (yx (v := .agg #[h53.v]) (et rfl rfl) rfl) ?_
      refine Y wn rfl (yx (v := .int .i64 r52.2) (et rfl rfl) rfl) ?_
      refine YB wn rfl (rAl hst ZT_31) ?_
      clear hst
      intro b54 w hst
      refine YT wn rfl (r_stbn (vals' := [h53.v]) (us := [h53.v]) hst ST_31 (et rfl rfl) (et rfl rfl) rfl rfl (one_of rfl) rfl) ?_
      clear hst
      intro w hst
      refine Y wn rfl (ya (v := .int .i64 r52.2) (et rfl rfl)) ?_
      refine wpList_nil ?_
      refine k26 _ _ ?_
      refine seqQ fun Q27 k27 z27 => ?_
      refine wp_region_lit ?_
      refine Y wn rfl (ym (v := .int .i64 r14.2) (et rfl eje1_0_9)) ?_
      refine Y wn rfl (yeql (et rfl rfl) rfl) ?_
      refine Y wn rfl (ym (v := .bool (decide (r14.2 = 0))) (et rfl rfl)) ?_
      refine joinW 3 (fun f w => f 0 = .int .i64 r8 ∧ f 8 = .pointer (some ⟨b16, 0, none⟩) ∧ f 12 = .pointer (some ⟨b24, 0, none⟩) ∧ f 13 = .int .i64 r22.2 ∧ f 16 = .int .i64 r27.2.2.2.2.2 ∧ f 17 = .pointer (some ⟨b34, 0, none⟩) ∧ f 18 = .int .i64 r32.2 ∧ f 19 = .pointer (some ⟨b37, 0, none⟩) ∧ f 20 = .int .i64 r35.2 ∧ f 23 = .pointer (some ⟨b54, 0, none⟩) ∧ f 24 = .int .i64 r52.2 ∧ f 94 = .bool ((decide (r14.2 = 0)) && (decide (r17.2.2.2.2.2 = 0))) ∧ St w0 (imm (rS (rI .i64)) h15.v r14.1 :: ros) (box b16 31 [h15.v] :: row 22 (rS (rI .i64)) h23.v r22.1 :: box b24 31 [h23.v] :: row 22 (rS (rI .i64)) h33.v r32.1 :: box b34 31 [h33.v] :: row 22 (rS (rI .i64)) h36.v r35.1 :: box b37 31 [h36.v] :: row 22 (rS (rI .i64)) h53.v r52.1 :: box b54 31 [h53.v] :: rs) w) (fun j2 => ?_) ?_
      · rcases Bool.eq_false_or_eq_true (decide (r14.2 = 0)) with c56 | c56
        · refine Y (wg rfl rfl rfl c56) rfl (ym (v := .int .i64 r17.2.2.2.2.2) (et rfl eje1_0_11)) ?_
          refine Y (wg rfl rfl rfl c56) rfl (yeql (et rfl rfl) rfl) ?_
          refine Y wn rfl (ypt (v := .bool (decide (r17.2.2.2.2.2 = 0))) (et rfl rfl) c56 (et rfl rfl)) ?_
          exact j2 _ _ ⟨eje1_0_0, eje1_0_8, eje1_0_12, eje1_0_13, eje1_0_16, eje1_0_17, eje1_0_18, eje1_0_19, eje1_0_20, rfl, rfl, (congrArg Value.bool (andT c56)), ((hst.pk 10 [2, 2, 2, 2, 2, 2, 2, 1, 0] rfl).facts (allC (mtF (mtF (mtF mhF))) (allT (allT (allT (allT allI))))))⟩
        · refine Gn (wx rfl rfl rfl c56) rfl ?_
          refine Gn (wx rfl rfl rfl c56) rfl ?_
          refine Y wn rfl (ypf (v := .bool false) (et rfl rfl) c56 rfl) ?_
          exact j2 _ _ ⟨eje1_0_0, eje1_0_8, eje1_0_12, eje1_0_13, eje1_0_16, eje1_0_17, eje1_0_18, eje1_0_19, eje1_0_20, rfl, rfl, (congrArg Value.bool (andF c56)), ((hst.pk 10 [2, 2, 2, 2, 2, 2, 2, 1, 0] rfl).facts (allC (mtF (mtF (mtF mhF))) (allT (allT (allT (allT allI))))))⟩
      clear hst
      rintro f w ⟨e55_0, e55_8, e55_12, e55_13, e55_16, e55_17, e55_18, e55_19, e55_20, e55_23, e55_24, e55_94, hst⟩
      refine Y wn rfl (ym (v := .bool ((decide (r14.2 = 0)) && (decide (r17.2.2.2.2.2 = 0)))) (et rfl e55_94)) ?_
      refine joinW 3 (fun f w => f 0 = .int .i64 r8 ∧ f 8 = .pointer (some ⟨b16, 0, none⟩) ∧ f 12 = .pointer (some ⟨b24, 0, none⟩) ∧ f 16 = .int .i64 r27.2.2.2.2.2 ∧ f 17 = .pointer (some ⟨b34, 0, none⟩) ∧ f 18 = .int .i64 r32.2 ∧ f 19 = .pointer (some ⟨b37, 0, none⟩) ∧ f 20 = .int .i64 r35.2 ∧ f 23 = .pointer (some ⟨b54, 0, none⟩) ∧ f 24 = .int .i64 r52.2 ∧ f 98 = .bool (((decide (r14.2 = 0)) && (decide (r17.2.2.2.2.2 = 0))) && (decide (r22.2 = 0))) ∧ St w0 (imm (rS (rI .i64)) h15.v r14.1 :: ros) (box b16 31 [h15.v] :: row 22 (rS (rI .i64)) h23.v r22.1 :: box b24 31 [h23.v] :: row 22 (rS (rI .i64)) h33.v r32.1 :: box b34 31 [h33.v] :: row 22 (rS (rI .i64)) h36.v r35.1 :: box b37 31 [h36.v] :: row 22 (rS (rI .i64)) h53.v r52.1 :: box b54 31 [h53.v] :: rs) w) (fun j3 => ?_) ?_
      · rcases Bool.eq_false_or_eq_true (((decide (r14.2 = 0)) && (decide (r17.2.2.2.2.2 = 0)))) with c58 | c58
        · refine Y (wg rfl rfl rfl c58) rfl (ym (v := .int .i64 r22.2) (et rfl e55_13)) ?_
          refine Y (wg rfl rfl rfl c58) rfl (yeql (et rfl rfl) rfl) ?_
          refine Y wn rfl (ypt (v := .bool (decide (r22.2 = 0))) (et rfl rfl) c58 (et rfl rfl)) ?_
          exact j3 _ _ ⟨e55_0, e55_8, e55_12, e55_16, e55_17, e55_18, e55_19, e55_20, e55_23, e55_24, (congrArg Value.bool (andT c58)), hst⟩
        · refine Gn (wx rfl rfl rfl c58) rfl ?_
          refine Gn (wx rfl rfl rfl c58) rfl ?_
          refine Y wn rfl (ypf (v := .bool false) (et rfl rfl) c58 rfl) ?_
          exact j3 _ _ ⟨e55_0, e55_8, e55_12, e55_16, e55_17, e55_18, e55_19, e55_20, e55_23, e55_24, (congrArg Value.bool (andF c58)), hst⟩
      clear hst
      rintro f w ⟨e57_0, e57_8, e57_12, e57_16, e57_17, e57_18, e57_19, e57_20, e57_23, e57_24, e57_98, hst⟩
      refine Y wn rfl (ym (v := .bool (((decide (r14.2 = 0)) && (decide (r17.2.2.2.2.2 = 0))) && (decide (r22.2 = 0)))) (et rfl e57_98)) ?_
      refine joinW 3 (fun f w => f 0 = .int .i64 r8 ∧ f 8 = .pointer (some ⟨b16, 0, none⟩) ∧ f 12 = .pointer (some ⟨b24, 0, none⟩) ∧ f 17 = .pointer (some ⟨b34, 0, none⟩) ∧ f 18 = .int .i64 r32.2 ∧ f 19 = .pointer (some ⟨b37, 0, none⟩) ∧ f 20 = .int .i64 r35.2 ∧ f 23 = .pointer (some ⟨b54, 0, none⟩) ∧ f 24 = .int .i64 r52.2 ∧ f 102 = .bool ((((decide (r14.2 = 0)) && (decide (r17.2.2.2.2.2 = 0))) && (decide (r22.2 = 0))) && (decide (r27.2.2.2.2.2 = 0))) ∧ St w0 (imm (rS (rI .i64)) h15.v r14.1 :: ros) (box b16 31 [h15.v] :: row 22 (rS (rI .i64)) h23.v r22.1 :: box b24 31 [h23.v] :: row 22 (rS (rI .i64)) h33.v r32.1 :: box b34 31 [h33.v] :: row 22 (rS (rI .i64)) h36.v r35.1 :: box b37 31 [h36.v] :: row 22 (rS (rI .i64)) h53.v r52.1 :: box b54 31 [h53.v] :: rs) w) (fun j4 => ?_) ?_
      · rcases Bool.eq_false_or_eq_true ((((decide (r14.2 = 0)) && (decide (r17.2.2.2.2.2 = 0))) && (decide (r22.2 = 0)))) with c60 | c60
        · refine Y (wg rfl rfl rfl c60) rfl (ym (v := .int .i64 r27.2.2.2.2.2) (et rfl e57_16)) ?_
          refine Y (wg rfl rfl rfl c60) rfl (yeql (et rfl rfl) rfl) ?_
          refine Y wn rfl (ypt (v := .bool (decide (r27.2.2.2.2.2 = 0))) (et rfl rfl) c60 (et rfl rfl)) ?_
          exact j4 _ _ ⟨e57_0, e57_8, e57_12, e57_17, e57_18, e57_19, e57_20, e57_23, e57_24, (congrArg Value.bool (andT c60)), hst⟩
        · refine Gn (wx rfl rfl rfl c60) rfl ?_
          refine Gn (wx rfl rfl rfl c60) rfl ?_
          refine Y wn rfl (ypf (v := .bool false) (et rfl rfl) c60 rfl) ?_
          exact j4 _ _ ⟨e57_0, e57_8, e57_12, e57_17, e57_18, e57_19, e57_20, e57_23, e57_24, (congrArg Value.bool (andF c60)), hst⟩
      clear hst
      rintro f w ⟨e59_0, e59_8, e59_12, e59_17, e59_18, e59_19, e59_20, e59_23, e59_24, e59_102, hst⟩
      refine Y wn rfl (ym (v := .bool ((((decide (r14.2 = 0)) && (decide (r17.2.2.2.2.2 = 0))) && (decide (r22.2 = 0))) && (decide (r27.2.2.2.2.2 = 0)))) (et rfl e59_102)) ?_
      refine joinW 3 (fun f w => f 0 = .int .i64 r8 ∧ f 8 = .pointer (some ⟨b16, 0, none⟩) ∧ f 12 = .pointer (some ⟨b24, 0, none⟩) ∧ f 17 = .pointer (some ⟨b34, 0, none⟩) ∧ f 19 = .pointer (some ⟨b37, 0, none⟩) ∧ f 20 = .int .i64 r35.2 ∧ f 23 = .pointer (some ⟨b54, 0, none⟩) ∧ f 24 = .int .i64 r52.2 ∧ f 106 = .bool (((((decide (r14.2 = 0)) && (decide (r17.2.2.2.2.2 = 0))) && (decide (r22.2 = 0))) && (decide (r27.2.2.2.2.2 = 0))) && (decide (r32.2 = 0))) ∧ St w0 (imm (rS (rI .i64)) h15.v r14.1 :: ros) (box b16 31 [h15.v] :: row 22 (rS (rI .i64)) h23.v r22.1 :: box b24 31 [h23.v] :: row 22 (rS (rI .i64)) h33.v r32.1 :: box b34 31 [h33.v] :: row 22 (rS (rI .i64)) h36.v r35.1 :: box b37 31 [h36.v] :: row 22 (rS (rI .i64)) h53.v r52.1 :: box b54 31 [h53.v] :: rs) w) (fun j5 => ?_) ?_
      · rcases Bool.eq_false_or_eq_true (((((decide (r14.2 = 0)) && (decide (r17.2.2.2.2.2 = 0))) && (decide (r22.2 = 0))) && (decide (r27.2.2.2.2.2 = 0)))) with c62 | c62
        · refine Y (wg rfl rfl rfl c62) rfl (ym (v := .int .i64 r32.2) (et rfl e59_18)) ?_
          refine Y (wg rfl rfl rfl c62) rfl (yeql (et rfl rfl) rfl) ?_
          refine Y wn rfl (ypt (v := .bool (decide (r32.2 = 0))) (et rfl rfl) c62 (et rfl rfl)) ?_
          exact j5 _ _ ⟨e59_0, e59_8, e59_12, e59_17, e59_19, e59_20, e59_23, e59_24, (congrArg Value.bool (andT c62)), hst⟩
        · refine Gn (wx rfl rfl rfl c62) rfl ?_
          refine Gn (wx rfl rfl rfl c62) rfl ?_
          refine Y wn rfl (ypf (v := .bool false) (et rfl rfl) c62 rfl) ?_
          exact j5 _ _ ⟨e59_0, e59_8, e59_12, e59_17, e59_19, e59_20, e59_23, e59_24, (congrArg Value.bool (andF c62)), hst⟩
      clear hst
      rintro f w ⟨e61_0, e61_8, e61_12, e61_17, e61_19, e61_20, e61_23, e61_24, e61_106, hst⟩
      refine Y wn rfl (ym (v := .bool (((((decide (r14.2 = 0)) && (decide (r17.2.2.2.2.2 = 0))) && (decide (r22.2 = 0))) && (decide (r27.2.2.2.2.2 = 0))) && (decide (r32.2 = 0)))) (et rfl e61_106)) ?_
      refine joinW 3 (fun f w => f 0 = .int .i64 r8 ∧ f 8 = .pointer (some ⟨b16, 0, none⟩) ∧ f 12 = .pointer (some ⟨b24, 0, none⟩) ∧ f 17 = .pointer (some ⟨b34, 0, none⟩) ∧ f 19 = .pointer (some ⟨b37, 0, none⟩) ∧ f 23 = .pointer (some ⟨b54, 0, none⟩) ∧ f 24 = .int .i64 r52.2 ∧ f 110 = .bool ((((((decide (r14.2 = 0)) && (decide (r17.2.2.2.2.2 = 0))) && (decide (r22.2 = 0))) && (decide (r27.2.2.2.2.2 = 0))) && (decide (r32.2 = 0))) && (decide (r35.2 = 0))) ∧ St w0 (imm (rS (rI .i64)) h15.v r14.1 :: ros) (box b16 31 [h15.v] :: row 22 (rS (rI .i64)) h23.v r22.1 :: box b24 31 [h23.v] :: row 22 (rS (rI .i64)) h33.v r32.1 :: box b34 31 [h33.v] :: row 22 (rS (rI .i64)) h36.v r35.1 :: box b37 31 [h36.v] :: row 22 (rS (rI .i64)) h53.v r52.1 :: box b54 31 [h53.v] :: rs) w) (fun j6 => ?_) ?_
      · rcases Bool.eq_false_or_eq_true ((((((decide (r14.2 = 0)) && (decide (r17.2.2.2.2.2 = 0))) && (decide (r22.2 = 0))) && (decide (r27.2.2.2.2.2 = 0))) && (decide (r32.2 = 0)))) with c64 | c64
        · refine Y (wg rfl rfl rfl c64) rfl (ym (v := .int .i64 r35.2) (et rfl e61_20)) ?_
          refine Y (wg rfl rfl rfl c64) rfl (yeql (et rfl rfl) rfl) ?_
          refine Y wn rfl (ypt (v := .bool (decide (r35.2 = 0))) (et rfl rfl) c64 (et rfl rfl)) ?_
          exact j6 _ _ ⟨e61_0, e61_8, e61_12, e61_17, e61_19, e61_23, e61_24, (congrArg Value.bool (andT c64)), hst⟩
        · refine Gn (wx rfl rfl rfl c64) rfl ?_
          refine Gn (wx rfl rfl rfl c64) rfl ?_
          refine Y wn rfl (ypf (v := .bool false) (et rfl rfl) c64 rfl) ?_
          exact j6 _ _ ⟨e61_0, e61_8, e61_12, e61_17, e61_19, e61_23, e61_24, (congrArg Value.bool (andF c64)), hst⟩
      clear hst
      rintro f w ⟨e63_0, e63_8, e63_12, e63_17, e63_19, e63_23, e63_24, e63_110, hst⟩
      refine Y wn rfl (ym (v := .bool ((((((decide (r14.2 = 0)) && (decide (r17.2.2.2.2.2 = 0))) && (decide (r22.2 = 0))) && (decide (r27.2.2.2.2.2 = 0))) && (decide (r32.2 = 0))) && (decide (r35.2 = 0)))) (et rfl e63_110)) ?_
      refine joinW 3 (fun f w => f 0 = .int .i64 r8 ∧ f 8 = .pointer (some ⟨b16, 0, none⟩) ∧ f 12 = .pointer (some ⟨b24, 0, none⟩) ∧ f 17 = .pointer (some ⟨b34, 0, none⟩) ∧ f 19 = .pointer (some ⟨b37, 0, none⟩) ∧ f 23 = .pointer (some ⟨b54, 0, none⟩) ∧ f 114 = .bool (((((((decide (r14.2 = 0)) && (decide (r17.2.2.2.2.2 = 0))) && (decide (r22.2 = 0))) && (decide (r27.2.2.2.2.2 = 0))) && (decide (r32.2 = 0))) && (decide (r35.2 = 0))) && (decide (r52.2 = 0))) ∧ St w0 (imm (rS (rI .i64)) h15.v r14.1 :: ros) (box b16 31 [h15.v] :: row 22 (rS (rI .i64)) h23.v r22.1 :: box b24 31 [h23.v] :: row 22 (rS (rI .i64)) h33.v r32.1 :: box b34 31 [h33.v] :: row 22 (rS (rI .i64)) h36.v r35.1 :: box b37 31 [h36.v] :: row 22 (rS (rI .i64)) h53.v r52.1 :: box b54 31 [h53.v] :: rs) w) (fun j7 => ?_) ?_
      · rcases Bool.eq_false_or_eq_true (((((((decide (r14.2 = 0)) && (decide (r17.2.2.2.2.2 = 0))) && (decide (r22.2 = 0))) && (decide (r27.2.2.2.2.2 = 0))) && (decide (r32.2 = 0))) && (decide (r35.2 = 0)))) with c66 | c66
        · refine Y (wg rfl rfl rfl c66) rfl (ym (v := .int .i64 r52.2) (et rfl e63_24)) ?_
          refine Y (wg rfl rfl rfl c66) rfl (yeql (et rfl rfl) rfl) ?_
          refine Y wn rfl (ypt (v := .bool (decide (r52.2 = 0))) (et rfl rfl) c66 (et rfl rfl)) ?_
          exact j7 _ _ ⟨e63_0, e63_8, e63_12, e63_17, e63_19, e63_23, (congrArg Value.bool (andT c66)), hst⟩
        · refine Gn (wx rfl rfl rfl c66) rfl ?_
          refine Gn (wx rfl rfl rfl c66) rfl ?_
          refine Y wn rfl (ypf (v := .bool false) (et rfl rfl) c66 rfl) ?_
          exact j7 _ _ ⟨e63_0, e63_8, e63_12, e63_17, e63_19, e63_23, (congrArg Value.bool (andF c66)), hst⟩
      clear hst
      rintro f w ⟨e65_0, e65_8, e65_12, e65_17, e65_19, e65_23, e65_114, hst⟩
      refine Y wn rfl (ym (v := .bool (((((((decide (r14.2 = 0)) && (decide (r17.2.2.2.2.2 = 0))) && (decide (r22.2 = 0))) && (decide (r27.2.2.2.2.2 = 0))) && (decide (r32.2 = 0))) && (decide (r35.2 = 0))) && (decide (r52.2 = 0)))) (et rfl e65_114)) ?_
      refine joinW 6 (fun f w => f 8 = .pointer (some ⟨b16, 0, none⟩) ∧ f 12 = .pointer (some ⟨b24, 0, none⟩) ∧ f 17 = .pointer (some ⟨b34, 0, none⟩) ∧ f 19 = .pointer (some ⟨b37, 0, none⟩) ∧ f 23 = .pointer (some ⟨b54, 0, none⟩) ∧ f 121 = .bool ((((((((decide (r14.2 = 0)) && (decide (r17.2.2.2.2.2 = 0))) && (decide (r22.2 = 0))) && (decide (r27.2.2.2.2.2 = 0))) && (decide (r32.2 = 0))) && (decide (r35.2 = 0))) && (decide (r52.2 = 0))) && (decide ((r14.1.length : Int) = r8))) ∧ St w0 (imm (rS (rI .i64)) h15.v r14.1 :: ros) (box b16 31 [h15.v] :: row 22 (rS (rI .i64)) h23.v r22.1 :: box b24 31 [h23.v] :: row 22 (rS (rI .i64)) h33.v r32.1 :: box b34 31 [h33.v] :: row 22 (rS (rI .i64)) h36.v r35.1 :: box b37 31 [h36.v] :: row 22 (rS (rI .i64)) h53.v r52.1 :: box b54 31 [h53.v] :: rs) w) (fun j8 => ?_) ?_
      · rcases Bool.eq_false_or_eq_true ((((((((decide (r14.2 = 0)) && (decide (r17.2.2.2.2.2 = 0))) && (decide (r22.2 = 0))) && (decide (r27.2.2.2.2.2 = 0))) && (decide (r32.2 = 0))) && (decide (r35.2 = 0))) && (decide (r52.2 = 0)))) with c68 | c68
        · refine Y (wg rfl rfl rfl c68) rfl (yFb FL_31_0 (et rfl e65_8)) ?_
          refine Y (wg rfl rfl rfl c68) rfl (yLb (u := h15.v) O_29 (et rfl rfl) hst mhR rfl) ?_
          refine Y (wg rfl rfl rfl c68) rfl (yLen SL_29 (et rfl rfl) hst (rdI mhF)) ?_
          refine Y (wg rfl rfl rfl c68) rfl (ym (v := .int .i64 r8) (et rfl e65_0)) ?_
          refine Y (wg rfl rfl rfl c68) rfl (yeql (et rfl rfl) (et rfl rfl)) ?_
          refine Y wn rfl (ypt (v := .bool (decide ((r14.1.length : Int) = r8))) (et rfl rfl) c68 (et rfl rfl)) ?_
          exact j8 _ _ ⟨e65_8, e65_12, e65_17, e65_19, e65_23, (congrArg Value.bool (andT c68)), hst⟩
        · refine Gn (wx rfl rfl rfl c68) rfl ?_
          refine Gn (wx rfl rfl rfl c68) rfl ?_
          refine Gn (wx rfl rfl rfl c68) rfl ?_
          refine Gn (wx rfl rfl rfl c68) rfl ?_
          refine Gn (wx rfl rfl rfl c68) rfl ?_
          refine Y wn rfl (ypf (v := .bool false) (et rfl rfl) c68 rfl) ?_
          exact j8 _ _ ⟨e65_8, e65_12, e65_17, e65_19, e65_23, (congrArg Value.bool (andF c68)), hst⟩
      clear hst
      rintro f w ⟨e67_8, e67_12, e67_17, e67_19, e67_23, e67_121, hst⟩
      refine Y wn rfl (ym (v := .bool ((((((((decide (r14.2 = 0)) && (decide (r17.2.2.2.2.2 = 0))) && (decide (r22.2 = 0))) && (decide (r27.2.2.2.2.2 = 0))) && (decide (r32.2 = 0))) && (decide (r35.2 = 0))) && (decide (r52.2 = 0))) && (decide ((r14.1.length : Int) = r8)))) (et rfl e67_121)) ?_
      obtain ⟨r70, gr70, hM⟩ := bs hM
      refine joinW 4 (fun f w => f 8 = .pointer (some ⟨b16, 0, none⟩) ∧ f 17 = .pointer (some ⟨b34, 0, none⟩) ∧ f 19 = .pointer (some ⟨b37, 0, none⟩) ∧ f 23 = .pointer (some ⟨b54, 0, none⟩) ∧ f 126 = .bool r70 ∧ St w0 (imm (rS (rI .i64)) h15.v r14.1 :: ros) (box b16 31 [h15.v] :: row 22 (rS (rI .i64)) h33.v r32.1 :: box b34 31 [h33.v] :: row 22 (rS (rI .i64)) h36.v r35.1 :: box b37 31 [h36.v] :: row 22 (rS (rI .i64)) h53.v r52.1 :: box b54 31 [h53.v] :: rs) w) (fun j9 => ?_) ?_
      · rcases iteS gr70 with ⟨c72, gr70⟩ | ⟨c72, gr70⟩
        · refine Y (wg rfl rfl rfl c72) rfl (yLbs (us := [h15.v]) ST_31 (et rfl e67_8) hst mhR rfl rfl) ?_
          refine Y (wg rfl rfl rfl c72) rfl (yLbs (us := [h23.v]) ST_31 (et rfl e67_12) hst (mtR (mtR mhR)) rfl rfl) ?_
          obtain ⟨r73, gr73, gr70⟩ := bs gr70
          replace hst := hst.pk 2 [1, 0] rfl
          replace hst := hst.fz
          refine Yc (wg rfl rfl rfl c72) rfl (yCall FN_11 (a2 (et rfl rfl) (et rfl rfl))) (sparsekit_Graph_ok (hM := gr73) (hst := hst) (q1 := (mtF mhF)) (q2 := mhF)) ?_
          clear hst
          rintro _ w ⟨rfl, hst⟩
          refine ⟨_, rfl, ?_⟩
          refine Y wn rfl (ypt (v := .bool r73) (et rfl rfl) c72 (et rfl rfl)) ?_
          obtain rfl := someI gr70
          exact j9 _ _ ⟨e67_8, e67_17, e67_19, e67_23, rfl, ((hst.pk 8 [0, 1, 1, 1, 1, 1, 1] rfl).facts (allC (mtF mhF) (allT (allT allI))))⟩
        · refine Gn (wx rfl rfl rfl (bfalse c72)) rfl ?_
          refine Gn (wx rfl rfl rfl (bfalse c72)) rfl ?_
          refine Gn (wx rfl rfl rfl (bfalse c72)) rfl ?_
          refine Y wn rfl (ypf (v := .bool false) (et rfl rfl) (bfalse c72) rfl) ?_
          obtain rfl := someI gr70
          exact j9 _ _ ⟨e67_8, e67_17, e67_19, e67_23, rfl, (hst.pk 9 [0, 2, 2, 2, 2, 2, 2] rfl)⟩
      clear hst
      rintro f w ⟨e71_8, e71_17, e71_19, e71_23, e71_126, hst⟩
      refine Y wn rfl (ym (v := .bool r70) (et rfl e71_126)) ?_
      obtain ⟨r75, gr75, hM⟩ := bs hM
      refine joinW 4 (fun f w => f 8 = .pointer (some ⟨b16, 0, none⟩) ∧ f 23 = .pointer (some ⟨b54, 0, none⟩) ∧ f 131 = .bool r75 ∧ St w0 (imm (rS (rI .i64)) h15.v r14.1 :: ros) (box b16 31 [h15.v] :: row 22 (rS (rI .i64)) h53.v r52.1 :: box b54 31 [h53.v] :: rs) w) (fun j10 => ?_) ?_
      · rcases iteS gr75 with ⟨c77, gr75⟩ | ⟨c77, gr75⟩
        · refine Y (wg rfl rfl rfl c77) rfl (yLbs (us := [h33.v]) ST_31 (et rfl e71_17) hst (mtR (mtR mhR)) rfl rfl) ?_
          refine Y (wg rfl rfl rfl c77) rfl (yLbs (us := [h36.v]) ST_31 (et rfl e71_19) hst (mtR (mtR (mtR (mtR mhR)))) rfl rfl) ?_
          obtain ⟨r78, gr78, gr75⟩ := bs gr75
          replace hst := hst.pk 2 [1, 0] rfl
          replace hst := hst.fz
          replace hst := hst.pk 3 [2, 0, 0] rfl
          replace hst := hst.fz
          refine Yc (wg rfl rfl rfl c77) rfl (yCall FN_11 (a2 (et rfl rfl) (et rfl rfl))) (sparsekit_Graph_ok (hM := gr78) (hst := hst) (q1 := (mtF mhF)) (q2 := mhF)) ?_
          clear hst
          rintro _ w ⟨rfl, hst⟩
          refine ⟨_, rfl, ?_⟩
          refine Y wn rfl (ypt (v := .bool r78) (et rfl rfl) c77 (et rfl rfl)) ?_
          obtain rfl := someI gr75
          exact j10 _ _ ⟨e71_8, e71_23, rfl, ((hst.pk 5 [0, 2, 2] rfl).facts (allC (mtF (mtF mhF)) (allT (allT (allT allI)))))⟩
        · refine Gn (wx rfl rfl rfl (bfalse c77)) rfl ?_
          refine Gn (wx rfl rfl rfl (bfalse c77)) rfl ?_
          refine Gn (wx rfl rfl rfl (bfalse c77)) rfl ?_
          refine Y wn rfl (ypf (v := .bool false) (et rfl rfl) (bfalse c77) rfl) ?_
          obtain rfl := someI gr75
          exact j10 _ _ ⟨e71_8, e71_23, rfl, (hst.pk 7 [0, 4, 4] rfl)⟩
      clear hst
      rintro f w ⟨e76_8, e76_23, e76_131, hst⟩
      refine Y wn rfl (ym (v := .bool r75) (et rfl e76_131)) ?_
      obtain ⟨r80, gr80, hM⟩ := bs hM
      refine joinW 4 (fun f w => f 136 = .bool r80 ∧ St w0 (ros) (rs) w) (fun j11 => ?_) ?_
      · rcases iteS gr80 with ⟨c82, gr80⟩ | ⟨c82, gr80⟩
        · refine Y (wg rfl rfl rfl c82) rfl (yLbs (us := [h15.v]) ST_31 (et rfl e76_8) hst mhR rfl rfl) ?_
          refine Y (wg rfl rfl rfl c82) rfl (yLbs (us := [h53.v]) ST_31 (et rfl e76_23) hst (mtR (mtR mhR)) rfl rfl) ?_
          obtain ⟨r83, gr83, gr80⟩ := bs gr80
          replace hst := hst.pk 2 [1, 0] rfl
          replace hst := hst.fz
          refine Yc (wg rfl rfl rfl c82) rfl (yCall FN_11 (a2 (et rfl rfl) (et rfl rfl))) (sparsekit_Graph_ok (hM := gr83) (hst := hst) (q1 := (mtF mhF)) (q2 := mhF)) ?_
          clear hst
          rintro _ w ⟨rfl, hst⟩
          refine ⟨_, rfl, ?_⟩
          refine Y wn rfl (ypt (v := .bool r83) (et rfl rfl) c82 (et rfl rfl)) ?_
          obtain rfl := someI gr80
          exact j11 _ _ ⟨rfl, ((hst.pk 2 [] rfl).facts (allT (allT allI)))⟩
        · refine Gn (wx rfl rfl rfl (bfalse c82)) rfl ?_
          refine Gn (wx rfl rfl rfl (bfalse c82)) rfl ?_
          refine Gn (wx rfl rfl rfl (bfalse c82)) rfl ?_
          refine Y wn rfl (ypf (v := .bool false) (et rfl rfl) (bfalse c82) rfl) ?_
          obtain rfl := someI gr80
          exact j11 _ _ ⟨rfl, ((hst.pk 3 [] rfl).facts (allT allI))⟩
      clear hst
      rintro f w ⟨e81_136, hst⟩
      refine Y wn rfl (ym (v := .bool r80) (et rfl e81_136)) ?_
      obtain ⟨r85, gr85, hM⟩ := bs hM
      refine joinW 2 (fun f w => f 139 = .bool r85 ∧ St w0 (ros) (rs) w) (fun j12 => ?_) ?_
      · rcases iteS gr85 with ⟨c87, gr85⟩ | ⟨c87, gr85⟩
        · obtain ⟨r88, gr88, gr85⟩ := bs gr85
          refine Yc (wg rfl rfl rfl c87) rfl (yCall FN_5 a0) (sparselaw12_awake_ok (hM := gr88) (hst := hst) ) ?_
          clear hst
          rintro _ w ⟨rfl, hst⟩
          refine ⟨_, rfl, ?_⟩
          refine Y wn rfl (ypt (v := .bool r88) (et rfl rfl) c87 (et rfl rfl)) ?_
          obtain rfl := someI gr85
          exact j12 _ _ ⟨rfl, hst⟩
        · refine Gn (wx rfl rfl rfl (bfalse c87)) rfl ?_
          refine Y wn rfl (ypf (v := .bool false) (et rfl rfl) (bfalse c87) rfl) ?_
          obtain rfl := someI gr85
          exact j12 _ _ ⟨rfl, hst⟩
      clear hst
      rintro f w ⟨e86_139, hst⟩
      refine Y wn rfl (ya (v := .bool r85) (et rfl e86_139)) ?_
      refine wpList_nil ?_
      refine k27 _ _ ?_
      refine wp_ret ?_
      obtain rfl := someI hM
      exact hQ _ _ _ (fin1r Tryz.results4 ⟨rfl, rfl⟩ ⟨rfl, hst⟩)
    refine loopQ (fun s a w => ∃ (x45 : List Int) (x46 : Int) (f : Nat → Value), (x45, x46) = s ∧ a = fr 140 f ∧ f 0 = .int .i64 r8 ∧ f 8 = .pointer (some ⟨b16, 0, none⟩) ∧ f 9 = .int .i64 r14.2 ∧ f 11 = .int .i64 r17.2.2.2.2.2 ∧ f 12 = .pointer (some ⟨b24, 0, none⟩) ∧ f 13 = .int .i64 r22.2 ∧ f 16 = .int .i64 r27.2.2.2.2.2 ∧ f 17 = .pointer (some ⟨b34, 0, none⟩) ∧ f 18 = .int .i64 r32.2 ∧ f 19 = .pointer (some ⟨b37, 0, none⟩) ∧ f 20 = .int .i64 r35.2 ∧ f 21 = .pointer (some ⟨b42, 0, none⟩) ∧ f 22 = .int .i64 x46 ∧ St w0 (imm (rS (rI .i64)) h15.v r14.1 :: ros) (box b16 31 [h15.v] :: row 22 (rS (rI .i64)) h23.v r22.1 :: box b24 31 [h23.v] :: row 22 (rS (rI .i64)) h33.v r32.1 :: box b34 31 [h33.v] :: row 22 (rS (rI .i64)) h36.v r35.1 :: box b37 31 [h36.v] :: row 3 (rI .i64) h39.v r38.2.2.1 :: row 3 (rI .i64) h40.v r38.2.2.2.1 :: row 46 (rI .u64) h41.v x45 :: box b42 27 [.int .i64 r38.1, .int .i64 r38.2.1, h39.v, h40.v, h41.v] :: rs) w) go1 ⟨_, _, _, rfl, rfl, rfl, rfl, rfl, rfl, rfl, rfl, rfl, rfl, rfl, rfl, rfl, rfl, rfl, ((hst.pk 14 [12, 10, 9, 7, 6, 5, 4, 1, 1, 1, 0] rfl).facts (allC mhF (allT (allT (allT (allT (allT (allT (allT (allT (allT (allT (allT allI)))))))))))))⟩ ?_
    clear hst
    rintro _ _ w r1_ ⟨x45, x46, f, rfl, rfl, e1_0, e1_8, e1_9, e1_11, e1_12, e1_13, e1_16, e1_17, e1_18, e1_19, e1_20, e1_21, e1_22, hst⟩ hM1 ho1 Q100001 n1 zz1
    refine seqQ fun Q28 k28 z28 => ?_
    refine seqQ fun Q29 k29 z29 => ?_
    refine wp_region_lit ?_
    refine Y wn rfl (ym (v := .int .i64 x46) (et rfl e1_22)) ?_
    refine Y wn rfl (yFb FL_27_4 (et rfl e1_21)) ?_
    refine Y wn rfl (yLb (u := h41.v) O_25 (et rfl rfl) hst (mtR (mtR (mtR (mtR (mtR (mtR (mtR (mtR (mtR (mtR mhR)))))))))) rfl) ?_
    refine Y wn rfl (yLen SL_25 (et rfl rfl) hst (rdO (mtR (mtR (mtR (mtR (mtR (mtR (mtR (mtR (mtR mhR))))))))))) ?_
    refine Y wn rfl (ylss (et rfl rfl) (et rfl rfl)) ?_
    refine wpList_nil ?_
    refine k29 _ _ ?_
    rcases iteS hM1 with ⟨c89, hM1⟩ | ⟨c89, hM1⟩
    · refine condT (et rfl rfl) (decide_eq_true c89) ?_
      refine wp_skip ?_
      refine k28 _ _ ?_
      refine seqQ fun Q30 k30 z30 => ?_
      refine blockQ fun Q31 qb31 => ?_
      refine wp_region_lit ?_
      refine Y wn rfl (yFb FL_27_4 (et rfl e1_21)) ?_
      refine Y wn rfl (yLb (u := h41.v) O_25 (et rfl rfl) hst (mtR (mtR (mtR (mtR (mtR (mtR (mtR (mtR (mtR (mtR mhR)))))))))) rfl) ?_
      refine Y wn rfl (ym (v := .int .i64 x46) (et rfl e1_22)) ?_
      obtain ⟨x90, gx90, hM1⟩ := bs hM1
      refine Y wn rfl (yIs SL_25 (et rfl rfl) (et rfl rfl) hst (rdO (mtR (mtR (mtR (mtR (mtR (mtR (mtR (mtR (mtR mhR)))))))))) gx90) ?_
      replace hst := hst.pk 10 [9, 0, 0, 0, 0, 0, 0, 0, 0, 0] rfl
      refine YT wn rfl (r_sti (cs := [.int .u64 4607182418800017408]) hst O_46 rfl (et rfl rfl) rfl rfl mkI gx90) ?_
      clear hst
      intro w hst
      refine wpList_nil ?_
      refine qb31 _ _ _ ?_
      refine k30 _ _ ?_
      refine wp_region_lit ?_
      refine Y wn rfl (ym (v := .int .i64 x46) (et rfl e1_22)) ?_
      refine Y wn rfl (yadd (et rfl rfl) rfl) ?_
      refine Y wn rfl (ya (v := .int .i64 (wa .i64 x46 1)) (et rfl rfl)) ?_
      refine wpList_nil ?_
      obtain rfl := someI hM1
      exact n1 _ _ _ rfl ⟨_, _, _, rfl, rfl, e1_0, e1_8, e1_9, e1_11, e1_12, e1_13, e1_16, e1_17, e1_18, e1_19, e1_20, e1_21, rfl, (hst.pk 11 [1, 1, 1, 1, 1, 1, 1, 1, 1, 0, 0] rfl)⟩
    · refine condF (et rfl rfl) (decide_eq_false c89) ?_
      refine wp_exit ?_
      refine z28 _ _ _ rfl ?_
      obtain rfl := someI hM1
      refine zz1 _ _ _ _ rfl rfl ?_
      exact je1_0 _ _ _ e1_0 e1_8 e1_9 e1_11 e1_12 e1_13 e1_16 e1_17 e1_18 e1_19 e1_20 e1_21 hst (ho1 _ rfl)
end Go.Proofs.YtcknmegldjnjjaaGreatDoor
