/- Walks: each function computes its model, printed. -/
import Derived.Test.YtpfmbaidflhamaaGreatDoorW3
namespace Go.Proofs.YtpfmbaidflhamaaGreatDoor
open Go Sx M
set_option maxRecDepth 100000
set_option maxHeartbeats 40000000
set_option linter.unusedVariables false
attribute [local irreducible] wpList Code.wp Calls DR QR QS LA LS St
variable {w0 : World} {ros : List Fact} {rs : List Res} {w : World}
theorem sparselaw08_square_ok {H : LI} {g : Int} {m : Hdr} {out : (List (List (Bool × LI)))} (j : sparselaw08_square H g = some out) (D : imm I1 m.v H ∈ ros) (b : St w0 ros rs w) :
  Calls Tryz.prog 27 #[m.v, iV g] w (fun e w => ∃ (I : Hdr), e = .returned (I.v) ∧ St w0 ros (row 32 (rS (rP rB (rS (rI .u32)))) I.v out :: rs) w) := by
 refine enterQ Tryz.func27 rfl Tryz.ntmps27 rfl fun Q S => sR fun _ T => Ya hnil.v rfl (wK T (sR fun _ U => Ya hnil.v rfl (wK U (sQ fun _ V => sR fun _ W => ?_))))
 refine Ya (iV 0) rfl (wK W (blockQ fun X Z => bE j fun a0 a3 j => ?_))
 have a4 : ∀ (E : List (List (Bool × LI))) (t : Hdr) (f : FV) w, f 5 = t.v → St w0 ros (row 32 (rS (rP rB (rS (rI .u32)))) t.v E :: rs) w → E = a0 → X (.exit 0) (fr 48 f) w := by
  intro E t f w a5 b ho
  subst ho
  refine Z _ _ _ (V _ _ (sR fun _ a6 => Ym t.v (eh a5) (Ya t.v e0 (wK a6 (wp_ret ?_)))))
  cases j
  exact S _ _ _ (fin1r Tryz.results27 ⟨rfl, rfl⟩ ⟨_, rfl, b⟩)
 replace b := b.rowNh 32 (rS (rP rB (rS (rI .u32))))
 refine loopQ (fun s a w => ∃ (o : List (List (Bool × LI))) (d : Int) (f : FV) (h : Hdr), (o, d) = s ∧ a = fr 48 f ∧ f 0 = m.v ∧ f 1 = iV g ∧ f 5 = h.v ∧ f 6 = iV d ∧ St w0 ros (row 32 (rS (rP rB (rS (rI .u32)))) h.v o :: rs) w) a3 ⟨_, _, _, _, rfl, rfl, rfl, rfl, rfl, rfl, b⟩ ?_
 rintro _ _ w g0 ⟨o, d, f, h, rfl, rfl, a7, J, K, L, b⟩ k a8 g1 a9 b0
 refine seqQ fun g2 b1 b2 => sR fun _ b3 => Ym (iV d) (eh L) (Ym (iV g) (eh J) (yY (ylss e0 e0) (wK b3 ?_)))
 refine cIf e0 k (fun b4 k => ?_) fun b4 k => ?_
 ·refine wp_skip (b1 _ _ (sQ fun _ b5 => blockQ fun _ b6 => sR fun _ b7 => Ya hnil.v rfl (wK b7 (sQ fun _ b8 => sR fun _ b9 => Ya (iV 0) rfl (wN ?_)))))
  refine b9 _ _ (blockQ fun c0 c1 => bE k fun c2 c3 k => ?_)
  have c4 : ∀ (A : List (Bool × LI)) (p : Hdr) (f : FV) w, f 0 = m.v → f 1 = iV g → f 5 = h.v → f 6 = iV d → f 7 = p.v → St w0 ros (row 32 (rS (rP rB (rS (rI .u32)))) h.v o :: row 31 (rP rB (rS (rI .u32))) p.v A :: rs) w → A = c2 → c0 (.exit 2) (fr 48 f) w := by
   intro A p f w c5 c6 c7 c8 c9 b ho
   subst ho
   refine c1 _ _ _ (b8 _ _ (wR (Ym h.v (eh c7) (Ym p.v (eh c9) (yH (rLt (n := 1) (l := [A]) ((b.k10).fz) SL_22 [p.v] (bp1 e0) rfl rfl (mks1 (cs := [p.v]) rfl (mkS F0) mks0)) fun g3 w b => bE k fun g4 d0 k => yH (rAp (b.k10) SL_22 e0 e0 rO1 d0) fun d1 w b => Ya d1.v e0 (wN (b6 _ _ _ (b5 _ _ ?_))))))))
   refine wR (Ym (iV d) (eh c8) (yY (yadd e0 rfl) (Ya (iV (wa .i64 d 1)) e0 (wN ?_))))
   cases k
   exact a9 _ _ _ rfl ⟨_, _, _, _, rfl, rfl, c5, c6, rfl, rfl, ((b.k11).facts (allT allI))⟩
  replace b := b.rowNh 31 (rP rB (rS (rI .u32)))
  refine loopQ (fun s a w => ∃ (u : List (Bool × LI)) (i : Int) (f : FV) (q : Hdr), (u, i) = s ∧ a = fr 48 f ∧ f 0 = m.v ∧ f 1 = iV g ∧ f 5 = h.v ∧ f 6 = iV d ∧ f 7 = q.v ∧ f 8 = iV i ∧ St w0 ros (row 32 (rS (rP rB (rS (rI .u32)))) h.v o :: row 31 (rP rB (rS (rI .u32))) q.v u :: rs) w) c3 ⟨_, _, _, _, rfl, rfl, a7, J, K, L, rfl, rfl, (b.k10)⟩ ?_
  rintro _ _ w d2 ⟨u, i, f, q, rfl, rfl, x, r, F, y, G, z, b⟩ c d3 g5 d4 d5
  refine seqQ fun g6 d6 d7 => sR fun _ d8 => Ym (iV i) (eh z) (Ym (iV g) (eh r) (yY (ylss e0 e0) (wK d8 ?_)))
  refine cIf e0 c (fun d9 c => ?_) fun d9 c => ?_
  ·refine wp_skip (d6 _ _ (sQ fun _ e1 => blockQ fun _ e2 => sR fun _ e3 => Ya (iV 0) rfl (wK e3 (sQ fun e4 e5 => sR fun _ e6 => Ym (iV g) (eh r) (Ym (iV d) (eh y) ?_)))))
   refine yY (ymul e0 e0) (Ym (iV i) (eh z) (yY (yadd e0 e0) (Ym m.v (eh x) (yY (yLen SL_48 e0 b (rdI D)) (yY (ylss e0 e0) (wK e6 ?_))))))
   have N : ∀ (B : Int) (f : FV) w, f 0 = m.v → f 1 = iV g → f 5 = h.v → f 6 = iV d → f 7 = q.v → f 8 = iV i → f 9 = iV B → St w0 ros (row 32 (rS (rP rB (rS (rI .u32)))) h.v o :: row 31 (rP rB (rS (rI .u32))) q.v u :: rs) w → sparselaw08_square_j13 u i B = some d2 → e4 .normal (fr 48 f) w := by
    intro B f w e7 e8 e9 f0 f1 f2 f3 b j
    refine e5 _ _ (wR (Ym q.v (eh f1) (Ym (iV B) (eh f3) (bE j fun C f4 j => yC (yCall FN_50 (a1 e0)) (sparselaw08_num_ok f4 b) ?_))))
    rintro _ w ⟨O, rfl, b⟩
    refine ⟨_, rfl, ?_⟩
    refine yH (rLt (n := 1) (l := [(C.1, C.2)]) b.fz SL_32 [.agg #[.bool C.1, O.v]] (bp1 e0) rfl rfl (mks1 (cs := [.bool C.1, O.v]) rfl (mkP mkB (mkS F0)) mks0)) fun g7 w b => bE j fun g8 f5 j => yH (rAp (b.k1f) SL_32 e0 e0 rO1 f5) fun f6 w b => Ya f6.v e0 (wN (e2 _ _ _ (e1 _ _ (wR (Ym (iV i) (eh f2) (yY (yadd e0 rfl) (Ya (iV (wa .i64 i 1)) e0 (wN ?_))))))))
    cases j
    exact d4 _ _ _ rfl ⟨_, _, _, _, rfl, rfl, e7, e8, e9, f0, rfl, rfl, ((b.k2d).facts (allT allI))⟩
   refine cIf e0 c (fun f7 c => ?_) fun f7 c => ?_
   ·refine wR (Ym m.v (eh x) (Ym (iV g) (eh r) (Ym (iV d) (eh y) (yY (ymul e0 e0) (Ym (iV i) (eh z) (yY (yadd e0 e0) (bE c fun g9 R c => yY (yIa SL_48 e0 e0 b (rdI D) R) (yY (yI O_3 e0 b (rdI D) R) (bE c fun f8 f9 c => yC (yCall FN_26 (a2 e0 rfl)) (sparsekit_Place_ok f9 b) ?_)))))))))
    rintro _ w ⟨rfl, b⟩
    refine ⟨_, rfl, ?_⟩
    exact yY (ysub e0 rfl) (Ya (iV (ws .i64 f8 100)) e0 (wN (N _ _ _ x r F y G z rfl b c)))
   ·exact wp_skip (N _ _ _ x r F y G z rfl b c)
  ·refine wp_exit (d7 _ _ _ rfl ?_)
   cases c
   exact d5 _ _ _ _ rfl rfl (c4 _ _ _ _ x r F y G b (d3 _ rfl))
 ·refine wp_exit (b2 _ _ _ rfl ?_)
  cases k
  exact b0 _ _ _ _ rfl rfl (a4 _ _ _ _ K b (a8 _ rfl))
theorem integer_GCD_ok {n : Bool} {x : LI} {o : Bool} {y : LI} {j h : Hdr} {out : Bool × LI} (c : integer_GCD n x o y = some out) (F : imm (rI .u32) j.v x ∈ ros) (G : imm (rI .u32) h.v y ∈ ros) (b : St w0 ros rs w) :
  Calls Tryz.prog 44 #[.agg #[.bool n, j.v], .agg #[.bool o, h.v]] w (fun e w => ∃ (z : Hdr), e = .returned (.agg #[.bool out.1, z.v]) ∧ St w0 (imm (rI .u32) z.v out.2 :: ros) rs w) := by
 refine enterQ Tryz.func44 rfl Tryz.ntmps44 rfl fun Q H => sR fun _ I => yBb (r_box (vals := [.bool n, j.v]) b e0 rfl) fun b5 w b => yBb (r_box (vals := [.bool o, h.v]) b e0 rfl) fun b6 w b => yBb (rAl b ZT_31) fun k w b => wK I (sQ fun _ J => bE c fun c0 K c => bE c fun c1 L c => ?_)
 refine bE c fun c2 N c => bE c fun c3 O c => dR [0, 1, 3, 7, 0, 16, 63, 127, 255, 511] [2, 3, 6, 7, 8, 9] 6 folM ?_
 replace b := b.drew
 refine Dn [0, 1, 4, 5] [] [2] (yR rfl (yFb FL_31_1 e0) (yR rfl (lb_ j.v O_29 e0 b R2) (yR rfl (yFb FL_31_1 e0) (yR rfl (lb_ h.v O_29 e0 b R1) (Rn QSn ?_)))))
 refine Lc1 rfl ?_
 refine Lk wn (yCall FN_73 (a1 e0)) (integer_trim_ok K F b) ?_
 rintro _ w ⟨c4, rfl, b⟩
 refine ⟨_, rfl, ?_⟩
 refine Dn [] [4, 5] [3] (Rn (yS rfl (yFb FL_31_1 e0) (yS rfl (lb_ h.v O_29 e0 b R1) QSn)) ?_)
 refine Lc1 rfl ?_
 refine Lk wn (yCall FN_92 (a1 e0)) (slices_Clone_uint32_ok L F0 b) ?_
 rintro _ w ⟨R, rfl, b⟩
 refine ⟨_, rfl, ?_⟩
 refine Dn [] [4, 5] [6] (Rn (yS rfl (yFb FL_31_1 e0) (yS rfl (lb_ h.v O_29 e0 b R2) QSn)) ?_)
 refine Lc1 rfl ?_
 refine Lk wn (yCall FN_73 (a1 e0)) (integer_trim_ok N (mtF G) b) ?_
 rintro _ w ⟨c5, rfl, b⟩
 refine ⟨_, rfl, ?_⟩
 refine Dn [] [] [7] (Rn QSn ?_)
 refine Lc1 rfl ?_
 refine Lk wn (yCall FN_92 (a1 e0)) (slices_Clone_uint32_ok O F0 b) ?_
 rintro _ w ⟨S, rfl, b⟩
 refine ⟨_, rfl, ?_⟩
 refine Dn [] [] [8] (Rn QSn ?_)
 refine Lc1 rfl ?_
 refine Ly wn (a_ R.v e0) (Dn [] [] [9] (Rn QSn ?_))
 refine Lc1 rfl ?_
 refine Ly wn (a_ S.v e0) (Dz [] [] (Rn QSn (J _ _ (sQ fun _ T => blockQ fun U V => bE c fun W X c => ?_))))
 have Z : ∀ (p : LI) (l : Hdr) (f : FV) w, f 4 = (pB k) → f 5 = l.v → St w0 (imm (rI .u32) l.v p :: ros) (box k 31 [.bool false, hnil.v] :: rs) w → p = W → U (.exit 0) (fr 30 f) w := by
  intro p l f w A a0 b ho
  subst ho
  refine V _ _ _ (T _ _ (sR fun _ a3 => Ym l.v (eh a0) (bE c fun B a4 c => yC (yCall FN_76 (a2 rfl e0)) (integer_big_ok a4 F0 b) ?_)))
  rintro _ w ⟨C, rfl, b⟩
  refine ⟨_, rfl, ?_⟩
  refine yT (r_stbn (vals' := [.bool B.1, C.v]) (us := [.bool B.1, C.v]) b ST_31 (eh A) e0 rfl rfl (one_of rfl) rfl) fun w b => wK a3 (wp_ret ?_)
  cases c
  exact H _ _ _ (fin1r Tryz.results44 (rcs2 rfl A b R0 ST_31 rfl) ⟨_, rfl, ((b.k13).facts (allC F0 (allT (allT allI))))⟩)
 replace b := ((b.k10).fz).fz
 refine loopQ (fun s a w => ∃ (q r : LI) (f : FV) (m d : Hdr), (q, r) = s ∧ a = fr 30 f ∧ f 4 = (pB k) ∧ f 5 = m.v ∧ f 6 = d.v ∧ St w0 (imm (rI .u32) m.v q :: imm (rI .u32) d.v r :: ros) (box k 31 [.bool false, hnil.v] :: rs) w) X ⟨_, _, _, _, _, rfl, rfl, rfl, rfl, rfl, ((b.k2a).facts (allC F1 (allC F0 (allT (allT (allT (allT allI)))))))⟩ ?_
 rintro _ _ w c6 ⟨q, r, f, m, d, rfl, rfl, D, E, t, b⟩ g a5 c7 a6 a7
 refine seqQ fun c8 a8 a9 => sR fun _ b0 => Ym d.v (eh t) (yY (yLen SL_29 e0 b (rdI F1)) (yY (ygtr e0 rfl) (wK b0 ?_)))
 refine cIf e0 g (fun b1 g => ?_) fun b1 g => ?_
 ·refine wp_skip (a8 _ _ (blockQ fun _ b2 => sR fun _ b3 => Ym m.v (eh E) (Ym d.v (eh t) (bE g fun c9 b4 g => yC (yCall FN_93 (a2 e0 e0)) (integer_divide_ok b4 F0 F1 b) ?_))))
  rintro _ w ⟨u, i, rfl, b⟩
  refine ⟨_, rfl, ?_⟩
  refine Ym (.tuple #[u.v, i.v]) e0 (yY (x_ u.v e0) (yY (x_ i.v e0) (Ya u.v e0 (Ya i.v e0 (wK b3 (wR (Ym d.v (eh t) (Ym i.v e0 (Ya d.v e0 (Ya i.v e0 (wN (b2 _ _ _ ?_))))))))))))
  cases g
  exact a6 _ _ _ rfl ⟨_, _, _, _, _, rfl, rfl, D, rfl, rfl, (b.facts (allC F3 (allC F1 (allT (allT (allT (allT allI)))))))⟩
 ·refine wp_exit (a9 _ _ _ rfl ?_)
  cases g
  exact a7 _ _ _ _ rfl rfl (Z _ _ _ _ D E (b.facts (allC F0 (allT (allT allI)))) (a5 _ rfl))
theorem exact_Kernel_ok {b0 : List (List (Bool × LI))} {D : Hdr} {out : (List (Bool × LI)) × Int} (c : exact_Kernel b0 = some out) (U : imm (rS (rP rB (rS (rI .u32)))) D.v b0 ∈ ros) (b : St w0 ros rs w) :
  Calls Tryz.prog 36 #[D.v] w (fun e w => ∃ (b1 : Hdr), e = .returned (.tuple #[b1.v, iV out.2]) ∧ St w0 ros (row 31 (rP rB (rS (rI .u32))) b1.v out.1 :: rs) w) := by
 refine enterQ Tryz.func36 rfl Tryz.ntmps36 rfl fun Q V => sR fun _ d7 => Ya hnil.v rfl (Ya (iV 0) rfl (wK d7 (sR fun _ d8 => Ym D.v e0 (bE c fun I d9 c => yC (yCall FN_64 (a1 e0)) (exact_check_ok d9 U b) ?_))))
 rintro _ w ⟨rfl, b⟩
 refine ⟨_, rfl, ?_⟩
 refine Ya (iV I) e0 (wK d8 (seqQ fun o7 e1 e2 => sR fun _ e3 => Ym (iV I) e0 (yY (yneq e0 rfl) (wK e3 ?_))))
 rcases iteS c with ⟨W, c⟩ | ⟨W, c⟩
 ·refine condF e0 (nF (dT W)) (wp_skip (e1 _ _ (sR fun _ e4 => Ym D.v e0 (bE c fun r e5 c => yC (yCall FN_65 (a1 e0)) (exact_columns_ok e5 U b) ?_))))
  rintro _ w ⟨rfl, b⟩
  refine ⟨_, rfl, ?_⟩
  refine Ya (iV r) e0 (wK e4 (sR fun _ e6 => Ym D.v e0 (bE c fun o8 e7 c => ?_)))
  replace b := b.immNh (rP rB (rS (rI .u32)))
  refine yC (yCall FN_54 (a2 e0 rfl)) (exact_twin_ok e7 (mtF U) F0 b) ?_
  rintro _ w ⟨k, o9, rfl, b⟩
  refine ⟨_, rfl, ?_⟩
  refine Ym (iV r) e0 (bE c fun d e8 c => yC (yCall FN_61 (a2 e0 e0)) (exact_eliminate_ok e8 b) ?_)
  rintro _ w ⟨y, j, l, rfl, b⟩
  refine ⟨_, rfl, ?_⟩
  refine yBb (rAl b ZT_86) fun p w b => yT (r_stbn (vals' := [k.v, j.v, .bool d.2.2.1, l.v, iV d.2.2.2.2]) (us := [k.v, j.v, .bool d.2.2.1, l.v, iV d.2.2.2.2]) b ST_86 e0 e0 rfl rfl (one_of rfl) rfl) fun w b => wK e6 (sR fun _ e9 => Ya (iV 0) rfl (wK e9 (sQ fun _ f0 => blockQ fun f1 f2 => bE c fun f3 f4 c => ?_)))
  have f5 : ∀ (q : Int) (f : FV) w, f 5 = iV r → f 6 = (pB p) → f 7 = iV q → St w0 (imm (rI .u32) l.v d.2.2.2.1 :: ros) (row 32 rH k.v y :: fam 31 (rP rB (rS (rI .u32))) y d.1 :: row 3 I1 j.v d.2.1 :: box p 86 [k.v, j.v, .bool d.2.2.1, l.v, iV d.2.2.2.2] :: rs) w → q = f3 → f1 (.exit 0) (fr 103 f) w := by
   intro q f w b2 X J b ho
   subst ho
   refine f2 _ _ _ (f0 _ _ (seqQ fun p0 f6 f7 => sR fun _ f8 => Ym (iV q) (eh J) (Ym (iV r) (eh b2) (yY (yeql e0 e0) (wK f8 ?_)))))
   refine cIf e0 c (fun f9 c => ?_) fun f9 c => ?_
   ·refine sR fun _ g0 => Ya hnil.v rfl (Ya (iV 0) rfl (wK g0 (wp_ret (f7 _ _ _ rfl ?_))))
    cases c
    replace b := b.rowNh 31 (rP rB (rS (rI .u32)))
    exact V _ _ _ (fin2r Tryz.results36 ⟨rfl, rfl⟩ ⟨rfl, rfl⟩ ⟨_, rfl, ((b.k2e).facts (allT allI))⟩)
   ·refine wp_skip (f6 _ _ (sR fun _ g1 => Ym (iV r) (eh b2) (bE c fun p1 g2 c => yH (rMk b SL_32 e0 g2) fun g w b => Ya g.v e0 (wK g1 (sR fun _ g3 => Ym g.v e0 ?_)))))
    refine Ym (iV q) (eh J) (yY (yFb FL_86_2 (eh X)) (yY (lbs_ [.bool d.2.2.1, l.v] ST_31 e0 b R4) (bE c fun g4 g5 c => yC (yCall FN_63 (a1 e0)) (integer_Abs_ok g5 F0 b) ?_)))
    rintro _ w ⟨g6, rfl, b⟩
    refine ⟨_, rfl, ?_⟩
    refine bE c fun p2 b3 c => yY (yIs SL_32 e0 e0 b rO0 b3) (yT (r_stn (cs := [.bool g4.1, g6.v]) b ST_31 e0 e0 rfl (mkP mkB (mkS F0)) b3) fun w b => wK g3 (sR fun _ g7 => Ym g.v e0 (Ym (iV q) (eh J) (bE c fun Z b4 c => yY (yIa SL_32 e0 e0 b rO0 b4) ?_))))
    obtain ⟨p3, p4, cc38, b⟩ := b.ld rO0 b4
    replace b := b.eltP
    obtain ⟨p5, p6, rfl, b⟩ := b
    replace b := b.eltB
    obtain ⟨rfl, b⟩ := b
    replace b := b.eltS
    obtain ⟨a0, rfl, b⟩ := b
    refine yY (yCn (cs := [.bool Z.1, a0.v]) ST_31 rfl e0 cc38) (yBb (rAl b ZT_31) fun z w b => yT (r_stbn (vals' := [.bool Z.1, a0.v]) (us := [.bool Z.1, a0.v]) b ST_31 e0 e0 rfl rfl (one_of rfl) rfl) fun w b => wK g7 (sQ fun _ g8 => sR fun _ g9 => yY (yFb FL_86_1 (eh X)) (yY (lb_ j.v O_48 e0 b R5) (yY (yLen SL_48 e0 b rO4) (Ym (iV 0) rfl ?_)))))
    refine wK g9 (blockQ fun h0 h1 => bE c fun h3 h4 c => ?_)
    have h5 : ∀ (K : List (Bool × LI)) (E : Bool) (L : LI) (A : Hdr) (f : FV) w, f 8 = g.v → f 9 = (pB z) → St w0 (imm (rI .u32) A.v L :: ros) (row 31 (rP rB (rS (rI .u32))) g.v K :: box z 31 [.bool E, A.v] :: rs) w → (K, E, L) = h3 → h0 (.exit 2) (fr 103 f) w := by
     intro K E L A f w b5 h6 b ho
     subst ho
     refine h1 _ _ _ (g8 _ _ (sQ fun _ h8 => sR fun _ h9 => Ym g.v (eh b5) (yY (yLen SL_32 e0 b rO0) (Ym (iV 0) rfl (wK h9 (blockQ fun i0 i1 => bE c fun i2 i3 c => ?_))))))
     have i4 : ∀ (a3 : List (Bool × LI)) (f : FV) w, f 8 = g.v → St w0 ros (row 31 (rP rB (rS (rI .u32))) g.v a3 :: rs) w → a3 = i2 → i0 (.exit 4) (fr 103 f) w := by
      intro a3 f w i5 b ho
      subst ho
      refine i1 _ _ _ (h8 _ _ (sR fun _ i6 => Ym g.v (eh i5) (Ya g.v e0 (Ya (iV 0) rfl (wK i6 (wp_ret ?_))))))
      cases c
      exact V _ _ _ (fin2r Tryz.results36 ⟨rfl, rfl⟩ ⟨rfl, rfl⟩ ⟨_, rfl, b⟩)
     refine loopQ (fun s a w => ∃ (a4 : List (Bool × LI)) (o : Int) (f : FV), (a4, o) = s ∧ a = fr 103 f ∧ f 8 = g.v ∧ f 9 = (pB z) ∧ f 85 = iV (K.length : Int) ∧ f 86 = iV o ∧ St w0 (imm (rI .u32) A.v L :: ros) (row 31 (rP rB (rS (rI .u32))) g.v a4 :: box z 31 [.bool E, A.v] :: rs) w) i3 ⟨_, _, _, rfl, rfl, b5, h6, rfl, rfl, b⟩ ?_
     rintro _ _ w p7 ⟨a4, o, f, rfl, rfl, F, b6, b7, a5, b⟩ m i7 p8 i8 i9
     refine sR fun _ j0 => yY (ylss (eh a5) (eh b7)) (wK j0 (seqQ fun p9 j1 j2 => ?_))
     refine cIf e0 m (fun j3 m => ?_) fun j3 m => ?_
     ·refine wp_skip (j1 _ _ (sQ fun _ j4 => blockQ fun _ j5 => sR fun _ j7 => Ym (iV o) (eh a5) (Ya (iV o) e0 (wK j7 (bE m fun j8 b8 m => bE m fun B j9 m => bE m fun q0 b9 m => dR [0, 0, 0, 0, 12, 28, 0, 124, 252, 508, 508, 1023, 3071] [7, 12] 2 folM ?_)))))
      replace b := b.drew
      refine Dn [0, 1, 2, 3, 4, 5, 6] [] [7] (yR rfl (m_ g.v (eh F)) (yR rfl (m_ (iV o) e0) (yR rfl (m_ g.v (eh F)) (yR rfl (m_ (iV o) e0) (yR rfl (yIa SL_32 e0 e0 b rO0 b8) ?_)))))
      obtain ⟨q2, q3, cc127, b⟩ := b.ld rO0 b8
      replace b := b.eltP
      obtain ⟨q4, q5, rfl, b⟩ := b
      replace b := b.eltB
      obtain ⟨rfl, b⟩ := b
      replace b := b.eltS
      obtain ⟨k0, rfl, b⟩ := b
      refine yR rfl (yCn (cs := [.bool j8.1, k0.v]) ST_31 rfl e0 cc127) (yR rfl (lbs_ [.bool E, A.v] ST_31 (eh b6) b R1) (Rn QSn ?_))
      refine Lc1 rfl ?_
      refine Lk wn (yCall FN_81 (a2 e0 e0)) (integer_Quo_ok j9 F0 F1 b) ?_
      rintro _ w ⟨a6, rfl, b⟩
      refine ⟨_, rfl, ?_⟩
      refine Dn [8, 9, 10, 11] [0, 1] [12] (yR rfl (m_ (.tuple #[.agg #[.bool B.1, a6.v], iV B.2.2]) e0) (yR rfl (x_ (.agg #[.bool B.1, a6.v]) e0) (yR rfl (x_ (iV B.2.2) e0) (yR rfl (yIs SL_32 e0 e0 b rO0 b9) (Rn (yS rfl (m_ g.v (eh F)) (yS rfl (m_ (iV o) e0) QSn)) ?_)))))
      refine Lc1 rfl ?_
      refine LT wn (r_stn (cs := [.bool B.1, a6.v]) b ST_31 e0 e0 rfl (mkP mkB (mkS F0)) b9) fun w b => Dz [] [10] (Rn (yS rfl (x_ (iV B.2.2) e0) QSn) (j5 _ _ _ (j4 _ _ (wR (yY (yadd (eh a5) rfl) (Ym (iV (wa .i64 o 1)) e0 (wN ?_)))))))
      cases m
      exact i8 _ _ _ rfl ⟨_, _, _, rfl, rfl, F, b6, b7, rfl, (b.facts (allC F2 (allT (allT (allT allI)))))⟩
     ·refine wp_exit (j2 _ _ _ rfl ?_)
      cases m
      exact i9 _ _ _ _ rfl rfl (i4 _ _ _ F ((b.k11).facts (allT allI)) (i7 _ rfl))
    replace b := (((b.k1v).ffz).k1f).fz
    refine loopQ (fun s a w => ∃ (a7 : List (Bool × LI)) (N : Bool) (a8 : LI) (t : Int) (f : FV) (O : Hdr), (a7, N, a8, t) = s ∧ a = fr 103 f ∧ f 6 = (pB p) ∧ f 7 = iV q ∧ f 8 = g.v ∧ f 9 = (pB z) ∧ f 56 = j.v ∧ f 57 = iV (d.2.1.length : Int) ∧ f 58 = iV t ∧ St w0 (imm (rS (rP rB (rS (rI .u32)))) k.v d.1 :: imm I1 j.v d.2.1 :: imm (rI .u32) l.v d.2.2.2.1 :: imm (rI .u32) O.v a8 :: ros) (box p 86 [k.v, j.v, .bool d.2.2.1, l.v, iV d.2.2.2.2] :: row 31 (rP rB (rS (rI .u32))) g.v a7 :: box z 31 [.bool N, O.v] :: rs) w) h4 ⟨_, _, _, _, _, _, rfl, rfl, X, J, rfl, rfl, rfl, rfl, rfl, ((b.k2c).facts (allC F1 (allC F0 (allC F4 (allC F2 (allT (allT (allT (allT (allT allI))))))))))⟩ ?_
    rintro _ _ w q6 ⟨a7, N, a8, t, f, O, rfl, rfl, a9, c0, C, R, c1, c2, S, b⟩ h k9 q7 l0 l1
    refine sR fun _ l2 => yY (ylss (eh S) (eh c2)) (wK l2 (seqQ fun q8 l3 l4 => ?_))
    refine cIf e0 h (fun l5 h => ?_) fun l5 h => ?_
    ·refine wp_skip (l3 _ _ (sQ fun _ l6 => blockQ fun _ l7 => sR fun _ l8 => Ym (iV t) (eh S) (bE h fun G c3 h => yY (yIa SL_48 (eh c1) (eh S) b (rdI F1) c3) (yY (yI O_3 e0 b (rdI F1) c3) (Ya (iV t) e0 (Ya (iV G) e0 (wK l8 ?_)))))))
     refine sQ fun _ l9 => bE h fun q9 c5 h => bE h fun m0 c6 h => bE h fun r0 m1 h => bE h fun m2 m3 h => bE h fun r1 c7 h => dR [0, 0, 0, 0, 8, 0, 56, 120, 0, 504, 1016, 2044, 4092, 8191, 16383] [11, 12, 14] 3 folM ?_
     replace b := b.drew
     refine Dn [0, 1, 2, 3, 4, 5, 6, 7, 8, 9, 10] [] [11] (yR rfl (m_ g.v (eh C)) (yR rfl (m_ (iV G) e0) (yR rfl (lbs_ [k.v, j.v, .bool d.2.2.1, l.v, iV d.2.2.2.2] ST_86 (eh a9) b R0) (yR rfl (yFb FL_86_0 (eh a9)) (yR rfl (lb_ k.v O_22 e0 b R0) (yR rfl (m_ (iV t) e0) (yR rfl (yIa SL_22 e0 e0 b (rdI F0) c5) ?_)))))))
     obtain ⟨r2, b⟩ := iLs b F0 c5
     refine yR rfl (yCt O_32 e0 b F1 rfl) (yR rfl (m_ (iV q) (eh c0)) (yR rfl (yIa SL_32 e0 e0 b (rdI F0) c6) ?_))
     obtain ⟨r4, r7, b⟩ := iLd b F0 c6
     obtain ⟨r8, s0, rfl, b⟩ := b.eltP
     obtain ⟨rfl, b⟩ := b.eltB
     obtain ⟨m4, rfl, b⟩ := b.eltS
     refine yR rfl (yCtn (cs := [.bool m0.1, m4.v]) ST_31 rfl e0 b F1) (Rn QSn ?_)
     refine Lc1 rfl ?_
     refine Lk wn (yCall FN_62 (a2 e0 e0)) (exact_reduced_turned_ok m1 F4 F5 F6 F0 b) ?_
     rintro _ w ⟨s1, rfl, b⟩
     refine ⟨_, rfl, ?_⟩
     refine Dn [] [0, 1] [12] (Rn (yS rfl (m_ g.v (eh C)) (yS rfl (m_ (iV G) e0) QSn)) ?_)
     refine Lc1 rfl ?_
     refine Lk wn (yCall FN_80 (a1 e0)) (integer_Neg_ok m3 F0 b) ?_
     rintro _ w ⟨m5, rfl, b⟩
     refine ⟨_, rfl, ?_⟩
     refine Dn [13] [0, 1] [14] (yR rfl (yIs SL_32 e0 e0 b rO1 c7) (Rn (yS rfl (m_ g.v (eh C)) (yS rfl (m_ (iV G) e0) QSn)) ?_))
     refine Lc1 rfl ?_
     replace b := b.k10
     refine LT wn (r_stn (cs := [.bool m2.1, m5.v]) b ST_31 e0 e0 rfl (mkP mkB (mkS F0)) c7) fun w b => Dz [] [] (Rn QSn (l9 _ _ (bE h fun m6 c8 h => bE h fun c9 m7 h => dR [0, 0, 0, 6, 14, 31, 63] [5, 6] 2 folM ?_)))
     replace b := b.drew
     refine Dn [0, 1, 2, 3, 4] [] [5] (yR rfl (lbs_ [.bool N, O.v] ST_31 (eh R) b R2) (yR rfl (m_ g.v (eh C)) (yR rfl (m_ (iV G) e0) (yR rfl (yIa SL_32 e0 e0 b rO0 c8) ?_))))
     obtain ⟨s2, s3, cc148, b⟩ := b.ld rO0 c8
     replace b := b.eltP
     obtain ⟨s4, s5, rfl, b⟩ := b
     replace b := b.eltB
     obtain ⟨rfl, b⟩ := b
     replace b := b.eltS
     obtain ⟨m8, rfl, b⟩ := b
     refine yR rfl (yCn (cs := [.bool m6.1, m8.v]) ST_31 rfl e0 cc148) (Rn QSn ?_)
     refine Lc1 rfl ?_
     refine Lk wn (yCall FN_44 (a2 e0 e0)) (integer_GCD_ok m7 F10 F0 b) ?_
     rintro _ w ⟨d0, rfl, b⟩
     refine ⟨_, rfl, ?_⟩
     refine Dn [] [] [6] (Rn QSn ?_)
     refine Lc1 rfl ?_
     replace b := b.k1f
     refine LT wn (r_stbn (vals' := [.bool c9.1, d0.v]) (us := [.bool c9.1, d0.v]) b ST_31 (eh R) e0 rfl rfl (one_of rfl) rfl) fun w b => Dz [] [] (Rn QSn (l7 _ _ _ (l6 _ _ (wR (yY (yadd (eh S) rfl) (Ym (iV (wa .i64 t 1)) e0 (wN ?_)))))))
     cases h
     exact l0 _ _ _ rfl ⟨_, _, _, _, _, _, rfl, rfl, a9, c0, C, R, c1, c2, rfl, ((b.k2c).facts (allC F8 (allC F9 (allC F10 (allC F0 (allT (allT (allT (allT (allT (allT (allT (allT (allT (allT (allT (allT allI)))))))))))))))))⟩
    ·refine wp_exit (l4 _ _ _ rfl ?_)
     cases h
     exact l1 _ _ _ _ rfl rfl (h5 _ _ _ _ _ _ C R ((b.k2f).facts (allC F3 (allT (allT (allT (allT allI)))))) (k9 _ rfl))
  refine loopQ (fun s a w => ∃ (n : Int) (f : FV), n = s ∧ a = fr 103 f ∧ f 5 = iV r ∧ f 6 = (pB p) ∧ f 7 = iV n ∧ St w0 (imm (rI .u32) l.v d.2.2.2.1 :: ros) (row 32 rH k.v y :: fam 31 (rP rB (rS (rI .u32))) y d.1 :: row 3 I1 j.v d.2.1 :: box p 86 [k.v, j.v, .bool d.2.2.1, l.v, iV d.2.2.2.2] :: rs) w) f4 ⟨_, _, rfl, rfl, rfl, rfl, rfl, ((b.k1o).facts (allC F0 (allT (allT allI))))⟩ ?_
  rintro _ _ w s6 ⟨n, f, rfl, rfl, d1, T, H, b⟩ u m9 s7 n0 n1
  refine seqQ fun s8 n2 n6 => sR fun _ n7 => Ym (iV n) (eh H) (yY (yFb FL_86_1 (eh T)) (yY (lb_ j.v O_48 e0 b R3) (yY (yLen SL_48 e0 b rO2) (yY (ylss e0 e0) (Ym (.bool (decide (n < (d.2.1.length : Int)))) e0 (bE u fun n8 x u => ?_))))))
  refine joinW 8 (fun f w => f 5 = iV r ∧ f 6 = (pB p) ∧ f 7 = iV n ∧ f 37 = .bool n8 ∧ St w0 (imm (rI .u32) l.v d.2.2.2.1 :: ros) (row 32 rH k.v y :: fam 31 (rP rB (rS (rI .u32))) y d.1 :: row 3 I1 j.v d.2.1 :: box p 86 [k.v, j.v, .bool d.2.2.1, l.v, iV d.2.2.2.2] :: rs) w) (fun d2 => ?_) ?_
  ·rcases iteS x with ⟨i, x⟩ | ⟨i, x⟩
   ·refine yG (dT i) (yFb FL_86_1 (eh T)) (yG (dT i) (lb_ j.v O_48 e0 b R3) (yG (dT i) (m_ (iV n) (eh H)) (bE x fun n9 d3 x => yG (dT i) (yIa SL_48 e0 e0 b rO2 d3) (yG (dT i) (yI O_3 e0 b rO2 d3) (yG (dT i) (m_ (iV n) (eh H)) (yG (dT i) (yeql e0 e0) (yY (pt_ (.bool (decide (n9 = n))) e0 (dT i) e0) ?_)))))))
    cases x
    exact d2 _ _ ⟨d1, T, H, rfl, b⟩
   ·refine gN (dF i) (gN (dF i) (gN (dF i) (gN (dF i) (gN (dF i) (gN (dF i) (gN (dF i) (yY (pf_ (.bool false) e0 (dF i) rfl) ?_)))))))
    cases x
    exact d2 _ _ ⟨d1, T, H, rfl, b⟩
  rintro f w ⟨d4, d5, d6, o0, b⟩
  refine wK n7 (cB (eh o0) u (fun o1 u => ?_) fun o1 u => ?_)
  ·refine wp_skip (n2 _ _ (blockQ fun _ o2 => wR (Ym (iV n) (eh d6) (yY (yadd e0 rfl) (Ya (iV (wa .i64 n 1)) e0 (wN (o2 _ _ _ ?_)))))))
   cases u
   exact n0 _ _ _ rfl ⟨_, _, rfl, rfl, d4, d5, rfl, b⟩
  ·refine wp_exit (n6 _ _ _ rfl ?_)
   cases u
   exact n1 _ _ _ _ rfl rfl (f5 _ _ _ d4 d5 d6 b (m9 _ rfl))
 ·refine condT e0 (nT (dF W)) (sR fun _ o6 => Ym (iV I) e0 (Ya hnil.v rfl (Ya (iV I) e0 (wK o6 (wp_ret (e2 _ _ _ rfl ?_))))))
  cases c
  replace b := b.rowNh 31 (rP rB (rS (rI .u32)))
  exact V _ _ _ (fin2r Tryz.results36 ⟨rfl, rfl⟩ ⟨rfl, rfl⟩ ⟨_, rfl, b⟩)
theorem exact_Rank_ok {i : List (List (Bool × LI))} {c : Hdr} {out : Int × Int} (a : exact_Rank i = some out) (f : imm (rS (rP rB (rS (rI .u32)))) c.v i ∈ ros) (b : St w0 ros rs w) :
  Calls Tryz.prog 28 #[c.v] w (fun e w => e = .returned (.tuple #[iV out.1, iV out.2]) ∧ St w0 ros rs w) := by
 refine enterQ Tryz.func28 rfl Tryz.ntmps28 rfl fun Q j => sR fun _ k => Ya (iV 0) rfl (Ya (iV 0) rfl (wK k (sR fun _ l => Ym c.v e0 (bE a fun d m a => yC (yCall FN_64 (a1 e0)) (exact_check_ok m f b) ?_))))
 rintro _ w ⟨rfl, b⟩
 refine ⟨_, rfl, ?_⟩
 refine Ya (iV d) e0 (wK l (seqQ fun A n o => sR fun _ p => Ym (iV d) e0 (yY (yneq e0 rfl) (wK p ?_))))
 rcases iteS a with ⟨g, a⟩ | ⟨g, a⟩
 ·refine condF e0 (nF (dT g)) (wp_skip (n _ _ (sR fun _ q => Ym c.v e0 (bE a fun B r a => ?_))))
  replace b := b.immNh (rP rB (rS (rI .u32)))
  refine yC (yCall FN_54 (a2 e0 rfl)) (exact_twin_ok r (mtF f) F0 b) ?_
  rintro _ w ⟨s, C, rfl, b⟩
  refine ⟨_, rfl, ?_⟩
  refine Ym c.v e0 (bE a fun D t a => yC (yCall FN_65 (a1 e0)) (exact_columns_ok t (mtF f) b) ?_)
  rintro _ w ⟨rfl, b⟩
  refine ⟨_, rfl, ?_⟩
  refine bE a fun h u a => yC (yCall FN_61 (a2 e0 e0)) (exact_eliminate_ok u b) ?_
  rintro _ w ⟨E, x, y, rfl, b⟩
  refine ⟨_, rfl, ?_⟩
  refine yY (yFv (cs := [s.v, x.v, .bool h.2.2.1, y.v, iV h.2.2.2.2]) FV_86_1 e0 rfl) (yY (yLen SL_48 e0 b rO2) (Ya (iV (h.2.1.length : Int)) e0 (Ya (iV 0) rfl (wK q (wp_ret ?_)))))
  cases a
  exact j _ _ _ (fin2r Tryz.results28 ⟨rfl, rfl⟩ ⟨rfl, rfl⟩ ⟨rfl, ((b.k1c).facts (allT (allT allI)))⟩)
 ·refine condT e0 (nT (dF g)) (sR fun _ z => Ym (iV d) e0 (Ya (iV 0) rfl (Ya (iV d) e0 (wK z (wp_ret (o _ _ _ rfl ?_))))))
  cases a
  exact j _ _ _ (fin2r Tryz.results28 ⟨rfl, rfl⟩ ⟨rfl, rfl⟩ ⟨rfl, b⟩)
theorem sparseref01_Norm_ok {b : Bool} {f : LI} {c : Hdr} {out : Bool × LI} (d : sparseref01_Norm b f = some out) (j : imm (rI .u32) c.v f ∈ ros) (a : St w0 ros rs w) :
  Calls Tryz.prog 78 #[.agg #[.bool b, c.v]] w (fun e w => ∃ (g : Hdr), e = .returned (.agg #[.bool out.1, g.v]) ∧ St w0 ros (row 103 (rI .u32) g.v out.2 :: rs) w) := by
 refine enterQ Tryz.func78 rfl Tryz.ntmps78 rfl fun Q k => sR fun _ l => yBb (r_box (vals := [.bool b, c.v]) a e0 rfl) fun o w a => yBb (rAl a ZT_31) fun p w a => wK l (sR fun _ m => yY (yFb FL_31_0 e0) (yY (lb_ (.bool b) O_4 e0 a R1) (yY (yFb FL_31_1 e0) ?_)))
 refine yY (lb_ c.v O_29 e0 a R1) (bE d fun h n d => yC (yCall FN_110 (a2 e0 e0)) (sparseref01_make1_ok n j a) ?_)
 rintro _ w ⟨i, rfl, a⟩
 refine ⟨_, rfl, ?_⟩
 refine yT (r_stbn (vals' := [.bool h.1, i.v]) (us := [.bool h.1, i.v]) (a.k10) ST_31 e0 e0 rfl rfl (one_of rfl) rfl) fun w a => wK m (wp_ret ?_)
 cases d
 exact k _ _ _ (fin1r Tryz.results78 (rcs2 rfl rfl a R0 ST_31 rfl) ⟨_, rfl, (a.k1u)⟩)
theorem sparseref01_Int_ok {m : Bool} {t : LI} {n : Hdr} {out : Int × Bool} (c : sparseref01_Int m t = some out) (z : imm (rI .u32) n.v t ∈ ros) (b : St w0 ros rs w) :
  Calls Tryz.prog 42 #[.agg #[.bool m, n.v]] w (fun e w => e = .returned (.tuple #[iV out.1, .bool out.2]) ∧ St w0 ros rs w) := by
 refine enterQ Tryz.func42 rfl Tryz.ntmps42 rfl fun Q k => sR fun _ A => yBb (r_box (vals := [.bool m, n.v]) b e0 rfl) fun o w b => Ya (iV 0) rfl (Ya (.bool false) rfl (wK A (sR fun _ B => yY (lbs_ [.bool m, n.v] ST_31 e0 b R0) (bE c fun j C c => yC (yCall FN_78 (a1 e0)) (sparseref01_Norm_ok C z b) ?_))))
 rintro _ w ⟨d, rfl, b⟩
 refine ⟨_, rfl, ?_⟩
 refine yT (r_stbn (vals' := [.bool j.1, d.v]) (us := [.bool j.1, d.v]) (b.k10) ST_31 e0 e0 rfl rfl (one_of rfl) rfl) fun w b => wK B (seqQ fun c3 D E => sR fun _ F => yY (yFb FL_31_1 e0) (yY (lb_ d.v O_29 e0 b R0) (yY (yLen SL_29 e0 b rO1) (yY (ygtr e0 rfl) (wK F ?_)))))
 refine cIf e0 c (fun G c => ?_) fun G c => ?_
 ·refine sR fun _ H => Ya (iV 0) rfl (Ya (.bool false) rfl (wK H (wp_ret (E _ _ _ rfl ?_))))
  cases c
  exact k _ _ _ (fin2r Tryz.results42 ⟨rfl, rfl⟩ ⟨rfl, rfl⟩ ⟨rfl, (b.k14)⟩)
 ·refine wp_skip (D _ _ (sR fun _ I => Ya (.int .u64 0) rfl (wK I (sQ fun _ J => sR fun _ K => Ya (iV 0) rfl (wK K (blockQ fun L N => ?_))))))
  refine bE c fun O R c => ?_
  have S : ∀ (g : Int) (f : FV) w, f 1 = (pB o) → f 4 = .int .u64 g → St w0 ros (row 103 (rI .u32) d.v j.2 :: box o 31 [.bool j.1, d.v] :: rs) w → g = O → L (.exit 0) (fr 43 f) w := by
   intro g f w T p b ho
   subst ho
   refine N _ _ _ (J _ _ (seqQ fun c4 U u => sR fun _ V => yY (yFb FL_31_0 (eh T)) (yY (lb_ (.bool j.1) O_4 e0 b R1) (wK V (cB e0 c (fun W c => ?_) fun W c => ?_)))))
   ·refine seqQ fun c5 X Z => sR fun _ a0 => Ym (.int .u64 g) (eh p) (yY (ygtr e0 rfl) (wK a0 ?_))
    refine cIf e0 c (fun a2 c => ?_) fun a2 c => ?_
    ·refine sR fun _ a3 => Ya (iV 0) rfl (Ya (.bool false) rfl (wK a3 (wp_ret (Z _ _ _ rfl (u _ _ _ rfl ?_)))))
     cases c
     exact k _ _ _ (fin2r Tryz.results42 ⟨rfl, rfl⟩ ⟨rfl, rfl⟩ ⟨rfl, (b.k14)⟩)
    ·refine wp_skip (X _ _ (sR fun _ a4 => Ym (.int .u64 g) (eh p) (yY (ysub e0 rfl) (yY (ycv (k' := .i64) (by kernel_rfl) (by kernel_rfl) e0) (yY (yneg e0) (yY (ysub e0 rfl) (Ya (iV (ws .i64 (wneg .i64 (wc .i64 (ws .u64 g 1))) 1)) e0 (Ya (.bool true) rfl (wK a4 (wp_ret ?_))))))))))
     refine u _ _ _ rfl ?_
     cases c
     exact k _ _ _ (fin2r Tryz.results42 ⟨rfl, rfl⟩ ⟨rfl, rfl⟩ ⟨rfl, (b.k14)⟩)
   ·refine wp_skip (U _ _ (seqQ fun c6 a5 a6 => sR fun _ a7 => Ym (.int .u64 g) (eh p) (yY (ygtr e0 rfl) (wK a7 ?_))))
    refine cIf e0 c (fun a8 c => ?_) fun a8 c => ?_
    ·refine sR fun _ a9 => Ya (iV 0) rfl (Ya (.bool false) rfl (wK a9 (wp_ret (a6 _ _ _ rfl ?_))))
     cases c
     exact k _ _ _ (fin2r Tryz.results42 ⟨rfl, rfl⟩ ⟨rfl, rfl⟩ ⟨rfl, (b.k14)⟩)
    ·refine wp_skip (a5 _ _ (sR fun _ b0 => Ym (.int .u64 g) (eh p) (yY (ycv (k' := .i64) (by kernel_rfl) (by kernel_rfl) e0) (Ya (iV (wc .i64 g)) e0 (Ya (.bool true) rfl (wK b0 (wp_ret ?_)))))))
     cases c
     exact k _ _ _ (fin2r Tryz.results42 ⟨rfl, rfl⟩ ⟨rfl, rfl⟩ ⟨rfl, (b.k14)⟩)
  refine loopQ (fun s a w => ∃ (l i : Int) (f : FV), (l, i) = s ∧ a = fr 43 f ∧ f 1 = (pB o) ∧ f 4 = .int .u64 l ∧ f 5 = iV i ∧ St w0 ros (row 103 (rI .u32) d.v j.2 :: box o 31 [.bool j.1, d.v] :: rs) w) R ⟨_, _, _, rfl, rfl, rfl, rfl, rfl, (b.k10)⟩ ?_
  rintro _ _ w c8 ⟨l, i, f, rfl, rfl, q, x, r, b⟩ h b1 c9 b2 b3
  refine seqQ fun d0 b5 b6 => sR fun _ b7 => Ym (iV i) (eh r) (yY (yFb FL_31_1 (eh q)) (yY (lb_ d.v O_29 e0 b R1) (yY (yLen SL_29 e0 b rO0) (yY (ylss e0 e0) (wK b7 ?_)))))
  refine cIf e0 h (fun b8 h => ?_) fun b8 h => ?_
  ·refine wp_skip (b5 _ _ (sQ fun _ b9 => blockQ fun _ c0 => wR (Ym (.int .u64 l) (eh x) (yY (yFb FL_31_1 (eh q)) (yY (lb_ d.v O_29 e0 b R1) (Ym (iV i) (eh r) (bE h fun d1 y h => yY (yIa SL_29 e0 e0 b rO0 y) (yY (yI O_103 e0 b rO0 y) (yY (ycv (k' := .u64) (by kernel_rfl) (by kernel_rfl) e0) (Ym (iV i) (eh r) ?_))))))))))
   refine yY (ymul rfl e0) (bE h fun c1 c2 h => yY (yshl e0 e0 c2) (yY (yor e0 e0) (Ya (.int .u64 (wor .u64 l c1)) e0 (wN (c0 _ _ _ (b9 _ _ (wR (Ym (iV i) (eh r) (yY (yadd e0 rfl) (Ya (iV (wa .i64 i 1)) e0 (wN ?_)))))))))))
   cases h
   exact b2 _ _ _ rfl ⟨_, _, _, rfl, rfl, q, rfl, rfl, b⟩
  ·refine wp_exit (b6 _ _ _ rfl ?_)
   cases h
   exact b3 _ _ _ _ rfl rfl (S _ _ _ q x b (b1 _ rfl))
theorem modular_columns_ok {f : L2} {c : Hdr} {out : Int} (b : modular_columns f = some out) (d : imm S1 c.v f ∈ ros) (a : St w0 ros rs w) :
  Calls Tryz.prog 118 #[c.v] w (fun e w => e = .returned (iV out) ∧ St w0 ros rs w) := by
 refine enterQ Tryz.func118 rfl Tryz.ntmps118 rfl fun Q g => sR fun _ i => Ya (iV 0) rfl (wK i (seqQ fun q j k => sR fun _ l => Ym c.v e0 (yY (yLen SL_63 e0 a (rdI d)) (yY (yeql e0 rfl) (wK l ?_)))))
 refine cIf e0 b (fun m b => ?_) fun m b => ?_
 ·refine sR fun _ n => Ya (iV 0) rfl (wK n (wp_ret (k _ _ _ rfl ?_)))
  cases b
  exact g _ _ _ (fin1r Tryz.results118 ⟨rfl, rfl⟩ ⟨rfl, a⟩)
 ·refine wp_skip (j _ _ (sR fun _ o => Ym c.v e0 (bE b fun p h b => yY (yIa SL_63 e0 rfl a (rdI d) h) ?_)))
  obtain ⟨r, a⟩ := iLs a d h
  refine yY (yCt O_48 e0 a F1 rfl) (yY (yLen SL_48 e0 a (rdI F0)) (Ya (iV (p.length : Int)) e0 (wK o (wp_ret ?_))))
  cases b
  exact g _ _ _ (fin1r Tryz.results118 ⟨rfl, rfl⟩ ⟨rfl, (a.facts (allT (allT allI)))⟩)
theorem modular_IsPrime_ok {b : Int} {out : Bool} (h : modular_IsPrime b = some out) (c : St w0 ros rs w) :
  Calls Tryz.prog 101 #[iV b] w (fun e w => e = .returned (.bool out) ∧ St w0 ros rs w) := by
 refine enterQ Tryz.func101 rfl Tryz.ntmps101 rfl fun Q l => sR fun _ u => Ya (.bool false) rfl (wK u (seqQ fun Z v x => sR fun _ y => Ym (iV b) e0 (yY (ylss e0 rfl) (Ym (.bool (decide (b < 2))) e0 ?_))))
 refine joinW 3 (fun f w => f 0 = iV b ∧ f 9 = .bool ((decide (b < 2)) || (decide ((2147483647 : Int) < b))) ∧ St w0 ros rs w) (fun m => ?_) ?_
 ·rcases Bool.eq_false_or_eq_true (decide (b < 2)) with g | g
  ·exact gN g (gN g (yY (pt_ (.bool true) e0 g rfl) (m _ _ ⟨rfl, (congrArg Value.bool (orT g)), c⟩)))
  ·exact yG g (m_ (iV b) e0) (yG g (ygtr e0 rfl) (yY (pf_ (.bool (decide ((2147483647 : Int) < b))) e0 g e0) (m _ _ ⟨rfl, (congrArg Value.bool (orF g)), c⟩)))
 rintro f w ⟨j, z, c⟩
 refine wK y (cB (eh z) h (fun A h => ?_) fun A h => ?_)
 ·refine sR fun _ B => Ya (.bool false) rfl (wK B (wp_ret (x _ _ _ rfl ?_)))
  cases h
  exact l _ _ _ (fin1r Tryz.results101 ⟨rfl, rfl⟩ ⟨rfl, c⟩)
 ·refine wp_skip (v _ _ (seqQ fun a0 C D => sR fun _ E => Ya (iV 2) rfl (wK E (blockQ fun n o => bE h fun p F h => ?_))))
  have G : ∀ (f : FV) w, St w0 ros rs w → .inl () = p → n (.exit 0) (fr 21 f) w := by
   intro f w c ho
   subst ho
   refine o _ _ _ (C _ _ (sR fun _ H => Ya (.bool true) rfl (wK H (wp_ret ?_))))
   cases h
   exact l _ _ _ (fin1r Tryz.results101 ⟨rfl, rfl⟩ ⟨rfl, c⟩)
  have I : ∀ (f : FV) w, f 2 = .bool false → St w0 ros rs w → .inr () = p → n .ret (fr 21 f) w := by
   intro f w J c ho
   subst ho
   refine o _ _ _ (D _ _ _ rfl ?_)
   cases h
   exact l _ _ _ (fin1r Tryz.results101 ⟨rfl, J⟩ ⟨rfl, c⟩)
  refine loopQ (fun s a w => ∃ (i : Int) (f : FV), i = s ∧ a = fr 21 f ∧ f 0 = iV b ∧ f 3 = iV i ∧ St w0 ros rs w) F ⟨_, _, rfl, rfl, j, rfl, c⟩ ?_
  rintro _ _ w a1 ⟨i, f, rfl, rfl, j, k, c⟩ d q a2 K r
  refine seqQ fun a3 L N => sR fun _ O => Ym (iV i) (eh k) (Ym (iV i) (eh k) (yY (ymul e0 e0) (Ym (iV b) (eh j) (yY (yleq e0 e0) (wK O ?_)))))
  refine cIf e0 d (fun R d => ?_) fun R d => ?_
  ·refine wp_skip (L _ _ (seqQ fun a4 S T => blockQ fun _ t => sR fun _ U => Ym (iV b) (eh j) (Ym (iV i) (eh k) (bE d fun a5 V d => yY (yrem e0 e0 V) (yY (yeql e0 rfl) (wK U ?_))))))
   refine cIf e0 d (fun W d => ?_) fun W d => ?_
   ·refine sR fun _ X => Ya (.bool false) rfl (wK X (wp_ret (t _ _ _ (T _ _ _ rfl ?_))))
    cases d
    exact r _ _ _ _ rfl rfl (I _ _ rfl c (q _ rfl))
   ·refine wp_skip (t _ _ _ (S _ _ (wR (Ym (iV i) (eh k) (yY (yadd e0 rfl) (Ya (iV (wa .i64 i 1)) e0 (wN ?_)))))))
    cases d
    exact K _ _ _ rfl ⟨_, _, rfl, rfl, j, rfl, c⟩
  ·refine wp_exit (N _ _ _ rfl ?_)
   cases d
   exact r _ _ _ _ rfl rfl (G _ _ c (q _ rfl))
theorem modular_check_1_ok {b : LI} {a : Int} {c : Hdr} {d : Nat} {out : Bool} (g : modular_check_1 b a = some out) (h : imm I1 c.v b ∈ ros) (f : St w0 ros (box d 3 [iV a] :: rs) w) :
  Calls Tryz.prog 120 #[c.v, (pB d)] w (fun e w => e = .returned (.bool out) ∧ St w0 ros (box d 3 [iV a] :: rs) w) := by
 refine enterQ Tryz.func120 rfl Tryz.ntmps120 rfl fun Q i => sR fun _ j => Ya (.bool false) rfl (wK j (sR fun _ k => Ym c.v e0 (yY (yLen SL_48 e0 f (rdI h)) (yY (lb_ (iV a) O_3 e0 f R0) (yY (yneq e0 e0) (Ya (.bool (!(decide ((b.length : Int) = a)))) e0 (wN ?_)))))))
 refine k _ _ (wp_ret ?_)
 cases g
 exact i _ _ _ (fin1r Tryz.results120 ⟨rfl, rfl⟩ ⟨rfl, f⟩)
theorem slices_IndexFunc_int_ok {k : L2} {h : Int} {i : Hdr} {g : Nat} {out : Int} (j : slices_IndexFunc_int k h = some out) (l : imm S1 i.v k ∈ ros) (b : St w0 ros (box g 3 [iV h] :: rs) w) :
  Calls Tryz.prog 121 #[i.v, .func (.func 120) #[] #[(pB g)]] w (fun e w => e = .returned (iV out) ∧ St w0 ros (box g 3 [iV h] :: rs) w) := by
 refine enterQ Tryz.func121 rfl Tryz.ntmps121 rfl fun Q o => sR fun _ C => Ya (iV 0) rfl (wK C (seqQ fun a2 D E => sR fun _ F => Ym i.v e0 (yY (yLen SL_63 e0 b (rdI l)) (Ym (iV 0) rfl (wK F ?_)))))
 refine blockQ fun p q => bE j fun r G j => ?_
 have H : ∀ (f : FV) w, St w0 ros (box g 3 [iV h] :: rs) w → .inl () = r → p (.exit 0) (fr 19 f) w := by
  intro f w b ho
  subst ho
  refine q _ _ _ (D _ _ (sR fun _ I => Ya (iV (-1)) rfl (wK I (wp_ret ?_))))
  cases j
  exact o _ _ _ (fin1r Tryz.results121 ⟨rfl, rfl⟩ ⟨rfl, b⟩)
 have J : ∀ (m : Int) (f : FV) w, f 4 = iV m → St w0 ros (box g 3 [iV h] :: rs) w → .inr m = r → p .ret (fr 19 f) w := by
  intro m f w K b ho
  subst ho
  refine q _ _ _ (E _ _ _ rfl ?_)
  cases j
  exact o _ _ _ (fin1r Tryz.results121 ⟨rfl, K⟩ ⟨rfl, b⟩)
 refine loopQ (fun s a w => ∃ (d : Int) (f : FV), d = s ∧ a = fr 19 f ∧ f 0 = i.v ∧ f 1 = .func (.func 120) #[] #[(pB g)] ∧ f 7 = iV (k.length : Int) ∧ f 8 = iV d ∧ St w0 ros (box g 3 [iV h] :: rs) w) G ⟨_, _, rfl, rfl, rfl, rfl, rfl, rfl, b⟩ ?_
 rintro _ _ w a3 ⟨d, f, rfl, rfl, t, u, x, n, b⟩ c y a4 L z
 refine sR fun _ N => yY (ylss (eh n) (eh x)) (wK N (seqQ fun a5 O R => ?_))
 refine cIf e0 c (fun S c => ?_) fun S c => ?_
 ·refine wp_skip (O _ _ (seqQ fun a6 T U => blockQ fun _ A => sR fun _ V => Ym (iV d) (eh n) (Ya (iV d) e0 (wK V (sR fun _ W => Ym (.func (.func 120) #[] #[(pB g)]) (eh u) (Ym i.v (eh t) ?_))))))
  refine Ym (iV d) e0 (bE c fun a7 B c => yY (yIa SL_63 e0 e0 b (rdI l) B) ?_)
  obtain ⟨a8, b⟩ := iLs b l B
  refine yY (yCt O_48 e0 b F1 rfl) (bE c fun a9 X c => yC (yCallw FN_120 e0 (a1 e0)) (modular_check_1_ok X F0 b) ?_)
  rintro _ w ⟨rfl, b⟩
  refine ⟨_, rfl, ?_⟩
  refine wK W (cB e0 c (fun Z c => ?_) fun Z c => ?_)
  ·refine sR fun _ a0 => Ym (iV d) e0 (Ya (iV d) e0 (wK a0 (wp_ret (A _ _ _ (U _ _ _ rfl ?_)))))
   cases c
   exact z _ _ _ _ rfl rfl (J _ _ _ rfl (b.facts (allT (allT allI))) (y _ rfl))
  ·refine wp_skip (A _ _ _ (T _ _ (wR (yY (yadd (eh n) rfl) (Ym (iV (wa .i64 d 1)) e0 (wN ?_))))))
   cases c
   exact L _ _ _ rfl ⟨_, _, rfl, rfl, t, u, x, rfl, (b.facts (allT (allT allI)))⟩
 ·refine wp_exit (R _ _ _ rfl ?_)
  cases c
  exact z _ _ _ _ rfl rfl (H _ _ b (y _ rfl))
theorem slices_ContainsFunc_int_ok {g : L2} {b : Int} {c : Hdr} {a : Nat} {out : Bool} (d : slices_ContainsFunc_int g b = some out) (h : imm S1 c.v g ∈ ros) (f : St w0 ros (box a 3 [iV b] :: rs) w) :
  Calls Tryz.prog 119 #[c.v, .func (.func 120) #[] #[(pB a)]] w (fun e w => e = .returned (.bool out) ∧ St w0 ros (box a 3 [iV b] :: rs) w) := by
 refine enterQ Tryz.func119 rfl Tryz.ntmps119 rfl fun Q i => sR fun _ j => Ya (.bool false) rfl (wK j (sR fun _ k => Ym c.v e0 (Ym (.func (.func 120) #[] #[(pB a)]) e0 (bE d fun l m d => yC (yCall FN_121 (a2 e0 e0)) (slices_IndexFunc_int_ok m h f) ?_))))
 rintro _ w ⟨rfl, f⟩
 refine ⟨_, rfl, ?_⟩
 refine yY (ygeq e0 rfl) (Ya (.bool (decide ((0 : Int) ≤ l))) e0 (wK k (wp_ret ?_)))
 cases d
 exact i _ _ _ (fin1r Tryz.results119 ⟨rfl, rfl⟩ ⟨rfl, f⟩)
theorem modular_check_ok {d : L2} {k : Int} {g : Hdr} {out : Int} (a : modular_check d k = some out) (l : imm S1 g.v d ∈ ros) (b : St w0 ros rs w) :
  Calls Tryz.prog 89 #[g.v, iV k] w (fun e w => e = .returned (iV out) ∧ St w0 ros rs w) := by
 refine enterQ Tryz.func89 rfl Tryz.ntmps89 rfl fun Q i => sR fun _ p => Ya (iV 0) rfl (wK p (sR fun _ q => Ym g.v e0 (bE a fun h r a => yC (yCall FN_118 (a1 e0)) (modular_columns_ok r l b) ?_)))
 rintro _ w ⟨rfl, b⟩
 refine ⟨_, rfl, ?_⟩
 refine yBb (rAl b ZT_3) fun s w b => yT (r_stb1 (vals' := [iV h]) b O_3 e0 e0 rfl rfl rfl rfl) fun w b => wK q (seqQ fun K t m => blockQ fun _ j => sR fun _ u => Ym (iV k) e0 (bE a fun x y a => yC (yCall FN_101 (a1 e0)) (modular_IsPrime_ok y b) ?_))
 rintro _ w ⟨rfl, b⟩
 refine ⟨_, rfl, ?_⟩
 refine yY (ynot e0) (Ya (.bool (!x)) e0 (wK u ?_))
 rcases iteS a with ⟨n, a⟩ | ⟨n, a⟩
 ·refine condF e0 (nF n) (sR fun _ z => Ym g.v e0 (yY (ymf (vf := #[]) (vc := #[(pB s)]) a0 (a1 e0)) (bE a fun A B a => yC (yCall FN_119 (a2 e0 e0)) (slices_ContainsFunc_int_ok B l b) ?_)))
  rintro _ w ⟨rfl, b⟩
  refine ⟨_, rfl, ?_⟩
  refine Ya (.bool A) e0 (wK z (cB e0 a (fun C a => ?_) fun C a => ?_))
  ·refine sR fun _ D => Ya (iV 5) rfl (wK D (wp_ret (j _ _ _ (m _ _ _ rfl ?_))))
   cases a
   exact i _ _ _ (fin1r Tryz.results89 ⟨rfl, rfl⟩ ⟨rfl, (b.k13)⟩)
  ·refine sR fun _ E => Ym g.v e0 (yY (yLen SL_63 e0 b (rdI l)) (yY (ygtr e0 rfl) (Ym (.bool (decide ((200 : Int) < (d.length : Int)))) e0 ?_)))
   refine joinW 3 (fun f w => f 23 = .bool ((decide ((200 : Int) < (d.length : Int))) || (decide ((200 : Int) < h))) ∧ St w0 ros rs w) (fun o => ?_) ?_
   ·rcases Bool.eq_false_or_eq_true (decide ((200 : Int) < (d.length : Int))) with c | c
    ·exact gN c (gN c (yY (pt_ (.bool true) e0 c rfl) (o _ _ ⟨(congrArg Value.bool (orT c)), (b.k13)⟩)))
    ·exact yG c (lb_ (iV h) O_3 e0 b R0) (yG c (ygtr e0 rfl) (yY (pf_ (.bool (decide ((200 : Int) < h))) e0 c e0) (o _ _ ⟨(congrArg Value.bool (orF c)), (b.k13)⟩)))
   rintro f w ⟨F, b⟩
   refine Ya (.bool ((decide ((200 : Int) < (d.length : Int))) || (decide ((200 : Int) < h)))) (eh F) (wK E (cB e0 a (fun G a => ?_) fun G a => ?_))
   ·refine sR fun _ H => Ya (iV 6) rfl (wK H (wp_ret (j _ _ _ (m _ _ _ rfl ?_))))
    cases a
    exact i _ _ _ (fin1r Tryz.results89 ⟨rfl, rfl⟩ ⟨rfl, b⟩)
   ·refine wp_skip (j _ _ _ (t _ _ (sR fun _ I => Ya (iV 0) rfl (wK I (wp_ret ?_)))))
    cases a
    exact i _ _ _ (fin1r Tryz.results89 ⟨rfl, rfl⟩ ⟨rfl, b⟩)
 ·refine condT e0 (nT (bfalse n)) (sR fun _ J => Ya (iV 70) rfl (wK J (wp_ret (j _ _ _ (m _ _ _ rfl ?_)))))
  cases a
  exact i _ _ _ (fin1r Tryz.results89 ⟨rfl, rfl⟩ ⟨rfl, (b.k13)⟩)
theorem modular_mod_ok {h b out : Int} (a : modular_mod h b = some out) (d : St w0 ros rs w) :
  Calls Tryz.prog 123 #[iV h, iV b] w (fun e w => e = .returned (iV out) ∧ St w0 ros rs w) := by
 refine enterQ Tryz.func123 rfl Tryz.ntmps123 rfl fun Q j => sR fun _ k => Ya (iV 0) rfl (wK k (sR fun _ l => Ym (iV h) e0 (Ym (iV b) e0 (bE a fun g m a => yY (yrem e0 e0 m) (Ya (iV g) e0 (wN ?_))))))
 refine l _ _ (sQ fun n o => sR fun _ p => Ym (iV g) e0 (yY (ylss e0 rfl) (wK p ?_)))
 have i : ∀ (c : Int) (f : FV) w, f 5 = iV c → St w0 ros rs w → modular_mod_j1 c = some out → n .normal (fr 15 f) w := by
  intro c f w q d a
  refine o _ _ (sR fun _ r => Ym (iV c) (eh q) (Ya (iV c) e0 (wK r (wp_ret ?_))))
  cases a
  exact j _ _ _ (fin1r Tryz.results123 ⟨rfl, rfl⟩ ⟨rfl, d⟩)
 refine cIf e0 a (fun s a => ?_) fun s a => ?_
 ·exact wR (Ym (iV g) e0 (Ym (iV b) e0 (yY (yadd e0 e0) (Ya (iV (wa .i64 g b)) e0 (wN (i _ _ _ rfl d a))))))
 ·exact wp_skip (i _ _ _ rfl d a)
theorem modular_reduced_ok {o : L2} {j : Int} {k : Hdr} {out : L2} (y : modular_reduced o j = some out) (z : imm S1 k.v o ∈ ros) (b : St w0 ros rs w) :
  Calls Tryz.prog 91 #[k.v, iV j] w (fun e w => ∃ (H : Hdr) (I : List Hdr), e = .returned (H.v) ∧ St w0 ros (row 48 rH H.v I :: fam 3 I1 I out :: rs) w) := by
 refine enterQ Tryz.func91 rfl Tryz.ntmps91 rfl fun Q a3 => sR fun _ a4 => Ya hnil.v rfl (wK a4 (sR fun _ a5 => Ya hnil.v rfl (wK a5 (sQ fun _ a6 => sR fun _ a7 => ?_))))
 refine Ym k.v e0 (yY (yLen SL_63 e0 b (rdI z)) (Ym (iV 0) rfl (wK a7 (blockQ fun a8 a9 => bE y fun b0 b1 y => ?_))))
 have b2 : ∀ (A : L2) (p : Hdr) (B : List Hdr) (f : FV) w, f 5 = p.v → St w0 ros (row 48 rH p.v B :: fam 3 I1 B A :: rs) w → A = b0 → a8 (.exit 0) (fr 36 f) w := by
  intro A p B f w b3 b ho
  subst ho
  refine a9 _ _ _ (a6 _ _ (sR fun _ b4 => Ym p.v (eh b3) (Ya p.v e0 (wK b4 (wp_ret ?_)))))
  cases y
  exact a3 _ _ _ (fin1r Tryz.results91 ⟨rfl, rfl⟩ ⟨_, _, rfl, b⟩)
 replace b := ((b.rowNh 48 rH).fNew 3 I1).k10
 refine loopQ (fun s a w => ∃ (q : L2) (m : Int) (f : FV) (g : Hdr) (h : List Hdr), (q, m) = s ∧ a = fr 36 f ∧ f 1 = iV j ∧ f 5 = g.v ∧ f 11 = k.v ∧ f 12 = iV (o.length : Int) ∧ f 13 = iV m ∧ St w0 ros (row 48 rH g.v h :: fam 3 I1 h q :: rs) w) b1 ⟨_, _, _, _, _, rfl, rfl, rfl, rfl, rfl, rfl, rfl, b⟩ ?_
 rintro _ _ w f6 ⟨q, m, f, g, h, rfl, rfl, b5, J, K, L, C, b⟩ c b6 f7 b7 b8
 refine sR fun _ b9 => yY (ylss (eh C) (eh L)) (wK b9 (seqQ fun f8 c0 c1 => ?_))
 refine cIf e0 c (fun c2 c => ?_) fun c2 c => ?_
 ·refine wp_skip (c0 _ _ (sQ fun _ c3 => blockQ fun _ c4 => sR fun _ c5 => bE c fun N O c => yY (yIa SL_63 (eh K) (eh C) b (rdI z) O) ?_))
  obtain ⟨r, b⟩ := iLs b z O
  refine yY (yCt O_48 e0 b F1 rfl) (Ya r.v e0 (wK c5 (sR fun _ c6 => Ya hnil.v rfl (wK c6 (sQ fun _ c7 => sR fun _ c8 => Ym r.v e0 (yY (yLen SL_48 e0 b (rdI F0)) ?_))))))
  refine Ym (iV 0) rfl (wK c8 (blockQ fun c9 d0 => bE c fun d1 d2 c => ?_))
  have d3 : ∀ (t : LI) (i : Hdr) (f : FV) w, f 1 = iV j → f 5 = g.v → f 8 = i.v → f 11 = k.v → f 12 = iV (o.length : Int) → f 13 = iV m → St w0 ros (row 48 rH g.v h :: fam 3 I1 h q :: row 3 I1 i.v t :: rs) w → t = d1 → c9 (.exit 2) (fr 36 f) w := by
   intro t i f w d4 d5 d6 d7 d8 d9 b ho
   subst ho
   refine d0 _ _ _ (c7 _ _ (wR (Ym g.v (eh d5) (Ym i.v (eh d6) (yH (rLt (n := 1) (l := [i]) b SLH_63 [i.v] (bp1 e0) rfl rfl (mks1 rfl (mkF rfl) mks0)) fun f9 w b => bE c fun g0 R c => ?_)))))
   replace b := b.k10
   obtain ⟨g1, ey110, e1⟩ := app_rep R (b.famL R2) (show [i].length = [t].length from rfl)
   refine yH (rAp b SLH_63 e0 e0 rO1 e1) fun e2 w b => ?_
   replace b := (b.k15).fPush
   rw [← ey110, ← (app_some R).1] at b
   refine Ya e2.v e0 (wN (c4 _ _ _ (c3 _ _ (wR (yY (yadd (eh d9) rfl) (Ym (iV (wa .i64 m 1)) e0 (wN ?_)))))))
   cases c
   exact b7 _ _ _ rfl ⟨_, _, _, _, _, rfl, rfl, d4, rfl, d7, d8, rfl, (b.k16)⟩
  replace b := b.rowNh 3 I1
  refine loopQ (fun s a w => ∃ (D : LI) (u : Int) (f : FV) (x : Hdr), (D, u) = s ∧ a = fr 36 f ∧ f 1 = iV j ∧ f 5 = g.v ∧ f 8 = x.v ∧ f 11 = k.v ∧ f 12 = iV (o.length : Int) ∧ f 13 = iV m ∧ f 17 = r.v ∧ f 18 = iV (N.length : Int) ∧ f 19 = iV u ∧ St w0 (imm I1 r.v N :: ros) (row 48 rH g.v h :: fam 3 I1 h q :: row 3 I1 x.v D :: rs) w) d2 ⟨_, _, _, _, rfl, rfl, b5, J, rfl, K, L, C, rfl, rfl, rfl, ((b.k19).facts (allC F0 (allT (allT allI))))⟩ ?_
  rintro _ _ w g2 ⟨D, u, f, x, rfl, rfl, E, S, T, U, V, W, X, Z, F, b⟩ d e3 g3 e4 e5
  refine sR fun _ e6 => yY (ylss (eh F) (eh Z)) (wK e6 (seqQ fun g4 e7 e8 => ?_))
  refine cIf e0 d (fun e9 d => ?_) fun e9 d => ?_
  ·refine wp_skip (e7 _ _ (sQ fun _ f0 => blockQ fun _ f1 => sR fun _ f2 => bE d fun a0 a1 d => yY (yIa SL_48 (eh X) (eh F) b (rdI F0) a1) (yY (yI O_3 e0 b (rdI F0) a1) (Ya (iV a0) e0 (wK f2 (wR (Ym x.v (eh T) ?_)))))))
   refine Ym (iV a0) e0 (Ym (iV j) (eh E) (bE d fun G f3 d => yC (yCall FN_123 (a2 e0 e0)) (modular_mod_ok f3 b) ?_))
   rintro _ w ⟨rfl, b⟩
   refine ⟨_, rfl, ?_⟩
   refine yH (rLt (n := 1) (l := [G]) b SL_48 [iV G] (bp1 e0) rfl rfl (mks1 (cs := [iV G]) rfl mkI mks0)) fun g5 w b => bE d fun g6 f4 d => yH (rAp (b.k17) SL_48 e0 e0 rO1 f4) fun f5 w b => Ya f5.v e0 (wN (f1 _ _ _ (f0 _ _ (wR (yY (yadd (eh F) rfl) (Ym (iV (wa .i64 u 1)) e0 (wN ?_)))))))
   cases d
   exact e4 _ _ _ rfl ⟨_, _, _, _, rfl, rfl, E, S, rfl, U, V, W, X, Z, rfl, (b.k18)⟩
  ·refine wp_exit (e8 _ _ _ rfl ?_)
   cases d
   exact e5 _ _ _ _ rfl rfl (d3 _ _ _ _ E S T U V W (b.facts (allT allI)) (e3 _ rfl))
 ·refine wp_exit (c1 _ _ _ rfl ?_)
  cases c
  exact b8 _ _ _ _ rfl rfl (b2 _ _ _ _ _ J b (b6 _ rfl))
end Go.Proofs.YtpfmbaidflhamaaGreatDoor
