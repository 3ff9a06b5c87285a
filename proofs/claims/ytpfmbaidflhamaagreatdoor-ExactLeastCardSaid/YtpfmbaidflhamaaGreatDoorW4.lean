/- Walks: each function computes its model, printed. -/
import Derived.Test.YtpfmbaidflhamaaGreatDoorW3
namespace Go.Proofs.YtpfmbaidflhamaaGreatDoor
open Go Sx M
set_option maxRecDepth 100000
set_option maxHeartbeats 40000000
set_option linter.unusedVariables false
attribute [local irreducible] wpList Code.wp Calls DR QR QS LA LS St
variable {w0 : World} {ros : List Fact} {rs : List Res} {w : World}
theorem sparselaw08_square_ok {H : LI} {g : Int} {m : Hdr} {out : (List (List (Bool × LI)))} (j : sparselaw08_square H g = some out) (D : imm I1 m.v H ∈ ros) (b : St w0 ros rs w) :
  Calls Tryz.prog 27 #[m.v, iV g] w (fun e w => ∃ (I : Hdr), e = .returned (I.v) ∧ St w0 ros (row 32 (rS (rP rB (rS (rI .u32)))) I.v out :: rs) w) := by
 refine enterQ Tryz.func27 rfl Tryz.ntmps27 rfl fun Q S => sR fun _ T => Ya hnil.v rfl (wK T (sR fun _ U => Ya hnil.v rfl (wK U (sQ fun _ V => sR fun _ W => ?_))))
 refine Ya (iV 0) rfl (wK W (blockQ fun X Z => bE j fun a0 a3 j => ?_))
 have a4 : ∀ (E : List (List (Bool × LI))) (t : Hdr) (f : FV) w, f 5 = t.v → St w0 ros (row 32 (rS (rP rB (rS (rI .u32)))) t.v E :: rs) w → E = a0 → X (.exit 0) (fr 48 f) w := by
  intro E t f w a5 b ho
  subst ho
  refine Z _ _ _ (V _ _ (sR fun _ a6 => Ym t.v (eh a5) (Ya t.v e0 (wK a6 (wp_ret ?_)))))
  cases j
  exact S _ _ _ (fin1r Tryz.results27 ⟨rfl, rfl⟩ ⟨_, rfl, b⟩)
 replace b := b.rowNh 32 (rS (rP rB (rS (rI .u32))))
 refine loopQ (fun s a w => ∃ (o : List (List (Bool × LI))) (d : Int) (f : FV) (h : Hdr), (o, d) = s ∧ a = fr 48 f ∧ f 0 = m.v ∧ f 1 = iV g ∧ f 5 = h.v ∧ f 6 = iV d ∧ St w0 ros (row 32 (rS (rP rB (rS (rI .u32)))) h.v o :: rs) w) a3 ⟨_, _, _, _, rfl, rfl, rfl, rfl, rfl, rfl, b⟩ ?_
 rintro _ _ w g0 ⟨o, d, f, h, rfl, rfl, a7, J, K, L, b⟩ k a8 g1 a9 b0
 refine seqQ fun g2 b1 b2 => sR fun _ b3 => Ym (iV d) (eh L) (Ym (iV g) (eh J) (yY (ylss e0 e0) (wK b3 ?_)))
 refine cIf e0 k (fun b4 k => ?_) fun b4 k => ?_
 ·refine wp_skip (b1 _ _ (sQ fun _ b5 => blockQ fun _ b6 => sR fun _ b7 => Ya hnil.v rfl (wK b7 (sQ fun _ b8 => sR fun _ b9 => Ya (iV 0) rfl (wN ?_)))))
  refine b9 _ _ (blockQ fun c0 c1 => bE k fun c2 c3 k => ?_)
  have c4 : ∀ (A : List (Bool × LI)) (p : Hdr) (f : FV) w, f 0 = m.v → f 1 = iV g → f 5 = h.v → f 6 = iV d → f 7 = p.v → St w0 ros (row 32 (rS (rP rB (rS (rI .u32)))) h.v o :: row 31 (rP rB (rS (rI .u32))) p.v A :: rs) w → A = c2 → c0 (.exit 2) (fr 48 f) w := by
   intro A p f w c5 c6 c7 c8 c9 b ho
   subst ho
   refine c1 _ _ _ (b8 _ _ (wR (Ym h.v (eh c7) (Ym p.v (eh c9) (yH (rLt (n := 1) (l := [A]) ((b.k10).fz) SL_22 [p.v] (bp1 e0) rfl rfl (mks1 (cs := [p.v]) rfl (mkS F0) mks0)) fun g3 w b => bE k fun g4 d0 k => yH (rAp (b.k10) SL_22 e0 e0 rO1 d0) fun d1 w b => Ya d1.v e0 (wN (b6 _ _ _ (b5 _ _ ?_))))))))
   refine wR (Ym (iV d) (eh c8) (yY (yadd e0 rfl) (Ya (iV (wa .i64 d 1)) e0 (wN ?_))))
   cases k
   exact a9 _ _ _ rfl ⟨_, _, _, _, rfl, rfl, c5, c6, rfl, rfl, ((b.k11).facts (allT allI))⟩
  replace b := b.rowNh 31 (rP rB (rS (rI .u32)))
  refine loopQ (fun s a w => ∃ (u : List (Bool × LI)) (i : Int) (f : FV) (q : Hdr), (u, i) = s ∧ a = fr 48 f ∧ f 0 = m.v ∧ f 1 = iV g ∧ f 5 = h.v ∧ f 6 = iV d ∧ f 7 = q.v ∧ f 8 = iV i ∧ St w0 ros (row 32 (rS (rP rB (rS (rI .u32)))) h.v o :: row 31 (rP rB (rS (rI .u32))) q.v u :: rs) w) c3 ⟨_, _, _, _, rfl, rfl, a7, J, K, L, rfl, rfl, (b.k10)⟩ ?_
  rintro _ _ w d2 ⟨u, i, f, q, rfl, rfl, x, r, F, y, G, z, b⟩ c d3 g5 d4 d5
  refine seqQ fun g6 d6 d7 => sR fun _ d8 => Ym (iV i) (eh z) (Ym (iV g) (eh r) (yY (ylss e0 e0) (wK d8 ?_)))
  refine cIf e0 c (fun d9 c => ?_) fun d9 c => ?_
  ·refine wp_skip (d6 _ _ (sQ fun _ e1 => blockQ fun _ e2 => sR fun _ e3 => Ya (iV 0) rfl (wK e3 (sQ fun e4 e5 => sR fun _ e6 => Ym (iV g) (eh r) (Ym (iV d) (eh y) ?_)))))
   refine yY (ymul e0 e0) (Ym (iV i) (eh z) (yY (yadd e0 e0) (Ym m.v (eh x) (yY (yLen SL_48 e0 b (rdI D)) (yY (ylss e0 e0) (wK e6 ?_))))))
   have N : ∀ (B : Int) (f : FV) w, f 0 = m.v → f 1 = iV g → f 5 = h.v → f 6 = iV d → f 7 = q.v → f 8 = iV i → f 9 = iV B → St w0 ros (row 32 (rS (rP rB (rS (rI .u32)))) h.v o :: row 31 (rP rB (rS (rI .u32))) q.v u :: rs) w → sparselaw08_square_j13 u i B = some d2 → e4 .normal (fr 48 f) w := by
    intro B f w e7 e8 e9 f0 f1 f2 f3 b j
    refine e5 _ _ (wR (Ym q.v (eh f1) (Ym (iV B) (eh f3) (bE j fun C f4 j => yC (yCall FN_50 (a1 e0)) (sparselaw08_num_ok f4 b) ?_))))
    rintro _ w ⟨O, rfl, b⟩
    refine ⟨_, rfl, ?_⟩
    refine yH (rLt (n := 1) (l := [(C.1, C.2)]) b.fz SL_32 [.agg #[.bool C.1, O.v]] (bp1 e0) rfl rfl (mks1 (cs := [.bool C.1, O.v]) rfl (mkP mkB (mkS F0)) mks0)) fun g7 w b => bE j fun g8 f5 j => yH (rAp (b.k1f) SL_32 e0 e0 rO1 f5) fun f6 w b => Ya f6.v e0 (wN (e2 _ _ _ (e1 _ _ (wR (Ym (iV i) (eh f2) (yY (yadd e0 rfl) (Ya (iV (wa .i64 i 1)) e0 (wN ?_))))))))
    cases j
    exact d4 _ _ _ rfl ⟨_, _, _, _, rfl, rfl, e7, e8, e9, f0, rfl, rfl, ((b.k2d).facts (allT allI))⟩
   refine cIf e0 c (fun f7 c => ?_) fun f7 c => ?_
   ·refine wR (Ym m.v (eh x) (Ym (iV g) (eh r) (Ym (iV d) (eh y) (yY (ymul e0 e0) (Ym (iV i) (eh z) (yY (yadd e0 e0) (bE c fun g9 R c => yY (yIa SL_48 e0 e0 b (rdI D) R) (yY (yI O_3 e0 b (rdI D) R) (bE c fun f8 f9 c => yC (yCall FN_26 (a2 e0 rfl)) (sparsekit_Place_ok f9 b) ?_)))))))))
    rintro _ w ⟨rfl, b⟩
    refine ⟨_, rfl, ?_⟩
    exact yY (ysub e0 rfl) (Ya (iV (ws .i64 f8 100)) e0 (wN (N _ _ _ x r F y G z rfl b c)))
   ·exact wp_skip (N _ _ _ x r F y G z rfl b c)
  ·refine wp_exit (d7 _ _ _ rfl ?_)
   cases c
   exact d5 _ _ _ _ rfl rfl (c4 _ _ _ _ x r F y G b (d3 _ rfl))
 ·refine wp_exit (b2 _ _ _ rfl ?_)
  cases k
  exact b0 _ _ _ _ rfl rfl (a4 _ _ _ _ K b (a8 _ rfl))
theorem exact_Least_1_ok {c : Int} {i : List (Bool × LI)} {d : Nat} {b : Hdr} {out : Bool × LI} (f : exact_Least_1 c i = some out) (j : imm (rP rB (rS (rI .u32))) b.v i ∈ ros) (a : St w0 ros (box d 32 [b.v] :: rs) w) :
  Calls Tryz.prog 67 #[iV c, (pB d)] w (fun e w => ∃ (k : Hdr), e = .returned (.agg #[.bool out.1, k.v]) ∧ St w0 (imm (rI .u32) k.v out.2 :: ros) (box d 32 [b.v] :: rs) w) := by
 refine enterQ Tryz.func67 rfl Tryz.ntmps67 rfl fun Q m => sR fun _ n => yBb (rAl a ZT_31) fun p w a => wK n (sR fun _ o => yY (lb_ b.v O_32 e0 a R1) (Ym (iV c) e0 (bE f fun g l f => yY (yIa SL_32 e0 e0 a (rdI j) l) ?_)))
 obtain ⟨q, r, a⟩ := iLd a j l
 obtain ⟨s, t, rfl, a⟩ := a.eltP
 obtain ⟨rfl, a⟩ := a.eltB
 obtain ⟨h, rfl, a⟩ := a.eltS
 refine yY (yCtn (cs := [.bool g.1, h.v]) ST_31 rfl e0 a F1) (yT (r_stbn (vals' := [.bool g.1, h.v]) (us := [.bool g.1, h.v]) a ST_31 e0 e0 rfl rfl (one_of rfl) rfl) fun w a => wK o (wp_ret ?_))
 cases f
 exact m _ _ _ (fin1r Tryz.results67 (rcs2 rfl rfl a R0 ST_31 rfl) ⟨_, rfl, ((a.k12).facts (allC F0 (allT (allT allI))))⟩)
theorem exact_inner_ok {t : List (List (Bool × LI))} {m : Int} {D : List (Bool × LI)} {o : Hdr} {d : Nat} {n : Hdr} {out : Bool × LI} (u : exact_inner t m D = some out) (x : imm (rS (rP rB (rS (rI .u32)))) o.v t ∈ ros) (S : imm (rP rB (rS (rI .u32))) n.v D ∈ ros) (b : St w0 ros (box d 32 [n.v] :: rs) w) :
  Calls Tryz.prog 66 #[o.v, iV m, .func (.func 67) #[] #[(pB d)]] w (fun e w => ∃ (E : Hdr), e = .returned (.agg #[.bool out.1, E.v]) ∧ St w0 (imm (rI .u32) E.v out.2 :: ros) (box d 32 [n.v] :: rs) w) := by
 refine enterQ Tryz.func66 rfl Tryz.ntmps66 rfl fun Q T => sR fun _ U => yBb (rAl b ZT_31) fun p w b => wK U (sR fun _ V => yBb (rAl b ZT_31) fun q w b => wK V (sQ fun _ W => ?_))
 refine sR fun _ X => Ym o.v e0 (yY (yLen SL_22 e0 b (rdI x)) (Ym (iV 0) rfl (wK X (blockQ fun Z a0 => bE u fun a3 a4 u => ?_))))
 have a5 : ∀ (h : Bool) (y : LI) (i : Hdr) (f : FV) w, f 6 = (pB p) → f 7 = (pB q) → St w0 (imm (rI .u32) i.v y :: ros) (box d 32 [n.v] :: box p 31 [.bool false, hnil.v] :: box q 31 [.bool h, i.v] :: rs) w → (h, y) = a3 → Z (.exit 0) (fr 29 f) w := by
  intro h y i f w F a6 b ho
  subst ho
  refine a0 _ _ _ (W _ _ (sR fun _ a7 => yY (lbs_ [.bool h, i.v] ST_31 (eh a6) b R2) (yT (r_stbn (vals' := [.bool h, i.v]) (us := [.bool h, i.v]) (b.k10) ST_31 (eh F) e0 rfl rfl (one_of rfl) rfl) fun w b => wK a7 (wp_ret ?_))))
  cases u
  exact T _ _ _ (fin1r Tryz.results66 (rcs2 rfl F b R0 ST_31 rfl) ⟨_, rfl, (b.k1u)⟩)
 replace b := b.immNh (rI .u32)
 refine loopQ (fun s a w => ∃ (j : Bool) (z : LI) (g : Int) (f : FV) (k : Hdr), (j, z, g) = s ∧ a = fr 29 f ∧ f 1 = iV m ∧ f 2 = .func (.func 67) #[] #[(pB d)] ∧ f 6 = (pB p) ∧ f 7 = (pB q) ∧ f 10 = o.v ∧ f 11 = iV (t.length : Int) ∧ f 12 = iV g ∧ St w0 (imm (rI .u32) k.v z :: ros) (box d 32 [n.v] :: box p 31 [.bool false, hnil.v] :: box q 31 [.bool j, k.v] :: rs) w) a4 ⟨_, _, _, _, _, rfl, rfl, rfl, rfl, rfl, rfl, rfl, rfl, rfl, (b.k2c)⟩ ?_
 rintro _ _ w c4 ⟨j, z, g, f, k, rfl, rfl, A, G, H, l, I, J, r, b⟩ c a8 c5 a9 b0
 refine sR fun _ b1 => yY (ylss (eh r) (eh J)) (wK b1 (seqQ fun c6 b2 b3 => ?_))
 refine cIf e0 c (fun b5 c => ?_) fun b5 c => ?_
 ·refine wp_skip (b2 _ _ (sQ fun _ b6 => blockQ fun _ b9 => sR fun _ c0 => Ym (iV g) (eh r) (bE c fun c7 K c => yY (yIa SL_22 (eh I) (eh r) b (rdI (mtF x)) K) ?_)))
  obtain ⟨B, b⟩ := iLs b (mtF x) K
  refine yY (yCt O_32 e0 b F1 rfl) (Ya (iV g) e0 (Ya B.v e0 (wK c0 (bE c fun L C c => bE c fun c8 c1 c => bE c fun c9 c2 c => bE c fun N c3 c => dR [0, 0, 0, 6, 14, 0, 0, 96, 254, 511, 1023] [7, 8, 9, 10] 4 folM ?_))))
  replace b := b.drew
  refine Dn [0, 1, 2, 3, 4, 5, 6] [] [7] (yR rfl (lbs_ [.bool j, k.v] ST_31 (eh l) b R2) (yR rfl (m_ B.v e0) (yR rfl (m_ (iV m) (eh A)) (yR rfl (yIa SL_32 e0 e0 b (rdI F0) C) ?_))))
  obtain ⟨d0, d1, b⟩ := iLd b F0 C
  obtain ⟨d2, d3, rfl, b⟩ := b.eltP
  obtain ⟨rfl, b⟩ := b.eltB
  obtain ⟨O, rfl, b⟩ := b.eltS
  refine yR rfl (yCtn (cs := [.bool L.1, O.v]) ST_31 rfl e0 b F1) (yR rfl (m_ (.func (.func 67) #[] #[(pB d)]) (eh G)) (yR rfl (m_ (iV g) e0) (Rn QSn ?_)))
  refine Lc1 rfl ?_
  refine Lk wn (yCallw FN_67 e0 (a1 e0)) (exact_Least_1_ok c1 (F_5 S) b) ?_
  rintro _ w ⟨d4, rfl, b⟩
  refine ⟨_, rfl, ?_⟩
  refine Dn [] [0, 1, 2, 3, 4] [8] (Rn (yS rfl (lbs_ [.bool j, k.v] ST_31 (eh l) b R2) (yS rfl (m_ B.v e0) (yS rfl (m_ (iV m) (eh A)) (yS rfl (yIa SL_32 e0 e0 b (rdI F3) C) (yS rfl (yCtn (cs := [.bool L.1, O.v]) ST_31 rfl e0 b F2) QSn))))) ?_)
  refine Lc1 rfl ?_
  refine Lk wn (yCall FN_32 (a2 e0 e0)) (integer_Mul_ok c2 F1 F0 b) ?_
  rintro _ w ⟨d5, rfl, b⟩
  refine ⟨_, rfl, ?_⟩
  refine Dn [] [0] [9] (Rn (yS rfl (lbs_ [.bool j, k.v] ST_31 (eh l) b R2) QSn) ?_)
  refine Lc1 rfl ?_
  refine Lk wn (yCall FN_75 (a2 e0 e0)) (integer_Add_ok c3 F6 F0 b) ?_
  rintro _ w ⟨R, rfl, b⟩
  refine ⟨_, rfl, ?_⟩
  refine Dn [] [] [10] (Rn QSn ?_)
  refine Lc1 rfl ?_
  replace b := b.k1f
  refine LT wn (r_stbn (vals' := [.bool N.1, R.v]) (us := [.bool N.1, R.v]) b ST_31 (eh l) e0 rfl rfl (one_of rfl) rfl) fun w b => Dz [] [] (Rn QSn (b9 _ _ _ (b6 _ _ (wR (yY (yadd (eh r) rfl) (Ym (iV (wa .i64 g 1)) e0 (wN ?_)))))))
  cases c
  exact a9 _ _ _ rfl ⟨_, _, _, _, _, rfl, rfl, A, G, H, l, I, J, rfl, ((b.k19).facts (allC F0 (allT (allT (allT (allT (allT (allT (allT (allT allI))))))))))⟩
 ·refine wp_exit (b3 _ _ _ rfl ?_)
  cases c
  exact b0 _ _ _ _ rfl rfl (a5 _ _ _ _ _ H l b (a8 _ rfl))
theorem exact_Least_2_ok {f : Int} {k : List (List (Bool × LI))} {c : Int} {g : Nat} {d : Hdr} {h : Nat} {out : Bool × LI} (b : exact_Least_2 f k c = some out) (l : imm (rS (rP rB (rS (rI .u32)))) d.v k ∈ ros) (a : St w0 ros (box g 22 [d.v] :: box h 3 [iV c] :: rs) w) :
  Calls Tryz.prog 68 #[iV f, (pB g), (pB h)] w (fun e w => ∃ (m : Hdr), e = .returned (.agg #[.bool out.1, m.v]) ∧ St w0 (imm (rI .u32) m.v out.2 :: ros) (box g 22 [d.v] :: box h 3 [iV c] :: rs) w) := by
 refine enterQ Tryz.func68 rfl Tryz.ntmps68 rfl fun Q p => sR fun _ q => yBb (rAl a ZT_31) fun s w a => wK q (sQ fun _ r => bE b fun t n b => bE b fun i o b => dR [0, 0, 3, 7, 0, 31, 63, 127] [7] 1 folM ?_)
 replace a := a.drew
 refine Dn [0, 1, 2, 3, 4, 5, 6] [] [7] (yR rfl (lb_ d.v O_22 e0 a R1) (yR rfl (m_ (iV f) e0) (yR rfl (yIa SL_22 e0 e0 a (rdI l) n) ?_)))
 obtain ⟨u, a⟩ := iLs a l n
 refine yR rfl (yCt O_32 e0 a F1 rfl) (yR rfl (lb_ (iV c) O_3 e0 a R2) (yR rfl (yIa SL_32 e0 e0 a (rdI F0) o) ?_))
 obtain ⟨x, y, a⟩ := iLd a F0 o
 obtain ⟨z, A, rfl, a⟩ := a.eltP
 obtain ⟨rfl, a⟩ := a.eltB
 obtain ⟨j, rfl, a⟩ := a.eltS
 refine yR rfl (yCtn (cs := [.bool i.1, j.v]) ST_31 rfl e0 a F1) (Rn QSn ?_)
 refine Lc1 rfl ?_
 refine LT wn (r_stbn (vals' := [.bool i.1, j.v]) (us := [.bool i.1, j.v]) a ST_31 e0 e0 rfl rfl (one_of rfl) rfl) fun w a => Dz [] [] (Rn QSn (r _ _ (wp_ret ?_)))
 cases b
 exact p _ _ _ (fin1r Tryz.results68 (rcs2 rfl rfl a R0 ST_31 rfl) ⟨_, rfl, ((a.k2e).facts (allC F0 (allT (allT (allT (allT allI))))))⟩)
theorem exact_inner_v2_ok {x : List (List (Bool × LI))} {n : Int} {F : List (List (Bool × LI))} {o : Int} {q : Hdr} {d : Nat} {p : Hdr} {g : Nat} {out : Bool × LI} (y : exact_inner_v2 x n F o = some out) (z : imm (rS (rP rB (rS (rI .u32)))) q.v x ∈ ros) (U : imm (rS (rP rB (rS (rI .u32)))) p.v F ∈ ros) (b : St w0 ros (box d 22 [p.v] :: box g 3 [iV o] :: rs) w) :
  Calls Tryz.prog 66 #[q.v, iV n, .func (.func 68) #[] #[(pB d), (pB g)]] w (fun e w => ∃ (G : Hdr), e = .returned (.agg #[.bool out.1, G.v]) ∧ St w0 (imm (rI .u32) G.v out.2 :: ros) (box d 22 [p.v] :: box g 3 [iV o] :: rs) w) := by
 refine enterQ Tryz.func66 rfl Tryz.ntmps66 rfl fun Q V => sR fun _ W => yBb (rAl b ZT_31) fun r w b => wK W (sR fun _ X => yBb (rAl b ZT_31) fun t w b => wK X (sQ fun _ Z => ?_))
 refine sR fun _ a0 => Ym q.v e0 (yY (yLen SL_22 e0 b (rdI z)) (Ym (iV 0) rfl (wK a0 (blockQ fun a3 a4 => bE y fun a5 a6 y => ?_))))
 have a7 : ∀ (i : Bool) (A : LI) (j : Hdr) (f : FV) w, f 6 = (pB r) → f 7 = (pB t) → St w0 (imm (rI .u32) j.v A :: ros) (box d 22 [p.v] :: box g 3 [iV o] :: box r 31 [.bool false, hnil.v] :: box t 31 [.bool i, j.v] :: rs) w → (i, A) = a5 → a3 (.exit 0) (fr 29 f) w := by
  intro i A j f w H a8 b ho
  subst ho
  refine a4 _ _ _ (Z _ _ (sR fun _ a9 => yY (lbs_ [.bool i, j.v] ST_31 (eh a8) b R3) (yT (r_stbn (vals' := [.bool i, j.v]) (us := [.bool i, j.v]) (b.k1f) ST_31 (eh H) e0 rfl rfl (one_of rfl) rfl) fun w b => wK a9 (wp_ret ?_))))
  cases y
  exact V _ _ _ (fin1r Tryz.results66 (rcs2 rfl H b R0 ST_31 rfl) ⟨_, rfl, (b.k2f)⟩)
 replace b := b.immNh (rI .u32)
 refine loopQ (fun s a w => ∃ (k : Bool) (B : LI) (h : Int) (f : FV) (l : Hdr), (k, B, h) = s ∧ a = fr 29 f ∧ f 1 = iV n ∧ f 2 = .func (.func 68) #[] #[(pB d), (pB g)] ∧ f 6 = (pB r) ∧ f 7 = (pB t) ∧ f 10 = q.v ∧ f 11 = iV (x.length : Int) ∧ f 12 = iV h ∧ St w0 (imm (rI .u32) l.v B :: ros) (box d 22 [p.v] :: box g 3 [iV o] :: box r 31 [.bool false, hnil.v] :: box t 31 [.bool k, l.v] :: rs) w) a6 ⟨_, _, _, _, _, rfl, rfl, rfl, rfl, rfl, rfl, rfl, rfl, rfl, (b.k2g)⟩ ?_
 rintro _ _ w c6 ⟨k, B, h, f, l, rfl, rfl, C, I, J, m, K, L, u, b⟩ c b0 c7 b1 b2
 refine sR fun _ b3 => yY (ylss (eh u) (eh L)) (wK b3 (seqQ fun c8 b5 b6 => ?_))
 refine cIf e0 c (fun b8 c => ?_) fun b8 c => ?_
 ·refine wp_skip (b5 _ _ (sQ fun _ c0 => blockQ fun _ c1 => sR fun _ c2 => Ym (iV h) (eh u) (bE c fun c9 N c => yY (yIa SL_22 (eh K) (eh u) b (rdI (mtF z)) N) ?_)))
  obtain ⟨D, b⟩ := iLs b (mtF z) N
  refine yY (yCt O_32 e0 b F1 rfl) (Ya (iV h) e0 (Ya D.v e0 (wK c2 (bE c fun O E c => bE c fun d0 c3 c => bE c fun d1 c4 c => bE c fun R c5 c => dR [0, 0, 0, 6, 14, 0, 0, 96, 254, 511, 1023] [7, 8, 9, 10] 4 folM ?_))))
  replace b := b.drew
  refine Dn [0, 1, 2, 3, 4, 5, 6] [] [7] (yR rfl (lbs_ [.bool k, l.v] ST_31 (eh m) b R3) (yR rfl (m_ D.v e0) (yR rfl (m_ (iV n) (eh C)) (yR rfl (yIa SL_32 e0 e0 b (rdI F0) E) ?_))))
  obtain ⟨d2, d3, b⟩ := iLd b F0 E
  obtain ⟨d4, d5, rfl, b⟩ := b.eltP
  obtain ⟨rfl, b⟩ := b.eltB
  obtain ⟨S, rfl, b⟩ := b.eltS
  refine yR rfl (yCtn (cs := [.bool O.1, S.v]) ST_31 rfl e0 b F1) (yR rfl (m_ (.func (.func 68) #[] #[(pB d), (pB g)]) (eh I)) (yR rfl (m_ (iV h) e0) (Rn QSn ?_)))
  refine Lc1 rfl ?_
  refine Lk wn (yCallw FN_68 e0 (a1 e0)) (exact_Least_2_ok c3 (F_5 U) b) ?_
  rintro _ w ⟨d6, rfl, b⟩
  refine ⟨_, rfl, ?_⟩
  refine Dn [] [0, 1, 2, 3, 4] [8] (Rn (yS rfl (lbs_ [.bool k, l.v] ST_31 (eh m) b R3) (yS rfl (m_ D.v e0) (yS rfl (m_ (iV n) (eh C)) (yS rfl (yIa SL_32 e0 e0 b (rdI F3) E) (yS rfl (yCtn (cs := [.bool O.1, S.v]) ST_31 rfl e0 b F2) QSn))))) ?_)
  refine Lc1 rfl ?_
  refine Lk wn (yCall FN_32 (a2 e0 e0)) (integer_Mul_ok c4 F1 F0 b) ?_
  rintro _ w ⟨d7, rfl, b⟩
  refine ⟨_, rfl, ?_⟩
  refine Dn [] [0] [9] (Rn (yS rfl (lbs_ [.bool k, l.v] ST_31 (eh m) b R3) QSn) ?_)
  refine Lc1 rfl ?_
  refine Lk wn (yCall FN_75 (a2 e0 e0)) (integer_Add_ok c5 F6 F0 b) ?_
  rintro _ w ⟨T, rfl, b⟩
  refine ⟨_, rfl, ?_⟩
  refine Dn [] [] [10] (Rn QSn ?_)
  refine Lc1 rfl ?_
  replace b := b.k17
  refine LT wn (r_stbn (vals' := [.bool R.1, T.v]) (us := [.bool R.1, T.v]) b ST_31 (eh m) e0 rfl rfl (one_of rfl) rfl) fun w b => Dz [] [] (Rn QSn (c1 _ _ _ (c0 _ _ (wR (yY (yadd (eh u) rfl) (Ym (iV (wa .i64 h 1)) e0 (wN ?_)))))))
  cases c
  exact b1 _ _ _ rfl ⟨_, _, _, _, _, rfl, rfl, C, I, J, m, K, L, rfl, ((b.k1o).facts (allC F0 (allT (allT (allT (allT (allT (allT (allT (allT allI))))))))))⟩
 ·refine wp_exit (b6 _ _ _ rfl ?_)
  cases c
  exact b2 _ _ _ _ rfl rfl (a7 _ _ _ _ _ J m b (b0 _ rfl))
theorem exact_Least_ok {H : List (List (Bool × LI))} {I : List (Bool × LI)} {k x : Hdr} {out : (List (Bool × LI)) × Bool × LI × Int} (c : exact_Least H I = some out) (z : imm (rS (rP rB (rS (rI .u32)))) k.v H ∈ ros) (b8 : imm (rP rB (rS (rI .u32))) x.v I ∈ ros) (b : St w0 ros rs w) :
  Calls Tryz.prog 20 #[k.v, x.v] w (fun e w => ∃ (b9 c0 : Hdr), e = .returned (.tuple #[b9.v, .agg #[.bool out.2.1, c0.v], iV out.2.2.2]) ∧ St w0 (imm (rI .u32) c0.v out.2.2.1 :: ros) (row 31 (rP rB (rS (rI .u32))) b9.v out.1 :: rs) w) := by
 refine enterQ Tryz.func20 rfl Tryz.ntmps20 rfl fun Q J => sR fun _ e7 => yBb (r_box (vals := [k.v]) b e0 rfl) fun p w b => yBb (r_box (vals := [x.v]) b e0 rfl) fun q w b => Ya hnil.v rfl (yBb (rAl b ZT_31) fun o w b => Ya (iV 0) rfl (wK e7 (sQ fun _ e8 => ?_)))
 refine wR (yY (lb_ k.v O_22 e0 b R2) (bE c fun B e9 c => yC (yCall FN_64 (a1 e0)) (exact_check_ok e9 z b) ?_))
 rintro _ w ⟨rfl, b⟩
 refine ⟨_, rfl, ?_⟩
 refine Ya (iV B) e0 (wK e8 (seqQ fun m8 f0 c1 => blockQ fun _ K => sR fun _ f1 => Ym (iV B) e0 (yY (yneq e0 rfl) (Ya (.bool (!(decide (B = 0)))) e0 (wK f1 ?_)))))
 rcases iteS c with ⟨L, c⟩ | ⟨L, c⟩
 ·refine condF e0 (nF (dT L)) (sR fun _ f2 => yY (lb_ x.v O_32 e0 b R1) (yY (yLen SL_32 e0 b (rdI b8)) (yY (lb_ k.v O_22 e0 b R2) (yY (yLen SL_22 e0 b (rdI z)) (yY (yneq e0 e0) (Ya (.bool (!(decide ((I.length : Int) = (H.length : Int))))) e0 (wK f2 ?_)))))))
  rcases iteS c with ⟨N, c⟩ | ⟨N, c⟩
  ·refine condF e0 (nF (dT N)) (wp_skip (K _ _ _ (f0 _ _ (sR fun _ f3 => yY (lb_ k.v O_22 e0 b R2) (bE c fun h f4 c => yC (yCall FN_65 (a1 e0)) (exact_columns_ok f4 z b) ?_)))))
   rintro _ w ⟨rfl, b⟩
   refine ⟨_, rfl, ?_⟩
   refine Ya (iV h) e0 (wK f3 (sQ fun _ f5 => bE c fun f6 c2 c => bE c fun f7 O c => ?_))
   refine joinN (n := 68) (fun f w => ∃ (d : Hdr) (R : List Hdr) (i : Hdr), f 2 = (pB p) ∧ f 3 = (pB q) ∧ f 5 = (pB o) ∧ f 7 = iV h ∧ f 8 = d.v ∧ f 9 = i.v ∧ St w0 ros (box p 22 [k.v] :: box q 32 [x.v] :: box o 31 [.bool false, hnil.v] :: row 32 rH d.v R :: fam 31 (rP rB (rS (rI .u32))) R f6 :: row 31 (rP rB (rS (rI .u32))) i.v f7 :: rs) w) (fun S => ?_) ?_
   ·refine dR [0, 1, 0, 4, 3, 31] [1, 3, 4, 5] 4 folM ?_
    replace b := b.drew
    refine Dn [0, 2] [] [1, 3] (yR rfl (m_ (iV h) e0) (yR rfl (m_ (iV h) e0) (Rn QSn ?_)))
    refine Lc rfl ?_ (Lc1 rfl ?_)
    ·obtain ⟨T, em13, U⟩ := mkL_rep c2 hnil
     refine LH wn (rMk b SLH_22 e0 U) fun E w b => ?_
     replace b := (b.fReps 31 (rP rB (rS (rI .u32))) T).k10
     rw [← em13] at b
     refine Dn [] [2] [3, 4] (Rn (yS rfl (m_ (iV h) e0) QSn) ?_)
     refine Lc rfl ?_ (Lc1 rfl ?_)
     ·refine LH wn (rMk b SL_32 e0 O) fun C w b => Dn [] [] [4] (Rn QSn ?_)
      refine Lc1 rfl ?_
      refine Ly wn (a_ E.v e0) (Dn [] [] [5] (Rn QSn ?_))
      refine Lc1 rfl ?_
      exact Ly wn (a_ C.v e0) (Dz [] [] (Rn QSn (S _ _ ⟨_, _, _, rfl, rfl, rfl, rfl, rfl, rfl, (b.k2h)⟩)))
     ·refine Ly wn (a_ E.v e0) (Dn [] [2] [3] (Rn (yS rfl (m_ (iV h) e0) QSn) ?_))
      refine Lc1 rfl ?_
      refine LH wn (rMk b SL_32 e0 O) fun C w b => Dn [] [] [5] (Rn QSn ?_)
      refine Lc1 rfl ?_
      exact Ly wn (a_ C.v e0) (Dz [] [] (Rn QSn (S _ _ ⟨_, _, _, rfl, rfl, rfl, rfl, rfl, rfl, (b.k2h)⟩)))
    ·refine LH wn (rMk b SL_32 e0 O) fun C w b => Dn [] [0] [1] (Rn (yS rfl (m_ (iV h) e0) QSn) ?_)
     refine Lc1 rfl ?_
     obtain ⟨T, em13, U⟩ := mkL_rep c2 hnil
     refine LH wn (rMk b SLH_22 e0 U) fun E w b => ?_
     replace b := (b.fReps 31 (rP rB (rS (rI .u32))) T).k10
     rw [← em13] at b
     refine Dn [] [] [4] (Rn QSn ?_)
     refine Lc1 rfl ?_
     refine Ly wn (a_ E.v e0) (Dn [] [] [5] (Rn QSn ?_))
     refine Lc1 rfl ?_
     exact Ly wn (a_ C.v e0) (Dz [] [] (Rn QSn (S _ _ ⟨_, _, _, rfl, rfl, rfl, rfl, rfl, rfl, (b.k2i)⟩)))
   rintro f w ⟨d, R, i, f8, f9, g0, c3, g1, g2, b⟩
   refine f5 _ _ (sQ fun _ g3 => sR fun _ g4 => Ym (iV h) (eh c3) (Ym (iV 0) rfl (wK g4 (blockQ fun g5 g6 => bE c fun g7 g8 c => ?_))))
   have g9 : ∀ (V : List (List (Bool × LI))) (W : List (Bool × LI)) (X : List Hdr) (f : FV) w, f 5 = (pB o) → f 8 = d.v → f 9 = i.v → St w0 ros (box o 31 [.bool false, hnil.v] :: row 32 rH d.v X :: fam 31 (rP rB (rS (rI .u32))) X V :: row 31 (rP rB (rS (rI .u32))) i.v W :: rs) w → (V, W) = g7 → g5 (.exit 1) (fr 68 f) w := by
    intro V W X f w c4 h0 h1 b ho
    subst ho
    refine g6 _ _ _ (g3 _ _ (sR fun _ h3 => Ym d.v (eh h0) (Ym i.v (eh h1) (bE c fun D h5 c => ?_))))
    replace b := (((b.k19).ffz).k10).fz
    refine yC (yCall FN_19 (a2 e0 e0)) (exact_Solve_ok h5 F1 F0 b) ?_
    rintro _ w ⟨c5, Z, rfl, b⟩
    refine ⟨_, rfl, ?_⟩
    refine yY (x_ c5.v e0) (yY (x_ (.agg #[.bool D.2.1, Z.v]) e0) (yY (x_ (iV D.2.2.2) e0) (Ya c5.v e0 (yT (r_stbn (vals' := [.bool D.2.1, Z.v]) (us := [.bool D.2.1, Z.v]) (b.k10) ST_31 (eh c4) e0 rfl rfl (one_of rfl) rfl) fun w b => Ya (iV D.2.2.2) e0 (wK h3 (wp_ret ?_))))))
    cases c
    exact J _ _ _ (fin3r Tryz.results20 ⟨rfl, rfl⟩ (rcs2 rfl c4 b R0 ST_31 rfl) ⟨rfl, rfl⟩ ⟨_, _, rfl, ((b.k12).facts (allC F0 (allT (allT (allT allI)))))⟩)
   refine loopQ (fun s a w => ∃ (a4 : List (List (Bool × LI))) (a5 : List (Bool × LI)) (g : Int) (f : FV) (a6 : List Hdr), (a4, a5, g) = s ∧ a = fr 68 f ∧ f 2 = (pB p) ∧ f 3 = (pB q) ∧ f 5 = (pB o) ∧ f 7 = iV h ∧ f 8 = d.v ∧ f 9 = i.v ∧ f 32 = iV h ∧ f 33 = iV g ∧ St w0 ros (box p 22 [k.v] :: box q 32 [x.v] :: box o 31 [.bool false, hnil.v] :: row 32 rH d.v a6 :: fam 31 (rP rB (rS (rI .u32))) a6 a4 :: row 31 (rP rB (rS (rI .u32))) i.v a5 :: rs) w) g8 ⟨_, _, _, _, _, rfl, rfl, f8, f9, g0, c3, g1, g2, rfl, rfl, b⟩ ?_
   rintro _ _ w m9 ⟨a4, a5, g, f, a6, rfl, rfl, c6, c7, c8, d0, d1, a7, d2, a8, b⟩ m h6 n0 h7 h8
   refine sR fun _ h9 => yY (ylss (eh a8) (eh d2)) (wK h9 (seqQ fun n1 i0 i1 => ?_))
   refine cIf e0 m (fun i2 m => ?_) fun i2 m => ?_
   ·refine wp_skip (i0 _ _ (sQ fun _ i3 => blockQ fun _ i4 => sR fun _ i5 => Ym (iV g) (eh a8) (Ya (iV g) e0 (wK i5 (sR fun _ i6 => Ym i.v (eh a7) (Ym (iV g) e0 ?_))))))
    refine yY (lb_ k.v O_22 (eh c6) b R0) (Ym (iV g) e0 (yY (ymf (vf := #[]) (vc := #[(pB q)]) a0 (a1 (eh c7))) (bE m fun i7 i8 m => ?_)))
    replace b := b.k10
    refine yC (yCall FN_66 (a3 e0 e0 e0)) (exact_inner_ok i8 z b8 b) ?_
    rintro _ w ⟨i9, rfl, b⟩
    refine ⟨_, rfl, ?_⟩
    refine bE m fun d3 d4 m => yY (yIs SL_32 e0 e0 b rO5 d4) (yT (r_stn (cs := [.bool i7.1, i9.v]) (b.k22) ST_31 e0 e0 rfl (mkP mkB (mkS F0)) d4) fun w b => wK i6 (sR fun _ j0 => Ym (iV h) (eh d0) (Ym (iV 0) rfl (wK j0 (blockQ fun j2 j3 => bE m fun j4 j5 m => ?_)))))
    have j6 : ∀ (a9 : List (List (Bool × LI))) (b0 : List Hdr) (f : FV) w, f 2 = (pB p) → f 3 = (pB q) → f 5 = (pB o) → f 7 = iV h → f 8 = d.v → f 9 = i.v → f 32 = iV h → f 33 = iV g → St w0 ros (box p 22 [k.v] :: box q 32 [x.v] :: box o 31 [.bool false, hnil.v] :: row 32 rH d.v b0 :: fam 31 (rP rB (rS (rI .u32))) b0 a9 :: row 31 (rP rB (rS (rI .u32))) i.v d3 :: rs) w → a9 = j4 → j2 (.exit 3) (fr 68 f) w := by
     intro a9 b0 f w j7 j8 j9 k0 k4 l0 l1 l2 b ho
     subst ho
     refine j3 _ _ _ (i4 _ _ _ (i3 _ _ (wR (yY (yadd (eh l2) rfl) (Ym (iV (wa .i64 g 1)) e0 (wN ?_))))))
     cases m
     exact h7 _ _ _ rfl ⟨_, _, _, _, _, rfl, rfl, j7, j8, j9, k0, k4, l0, l1, rfl, b⟩
    refine loopQ (fun s a w => ∃ (b1 : List (List (Bool × LI))) (A : Int) (f : FV) (b2 : List Hdr), (b1, A) = s ∧ a = fr 68 f ∧ f 2 = (pB p) ∧ f 3 = (pB q) ∧ f 5 = (pB o) ∧ f 7 = iV h ∧ f 8 = d.v ∧ f 9 = i.v ∧ f 10 = iV g ∧ f 32 = iV h ∧ f 33 = iV g ∧ f 43 = iV h ∧ f 44 = iV A ∧ St w0 ros (box p 22 [k.v] :: box q 32 [x.v] :: box o 31 [.bool false, hnil.v] :: row 32 rH d.v b2 :: fam 31 (rP rB (rS (rI .u32))) b2 b1 :: row 31 (rP rB (rS (rI .u32))) i.v d3 :: rs) w) j5 ⟨_, _, _, _, rfl, rfl, c6, c7, c8, d0, d1, a7, rfl, d2, a8, rfl, rfl, ((b.k2j).facts (allT allI))⟩ ?_
    rintro _ _ w n2 ⟨b1, A, f, b2, rfl, rfl, F, d5, d6, d7, r, d8, t, d9, e1, e2, b3, b⟩ j l3 n3 l4 l5
    refine sR fun _ l6 => yY (ylss (eh b3) (eh e2)) (wK l6 (seqQ fun n6 l7 l8 => ?_))
    refine cIf e0 j (fun l9 j => ?_) fun l9 j => ?_
    ·refine wp_skip (l7 _ _ (sQ fun _ m0 => blockQ fun _ m1 => sR fun _ m2 => Ym (iV A) (eh b3) (yBb (rAl b ZT_3) fun m3 w b => yT (r_stb1 (vals' := [iV A]) b O_3 e0 e0 rfl rfl rfl rfl) fun w b => wK m2 (bE j fun n7 e3 j => ?_))))
     refine bE j fun G m4 j => bE j fun n8 m5 j => bE j fun n9 e4 j => dR [0, 0, 0, 0, 12, 28, 0, 0, 0, 448, 960, 2044, 4095, 8191] [9, 10, 11, 13] 4 folM ?_
     replace b := b.drew
     refine Dn [0, 1, 2, 3, 4, 5, 6, 7, 8] [] [9] (yR rfl (m_ d.v (eh r)) (yR rfl (m_ (iV g) (eh t)) (yR rfl (m_ d.v (eh r)) (yR rfl (m_ (iV g) (eh t)) ?_))))
     obtain ⟨o0, y⟩ := b.famI R5 e3
     refine yR rfl (yIa SLH_22 e0 e0 b rO4 y) (yR rfl (yF1 O_32 e0 b rO4 y rfl) (yR rfl (lb_ k.v O_22 (eh F) b R1) (yR rfl (m_ (iV g) (eh t)) (yR rfl (ymf (vf := #[]) (vc := #[(pB p), (pB m3)]) a0 (a2 (eh F) e0)) (Rn QSn ?_)))))
     refine Lc1 rfl ?_
     replace b := b.k10
     refine Lk wn (yCall FN_66 (a3 e0 e0 e0)) (exact_inner_v2_ok m4 z z b) ?_
     rintro _ w ⟨e5, rfl, b⟩
     refine ⟨_, rfl, ?_⟩
     refine Dn [] [0, 1, 2, 3, 4, 5] [10] (Rn (yS rfl (m_ d.v (eh r)) (yS rfl (m_ (iV g) (eh t)) (yS rfl (m_ d.v (eh r)) (yS rfl (m_ (iV g) (eh t)) (yS rfl (yIa SLH_22 e0 e0 b rO4 y) (yS rfl (yF1 O_32 e0 b rO4 y rfl) QSn)))))) ?_)
     refine Lc1 rfl ?_
     refine LH wn (rLt (n := 1) (l := [(G.1, G.2)]) b SL_32 [.agg #[.bool G.1, e5.v]] (bp1 e0) rfl rfl (mks1 (cs := [.bool G.1, e5.v]) rfl (mkP mkB (mkS F0)) mks0)) fun o1 w b => Dn [] [0, 1, 2, 3, 4, 5] [11] (Rn (yS rfl (m_ d.v (eh r)) (yS rfl (m_ (iV g) (eh t)) (yS rfl (m_ d.v (eh r)) (yS rfl (m_ (iV g) (eh t)) (yS rfl (yIa SLH_22 e0 e0 b rO5 y) (yS rfl (yF1 O_32 e0 b rO5 y rfl) QSn)))))) ?_)
     refine Lc1 rfl ?_
     replace b := (b.k25).foc y e3
     refine LH wn (rAp b SL_32 e0 e0 rO2 m5) fun e6 w b => Dn [12] [0, 1] [13] ?_
     obtain ⟨o2, b4⟩ := setI_len (u := e6) e4 (b.famLx (mtR mhR))
     refine yR rfl (yIs SLH_22 e0 e0 b rO7 b4) (Rn (yS rfl (m_ d.v (eh r)) (yS rfl (m_ (iV g) (eh t)) QSn)) ?_)
     refine Lc1 rfl ?_
     replace b := b.k2k
     refine LT wn (r_sti (cs := [e6.v]) b O_32 rfl e0 e0 rfl (mkF rfl) b4) fun w b => ?_
     replace b := (b.k19).unfS y b4 e4
     refine Dz [] [] (Rn QSn (m1 _ _ _ (m0 _ _ (wR (yY (yadd (eh b3) rfl) (Ym (iV (wa .i64 A 1)) e0 (wN ?_)))))))
     cases j
     exact l4 _ _ _ rfl ⟨_, _, _, _, rfl, rfl, F, d5, d6, d7, r, d8, t, d9, e1, e2, rfl, ((b.k2l).facts (allT allI))⟩
    ·refine wp_exit (l8 _ _ _ rfl ?_)
     cases j
     exact l5 _ _ _ _ rfl rfl (j6 _ _ _ _ F d5 d6 d7 r d8 d9 e1 b (l3 _ rfl))
   ·refine wp_exit (i1 _ _ _ rfl ?_)
    cases m
    exact h8 _ _ _ _ rfl rfl (g9 _ _ _ _ _ c8 d1 a7 (b.k2m) (h6 _ rfl))
  ·refine condT e0 (nT (dF N)) (sR fun _ m6 => yY (ybuild (us := [.bool false, hnil.v]) [] SO_31 bp0 rfl) (Ya hnil.v rfl (yT (r_stbn (vals' := [.bool false, hnil.v]) (us := [.bool false, hnil.v]) b ST_31 e0 e0 rfl rfl (one_of rfl) rfl) fun w b => Ya (iV 2) rfl (wK m6 (wp_ret (K _ _ _ (c1 _ _ _ rfl ?_)))))))
   cases c
   replace b := (b.rowNh 31 (rP rB (rS (rI .u32)))).immNh (rI .u32)
   exact J _ _ _ (fin3r Tryz.results20 ⟨rfl, rfl⟩ (rcs2 rfl rfl b R1 ST_31 rfl) ⟨rfl, rfl⟩ ⟨_, _, rfl, (b.k2n)⟩)
 ·refine condT e0 (nT (dF L)) (sR fun _ m7 => yY (ybuild (us := [.bool false, hnil.v]) [] SO_31 bp0 rfl) (Ym (iV B) e0 (Ya hnil.v rfl (yT (r_stbn (vals' := [.bool false, hnil.v]) (us := [.bool false, hnil.v]) b ST_31 e0 e0 rfl rfl (one_of rfl) rfl) fun w b => Ya (iV B) e0 (wK m7 (wp_ret (K _ _ _ (c1 _ _ _ rfl ?_))))))))
  cases c
  replace b := (b.rowNh 31 (rP rB (rS (rI .u32)))).immNh (rI .u32)
  exact J _ _ _ (fin3r Tryz.results20 ⟨rfl, rfl⟩ (rcs2 rfl rfl b R1 ST_31 rfl) ⟨rfl, rfl⟩ ⟨_, _, rfl, (b.k2n)⟩)
theorem exact_Rank_ok {i : List (List (Bool × LI))} {c : Hdr} {out : Int × Int} (a : exact_Rank i = some out) (f : imm (rS (rP rB (rS (rI .u32)))) c.v i ∈ ros) (b : St w0 ros rs w) :
  Calls Tryz.prog 28 #[c.v] w (fun e w => e = .returned (.tuple #[iV out.1, iV out.2]) ∧ St w0 ros rs w) := by
 refine enterQ Tryz.func28 rfl Tryz.ntmps28 rfl fun Q j => sR fun _ k => Ya (iV 0) rfl (Ya (iV 0) rfl (wK k (sR fun _ l => Ym c.v e0 (bE a fun d m a => yC (yCall FN_64 (a1 e0)) (exact_check_ok m f b) ?_))))
 rintro _ w ⟨rfl, b⟩
 refine ⟨_, rfl, ?_⟩
 refine Ya (iV d) e0 (wK l (seqQ fun A n o => sR fun _ p => Ym (iV d) e0 (yY (yneq e0 rfl) (wK p ?_))))
 rcases iteS a with ⟨g, a⟩ | ⟨g, a⟩
 ·refine condF e0 (nF (dT g)) (wp_skip (n _ _ (sR fun _ q => Ym c.v e0 (bE a fun B r a => ?_))))
  replace b := b.immNh (rP rB (rS (rI .u32)))
  refine yC (yCall FN_54 (a2 e0 rfl)) (exact_twin_ok r (mtF f) F0 b) ?_
  rintro _ w ⟨s, C, rfl, b⟩
  refine ⟨_, rfl, ?_⟩
  refine Ym c.v e0 (bE a fun D t a => yC (yCall FN_65 (a1 e0)) (exact_columns_ok t (mtF f) b) ?_)
  rintro _ w ⟨rfl, b⟩
  refine ⟨_, rfl, ?_⟩
  refine bE a fun h u a => yC (yCall FN_61 (a2 e0 e0)) (exact_eliminate_ok u b) ?_
  rintro _ w ⟨E, x, y, rfl, b⟩
  refine ⟨_, rfl, ?_⟩
  refine yY (yFv (cs := [s.v, x.v, .bool h.2.2.1, y.v, iV h.2.2.2.2]) FV_86_1 e0 rfl) (yY (yLen SL_48 e0 b rO2) (Ya (iV (h.2.1.length : Int)) e0 (Ya (iV 0) rfl (wK q (wp_ret ?_)))))
  cases a
  exact j _ _ _ (fin2r Tryz.results28 ⟨rfl, rfl⟩ ⟨rfl, rfl⟩ ⟨rfl, ((b.k1c).facts (allT (allT allI)))⟩)
 ·refine condT e0 (nT (dF g)) (sR fun _ z => Ym (iV d) e0 (Ya (iV 0) rfl (Ya (iV d) e0 (wK z (wp_ret (o _ _ _ rfl ?_))))))
  cases a
  exact j _ _ _ (fin2r Tryz.results28 ⟨rfl, rfl⟩ ⟨rfl, rfl⟩ ⟨rfl, b⟩)
theorem sparseref01_mulMag_ok {F G : LI} {l h : Hdr} {out : LI} (m : sparseref01_mulMag F G = some out) (x : imm (rI .u32) l.v F ∈ ros) (n : imm (rI .u32) h.v G ∈ ros) (b : St w0 ros rs w) :
  Calls Tryz.prog 115 #[l.v, h.v] w (fun e w => ∃ (H : Hdr), e = .returned (H.v) ∧ St w0 ros (row 103 (rI .u32) H.v out :: rs) w) := by
 refine enterQ Tryz.func115 rfl Tryz.ntmps115 rfl fun Q X => sR fun _ Z => Ya hnil.v rfl (wK Z (sR fun _ a0 => Ym l.v e0 (yY (yLen SL_29 e0 b (rdI x)) (Ym h.v e0 (yY (yLen SL_29 e0 b (rdI n)) (yY (yadd e0 e0) (bE m fun e3 a1 m => ?_)))))))
 refine yH (rMk b SL_29 e0 a1) fun c w b => Ya c.v e0 (wK a0 (sQ fun _ a2 => sR fun _ a3 => Ya (iV 0) rfl (wK a3 (blockQ fun a4 a5 => bE m fun a6 a7 m => ?_))))
 have a8 : ∀ (A : LI) (f : FV) w, f 5 = c.v → St w0 ros (row 103 (rI .u32) c.v A :: rs) w → A = a6 → a4 (.exit 0) (fr 66 f) w := by
  intro A f w a9 b ho
  subst ho
  refine a5 _ _ _ (a2 _ _ (sR fun _ b0 => Ym c.v (eh a9) (Ya c.v e0 (wK b0 (wp_ret ?_)))))
  cases m
  exact X _ _ _ (fin1r Tryz.results115 ⟨rfl, rfl⟩ ⟨_, rfl, b⟩)
 refine loopQ (fun s a w => ∃ (B : LI) (g : Int) (f : FV), (B, g) = s ∧ a = fr 66 f ∧ f 0 = l.v ∧ f 1 = h.v ∧ f 5 = c.v ∧ f 6 = iV g ∧ St w0 ros (row 103 (rI .u32) c.v B :: rs) w) a7 ⟨_, _, _, rfl, rfl, rfl, rfl, rfl, rfl, b⟩ ?_
 rintro _ _ w e4 ⟨B, g, f, rfl, rfl, I, b1, J, K, b⟩ i b2 e5 b3 b4
 refine seqQ fun e6 b5 b6 => sR fun _ b7 => Ym (iV g) (eh K) (Ym l.v (eh I) (yY (yLen SL_29 e0 b (rdI x)) (yY (ylss e0 e0) (wK b7 ?_))))
 refine cIf e0 i (fun b8 i => ?_) fun b8 i => ?_
 ·refine wp_skip (b5 _ _ (sQ fun _ b9 => blockQ fun _ c0 => sR fun _ c1 => Ya (.int .u64 0) rfl (wK c1 (sQ fun _ c2 => sR fun _ c3 => Ya (iV 0) rfl (wN ?_)))))
  refine c3 _ _ (blockQ fun c4 c5 => bE i fun c6 c7 i => ?_)
  have c8 : ∀ (C : LI) (o : Int) (f : FV) w, f 0 = l.v → f 1 = h.v → f 5 = c.v → f 6 = iV g → f 7 = .int .u64 o → St w0 ros (row 103 (rI .u32) c.v C :: rs) w → (C, o) = c6 → c4 (.exit 2) (fr 66 f) w := by
   intro C o f w c9 L N O d0 b ho
   subst ho
   refine c5 _ _ _ (c2 _ _ (wR (Ym c.v (eh N) (Ym (iV g) (eh O) (Ym h.v (eh L) (yY (yLen SL_29 e0 b (rdI n)) (yY (yadd e0 e0) (Ym (.int .u64 o) (eh d0) (yY (ycv (k' := .u32) (by kernel_rfl) (by kernel_rfl) e0) (bE i fun e7 R i => yY (yIs SL_29 e0 e0 b rO0 R) (yT (r_sti (cs := [.int .u32 (wc .u32 o)]) b O_103 rfl e0 e0 rfl mkI R) fun w b => ?_)))))))))))
   refine wN (c0 _ _ _ (b9 _ _ (wR (Ym (iV g) (eh O) (yY (yadd e0 rfl) (Ya (iV (wa .i64 g 1)) e0 (wN ?_)))))))
   cases i
   exact b3 _ _ _ rfl ⟨_, _, _, rfl, rfl, c9, L, N, rfl, b⟩
  refine loopQ (fun s a w => ∃ (D : LI) (j k : Int) (f : FV), (D, j, k) = s ∧ a = fr 66 f ∧ f 0 = l.v ∧ f 1 = h.v ∧ f 5 = c.v ∧ f 6 = iV g ∧ f 7 = .int .u64 j ∧ f 8 = iV k ∧ St w0 ros (row 103 (rI .u32) c.v D :: rs) w) c7 ⟨_, _, _, _, rfl, rfl, I, b1, J, K, rfl, rfl, b⟩ ?_
  rintro _ _ w e8 ⟨D, j, k, f, rfl, rfl, E, y, z, p, S, q, b⟩ d d1 e9 d2 d3
  refine seqQ fun f0 d4 d5 => sR fun _ d6 => Ym (iV k) (eh q) (Ym h.v (eh y) (yY (yLen SL_29 e0 b (rdI n)) (yY (ylss e0 e0) (wK d6 ?_))))
  refine cIf e0 d (fun d7 d => ?_) fun d7 d => ?_
  ·refine wp_skip (d4 _ _ (sQ fun _ d8 => blockQ fun _ d9 => sQ fun _ e1 => bE d fun r T d => bE d fun t U d => bE d fun u V d => dR [0, 0, 0, 6, 14, 30, 0, 0, 192, 448, 960, 2046, 4095, 0, 0, 0, 49152, 122880, 253952, 516096, 1048575, 2097151] [21] 1 folM ?_))
   replace b := b.drew
   refine Dn [0, 1, 2, 3, 4, 5, 6, 7, 8, 9, 10, 11, 12, 13, 14, 15, 16, 17, 18, 19, 20] [] [21] (yR rfl (m_ (.int .u64 j) (eh S)) (yR rfl (m_ l.v (eh E)) (yR rfl (m_ (iV g) (eh p)) (yR rfl (yIa SL_29 e0 e0 b (rdI x) T) (yR rfl (yI O_103 e0 b (rdI x) T) (yR rfl (ycv (k' := .u64) (by kernel_rfl) (by kernel_rfl) e0) (yR rfl (m_ h.v (eh y)) (yR rfl (m_ (iV k) (eh q)) (yR rfl (yIa SL_29 e0 e0 b (rdI n) U) (yR rfl (yI O_103 e0 b (rdI n) U) (yR rfl (ycv (k' := .u64) (by kernel_rfl) (by kernel_rfl) e0) (yR rfl (ymul e0 e0) (yR rfl (yadd e0 e0) ?_)))))))))))))
   refine yR rfl (m_ c.v (eh z)) (yR rfl (m_ (iV g) (eh p)) (yR rfl (m_ (iV k) (eh q)) (yR rfl (yadd e0 e0) (yR rfl (yIa SL_29 e0 e0 b rO0 V) (yR rfl (yI O_103 e0 b rO0 V) (yR rfl (ycv (k' := .u64) (by kernel_rfl) (by kernel_rfl) e0) (yR rfl (yadd e0 e0) (Rn QSn ?_))))))))
   refine Lc1 rfl ?_
   refine Ly wn (a_ (.int .u64 (wa .u64 (wa .u64 j (wm .u64 (wc .u64 r) (wc .u64 t))) (wc .u64 u))) e0) (Dz [] [] (Rn QSn (e1 _ _ (sR fun _ e2 => Ym c.v (eh z) (Ym (iV g) (eh p) (Ym (iV k) (eh q) (yY (yadd e0 e0) (Ym (.int .u64 (wa .u64 (wa .u64 j (wm .u64 (wc .u64 r) (wc .u64 t))) (wc .u64 u))) e0 (yY (ycv (k' := .u32) (by kernel_rfl) (by kernel_rfl) e0) (bE d fun f1 W d => yY (yIs SL_29 e0 e0 b rO0 W) ?_))))))))))
   refine yT (r_sti (cs := [.int .u32 (wc .u32 (wa .u64 (wa .u64 j (wm .u64 (wc .u64 r) (wc .u64 t))) (wc .u64 u)))]) b O_103 rfl e0 e0 rfl mkI W) fun w b => wK e2 (wR (Ym (.int .u64 (wa .u64 (wa .u64 j (wm .u64 (wc .u64 r) (wc .u64 t))) (wc .u64 u))) e0 (yY (yshrc e0 rfl) (Ya (.int .u64 (wsrc .u64 (wa .u64 (wa .u64 j (wm .u64 (wc .u64 r) (wc .u64 t))) (wc .u64 u)) 32)) e0 (wN (d9 _ _ _ (d8 _ _ (wR (Ym (iV k) (eh q) (yY (yadd e0 rfl) ?_))))))))))
   refine Ya (iV (wa .i64 k 1)) e0 (wN ?_)
   cases d
   exact d2 _ _ _ rfl ⟨_, _, _, _, rfl, rfl, E, y, z, p, rfl, rfl, b⟩
  ·refine wp_exit (d5 _ _ _ rfl ?_)
   cases d
   exact d3 _ _ _ _ rfl rfl (c8 _ _ _ _ E y z p S b (d1 _ rfl))
 ·refine wp_exit (b6 _ _ _ rfl ?_)
  cases i
  exact b4 _ _ _ _ rfl rfl (a8 _ _ _ J b (b2 _ rfl))
theorem sparseref01_Mul_ok {c : Bool} {h : LI} {d : Bool} {i : LI} {g f : Hdr} {out : Bool × LI} (b : sparseref01_Mul c h d i = some out) (m : imm (rI .u32) g.v h ∈ ros) (n : imm (rI .u32) f.v i ∈ ros) (a : St w0 ros rs w) :
  Calls Tryz.prog 86 #[.agg #[.bool c, g.v], .agg #[.bool d, f.v]] w (fun e w => ∃ (j : Hdr), e = .returned (.agg #[.bool out.1, j.v]) ∧ St w0 ros (row 103 (rI .u32) j.v out.2 :: rs) w) := by
 refine enterQ Tryz.func86 rfl Tryz.ntmps86 rfl fun Q o => sR fun _ p => yBb (r_box (vals := [.bool c, g.v]) a e0 rfl) fun x w a => yBb (r_box (vals := [.bool d, f.v]) a e0 rfl) fun y w a => yBb (rAl a ZT_31) fun z w a => wK p (sQ fun _ q => bE b fun A r b => bE b fun B s b => ?_)
 refine bE b fun C t b => bE b fun k u b => dR [0, 1, 0, 4, 15, 0, 32, 96, 0, 256, 992, 2016, 4095, 8191] [7, 10, 11, 12, 13] 5 folM ?_
 replace a := a.drew
 refine Dn [0, 1, 2, 3, 4, 5, 6, 8, 9] [] [7] (yR rfl (yFb FL_31_0 e0) (yR rfl (lb_ (.bool c) O_4 e0 a R2) (yR rfl (yFb FL_31_0 e0) (yR rfl (lb_ (.bool d) O_4 e0 a R1) (yR rfl (yneb (by kernel_rfl) e0 e0) (yR rfl (yFb FL_31_1 e0) (yR rfl (lb_ g.v O_29 e0 a R2) (yR rfl (yFb FL_31_1 e0) (yR rfl (lb_ f.v O_29 e0 a R1) (Rn QSn ?_))))))))))
 refine Lc1 rfl ?_
 refine Lk wn (yCall FN_116 (a1 e0)) (sparseref01_trim_ok r m a) ?_
 rintro _ w ⟨D, rfl, a⟩
 refine ⟨_, rfl, ?_⟩
 refine Dn [] [0, 1, 2, 3, 4, 8, 9] [10] (Rn (yS rfl (yFb FL_31_0 e0) (yS rfl (lb_ (.bool c) O_4 e0 a R3) (yS rfl (yFb FL_31_0 e0) (yS rfl (lb_ (.bool d) O_4 e0 a R2) (yS rfl (yneb (by kernel_rfl) e0 e0) (yS rfl (yFb FL_31_1 e0) (yS rfl (lb_ f.v O_29 e0 a R2) QSn))))))) ?_)
 refine Lc1 rfl ?_
 refine Lk wn (yCall FN_116 (a1 e0)) (sparseref01_trim_ok s n a) ?_
 rintro _ w ⟨E, rfl, a⟩
 refine ⟨_, rfl, ?_⟩
 refine Dn [] [0, 1, 2, 3, 4] [11] (Rn (yS rfl (yFb FL_31_0 e0) (yS rfl (lb_ (.bool c) O_4 e0 a R4) (yS rfl (yFb FL_31_0 e0) (yS rfl (lb_ (.bool d) O_4 e0 a R3) (yS rfl (yneb (by kernel_rfl) e0 e0) QSn))))) ?_)
 refine Lc1 rfl ?_
 replace a := ((a.k10).fz).fz
 refine Lk wn (yCall FN_115 (a2 e0 e0)) (sparseref01_mulMag_ok t F1 F0 a) ?_
 rintro _ w ⟨F, rfl, a⟩
 refine ⟨_, rfl, ?_⟩
 refine Dn [] [0, 1, 2, 3, 4] [12] (Rn (yS rfl (yFb FL_31_0 e0) (yS rfl (lb_ (.bool c) O_4 e0 a R3) (yS rfl (yFb FL_31_0 e0) (yS rfl (lb_ (.bool d) O_4 e0 a R2) (yS rfl (yneb (by kernel_rfl) e0 e0) QSn))))) ?_)
 refine Lc1 rfl ?_
 replace a := a.fz
 refine Lk wn (yCall FN_110 (a2 e0 e0)) (sparseref01_make1_ok u F0 a) ?_
 rintro _ w ⟨l, rfl, a⟩
 refine ⟨_, rfl, ?_⟩
 refine Dn [] [] [13] (Rn QSn ?_)
 refine Lc1 rfl ?_
 replace a := a.k10
 refine LT wn (r_stbn (vals' := [.bool k.1, l.v]) (us := [.bool k.1, l.v]) a ST_31 e0 e0 rfl rfl (one_of rfl) rfl) fun w a => Dz [] [] (Rn QSn (q _ _ (wp_ret ?_)))
 cases b
 exact o _ _ _ (fin1r Tryz.results86 (rcs2 rfl rfl a R0 ST_31 rfl) ⟨_, rfl, ((a.k2o).facts (allT (allT (allT allI))))⟩)
theorem sparseref01_addMag_ok {G B : LI} {i j : Hdr} {out : LI} (c : sparseref01_addMag G B = some out) (u : imm (rI .u32) i.v G ∈ ros) (x : imm (rI .u32) j.v B ∈ ros) (b : St w0 ros rs w) :
  Calls Tryz.prog 142 #[i.v, j.v] w (fun e w => ∃ (H : Hdr), e = .returned (H.v) ∧ St w0 ros (row 103 (rI .u32) H.v out :: rs) w) := by
 refine enterQ Tryz.func142 rfl Tryz.ntmps142 rfl fun Q U => sR fun _ V => Ya hnil.v rfl (wK V (sR fun _ W => Ya hnil.v rfl (wK W (sR fun _ X => Ya (.int .u64 0) rfl ?_))))
 refine wK X (sQ fun _ Z => sR fun _ a0 => Ya (iV 0) rfl (wK a0 (blockQ fun a1 a2 => bE c fun a3 a4 c => ?_)))
 have a5 : ∀ (C : LI) (m : Int) (y : Hdr) (f : FV) w, f 5 = y.v → f 6 = .int .u64 m → St w0 ros (row 103 (rI .u32) y.v C :: rs) w → (C, m) = a3 → a1 (.exit 0) (fr 51 f) w := by
  intro C m y f w a6 a7 b ho
  subst ho
  refine a2 _ _ _ (Z _ _ (sR fun _ a8 => Ym y.v (eh a6) (Ym (.int .u64 m) (eh a7) (yY (ycv (k' := .u32) (by kernel_rfl) (by kernel_rfl) e0) (yH (rLt (n := 1) (l := [wc .u32 m]) b SL_29 [.int .u32 (wc .u32 m)] (bp1 e0) rfl rfl (mks1 (cs := [.int .u32 (wc .u32 m)]) rfl mkI mks0)) fun d7 w b => bE c fun d8 a9 c => yH (rAp (b.k10) SL_29 e0 e0 rO1 a9) fun b0 w b => Ya b0.v e0 (wN ?_))))))
  refine a8 _ _ (wp_ret ?_)
  cases c
  exact U _ _ _ (fin1r Tryz.results142 ⟨rfl, rfl⟩ ⟨_, rfl, (b.k11)⟩)
 replace b := b.rowNh 103 (rI .u32)
 refine loopQ (fun s a w => ∃ (o : LI) (p d : Int) (f : FV) (k : Hdr), (o, p, d) = s ∧ a = fr 51 f ∧ f 0 = i.v ∧ f 1 = j.v ∧ f 5 = k.v ∧ f 6 = .int .u64 p ∧ f 7 = iV d ∧ St w0 ros (row 103 (rI .u32) k.v o :: rs) w) a4 ⟨_, _, _, _, _, rfl, rfl, rfl, rfl, rfl, rfl, rfl, b⟩ ?_
 rintro _ _ w I ⟨o, p, d, f, k, rfl, rfl, q, D, E, F, r, b⟩ g b1 d9 b2 b3
 refine seqQ fun e1 b4 b5 => sR fun _ b6 => Ym (iV d) (eh r) (Ym i.v (eh q) (yY (yLen SL_29 e0 b (rdI u)) (Ym j.v (eh D) (yY (yLen SL_29 e0 b (rdI x)) (yY (ymax e0 e0) (yY (ylss e0 e0) (wK b6 ?_)))))))
 refine cIf e0 g (fun b7 g => ?_) fun b7 g => ?_
 ·refine wp_skip (b4 _ _ (sQ fun _ b8 => blockQ fun _ b9 => sQ fun c0 c1 => sR fun _ c2 => Ym (iV d) (eh r) (Ym i.v (eh q) (yY (yLen SL_29 e0 b (rdI u)) (yY (ylss e0 e0) (wK c2 ?_))))))
  have J : ∀ (t : Int) (f : FV) w, f 0 = i.v → f 1 = j.v → f 5 = k.v → f 6 = .int .u64 t → f 7 = iV d → St w0 ros (row 103 (rI .u32) k.v o :: rs) w → sparseref01_addMag_j6 d B o t = some I → c0 .normal (fr 51 f) w := by
   intro t f w K z L N A b c
   refine c1 _ _ (sQ fun c3 c4 => sR fun _ c5 => Ym (iV d) (eh A) (Ym j.v (eh z) (yY (yLen SL_29 e0 b (rdI x)) (yY (ylss e0 e0) (wK c5 ?_)))))
   have O : ∀ (h : Int) (f : FV) w, f 0 = i.v → f 1 = j.v → f 5 = k.v → f 6 = .int .u64 h → f 7 = iV d → St w0 ros (row 103 (rI .u32) k.v o :: rs) w → sparseref01_addMag_j7 o d h = some I → c3 .normal (fr 51 f) w := by
    intro h f w c6 c7 c8 R c9 b c
    refine c4 _ _ (sR fun _ d0 => Ym k.v (eh c8) (Ym (.int .u64 h) (eh R) (yY (ycv (k' := .u32) (by kernel_rfl) (by kernel_rfl) e0) (yH (rLt (n := 1) (l := [wc .u32 h]) b SL_29 [.int .u32 (wc .u32 h)] (bp1 e0) rfl rfl (mks1 (cs := [.int .u32 (wc .u32 h)]) rfl mkI mks0)) fun e2 w b => bE c fun e3 d1 c => yH (rAp (b.k10) SL_29 e0 e0 rO1 d1) fun d2 w b => Ya d2.v e0 (wK d0 ?_)))))
    refine wR (Ym (.int .u64 h) (eh R) (yY (yshrc e0 rfl) (Ya (.int .u64 (wsrc .u64 h 32)) e0 (wN (b9 _ _ _ (b8 _ _ (wR (Ym (iV d) (eh c9) (yY (yadd e0 rfl) (Ya (iV (wa .i64 d 1)) e0 (wN ?_)))))))))))
    cases c
    exact b2 _ _ _ rfl ⟨_, _, _, _, _, rfl, rfl, c6, c7, rfl, rfl, rfl, (b.k11)⟩
   refine cIf e0 c (fun d3 c => ?_) fun d3 c => ?_
   ·exact wR (Ym (.int .u64 t) (eh N) (Ym j.v (eh z) (Ym (iV d) (eh A) (bE c fun d4 S c => yY (yIa SL_29 e0 e0 b (rdI x) S) (yY (yI O_103 e0 b (rdI x) S) (yY (ycv (k' := .u64) (by kernel_rfl) (by kernel_rfl) e0) (yY (yadd e0 e0) (Ya (.int .u64 (wa .u64 t (wc .u64 d4))) e0 (wN (O _ _ _ K z L rfl A b c))))))))))
   ·exact wp_skip (O _ _ _ K z L N A b c)
  refine cIf e0 g (fun d5 g => ?_) fun d5 g => ?_
  ·exact wR (Ym (.int .u64 p) (eh F) (Ym i.v (eh q) (Ym (iV d) (eh r) (bE g fun d6 T g => yY (yIa SL_29 e0 e0 b (rdI u) T) (yY (yI O_103 e0 b (rdI u) T) (yY (ycv (k' := .u64) (by kernel_rfl) (by kernel_rfl) e0) (yY (yadd e0 e0) (Ya (.int .u64 (wa .u64 p (wc .u64 d6))) e0 (wN (J _ _ _ q D E rfl r b g))))))))))
  ·exact wp_skip (J _ _ _ q D E F r b g)
 ·refine wp_exit (b5 _ _ _ rfl ?_)
  cases g
  exact b3 _ _ _ _ rfl rfl (a5 _ _ _ _ _ E F b (b1 _ rfl))
theorem sparseref01_cmpMag_ok {n z : LI} {h i : Hdr} {out : Int} (d : sparseref01_cmpMag n z = some out) (j : imm (rI .u32) h.v n ∈ ros) (k : imm (rI .u32) i.v z ∈ ros) (b : St w0 ros rs w) :
  Calls Tryz.prog 143 #[h.v, i.v] w (fun e w => e = .returned (iV out) ∧ St w0 ros rs w) := by
 refine enterQ Tryz.func143 rfl Tryz.ntmps143 rfl fun Q m => sR fun _ K => Ya (iV 0) rfl (wK K (seqQ fun b7 L A => sR fun _ N => Ym h.v e0 (yY (yLen SL_29 e0 b (rdI j)) (Ym i.v e0 (yY (yLen SL_29 e0 b (rdI k)) (yY (yneq e0 e0) ?_))))))
 refine wK N ?_
 rcases iteS d with ⟨o, d⟩ | ⟨o, d⟩
 ·refine condF e0 (nF (dT o)) (wp_skip (L _ _ (seqQ fun b8 O R => sR fun _ S => Ym h.v e0 (yY (yLen SL_29 e0 b (rdI j)) (yY (ysub e0 rfl) (Ya (iV (ws .i64 (n.length : Int) 1)) e0 (wK S (blockQ fun B C => bE d fun D T d => ?_))))))))
  have U : ∀ (f : FV) w, St w0 ros rs w → .inl () = D → B (.exit 0) (fr 41 f) w := by
   intro f w b ho
   subst ho
   refine C _ _ _ (O _ _ (sR fun _ V => Ya (iV 0) rfl (wK V (wp_ret ?_))))
   cases d
   exact m _ _ _ (fin1r Tryz.results143 ⟨rfl, rfl⟩ ⟨rfl, b⟩)
  have E : ∀ (p : Int) (f : FV) w, f 4 = iV p → St w0 ros rs w → .inr p = D → B .ret (fr 41 f) w := by
   intro p f w W b ho
   subst ho
   refine C _ _ _ (R _ _ _ rfl ?_)
   cases d
   exact m _ _ _ (fin1r Tryz.results143 ⟨rfl, W⟩ ⟨rfl, b⟩)
  refine loopQ (fun s a w => ∃ (g : Int) (f : FV), g = s ∧ a = fr 41 f ∧ f 0 = h.v ∧ f 1 = i.v ∧ f 5 = iV g ∧ St w0 ros rs w) T ⟨_, _, rfl, rfl, rfl, rfl, rfl, b⟩ ?_
  rintro _ _ w b9 ⟨g, f, rfl, rfl, q, r, l, b⟩ c t c0 X u
  refine seqQ fun c1 Z a0 => sR fun _ a1 => Ym (iV g) (eh l) (yY (ygeq e0 rfl) (wK a1 ?_))
  refine cIf e0 c (fun a2 c => ?_) fun a2 c => ?_
  ·refine wp_skip (Z _ _ (seqQ fun c2 a3 F => blockQ fun _ x => sQ fun _ a4 => bE c fun c3 G c => bE c fun c4 H c => dR [0, 0, 3, 7, 0, 0, 48, 112, 255] [] 0 folM ?_))
   replace b := b.drew
   refine Dz [0, 1, 2, 3, 4, 5, 6, 7, 8] [] (yR rfl (m_ h.v (eh q)) (yR rfl (m_ (iV g) (eh l)) (yR rfl (yIa SL_29 e0 e0 b (rdI j) G) (yR rfl (yI O_103 e0 b (rdI j) G) (yR rfl (m_ i.v (eh r)) (yR rfl (m_ (iV g) (eh l)) (yR rfl (yIa SL_29 e0 e0 b (rdI k) H) (yR rfl (yI O_103 e0 b (rdI k) H) (yR rfl (yneq e0 e0) (Rn QSn (a4 _ _ ?_)))))))))))
   rcases iteS c with ⟨y, c⟩ | ⟨y, c⟩
   ·refine condF e0 (nF (dT y)) (wp_skip (x _ _ _ (a3 _ _ (wR (Ym (iV g) (eh l) (yY (ysub e0 rfl) (Ya (iV (ws .i64 g 1)) e0 (wN ?_))))))))
    cases c
    exact X _ _ _ rfl ⟨_, _, rfl, rfl, q, r, rfl, b⟩
   ·refine condT e0 (nT (dF y)) (seqQ fun c6 a5 a6 => sQ fun _ a7 => bE c fun c7 I c => bE c fun c8 J c => dR [0, 0, 3, 7, 0, 0, 48, 112, 255] [] 0 folM ?_)
    replace b := b.drew
    refine Dz [0, 1, 2, 3, 4, 5, 6, 7, 8] [] (yR rfl (m_ h.v (eh q)) (yR rfl (m_ (iV g) (eh l)) (yR rfl (yIa SL_29 e0 e0 b (rdI j) I) (yR rfl (yI O_103 e0 b (rdI j) I) (yR rfl (m_ i.v (eh r)) (yR rfl (m_ (iV g) (eh l)) (yR rfl (yIa SL_29 e0 e0 b (rdI k) J) (yR rfl (yI O_103 e0 b (rdI k) J) (yR rfl (ylss e0 e0) (Rn QSn (a7 _ _ ?_)))))))))))
    refine cIf e0 c (fun a8 c => ?_) fun a8 c => ?_
    ·refine sR fun _ a9 => Ya (iV (-1)) rfl (wK a9 (wp_ret (a6 _ _ _ rfl (x _ _ _ (F _ _ _ rfl ?_)))))
     cases c
     exact u _ _ _ _ rfl rfl (E _ _ _ rfl b (t _ rfl))
    ·refine wp_skip (a5 _ _ (sR fun _ b0 => Ya (iV 1) rfl (wK b0 (wp_ret (x _ _ _ (F _ _ _ rfl ?_))))))
     cases c
     exact u _ _ _ _ rfl rfl (E _ _ _ rfl b (t _ rfl))
  ·refine wp_exit (a0 _ _ _ rfl ?_)
   cases c
   exact u _ _ _ _ rfl rfl (U _ _ b (t _ rfl))
 ·refine condT e0 (nT (dF o)) (seqQ fun c9 b1 b2 => sR fun _ b3 => Ym h.v e0 (yY (yLen SL_29 e0 b (rdI j)) (Ym i.v e0 (yY (yLen SL_29 e0 b (rdI k)) (yY (ylss e0 e0) (wK b3 ?_))))))
  refine cIf e0 d (fun b4 d => ?_) fun b4 d => ?_
  ·refine sR fun _ b5 => Ya (iV (-1)) rfl (wK b5 (wp_ret (b2 _ _ _ rfl (A _ _ _ rfl ?_))))
   cases d
   exact m _ _ _ (fin1r Tryz.results143 ⟨rfl, rfl⟩ ⟨rfl, b⟩)
  ·refine wp_skip (b1 _ _ (sR fun _ b6 => Ya (iV 1) rfl (wK b6 (wp_ret (A _ _ _ rfl ?_)))))
   cases d
   exact m _ _ _ (fin1r Tryz.results143 ⟨rfl, rfl⟩ ⟨rfl, b⟩)
theorem sparseref01_subMag_ok {B C : LI} {j k : Hdr} {out : LI} (h : sparseref01_subMag B C = some out) (u : imm (rI .u32) j.v B ∈ ros) (x : imm (rI .u32) k.v C ∈ ros) (b : St w0 ros rs w) :
  Calls Tryz.prog 144 #[j.v, k.v] w (fun e w => ∃ (D : Hdr), e = .returned (D.v) ∧ St w0 ros (row 103 (rI .u32) D.v out :: rs) w) := by
 refine enterQ Tryz.func144 rfl Tryz.ntmps144 rfl fun Q I => sR fun _ J => Ya hnil.v rfl (wK J (sR fun _ K => Ya hnil.v rfl (wK K (sR fun _ L => Ya (.int .u64 0) rfl ?_))))
 refine wK L (sQ fun _ N => sR fun _ O => Ya (iV 0) rfl (wK O (blockQ fun R S => bE h fun T U h => ?_)))
 have V : ∀ (y : LI) (p : Hdr) (f : FV) w, f 5 = p.v → St w0 ros (row 103 (rI .u32) p.v y :: rs) w → y = T → R (.exit 0) (fr 41 f) w := by
  intro y p f w W b ho
  subst ho
  refine S _ _ _ (N _ _ (sR fun _ X => Ym p.v (eh W) (Ya p.v e0 (wK X (wp_ret ?_)))))
  cases h
  exact I _ _ _ (fin1r Tryz.results144 ⟨rfl, rfl⟩ ⟨_, rfl, b⟩)
 replace b := b.rowNh 103 (rI .u32)
 refine loopQ (fun s a w => ∃ (q : LI) (i d : Int) (f : FV) (m : Hdr), (q, i, d) = s ∧ a = fr 41 f ∧ f 0 = j.v ∧ f 1 = k.v ∧ f 5 = m.v ∧ f 6 = .int .u64 i ∧ f 7 = iV d ∧ St w0 ros (row 103 (rI .u32) m.v q :: rs) w) U ⟨_, _, _, _, _, rfl, rfl, rfl, rfl, rfl, rfl, rfl, b⟩ ?_
 rintro _ _ w Z ⟨q, i, d, f, m, rfl, rfl, r, t, z, a0, o, b⟩ c a1 c3 a2 a3
 refine seqQ fun c4 a4 a5 => sR fun _ a6 => Ym (iV d) (eh o) (Ym j.v (eh r) (yY (yLen SL_29 e0 b (rdI u)) (yY (ylss e0 e0) (wK a6 ?_))))
 refine cIf e0 c (fun a7 c => ?_) fun a7 c => ?_
 ·refine wp_skip (a4 _ _ (sQ fun _ a8 => blockQ fun _ a9 => sR fun _ b0 => Ym j.v (eh r) (Ym (iV d) (eh o) (bE c fun A E c => yY (yIa SL_29 e0 e0 b (rdI u) E) (yY (yI O_103 e0 b (rdI u) E) (yY (ycv (k' := .u64) (by kernel_rfl) (by kernel_rfl) e0) (Ym (.int .u64 i) (eh a0) (yY (ysub e0 e0) ?_))))))))
  refine Ya (.int .u64 (ws .u64 (wc .u64 A) i)) e0 (wK b0 (sQ fun b1 b2 => sR fun _ b3 => Ym (iV d) (eh o) (Ym k.v (eh t) (yY (yLen SL_29 e0 b (rdI x)) (yY (ylss e0 e0) (wK b3 ?_))))))
  have F : ∀ (g : Int) (f : FV) w, f 0 = j.v → f 1 = k.v → f 5 = m.v → f 7 = iV d → f 8 = .int .u64 g → St w0 ros (row 103 (rI .u32) m.v q :: rs) w → sparseref01_subMag_j4 q d g = some Z → b1 .normal (fr 41 f) w := by
   intro g f w b4 b5 b6 b7 G b h
   refine b2 _ _ (sR fun _ b8 => Ym m.v (eh b6) (Ym (.int .u64 g) (eh G) (yY (ycv (k' := .u32) (by kernel_rfl) (by kernel_rfl) e0) (yH (rLt (n := 1) (l := [wc .u32 g]) b SL_29 [.int .u32 (wc .u32 g)] (bp1 e0) rfl rfl (mks1 (cs := [.int .u32 (wc .u32 g)]) rfl mkI mks0)) fun c5 w b => bE h fun c6 b9 h => yH (rAp (b.k10) SL_29 e0 e0 rO1 b9) fun c0 w b => Ya c0.v e0 (wK b8 ?_)))))
   refine wR (Ym (.int .u64 g) (eh G) (yY (yshrc e0 rfl) (Ya (.int .u64 (wsrc .u64 g 63)) e0 (wN (a9 _ _ _ (a8 _ _ (wR (Ym (iV d) (eh b7) (yY (yadd e0 rfl) (Ya (iV (wa .i64 d 1)) e0 (wN ?_)))))))))))
   cases h
   exact a2 _ _ _ rfl ⟨_, _, _, _, _, rfl, rfl, b4, b5, rfl, rfl, rfl, (b.k11)⟩
  refine cIf e0 c (fun c1 c => ?_) fun c1 c => ?_
  ·exact wR (Ym (.int .u64 (ws .u64 (wc .u64 A) i)) e0 (Ym k.v (eh t) (Ym (iV d) (eh o) (bE c fun c2 H c => yY (yIa SL_29 e0 e0 b (rdI x) H) (yY (yI O_103 e0 b (rdI x) H) (yY (ycv (k' := .u64) (by kernel_rfl) (by kernel_rfl) e0) (yY (ysub e0 e0) (Ya (.int .u64 (ws .u64 (ws .u64 (wc .u64 A) i) (wc .u64 c2))) e0 (wN (F _ _ _ r t z o rfl b c))))))))))
  ·exact wp_skip (F _ _ _ r t z o rfl b c)
 ·refine wp_exit (a5 _ _ _ rfl ?_)
  cases c
  exact a3 _ _ _ _ rfl rfl (V _ _ _ _ z b (a1 _ rfl))
theorem sparseref01_Add_ok {c : Bool} {k : LI} {d : Bool} {l : LI} {i f : Hdr} {out : Bool × LI} (b : sparseref01_Add c k d l = some out) (t : imm (rI .u32) i.v k ∈ ros) (u : imm (rI .u32) f.v l ∈ ros) (a : St w0 ros rs w) :
  Calls Tryz.prog 111 #[.agg #[.bool c, i.v], .agg #[.bool d, f.v]] w (fun e w => ∃ (m : Hdr), e = .returned (.agg #[.bool out.1, m.v]) ∧ St w0 ros (row 103 (rI .u32) m.v out.2 :: rs) w) := by
 refine enterQ Tryz.func111 rfl Tryz.ntmps111 rfl fun Q j => sR fun _ x => yBb (r_box (vals := [.bool c, i.v]) a e0 rfl) fun W w a => yBb (r_box (vals := [.bool d, f.v]) a e0 rfl) fun X w a => yBb (rAl a ZT_31) fun Z w a => wK x (sQ fun _ y => bE b fun a0 z b => bE b fun a3 A b => ?_)
 refine dR [0, 1, 3, 0, 8, 31, 63, 127] [2, 5, 6, 7] 4 folM ?_
 replace a := a.drew
 refine Dn [0, 1, 3, 4] [] [2] (yR rfl (yFb FL_31_1 e0) (yR rfl (lb_ i.v O_29 e0 a R2) (yR rfl (yFb FL_31_1 e0) (yR rfl (lb_ f.v O_29 e0 a R1) (Rn QSn ?_)))))
 refine Lc1 rfl ?_
 refine Lk wn (yCall FN_116 (a1 e0)) (sparseref01_trim_ok z t a) ?_
 rintro _ w ⟨g, rfl, a⟩
 refine ⟨_, rfl, ?_⟩
 refine Dn [] [3, 4] [5] (Rn (yS rfl (yFb FL_31_1 e0) (yS rfl (lb_ f.v O_29 e0 a R2) QSn)) ?_)
 refine Lc1 rfl ?_
 refine Lk wn (yCall FN_116 (a1 e0)) (sparseref01_trim_ok A u a) ?_
 rintro _ w ⟨h, rfl, a⟩
 refine ⟨_, rfl, ?_⟩
 refine Dn [] [] [6] (Rn QSn ?_)
 refine Lc1 rfl ?_
 refine Ly wn (a_ g.v e0) (Dn [] [] [7] (Rn QSn ?_))
 refine Lc1 rfl ?_
 refine Ly wn (a_ h.v e0) (Dz [] [] (Rn QSn (y _ _ (seqQ fun a4 B C => sR fun _ D => yY (yFb FL_31_0 e0) (yY (lb_ (.bool c) O_4 e0 a R4) (yY (yFb FL_31_0 e0) (yY (lb_ (.bool d) O_4 e0 a R3) (yY (yeqb (by kernel_rfl) e0 e0) (wK D (cB e0 b (fun E b => ?_) fun E b => ?_))))))))))
 ·refine sQ fun _ F => bE b fun a5 G b => bE b fun n H b => dR [0, 1, 0, 0, 12, 31, 63] [4, 5, 6] 3 folM ?_
  replace a := a.drew
  refine Dn [0, 1, 2, 3] [] [4] (yR rfl (yFb FL_31_0 e0) (yR rfl (lb_ (.bool c) O_4 e0 a R4) (yR rfl (m_ g.v e0) (yR rfl (m_ h.v e0) (Rn QSn ?_)))))
  refine Lc1 rfl ?_
  replace a := ((a.k10).fz).fz
  refine Lk wn (yCall FN_142 (a2 e0 e0)) (sparseref01_addMag_ok G F1 F0 a) ?_
  rintro _ w ⟨a6, rfl, a⟩
  refine ⟨_, rfl, ?_⟩
  refine Dn [] [0, 1] [5] (Rn (yS rfl (yFb FL_31_0 e0) (yS rfl (lb_ (.bool c) O_4 e0 a R3) QSn)) ?_)
  refine Lc1 rfl ?_
  replace a := a.fz
  refine Lk wn (yCall FN_110 (a2 e0 e0)) (sparseref01_make1_ok H F0 a) ?_
  rintro _ w ⟨o, rfl, a⟩
  refine ⟨_, rfl, ?_⟩
  refine Dn [] [] [6] (Rn QSn ?_)
  refine Lc1 rfl ?_
  replace a := a.k10
  refine LT wn (r_stbn (vals' := [.bool n.1, o.v]) (us := [.bool n.1, o.v]) a ST_31 e0 e0 rfl rfl (one_of rfl) rfl) fun w a => Dz [] [] (Rn QSn (F _ _ (wp_ret (C _ _ _ rfl ?_))))
  cases b
  exact j _ _ _ (fin1r Tryz.results111 (rcs2 rfl rfl a R0 ST_31 rfl) ⟨_, rfl, ((a.k2o).facts (allT (allT (allT allI))))⟩)
 ·refine wp_skip (B _ _ (seqQ fun a7 I J => sR fun _ K => Ym g.v e0 (Ym h.v e0 (bE b fun a8 L b => ?_))))
  replace a := ((a.k10).fz).fz
  refine yC (yCall FN_143 (a2 e0 e0)) (sparseref01_cmpMag_ok L F1 F0 a) ?_
  rintro _ w ⟨rfl, a⟩
  refine ⟨_, rfl, ?_⟩
  refine yY (ygeq e0 rfl) (wK K ?_)
  refine cIf e0 b (fun N b => ?_) fun N b => ?_
  ·refine sQ fun _ O => bE b fun a9 R b => bE b fun p S b => dR [0, 1, 0, 0, 12, 31, 63] [4, 5, 6] 3 folM ?_
   replace a := a.drew
   refine Dn [0, 1, 2, 3] [] [4] (yR rfl (yFb FL_31_0 e0) (yR rfl (lb_ (.bool c) O_4 e0 a R2) (yR rfl (m_ g.v e0) (yR rfl (m_ h.v e0) (Rn QSn ?_)))))
   refine Lc1 rfl ?_
   refine Lk wn (yCall FN_144 (a2 e0 e0)) (sparseref01_subMag_ok R F1 F0 a) ?_
   rintro _ w ⟨b0, rfl, a⟩
   refine ⟨_, rfl, ?_⟩
   refine Dn [] [0, 1] [5] (Rn (yS rfl (yFb FL_31_0 e0) (yS rfl (lb_ (.bool c) O_4 e0 a R3) QSn)) ?_)
   refine Lc1 rfl ?_
   replace a := a.fz
   refine Lk wn (yCall FN_110 (a2 e0 e0)) (sparseref01_make1_ok S F0 a) ?_
   rintro _ w ⟨q, rfl, a⟩
   refine ⟨_, rfl, ?_⟩
   refine Dn [] [] [6] (Rn QSn ?_)
   refine Lc1 rfl ?_
   replace a := a.k10
   refine LT wn (r_stbn (vals' := [.bool p.1, q.v]) (us := [.bool p.1, q.v]) a ST_31 e0 e0 rfl rfl (one_of rfl) rfl) fun w a => Dz [] [] (Rn QSn (O _ _ (wp_ret (J _ _ _ rfl ?_))))
   cases b
   exact j _ _ _ (fin1r Tryz.results111 (rcs2 rfl rfl a R0 ST_31 rfl) ⟨_, rfl, ((a.k2o).facts (allT (allT (allT allI))))⟩)
  ·refine wp_skip (I _ _ (sQ fun _ T => bE b fun b1 U b => bE b fun r V b => dR [0, 1, 0, 0, 12, 31, 63] [4, 5, 6] 3 folM ?_))
   replace a := a.drew
   refine Dn [0, 1, 2, 3] [] [4] (yR rfl (yFb FL_31_0 e0) (yR rfl (lb_ (.bool d) O_4 e0 a R1) (yR rfl (m_ h.v e0) (yR rfl (m_ g.v e0) (Rn QSn ?_)))))
   refine Lc1 rfl ?_
   refine Lk wn (yCall FN_144 (a2 e0 e0)) (sparseref01_subMag_ok U F0 F1 a) ?_
   rintro _ w ⟨b2, rfl, a⟩
   refine ⟨_, rfl, ?_⟩
   refine Dn [] [0, 1] [5] (Rn (yS rfl (yFb FL_31_0 e0) (yS rfl (lb_ (.bool d) O_4 e0 a R2) QSn)) ?_)
   refine Lc1 rfl ?_
   replace a := a.fz
   refine Lk wn (yCall FN_110 (a2 e0 e0)) (sparseref01_make1_ok V F0 a) ?_
   rintro _ w ⟨s, rfl, a⟩
   refine ⟨_, rfl, ?_⟩
   refine Dn [] [] [6] (Rn QSn ?_)
   refine Lc1 rfl ?_
   replace a := a.k10
   refine LT wn (r_stbn (vals' := [.bool r.1, s.v]) (us := [.bool r.1, s.v]) a ST_31 e0 e0 rfl rfl (one_of rfl) rfl) fun w a => Dz [] [] (Rn QSn (T _ _ (wp_ret ?_)))
   cases b
   exact j _ _ _ (fin1r Tryz.results111 (rcs2 rfl rfl a R0 ST_31 rfl) ⟨_, rfl, ((a.k2o).facts (allT (allT (allT allI))))⟩)
theorem sparseref08_Dot_ok {y z : List (Bool × LI)} {i m : Hdr} {out : Bool × LI} (q : sparseref08_Dot y z = some out) (r : imm (rP rB (rS (rI .u32))) i.v y ∈ ros) (A : imm (rP rB (rS (rI .u32))) m.v z ∈ ros) (b : St w0 ros rs w) :
  Calls Tryz.prog 74 #[i.v, m.v] w (fun e w => ∃ (B : Hdr), e = .returned (.agg #[.bool out.1, B.v]) ∧ St w0 ros (row 103 (rI .u32) B.v out.2 :: rs) w) := by
 refine enterQ Tryz.func74 rfl Tryz.ntmps74 rfl fun Q J => sR fun _ K => yBb (rAl b ZT_31) fun n w b => wK K (sR fun _ L => yY (ybuild (us := [.bool false, hnil.v]) [] SO_31 bp0 rfl) (yBb (rAl b ZT_31) fun o w b => yT (r_stbn (vals' := [.bool false, hnil.v]) (us := [.bool false, hnil.v]) b ST_31 e0 e0 rfl rfl (one_of rfl) rfl) fun w b => ?_))
 refine wK L (sQ fun _ N => sR fun _ O => Ya (iV 0) rfl (wK O (blockQ fun R S => bE q fun T U q => ?_)))
 have V : ∀ (g : Bool) (t : LI) (h : Hdr) (f : FV) w, f 4 = (pB n) → f 5 = (pB o) → St w0 ros (box n 31 [.bool false, hnil.v] :: row 103 (rI .u32) h.v t :: box o 31 [.bool g, h.v] :: rs) w → (g, t) = T → R (.exit 0) (fr 26 f) w := by
  intro g t h f w C W b ho
  subst ho
  refine S _ _ _ (N _ _ (sR fun _ X => yY (lbs_ [.bool g, h.v] ST_31 (eh W) b R2) (yT (r_stbn (vals' := [.bool g, h.v]) (us := [.bool g, h.v]) b ST_31 (eh C) e0 rfl rfl (one_of rfl) rfl) fun w b => wK X (wp_ret ?_))))
  cases q
  exact J _ _ _ (fin1r Tryz.results74 (rcs2 rfl C b R0 ST_31 rfl) ⟨_, rfl, (b.k1u)⟩)
 replace b := b.rowNh 103 (rI .u32)
 refine loopQ (fun s a w => ∃ (j : Bool) (u : LI) (d : Int) (f : FV) (k : Hdr), (j, u, d) = s ∧ a = fr 26 f ∧ f 0 = i.v ∧ f 1 = m.v ∧ f 4 = (pB n) ∧ f 5 = (pB o) ∧ f 6 = iV d ∧ St w0 ros (box n 31 [.bool false, hnil.v] :: row 103 (rI .u32) k.v u :: box o 31 [.bool j, k.v] :: rs) w) U ⟨_, _, _, _, _, rfl, rfl, rfl, rfl, rfl, rfl, rfl, (b.k1f)⟩ ?_
 rintro _ _ w b7 ⟨j, u, d, f, k, rfl, rfl, x, D, E, l, p, b⟩ c Z b8 a0 a1
 refine seqQ fun b9 a3 a4 => sR fun _ a5 => Ym (iV d) (eh p) (Ym i.v (eh x) (yY (yLen SL_32 e0 b (rdI r)) (yY (ylss e0 e0) (wK a5 ?_))))
 refine cIf e0 c (fun a6 c => ?_) fun a6 c => ?_
 ·refine wp_skip (a3 _ _ (sQ fun _ a7 => blockQ fun _ a8 => bE c fun a9 F c => bE c fun b0 G c => bE c fun c0 b1 c => bE c fun H b2 c => dR [0, 0, 0, 6, 14, 0, 0, 96, 224, 510, 1023, 2047] [9, 10, 11] 3 folM ?_))
  replace b := b.drew
  refine Dn [0, 1, 2, 3, 4, 5, 6, 7, 8] [] [9] (yR rfl (lbs_ [.bool j, k.v] ST_31 (eh l) b R2) (yR rfl (m_ i.v (eh x)) (yR rfl (m_ (iV d) (eh p)) (yR rfl (yIa SL_32 e0 e0 b (rdI r) F) ?_))))
  obtain ⟨c1, c2, b⟩ := iLd b r F
  obtain ⟨c3, c4, rfl, b⟩ := b.eltP
  obtain ⟨rfl, b⟩ := b.eltB
  obtain ⟨b3, rfl, b⟩ := b.eltS
  refine yR rfl (yCtn (cs := [.bool a9.1, b3.v]) ST_31 rfl e0 b F1) (yR rfl (m_ m.v (eh D)) (yR rfl (m_ (iV d) (eh p)) (yR rfl (yIa SL_32 e0 e0 b (rdI (F_2 A)) G) ?_)))
  obtain ⟨c5, c6, b⟩ := iLd b (F_2 A) G
  obtain ⟨c7, c8, rfl, b⟩ := b.eltP
  obtain ⟨rfl, b⟩ := b.eltB
  obtain ⟨b4, rfl, b⟩ := b.eltS
  refine yR rfl (yCtn (cs := [.bool b0.1, b4.v]) ST_31 rfl e0 b F1) (Rn QSn ?_)
  refine Lc1 rfl ?_
  refine Lk wn (yCall FN_86 (a2 e0 e0)) (sparseref01_Mul_ok b1 F2 F0 b) ?_
  rintro _ w ⟨c9, rfl, b⟩
  refine ⟨_, rfl, ?_⟩
  refine Dn [] [0] [10] (Rn (yS rfl (lbs_ [.bool j, k.v] ST_31 (eh l) b R3) QSn) ?_)
  refine Lc1 rfl ?_
  replace b := ((b.k1f).fz).fz
  refine Lk wn (yCall FN_111 (a2 e0 e0)) (sparseref01_Add_ok b2 F1 F0 b) ?_
  rintro _ w ⟨I, rfl, b⟩
  refine ⟨_, rfl, ?_⟩
  refine Dn [] [] [11] (Rn QSn ?_)
  refine Lc1 rfl ?_
  replace b := b.k1f
  refine LT wn (r_stbn (vals' := [.bool H.1, I.v]) (us := [.bool H.1, I.v]) b ST_31 (eh l) e0 rfl rfl (one_of rfl) rfl) fun w b => Dz [] [] (Rn QSn (a8 _ _ _ (a7 _ _ (wR (Ym (iV d) (eh p) (yY (yadd e0 rfl) (Ya (iV (wa .i64 d 1)) e0 (wN ?_))))))))
  cases c
  exact a0 _ _ _ rfl ⟨_, _, _, _, _, rfl, rfl, x, D, E, l, rfl, ((b.k2c).facts (allT (allT (allT (allT (allT (allT allI)))))))⟩
 ·refine wp_exit (a4 _ _ _ rfl ?_)
  cases c
  exact a1 _ _ _ _ rfl rfl (V _ _ _ _ _ E l b (Z _ rfl))
end Go.Proofs.YtpfmbaidflhamaaGreatDoor
