/- Walks: each function computes its model, printed. -/
import Derived.Test.YtnfamnfdndaekaaGreatDoorW2
namespace Go.Proofs.YtnfamnfdndaekaaGreatDoor
open Go Sx M
set_option maxRecDepth 100000
set_option maxHeartbeats 40000000
set_option linter.unusedVariables false
attribute [local irreducible] wpList Code.wp Calls DR QR QS LA LS St
variable {w0 : World} {ros : List Fact} {rs : List Res} {w : World}
theorem integer_Sub_ok {d : Bool} {h : LI} {b : Bool} {i : LI} {f c : Hdr} {out : Bool × LI} (g : integer_Sub d h b i = some out) (m : imm (rI .u32) f.v h ∈ ros) (n : imm (rI .u32) c.v i ∈ ros) (a : St w0 ros rs w) :
  Calls Tryz.prog 67 #[.agg #[.bool d, f.v], .agg #[.bool b, c.v]] w (fun e w => ∃ (j : Hdr), e = .returned (.agg #[.bool out.1, j.v]) ∧ St w0 (imm (rI .u32) j.v out.2 :: ros) rs w) := by
 refine enterQ Tryz.func67 rfl Tryz.ntmps67 rfl fun Q o => sR fun _ p => yBb (r_box (vals := [.bool d, f.v]) a e0 rfl) fun t w a => yBb (r_box (vals := [.bool b, c.v]) a e0 rfl) fun u w a => yBb (rAl a ZT_27) fun x w a => wK p (sR fun _ q => yY (yFb FL_27_0 e0) ?_)
 refine yY (lb_ (.bool b) O_4 e0 a R1) (yY (ynot e0) (yY (yFb FL_27_0 e0) (yT (r_stb1 (vals' := [.bool (!b), c.v]) (a.k11) O_4 e0 e0 rfl rfl rfl rfl) fun w a => wK q (sR fun _ r => yY (lbs_ [.bool d, f.v] ST_27 e0 a R2) (yY (lbs_ [.bool (!b), c.v] ST_27 e0 a R0) (bE g fun k s g => yC (yCall FN_65 (a2 e0 e0)) (integer_Add_ok s m n a) ?_))))))
 rintro _ w ⟨l, rfl, a⟩
 refine ⟨_, rfl, ?_⟩
 refine yT (r_stbn (vals' := [.bool k.1, l.v]) (us := [.bool k.1, l.v]) (a.k11) ST_27 e0 e0 rfl rfl (one_of rfl) rfl) fun w a => wK r (wp_ret ?_)
 cases g
 exact o _ _ _ (fin1r Tryz.results67 (rcs2 rfl rfl a R0 ST_27 rfl) ⟨_, rfl, (a.k18)⟩)
theorem modular_Combine_ok {U I : LI} {C m : Hdr} {out : Bool × LI × Bool × LI × Int} (c : modular_Combine U I = some out) (J : imm I1 C.v U ∈ ros) (n : imm I1 m.v I ∈ ros) (b : St w0 ros rs w) :
  Calls Tryz.prog 13 #[C.v, m.v] w (fun e w => ∃ (V W : Hdr), e = .returned (.tuple #[.agg #[.bool out.1, V.v], .agg #[.bool out.2.2.1, W.v], iV out.2.2.2.2]) ∧ St w0 (imm (rI .u32) V.v out.2.1 :: imm (rI .u32) W.v out.2.2.2.1 :: ros) rs w) := by
 refine enterQ Tryz.func13 rfl Tryz.ntmps13 rfl fun Q F => sR fun _ b8 => yBb (rAl b ZT_27) fun t w b => yBb (rAl b ZT_27) fun u w b => Ya (iV 0) rfl (wK b8 (seqQ fun i2 b9 c0 => sR fun _ c1 => Ym C.v e0 ?_))
 refine yY (yLen SL_22 e0 b (rdI J)) (Ym m.v e0 (yY (yLen SL_22 e0 b (rdI n)) (yY (yneq e0 e0) (wK c1 ?_))))
 rcases iteS c with ⟨K, c⟩ | ⟨K, c⟩
 ·refine condF e0 (nF (dT K)) (wp_skip (b9 _ _ (seqQ fun i3 c2 c3 => sR fun _ c4 => Ym m.v e0 (bE c fun i4 c5 c => yC (yCall FN_57 (a2 e0 rfl)) (slices_ContainsFunc_int_ok c5 n b) ?_))))
  rintro _ w ⟨rfl, b⟩
  refine ⟨_, rfl, ?_⟩
  refine wK c4 (cB e0 c (fun c6 c => ?_) fun c6 c => ?_)
  ·refine sR fun _ c8 => yY (ybuild (us := [.bool false, hnil.v]) [] SO_27 bp0 rfl) (yY (ybuild (us := [.bool false, hnil.v]) [] SO_27 bp0 rfl) (yT (r_stbn (vals' := [.bool false, hnil.v]) (us := [.bool false, hnil.v]) (b.k11) ST_27 e0 e0 rfl rfl (one_of rfl) rfl) fun w b => yT (r_stbn (vals' := [.bool false, hnil.v]) (us := [.bool false, hnil.v]) (b.k11) ST_27 e0 e0 rfl rfl (one_of rfl) rfl) fun w b => Ya (iV 70) rfl (wK c8 (wp_ret (c3 _ _ _ rfl ?_)))))
   cases c
   replace b := b.immNh (rI .u32)
   exact F _ _ _ (fin3r Tryz.results13 (rcs2 rfl rfl b R1 ST_27 rfl) (rcs2 rfl rfl b R0 ST_27 rfl) ⟨rfl, rfl⟩ ⟨_, _, rfl, ((b.k19).facts (allC F0 (allC F0 (allT allI))))⟩)
  ·refine wp_skip (c2 _ _ (sR fun _ d0 => Ym m.v e0 (bE c fun i5 d1 c => yC (yCall FN_60 (a1 e0)) (slices_Values_int_ok d1 n b) ?_)))
   rintro _ w ⟨i6, rfl, b⟩
   refine ⟨_, rfl, ?_⟩
   refine bE c fun i7 d2 c => yC (yCall FN_59 (a1 e0)) (slices_Sorted_int_ok d2 n b) ?_
   rintro _ w ⟨X, rfl, b⟩
   refine ⟨_, rfl, ?_⟩
   refine Ya X.v e0 (wK d0 (seqQ fun i8 d3 d4 => sR fun _ d5 => Ym X.v e0 (bE c fun i9 d6 c => ?_)))
   replace b := b.k11
   refine yC (yCall FN_61 (a1 e0)) (compactI_ok d6 b) ?_
   rintro _ w ⟨j0, rfl, b⟩
   refine ⟨_, rfl, ?_⟩
   refine yY (yLen SL_22 e0 b rO0) (Ym m.v e0 (yY (yLen SL_22 e0 b (rdI n)) (yY (yneq e0 e0) (wK d5 ?_))))
   rcases iteS c with ⟨L, c⟩ | ⟨L, c⟩
   ·refine condF e0 (nF (dT L)) (wp_skip (d3 _ _ (sR fun _ d7 => bE c fun Z d8 c => yC (yCall FN_23 (a1 rfl)) (integer_FromInt_ok d8 b) ?_)))
    rintro _ w ⟨a0, rfl, b⟩
    refine ⟨_, rfl, ?_⟩
    refine yT (r_stbn (vals' := [.bool Z.1, a0.v]) (us := [.bool Z.1, a0.v]) (b.k15) ST_27 e0 e0 rfl rfl (one_of rfl) rfl) fun w b => wK d7 (sQ fun _ d9 => sR fun _ e1 => Ym m.v e0 (yY (yLen SL_22 e0 b (rdI (mtF n))) (Ym (iV 0) rfl (wK e1 (blockQ fun e2 e3 => bE c fun e4 e5 c => ?_)))))
    have e6 : ∀ (x : Bool) (N : LI) (h : Bool) (D : LI) (y i : Hdr) (f : FV) w, f 4 = (pB t) → f 5 = (pB u) → St w0 (imm (rI .u32) y.v N :: imm (rI .u32) i.v D :: ros) (box t 27 [.bool x, y.v] :: box u 27 [.bool h, i.v] :: rs) w → (x, N, h, D) = e4 → e2 (.exit 0) (fr 83 f) w := by
     intro x N h D y i f w z E b ho
     subst ho
     refine e3 _ _ _ (d9 _ _ (sQ fun e7 e8 => sQ fun _ e9 => bE c fun j1 f0 c => bE c fun j3 f1 c => dR [0, 0, 3, 0, 15, 31] [2, 4] 2 folM ?_))
     replace b := b.drew
     refine Dn [0, 1, 3] [] [2] (yR rfl (lbs_ [.bool x, y.v] ST_27 (eh z) b R0) (yR rfl (lbs_ [.bool x, y.v] ST_27 (eh z) b R0) (yR rfl (lbs_ [.bool h, i.v] ST_27 (eh E) b R1) (Rn QSn ?_))))
     refine Lc1 rfl ?_
     refine Lk wn (yCall FN_65 (a2 e0 e0)) (integer_Add_ok f0 F0 F0 b) ?_
     rintro _ w ⟨j4, rfl, b⟩
     refine ⟨_, rfl, ?_⟩
     refine Dn [] [3] [4] (Rn (yS rfl (lbs_ [.bool h, i.v] ST_27 (eh E) b R1) QSn) ?_)
     refine Lc1 rfl ?_
     refine Lk wn (yCall FN_66 (a2 e0 e0)) (integer_Cmp_ok f1 F0 F2 b) ?_
     rintro _ w ⟨rfl, b⟩
     refine ⟨_, rfl, ?_⟩
     refine Dz [5] [] (yR rfl (ygtr e0 rfl) (Rn QSn (e9 _ _ ?_)))
     have a3 : ∀ (A : Bool) (O : LI) (B : Hdr) (f : FV) w, f 4 = (pB t) → f 5 = (pB u) → St w0 (imm (rI .u32) B.v O :: imm (rI .u32) i.v D :: ros) (box t 27 [.bool A, B.v] :: box u 27 [.bool h, i.v] :: rs) w → modular_Combine_j2 h D A O = some out → e7 .normal (fr 83 f) w := by
      intro A O B f w R G b c
      refine e8 _ _ (sQ fun _ f2 => dR [0, 0, 1, 7, 15] [2, 3, 4] 3 folM ?_)
      replace b := b.drew
      refine Dn [0, 1] [] [2] (yR rfl (lbs_ [.bool A, B.v] ST_27 (eh R) b R0) (yR rfl (lbs_ [.bool h, i.v] ST_27 (eh G) b R1) (Rn QSn ?_)))
      refine Lc1 rfl ?_
      refine LT wn (r_stbn (vals' := [.bool A, B.v]) (us := [.bool A, B.v]) b ST_27 (eh R) e0 rfl rfl (one_of rfl) rfl) fun w b => Dn [] [1] [3] (Rn (yS rfl (lbs_ [.bool h, i.v] ST_27 (eh G) b R1) QSn) ?_)
      refine Lc1 rfl ?_
      replace b := b.k11
      refine LT wn (r_stbn (vals' := [.bool h, i.v]) (us := [.bool h, i.v]) b ST_27 (eh G) e0 rfl rfl (one_of rfl) rfl) fun w b => Dn [] [] [4] (Rn QSn ?_)
      refine Lc1 rfl ?_
      refine Ly wn (a_ (iV 0) rfl) (Dz [] [] (Rn QSn (f2 _ _ (wp_ret ?_))))
      cases c
      exact F _ _ _ (fin3r Tryz.results13 (rcs2 rfl R b R1 ST_27 rfl) (rcs2 rfl G b R0 ST_27 rfl) ⟨rfl, rfl⟩ ⟨_, _, rfl, (b.k19)⟩)
     refine cIf e0 c (fun f3 c => ?_) fun f3 c => ?_
     ·refine wR (yY (lbs_ [.bool x, y.v] ST_27 (eh z) b R0) (yY (lbs_ [.bool h, i.v] ST_27 (eh E) b R1) (bE c fun a4 f4 c => yC (yCall FN_67 (a2 e0 e0)) (integer_Sub_ok f4 F1 F2 b) ?_)))
      rintro _ w ⟨a5, rfl, b⟩
      refine ⟨_, rfl, ?_⟩
      exact yT (r_stbn (vals' := [.bool a4.1, a5.v]) (us := [.bool a4.1, a5.v]) b ST_27 (eh z) e0 rfl rfl (one_of rfl) rfl) fun w b => wN (a3 _ _ _ _ _ z E (b.facts (allC F0 (allC F3 (allT (allT (allT (allT allI))))))) c)
     ·exact wp_skip (a3 _ _ _ _ _ z E (b.facts (allC F1 (allC F2 (allT (allT (allT allI)))))) c)
    replace b := b.immNh (rI .u32)
    refine loopQ (fun s a w => ∃ (o : Bool) (S : LI) (j : Bool) (T : LI) (r : Int) (f : FV) (p k : Hdr), (o, S, j, T, r) = s ∧ a = fr 83 f ∧ f 0 = C.v ∧ f 4 = (pB t) ∧ f 5 = (pB u) ∧ f 34 = m.v ∧ f 35 = iV (I.length : Int) ∧ f 36 = iV r ∧ St w0 (imm (rI .u32) p.v S :: imm (rI .u32) k.v T :: ros) (box t 27 [.bool o, p.v] :: box u 27 [.bool j, k.v] :: rs) w) e5 ⟨_, _, _, _, _, _, _, _, rfl, rfl, rfl, rfl, rfl, rfl, rfl, rfl, (b.k1a)⟩ ?_
    rintro _ _ w j5 ⟨o, S, j, T, r, f, p, k, rfl, rfl, a6, q, l, a7, a8, H, b⟩ d f5 j6 f6 f7
    refine sR fun _ f8 => yY (ylss (eh H) (eh a8)) (wK f8 (seqQ fun j7 f9 g0 => ?_))
    refine cIf e0 d (fun g1 d => ?_) fun g1 d => ?_
    ·refine wp_skip (f9 _ _ (sQ fun _ g2 => blockQ fun _ g3 => sR fun _ g4 => Ym (iV r) (eh H) (bE d fun g a9 d => yY (yIa SL_22 (eh a7) (eh H) b (rdI (F_2 n)) a9) (yY (yI O_3 e0 b (rdI (F_2 n)) a9) (Ya (iV r) e0 (Ya (iV g) e0 (wK g4 ?_)))))))
     refine sQ fun _ g5 => bE d fun j8 b0 d => bE d fun j9 g6 d => bE d fun k0 g7 d => bE d fun l0 g8 d => bE d fun l1 g9 d => bE d fun l2 h0 d => bE d fun b1 h1 d => dR [0, 0, 3, 7, 0, 31, 0, 0, 255, 511, 0, 2047, 0, 0, 16383, 0, 65535, 131071, 0, 524287, 1048575] [5, 8, 11, 14, 16, 20] 6 folM ?_
     replace b := b.drew
     refine Dn [0, 1, 2, 3, 4, 6, 7, 10, 12, 13, 15, 18] [] [5] (yR rfl (m_ C.v (eh a6)) (yR rfl (m_ (iV r) e0) (yR rfl (yIa SL_22 e0 e0 b (rdI (F_2 J)) b0) (yR rfl (yI O_3 e0 b (rdI (F_2 J)) b0) (yR rfl (m_ (iV g) e0) (yR rfl (lbs_ [.bool o, p.v] ST_27 (eh q) b R0) (yR rfl (m_ (iV g) e0) (yR rfl (m_ (iV g) e0) (yR rfl (lbs_ [.bool j, k.v] ST_27 (eh l) b R1) (yR rfl (m_ (iV g) e0) (yR rfl (m_ (iV g) e0) (yR rfl (m_ (iV g) e0) (Rn QSn ?_)))))))))))))
     refine Lc1 rfl ?_
     refine Lk wn (yCall FN_62 (a2 e0 e0)) (modular_mod_ok g6 b) ?_
     rintro _ w ⟨rfl, b⟩
     refine ⟨_, rfl, ?_⟩
     refine Dn [] [6, 7, 10, 12, 13, 15, 18] [8] (Rn (yS rfl (lbs_ [.bool o, p.v] ST_27 (eh q) b R0) (yS rfl (m_ (iV g) e0) (yS rfl (m_ (iV g) e0) (yS rfl (lbs_ [.bool j, k.v] ST_27 (eh l) b R1) (yS rfl (m_ (iV g) e0) (yS rfl (m_ (iV g) e0) (yS rfl (m_ (iV g) e0) QSn))))))) ?_)
     refine Lc1 rfl ?_
     refine Lk wn (yCall FN_63 (a2 e0 e0)) (modular_remainder_ok g7 F0 b) ?_
     rintro _ w ⟨rfl, b⟩
     refine ⟨_, rfl, ?_⟩
     refine Dn [9] [10, 12, 13, 15, 18] [11] (yR rfl (ysub e0 e0) (Rn (yS rfl (m_ (iV g) e0) (yS rfl (lbs_ [.bool j, k.v] ST_27 (eh l) b R1) (yS rfl (m_ (iV g) e0) (yS rfl (m_ (iV g) e0) (yS rfl (m_ (iV g) e0) QSn))))) ?_))
     refine Lc1 rfl ?_
     refine Lk wn (yCall FN_62 (a2 e0 e0)) (modular_mod_ok g8 b) ?_
     rintro _ w ⟨rfl, b⟩
     refine ⟨_, rfl, ?_⟩
     refine Dn [] [12, 13, 15, 18] [14] (Rn (yS rfl (lbs_ [.bool j, k.v] ST_27 (eh l) b R1) (yS rfl (m_ (iV g) e0) (yS rfl (m_ (iV g) e0) (yS rfl (m_ (iV g) e0) QSn)))) ?_)
     refine Lc1 rfl ?_
     refine Lk wn (yCall FN_63 (a2 e0 e0)) (modular_remainder_ok g9 F1 b) ?_
     rintro _ w ⟨rfl, b⟩
     refine ⟨_, rfl, ?_⟩
     refine Dn [] [15, 18] [16] (Rn (yS rfl (m_ (iV g) e0) (yS rfl (m_ (iV g) e0) QSn)) ?_)
     refine Lc1 rfl ?_
     refine Lk wn (yCall FN_64 (a2 e0 e0)) (modular_inverse_ok h0 b) ?_
     rintro _ w ⟨rfl, b⟩
     refine ⟨_, rfl, ?_⟩
     refine Dn [17, 19] [18] [20] (yR rfl (ymul e0 e0) (yR rfl (yrem e0 e0 h1) (Rn (yS rfl (m_ (iV g) e0) QSn) ?_)))
     refine Lc1 rfl ?_
     refine Ly wn (a_ (iV b1) e0) (Dz [] [] (Rn QSn (g5 _ _ (sQ fun _ h3 => bE d fun l3 h5 d => bE d fun l4 h6 d => bE d fun b2 h7 d => dR [0, 0, 0, 4, 14, 31, 63] [3, 4, 5, 6] 4 folM ?_))))
     replace b := b.drew
     refine Dn [0, 1, 2] [] [3] (yR rfl (lbs_ [.bool o, p.v] ST_27 (eh q) b R0) (yR rfl (lbs_ [.bool j, k.v] ST_27 (eh l) b R1) (yR rfl (m_ (iV b1) e0) (Rn QSn ?_))))
     refine Lc1 rfl ?_
     refine Lk wn (yCall FN_23 (a1 e0)) (integer_FromInt_ok h5 b) ?_
     rintro _ w ⟨l5, rfl, b⟩
     refine ⟨_, rfl, ?_⟩
     refine Dn [] [0, 1] [4] (Rn (yS rfl (lbs_ [.bool o, p.v] ST_27 (eh q) b R0) (yS rfl (lbs_ [.bool j, k.v] ST_27 (eh l) b R1) QSn)) ?_)
     refine Lc1 rfl ?_
     refine Lk wn (yCall FN_22 (a2 e0 e0)) (integer_Mul_ok h6 F2 F0 b) ?_
     rintro _ w ⟨l6, rfl, b⟩
     refine ⟨_, rfl, ?_⟩
     refine Dn [] [0] [5] (Rn (yS rfl (lbs_ [.bool o, p.v] ST_27 (eh q) b R0) QSn) ?_)
     refine Lc1 rfl ?_
     refine Lk wn (yCall FN_65 (a2 e0 e0)) (integer_Add_ok h7 F2 F0 b) ?_
     rintro _ w ⟨b3, rfl, b⟩
     refine ⟨_, rfl, ?_⟩
     refine Dn [] [] [6] (Rn QSn ?_)
     refine Lc1 rfl ?_
     refine LT wn (r_stbn (vals' := [.bool b2.1, b3.v]) (us := [.bool b2.1, b3.v]) b ST_27 (eh q) e0 rfl rfl (one_of rfl) rfl) fun w b => Dz [] [] (Rn QSn (h3 _ _ (bE d fun l7 h8 d => bE d fun b4 h9 d => dR [0, 0, 2, 7, 15] [2, 3, 4] 3 folM ?_)))
     replace b := b.drew
     refine Dn [0, 1] [] [2] (yR rfl (lbs_ [.bool j, k.v] ST_27 (eh l) b R1) (yR rfl (m_ (iV g) e0) (Rn QSn ?_)))
     refine Lc1 rfl ?_
     refine Lk wn (yCall FN_23 (a1 e0)) (integer_FromInt_ok h8 b) ?_
     rintro _ w ⟨l8, rfl, b⟩
     refine ⟨_, rfl, ?_⟩
     refine Dn [] [0] [3] (Rn (yS rfl (lbs_ [.bool j, k.v] ST_27 (eh l) b R1) QSn) ?_)
     refine Lc1 rfl ?_
     refine Lk wn (yCall FN_22 (a2 e0 e0)) (integer_Mul_ok h9 F5 F0 b) ?_
     rintro _ w ⟨b7, rfl, b⟩
     refine ⟨_, rfl, ?_⟩
     refine Dn [] [] [4] (Rn QSn ?_)
     refine Lc1 rfl ?_
     replace b := b.k11
     refine LT wn (r_stbn (vals' := [.bool b4.1, b7.v]) (us := [.bool b4.1, b7.v]) b ST_27 (eh l) e0 rfl rfl (one_of rfl) rfl) fun w b => Dz [] [] (Rn QSn (g3 _ _ _ (g2 _ _ (wR (yY (yadd (eh H) rfl) (Ym (iV (wa .i64 r 1)) e0 (wN ?_)))))))
     cases d
     exact f6 _ _ _ rfl ⟨_, _, _, _, _, _, _, _, rfl, rfl, a6, q, l, a7, a8, rfl, ((b.k11).facts (allC F2 (allC F0 (allT (allT (allT (allT (allT (allT (allT allI))))))))))⟩
    ·refine wp_exit (g0 _ _ _ rfl ?_)
     cases d
     exact f7 _ _ _ _ rfl rfl (e6 _ _ _ _ _ _ _ _ q l b (f5 _ rfl))
   ·refine condT e0 (nT (dF L)) (sR fun _ i0 => yY (ybuild (us := [.bool false, hnil.v]) [] SO_27 bp0 rfl) (yY (ybuild (us := [.bool false, hnil.v]) [] SO_27 bp0 rfl) (yT (r_stbn (vals' := [.bool false, hnil.v]) (us := [.bool false, hnil.v]) (b.k16) ST_27 e0 e0 rfl rfl (one_of rfl) rfl) fun w b => yT (r_stbn (vals' := [.bool false, hnil.v]) (us := [.bool false, hnil.v]) (b.k16) ST_27 e0 e0 rfl rfl (one_of rfl) rfl) fun w b => Ya (iV 1) rfl (wK i0 (wp_ret (d4 _ _ _ rfl ?_))))))
    cases c
    replace b := b.immNh (rI .u32)
    exact F _ _ _ (fin3r Tryz.results13 (rcs2 rfl rfl b R1 ST_27 rfl) (rcs2 rfl rfl b R0 ST_27 rfl) ⟨rfl, rfl⟩ ⟨_, _, rfl, ((b.k13).facts (allC F0 (allC F0 (allT allI))))⟩)
 ·refine condT e0 (nT (dF K)) (sR fun _ i1 => yY (ybuild (us := [.bool false, hnil.v]) [] SO_27 bp0 rfl) (yY (ybuild (us := [.bool false, hnil.v]) [] SO_27 bp0 rfl) (yT (r_stbn (vals' := [.bool false, hnil.v]) (us := [.bool false, hnil.v]) (b.k11) ST_27 e0 e0 rfl rfl (one_of rfl) rfl) fun w b => yT (r_stbn (vals' := [.bool false, hnil.v]) (us := [.bool false, hnil.v]) (b.k11) ST_27 e0 e0 rfl rfl (one_of rfl) rfl) fun w b => Ya (iV 2) rfl (wK i1 (wp_ret (c0 _ _ _ rfl ?_))))))
  cases c
  replace b := b.immNh (rI .u32)
  exact F _ _ _ (fin3r Tryz.results13 (rcs2 rfl rfl b R1 ST_27 rfl) (rcs2 rfl rfl b R0 ST_27 rfl) ⟨rfl, rfl⟩ ⟨_, _, rfl, ((b.k19).facts (allC F0 (allC F0 (allT allI))))⟩)
theorem integer_Norm_ok {b : Bool} {f : LI} {d : Hdr} {out : Bool × LI} (c : integer_Norm b f = some out) (j : imm (rI .u32) d.v f ∈ ros) (a : St w0 ros rs w) :
  Calls Tryz.prog 21 #[.agg #[.bool b, d.v]] w (fun e w => ∃ (g : Hdr), e = .returned (.agg #[.bool out.1, g.v]) ∧ St w0 (imm (rI .u32) g.v out.2 :: ros) rs w) := by
 refine enterQ Tryz.func21 rfl Tryz.ntmps21 rfl fun Q k => sR fun _ l => yBb (r_box (vals := [.bool b, d.v]) a e0 rfl) fun p w a => yBb (rAl a ZT_27) fun q w a => wK l (sQ fun _ m => bE c fun r n c => bE c fun h o c => dR [0, 1, 0, 4, 12, 31, 63] [4, 5, 6] 3 folM ?_)
 replace a := a.drew
 refine Dn [0, 1, 2, 3] [] [4] (yR rfl (yFb FL_27_0 e0) (yR rfl (lb_ (.bool b) O_4 e0 a R1) (yR rfl (yFb FL_27_1 e0) (yR rfl (lb_ d.v O_25 e0 a R1) (Rn QSn ?_)))))
 refine Lc1 rfl ?_
 refine Lk wn (yCall FN_75 (a1 e0)) (slices_Clone_uint32_ok n j a) ?_
 rintro _ w ⟨s, rfl, a⟩
 refine ⟨_, rfl, ?_⟩
 refine Dn [] [0, 1] [5] (Rn (yS rfl (yFb FL_27_0 e0) (yS rfl (lb_ (.bool b) O_4 e0 a R2) QSn)) ?_)
 refine Lc1 rfl ?_
 replace a := a.fz
 refine Lk wn (yCall FN_74 (a2 e0 e0)) (integer_big_ok o F0 a) ?_
 rintro _ w ⟨i, rfl, a⟩
 refine ⟨_, rfl, ?_⟩
 refine Dn [] [] [6] (Rn QSn ?_)
 refine Lc1 rfl ?_
 refine LT wn (r_stbn (vals' := [.bool h.1, i.v]) (us := [.bool h.1, i.v]) a ST_27 e0 e0 rfl rfl (one_of rfl) rfl) fun w a => Dz [] [] (Rn QSn (m _ _ (wp_ret ?_)))
 cases c
 exact k _ _ _ (fin1r Tryz.results21 (rcs2 rfl rfl a R0 ST_27 rfl) ⟨_, rfl, ((a.k19).facts (allC F0 (allT (allT allI))))⟩)
theorem sparsekit_Limbs_ok {q r : LI} {h i : Hdr} {out : Bool} (d : sparsekit_Limbs q r = some out) (j : imm (rI .u32) h.v q ∈ ros) (l : imm (rI .u32) i.v r ∈ ros) (b : St w0 ros rs w) :
  Calls Tryz.prog 68 #[h.v, i.v] w (fun e w => e = .returned (.bool out) ∧ St w0 ros rs w) := by
 refine enterQ Tryz.func68 rfl Tryz.ntmps68 rfl fun Q m => sR fun _ E => Ya (.bool false) rfl (wK E (seqQ fun a4 F G => sR fun _ H => Ym h.v e0 (yY (yLen SL_25 e0 b (rdI j)) (Ym i.v e0 (yY (yLen SL_25 e0 b (rdI l)) (yY (yneq e0 e0) ?_))))))
 refine wK H ?_
 rcases iteS d with ⟨n, d⟩ | ⟨n, d⟩
 ·refine condF e0 (nF (dT n)) (wp_skip (F _ _ (seqQ fun a5 I J => sR fun _ K => Ya (iV 0) rfl (wK K (blockQ fun t u => bE d fun x L d => ?_)))))
  have N : ∀ (f : FV) w, St w0 ros rs w → .inl () = x → t (.exit 0) (fr 26 f) w := by
   intro f w b ho
   subst ho
   refine u _ _ _ (I _ _ (sR fun _ O => Ya (.bool true) rfl (wK O (wp_ret ?_))))
   cases d
   exact m _ _ _ (fin1r Tryz.results68 ⟨rfl, rfl⟩ ⟨rfl, b⟩)
  have R : ∀ (f : FV) w, f 4 = .bool false → St w0 ros rs w → .inr () = x → t .ret (fr 26 f) w := by
   intro f w S b ho
   subst ho
   refine u _ _ _ (J _ _ _ rfl ?_)
   cases d
   exact m _ _ _ (fin1r Tryz.results68 ⟨rfl, S⟩ ⟨rfl, b⟩)
  refine loopQ (fun s a w => ∃ (g : Int) (f : FV), g = s ∧ a = fr 26 f ∧ f 0 = h.v ∧ f 1 = i.v ∧ f 5 = iV g ∧ St w0 ros rs w) L ⟨_, _, rfl, rfl, rfl, rfl, rfl, b⟩ ?_
  rintro _ _ w a6 ⟨g, f, rfl, rfl, o, y, k, b⟩ c z a7 T A
  refine seqQ fun a8 U V => sR fun _ W => Ym (iV g) (eh k) (Ym h.v (eh o) (yY (yLen SL_25 e0 b (rdI j)) (yY (ylss e0 e0) (wK W ?_))))
  refine cIf e0 c (fun X c => ?_) fun X c => ?_
  ·refine wp_skip (U _ _ (seqQ fun a9 Z a0 => blockQ fun _ B => sQ fun _ a1 => bE c fun b0 C c => bE c fun b1 D c => dR [0, 0, 3, 7, 0, 0, 48, 112, 255] [] 0 folM ?_))
   replace b := b.drew
   refine Dz [0, 1, 2, 3, 4, 5, 6, 7, 8] [] (yR rfl (m_ h.v (eh o)) (yR rfl (m_ (iV g) (eh k)) (yR rfl (yIa SL_25 e0 e0 b (rdI j) C) (yR rfl (yI O_88 e0 b (rdI j) C) (yR rfl (m_ i.v (eh y)) (yR rfl (m_ (iV g) (eh k)) (yR rfl (yIa SL_25 e0 e0 b (rdI l) D) (yR rfl (yI O_88 e0 b (rdI l) D) (yR rfl (yneq e0 e0) (Rn QSn (a1 _ _ ?_)))))))))))
   rcases iteS c with ⟨p, c⟩ | ⟨p, c⟩
   ·refine condF e0 (nF (dT p)) (wp_skip (B _ _ _ (Z _ _ (wR (Ym (iV g) (eh k) (yY (yadd e0 rfl) (Ya (iV (wa .i64 g 1)) e0 (wN ?_))))))))
    cases c
    exact T _ _ _ rfl ⟨_, _, rfl, rfl, o, y, rfl, b⟩
   ·refine condT e0 (nT (dF p)) (sR fun _ a2 => Ya (.bool false) rfl (wK a2 (wp_ret (B _ _ _ (a0 _ _ _ rfl ?_)))))
    cases c
    exact A _ _ _ _ rfl rfl (R _ _ rfl b (z _ rfl))
  ·refine wp_exit (V _ _ _ rfl ?_)
   cases c
   exact A _ _ _ _ rfl rfl (N _ _ b (z _ rfl))
 ·refine condT e0 (nT (dF n)) (sR fun _ a3 => Ya (.bool false) rfl (wK a3 (wp_ret (G _ _ _ rfl ?_))))
  cases d
  exact m _ _ _ (fin1r Tryz.results68 ⟨rfl, rfl⟩ ⟨rfl, b⟩)
theorem sparsekit_Big_ok {d : Bool} {k : LI} {g : Bool} {l : LI} {h i : Hdr} {out : Bool} (j : sparsekit_Big d k g l = some out) (o : imm (rI .u32) h.v k ∈ ros) (p : imm (rI .u32) i.v l ∈ ros) (a : St w0 ros rs w) :
  Calls Tryz.prog 16 #[.agg #[.bool d, h.v], .agg #[.bool g, i.v]] w (fun e w => e = .returned (.bool out) ∧ St w0 ros rs w) := by
 refine enterQ Tryz.func16 rfl Tryz.ntmps16 rfl fun Q q => sR fun _ r => yBb (r_box (vals := [.bool d, h.v]) a e0 rfl) fun y w a => yBb (r_box (vals := [.bool g, i.v]) a e0 rfl) fun z w a => Ya (.bool false) rfl (wK r (sR fun _ s => yY (yFb FL_27_0 e0) (yY (lb_ (.bool d) O_4 e0 a R1) ?_)))
 refine yY (yFb FL_27_0 e0) (yY (lb_ (.bool g) O_4 e0 a R0) (yY (yeqb (by kernel_rfl) e0 e0) (Ym (.bool (d == g)) e0 (bE j fun m c j => ?_))))
 refine joinW 6 (fun f w => f 16 = .bool m ∧ St w0 ros rs w) (fun n => ?_) ?_
 ·rcases iteS c with ⟨b, c⟩ | ⟨b, c⟩
  ·refine yG b (yFb FL_27_1 e0) (yG b (lb_ h.v O_25 e0 a R1) (yG b (yFb FL_27_1 e0) (yG b (lb_ i.v O_25 e0 a R0) (bE c fun t u c => Yc (wG b) rfl (yCall FN_68 (a2 e0 e0)) (sparsekit_Limbs_ok u o p a) ?_))))
   rintro _ w ⟨rfl, a⟩
   refine ⟨_, rfl, ?_⟩
   refine yY (pt_ (.bool t) e0 b e0) ?_
   cases c
   exact n _ _ ⟨rfl, (a.k19)⟩
  ·refine gN (bfalse b) (gN (bfalse b) (gN (bfalse b) (gN (bfalse b) (gN (bfalse b) (yY (pf_ (.bool false) e0 (bfalse b) rfl) ?_)))))
   cases c
   exact n _ _ ⟨rfl, (a.k19)⟩
 rintro f w ⟨x, a⟩
 refine Ya (.bool m) (eh x) (wK s (wp_ret ?_))
 cases j
 exact q _ _ _ (fin1r Tryz.results16 ⟨rfl, rfl⟩ ⟨rfl, a⟩)
theorem modular_Inverse_ok {d c : Int} {out : Int × Int} (a : modular_Inverse d c = some out) (b : St w0 ros rs w) :
  Calls Tryz.prog 28 #[iV d, iV c] w (fun e w => e = .returned (.tuple #[iV out.1, iV out.2]) ∧ St w0 ros rs w) := by
 refine enterQ Tryz.func28 rfl Tryz.ntmps28 rfl fun Q f => sR fun _ j => Ya (iV 0) rfl (Ya (iV 0) rfl (wK j (seqQ fun z k i => blockQ fun _ g => sR fun _ l => Ym (iV c) e0 (bE a fun m n a => yC (yCall FN_24 (a1 e0)) (modular_IsPrime_ok n b) ?_))))
 rintro _ w ⟨rfl, b⟩
 refine ⟨_, rfl, ?_⟩
 refine yY (ynot e0) (Ya (.bool (!m)) e0 (wK l ?_))
 rcases iteS a with ⟨h, a⟩ | ⟨h, a⟩
 ·refine condF e0 (nF h) (sR fun _ o => Ym (iV d) e0 (Ym (iV c) e0 (bE a fun p q a => yC (yCall FN_62 (a2 e0 e0)) (modular_mod_ok q b) ?_)))
  rintro _ w ⟨rfl, b⟩
  refine ⟨_, rfl, ?_⟩
  refine yY (yeql e0 rfl) (Ya (.bool (decide (p = 0))) e0 (wK o ?_))
  refine cIf e0 a (fun r a => ?_) fun r a => ?_
  ·refine sR fun _ s => Ya (iV 0) rfl (Ya (iV 8) rfl (wK s (wp_ret (g _ _ _ (i _ _ _ rfl ?_)))))
   cases a
   exact f _ _ _ (fin2r Tryz.results28 ⟨rfl, rfl⟩ ⟨rfl, rfl⟩ ⟨rfl, b⟩)
  ·refine wp_skip (g _ _ _ (k _ _ (sR fun _ t => Ym (iV d) e0 (Ym (iV c) e0 (bE a fun A u a => yC (yCall FN_62 (a2 e0 e0)) (modular_mod_ok u b) ?_)))))
   rintro _ w ⟨rfl, b⟩
   refine ⟨_, rfl, ?_⟩
   refine Ym (iV c) e0 (bE a fun v x a => yC (yCall FN_64 (a2 e0 e0)) (modular_inverse_ok x b) ?_)
   rintro _ w ⟨rfl, b⟩
   refine ⟨_, rfl, ?_⟩
   refine Ya (iV v) e0 (Ya (iV 0) rfl (wK t (wp_ret ?_)))
   cases a
   exact f _ _ _ (fin2r Tryz.results28 ⟨rfl, rfl⟩ ⟨rfl, rfl⟩ ⟨rfl, b⟩)
 ·refine condT e0 (nT (bfalse h)) (sR fun _ y => Ya (iV 0) rfl (Ya (iV 70) rfl (wK y (wp_ret (g _ _ _ (i _ _ _ rfl ?_))))))
  cases a
  exact f _ _ _ (fin2r Tryz.results28 ⟨rfl, rfl⟩ ⟨rfl, rfl⟩ ⟨rfl, b⟩)
theorem modular_columns_ok {f : L2} {c : Hdr} {out : Int} (b : modular_columns f = some out) (d : imm S1 c.v f ∈ ros) (a : St w0 ros rs w) :
  Calls Tryz.prog 94 #[c.v] w (fun e w => e = .returned (iV out) ∧ St w0 ros rs w) := by
 refine enterQ Tryz.func94 rfl Tryz.ntmps94 rfl fun Q g => sR fun _ i => Ya (iV 0) rfl (wK i (seqQ fun q j k => sR fun _ l => Ym c.v e0 (yY (yLen SL_52 e0 a (rdI d)) (yY (yeql e0 rfl) (wK l ?_)))))
 refine cIf e0 b (fun m b => ?_) fun m b => ?_
 ·refine sR fun _ n => Ya (iV 0) rfl (wK n (wp_ret (k _ _ _ rfl ?_)))
  cases b
  exact g _ _ _ (fin1r Tryz.results94 ⟨rfl, rfl⟩ ⟨rfl, a⟩)
 ·refine wp_skip (j _ _ (sR fun _ o => Ym c.v e0 (bE b fun p h b => yY (yIa SL_52 e0 rfl a (rdI d) h) ?_)))
  obtain ⟨r, a⟩ := iLs a d h
  refine yY (yCt O_22 e0 a F1 rfl) (yY (yLen SL_22 e0 a (rdI F0)) (Ya (iV (p.length : Int)) e0 (wK o (wp_ret ?_))))
  cases b
  exact g _ _ _ (fin1r Tryz.results94 ⟨rfl, rfl⟩ ⟨rfl, (a.facts (allT (allT allI)))⟩)
theorem modular_check_1_ok {b : LI} {a : Int} {c : Hdr} {d : Nat} {out : Bool} (g : modular_check_1 b a = some out) (h : imm I1 c.v b ∈ ros) (f : St w0 ros (box d 3 [iV a] :: rs) w) :
  Calls Tryz.prog 123 #[c.v, (pB d)] w (fun e w => e = .returned (.bool out) ∧ St w0 ros (box d 3 [iV a] :: rs) w) := by
 refine enterQ Tryz.func123 rfl Tryz.ntmps123 rfl fun Q i => sR fun _ j => Ya (.bool false) rfl (wK j (sR fun _ k => Ym c.v e0 (yY (yLen SL_22 e0 f (rdI h)) (yY (lb_ (iV a) O_3 e0 f R0) (yY (yneq e0 e0) (Ya (.bool (!(decide ((b.length : Int) = a)))) e0 (wN ?_)))))))
 refine k _ _ (wp_ret ?_)
 cases g
 exact i _ _ _ (fin1r Tryz.results123 ⟨rfl, rfl⟩ ⟨rfl, f⟩)
theorem slices_IndexFunc_int_v2_ok {k : L2} {h : Int} {i : Hdr} {g : Nat} {out : Int} (j : slices_IndexFunc_int_v2 k h = some out) (l : imm S1 i.v k ∈ ros) (b : St w0 ros (box g 3 [iV h] :: rs) w) :
  Calls Tryz.prog 119 #[i.v, .func (.func 123) #[] #[(pB g)]] w (fun e w => e = .returned (iV out) ∧ St w0 ros (box g 3 [iV h] :: rs) w) := by
 refine enterQ Tryz.func119 rfl Tryz.ntmps119 rfl fun Q o => sR fun _ C => Ya (iV 0) rfl (wK C (seqQ fun a2 D E => sR fun _ F => Ym i.v e0 (yY (yLen SL_52 e0 b (rdI l)) (Ym (iV 0) rfl (wK F ?_)))))
 refine blockQ fun p q => bE j fun r G j => ?_
 have H : ∀ (f : FV) w, St w0 ros (box g 3 [iV h] :: rs) w → .inl () = r → p (.exit 0) (fr 19 f) w := by
  intro f w b ho
  subst ho
  refine q _ _ _ (D _ _ (sR fun _ I => Ya (iV (-1)) rfl (wK I (wp_ret ?_))))
  cases j
  exact o _ _ _ (fin1r Tryz.results119 ⟨rfl, rfl⟩ ⟨rfl, b⟩)
 have J : ∀ (m : Int) (f : FV) w, f 4 = iV m → St w0 ros (box g 3 [iV h] :: rs) w → .inr m = r → p .ret (fr 19 f) w := by
  intro m f w K b ho
  subst ho
  refine q _ _ _ (E _ _ _ rfl ?_)
  cases j
  exact o _ _ _ (fin1r Tryz.results119 ⟨rfl, K⟩ ⟨rfl, b⟩)
 refine loopQ (fun s a w => ∃ (d : Int) (f : FV), d = s ∧ a = fr 19 f ∧ f 0 = i.v ∧ f 1 = .func (.func 123) #[] #[(pB g)] ∧ f 7 = iV (k.length : Int) ∧ f 8 = iV d ∧ St w0 ros (box g 3 [iV h] :: rs) w) G ⟨_, _, rfl, rfl, rfl, rfl, rfl, rfl, b⟩ ?_
 rintro _ _ w a3 ⟨d, f, rfl, rfl, t, u, x, n, b⟩ c y a4 L z
 refine sR fun _ N => yY (ylss (eh n) (eh x)) (wK N (seqQ fun a5 O R => ?_))
 refine cIf e0 c (fun S c => ?_) fun S c => ?_
 ·refine wp_skip (O _ _ (seqQ fun a6 T U => blockQ fun _ A => sR fun _ V => Ym (iV d) (eh n) (Ya (iV d) e0 (wK V (sR fun _ W => Ym (.func (.func 123) #[] #[(pB g)]) (eh u) (Ym i.v (eh t) ?_))))))
  refine Ym (iV d) e0 (bE c fun a7 B c => yY (yIa SL_52 e0 e0 b (rdI l) B) ?_)
  obtain ⟨a8, b⟩ := iLs b l B
  refine yY (yCt O_22 e0 b F1 rfl) (bE c fun a9 X c => yC (yCallw FN_123 e0 (a1 e0)) (modular_check_1_ok X F0 b) ?_)
  rintro _ w ⟨rfl, b⟩
  refine ⟨_, rfl, ?_⟩
  refine wK W (cB e0 c (fun Z c => ?_) fun Z c => ?_)
  ·refine sR fun _ a0 => Ym (iV d) e0 (Ya (iV d) e0 (wK a0 (wp_ret (A _ _ _ (U _ _ _ rfl ?_)))))
   cases c
   exact z _ _ _ _ rfl rfl (J _ _ _ rfl (b.facts (allT (allT allI))) (y _ rfl))
  ·refine wp_skip (A _ _ _ (T _ _ (wR (yY (yadd (eh n) rfl) (Ym (iV (wa .i64 d 1)) e0 (wN ?_))))))
   cases c
   exact L _ _ _ rfl ⟨_, _, rfl, rfl, t, u, x, rfl, (b.facts (allT (allT allI)))⟩
 ·refine wp_exit (R _ _ _ rfl ?_)
  cases c
  exact z _ _ _ _ rfl rfl (H _ _ b (y _ rfl))
theorem slices_ContainsFunc_int_v2_ok {g : L2} {b : Int} {c : Hdr} {a : Nat} {out : Bool} (d : slices_ContainsFunc_int_v2 g b = some out) (h : imm S1 c.v g ∈ ros) (f : St w0 ros (box a 3 [iV b] :: rs) w) :
  Calls Tryz.prog 122 #[c.v, .func (.func 123) #[] #[(pB a)]] w (fun e w => e = .returned (.bool out) ∧ St w0 ros (box a 3 [iV b] :: rs) w) := by
 refine enterQ Tryz.func122 rfl Tryz.ntmps122 rfl fun Q i => sR fun _ j => Ya (.bool false) rfl (wK j (sR fun _ k => Ym c.v e0 (Ym (.func (.func 123) #[] #[(pB a)]) e0 (bE d fun l m d => yC (yCall FN_119 (a2 e0 e0)) (slices_IndexFunc_int_v2_ok m h f) ?_))))
 rintro _ w ⟨rfl, f⟩
 refine ⟨_, rfl, ?_⟩
 refine yY (ygeq e0 rfl) (Ya (.bool (decide ((0 : Int) ≤ l))) e0 (wK k (wp_ret ?_)))
 cases d
 exact i _ _ _ (fin1r Tryz.results122 ⟨rfl, rfl⟩ ⟨rfl, f⟩)
theorem modular_check_ok {d : L2} {k : Int} {g : Hdr} {out : Int} (a : modular_check d k = some out) (l : imm S1 g.v d ∈ ros) (b : St w0 ros rs w) :
  Calls Tryz.prog 83 #[g.v, iV k] w (fun e w => e = .returned (iV out) ∧ St w0 ros rs w) := by
 refine enterQ Tryz.func83 rfl Tryz.ntmps83 rfl fun Q i => sR fun _ p => Ya (iV 0) rfl (wK p (sR fun _ q => Ym g.v e0 (bE a fun h r a => yC (yCall FN_94 (a1 e0)) (modular_columns_ok r l b) ?_)))
 rintro _ w ⟨rfl, b⟩
 refine ⟨_, rfl, ?_⟩
 refine yBb (rAl b ZT_3) fun s w b => yT (r_stb1 (vals' := [iV h]) b O_3 e0 e0 rfl rfl rfl rfl) fun w b => wK q (seqQ fun K t m => blockQ fun _ j => sR fun _ u => Ym (iV k) e0 (bE a fun x y a => yC (yCall FN_24 (a1 e0)) (modular_IsPrime_ok y b) ?_))
 rintro _ w ⟨rfl, b⟩
 refine ⟨_, rfl, ?_⟩
 refine yY (ynot e0) (Ya (.bool (!x)) e0 (wK u ?_))
 rcases iteS a with ⟨n, a⟩ | ⟨n, a⟩
 ·refine condF e0 (nF n) (sR fun _ z => Ym g.v e0 (yY (ymf (vf := #[]) (vc := #[(pB s)]) a0 (a1 e0)) (bE a fun A B a => yC (yCall FN_122 (a2 e0 e0)) (slices_ContainsFunc_int_v2_ok B l b) ?_)))
  rintro _ w ⟨rfl, b⟩
  refine ⟨_, rfl, ?_⟩
  refine Ya (.bool A) e0 (wK z (cB e0 a (fun C a => ?_) fun C a => ?_))
  ·refine sR fun _ D => Ya (iV 5) rfl (wK D (wp_ret (j _ _ _ (m _ _ _ rfl ?_))))
   cases a
   exact i _ _ _ (fin1r Tryz.results83 ⟨rfl, rfl⟩ ⟨rfl, (b.k10)⟩)
  ·refine sR fun _ E => Ym g.v e0 (yY (yLen SL_52 e0 b (rdI l)) (yY (ygtr e0 rfl) (Ym (.bool (decide ((200 : Int) < (d.length : Int)))) e0 ?_)))
   refine joinW 3 (fun f w => f 23 = .bool ((decide ((200 : Int) < (d.length : Int))) || (decide ((200 : Int) < h))) ∧ St w0 ros rs w) (fun o => ?_) ?_
   ·rcases Bool.eq_false_or_eq_true (decide ((200 : Int) < (d.length : Int))) with c | c
    ·exact gN c (gN c (yY (pt_ (.bool true) e0 c rfl) (o _ _ ⟨(congrArg Value.bool (orT c)), (b.k10)⟩)))
    ·exact yG c (lb_ (iV h) O_3 e0 b R0) (yG c (ygtr e0 rfl) (yY (pf_ (.bool (decide ((200 : Int) < h))) e0 c e0) (o _ _ ⟨(congrArg Value.bool (orF c)), (b.k10)⟩)))
   rintro f w ⟨F, b⟩
   refine Ya (.bool ((decide ((200 : Int) < (d.length : Int))) || (decide ((200 : Int) < h)))) (eh F) (wK E (cB e0 a (fun G a => ?_) fun G a => ?_))
   ·refine sR fun _ H => Ya (iV 6) rfl (wK H (wp_ret (j _ _ _ (m _ _ _ rfl ?_))))
    cases a
    exact i _ _ _ (fin1r Tryz.results83 ⟨rfl, rfl⟩ ⟨rfl, b⟩)
   ·refine wp_skip (j _ _ _ (t _ _ (sR fun _ I => Ya (iV 0) rfl (wK I (wp_ret ?_)))))
    cases a
    exact i _ _ _ (fin1r Tryz.results83 ⟨rfl, rfl⟩ ⟨rfl, b⟩)
 ·refine condT e0 (nT (bfalse n)) (sR fun _ J => Ya (iV 70) rfl (wK J (wp_ret (j _ _ _ (m _ _ _ rfl ?_)))))
  cases a
  exact i _ _ _ (fin1r Tryz.results83 ⟨rfl, rfl⟩ ⟨rfl, (b.k10)⟩)
theorem modular_reduced_ok {o : L2} {j : Int} {k : Hdr} {out : L2} (y : modular_reduced o j = some out) (z : imm S1 k.v o ∈ ros) (b : St w0 ros rs w) :
  Calls Tryz.prog 82 #[k.v, iV j] w (fun e w => ∃ (H : Hdr) (I : List Hdr), e = .returned (H.v) ∧ St w0 ros (row 22 rH H.v I :: fam 3 I1 I out :: rs) w) := by
 refine enterQ Tryz.func82 rfl Tryz.ntmps82 rfl fun Q a3 => sR fun _ a4 => Ya hnil.v rfl (wK a4 (sR fun _ a5 => Ya hnil.v rfl (wK a5 (sQ fun _ a6 => sR fun _ a7 => ?_))))
 refine Ym k.v e0 (yY (yLen SL_52 e0 b (rdI z)) (Ym (iV 0) rfl (wK a7 (blockQ fun a8 a9 => bE y fun b0 b1 y => ?_))))
 have b2 : ∀ (A : L2) (p : Hdr) (B : List Hdr) (f : FV) w, f 5 = p.v → St w0 ros (row 22 rH p.v B :: fam 3 I1 B A :: rs) w → A = b0 → a8 (.exit 0) (fr 36 f) w := by
  intro A p B f w b3 b ho
  subst ho
  refine a9 _ _ _ (a6 _ _ (sR fun _ b4 => Ym p.v (eh b3) (Ya p.v e0 (wK b4 (wp_ret ?_)))))
  cases y
  exact a3 _ _ _ (fin1r Tryz.results82 ⟨rfl, rfl⟩ ⟨_, _, rfl, b⟩)
 replace b := ((b.rowNh 22 rH).fNew 3 I1).k11
 refine loopQ (fun s a w => ∃ (q : L2) (m : Int) (f : FV) (g : Hdr) (h : List Hdr), (q, m) = s ∧ a = fr 36 f ∧ f 1 = iV j ∧ f 5 = g.v ∧ f 11 = k.v ∧ f 12 = iV (o.length : Int) ∧ f 13 = iV m ∧ St w0 ros (row 22 rH g.v h :: fam 3 I1 h q :: rs) w) b1 ⟨_, _, _, _, _, rfl, rfl, rfl, rfl, rfl, rfl, rfl, b⟩ ?_
 rintro _ _ w f6 ⟨q, m, f, g, h, rfl, rfl, b5, J, K, L, C, b⟩ c b6 f7 b7 b8
 refine sR fun _ b9 => yY (ylss (eh C) (eh L)) (wK b9 (seqQ fun f8 c0 c1 => ?_))
 refine cIf e0 c (fun c2 c => ?_) fun c2 c => ?_
 ·refine wp_skip (c0 _ _ (sQ fun _ c3 => blockQ fun _ c4 => sR fun _ c5 => bE c fun N O c => yY (yIa SL_52 (eh K) (eh C) b (rdI z) O) ?_))
  obtain ⟨r, b⟩ := iLs b z O
  refine yY (yCt O_22 e0 b F1 rfl) (Ya r.v e0 (wK c5 (sR fun _ c6 => Ya hnil.v rfl (wK c6 (sQ fun _ c7 => sR fun _ c8 => Ym r.v e0 (yY (yLen SL_22 e0 b (rdI F0)) ?_))))))
  refine Ym (iV 0) rfl (wK c8 (blockQ fun c9 d0 => bE c fun d1 d2 c => ?_))
  have d3 : ∀ (t : LI) (i : Hdr) (f : FV) w, f 1 = iV j → f 5 = g.v → f 8 = i.v → f 11 = k.v → f 12 = iV (o.length : Int) → f 13 = iV m → St w0 ros (row 22 rH g.v h :: fam 3 I1 h q :: row 3 I1 i.v t :: rs) w → t = d1 → c9 (.exit 2) (fr 36 f) w := by
   intro t i f w d4 d5 d6 d7 d8 d9 b ho
   subst ho
   refine d0 _ _ _ (c7 _ _ (wR (Ym g.v (eh d5) (Ym i.v (eh d6) (yH (rLt (n := 1) (l := [i]) b SLH_52 [i.v] (bp1 e0) rfl rfl (mks1 rfl (mkF rfl) mks0)) fun f9 w b => bE c fun g0 R c => ?_)))))
   replace b := b.k11
   obtain ⟨g1, ey110, e1⟩ := app_rep R (b.famL R2) (show [i].length = [t].length from rfl)
   refine yH (rAp b SLH_52 e0 e0 rO1 e1) fun e2 w b => ?_
   replace b := (b.k1b).fPush
   rw [← ey110, ← (app_some R).1] at b
   refine Ya e2.v e0 (wN (c4 _ _ _ (c3 _ _ (wR (yY (yadd (eh d9) rfl) (Ym (iV (wa .i64 m 1)) e0 (wN ?_)))))))
   cases c
   exact b7 _ _ _ rfl ⟨_, _, _, _, _, rfl, rfl, d4, rfl, d7, d8, rfl, (b.k1c)⟩
  replace b := b.rowNh 3 I1
  refine loopQ (fun s a w => ∃ (D : LI) (u : Int) (f : FV) (x : Hdr), (D, u) = s ∧ a = fr 36 f ∧ f 1 = iV j ∧ f 5 = g.v ∧ f 8 = x.v ∧ f 11 = k.v ∧ f 12 = iV (o.length : Int) ∧ f 13 = iV m ∧ f 17 = r.v ∧ f 18 = iV (N.length : Int) ∧ f 19 = iV u ∧ St w0 (imm I1 r.v N :: ros) (row 22 rH g.v h :: fam 3 I1 h q :: row 3 I1 x.v D :: rs) w) d2 ⟨_, _, _, _, rfl, rfl, b5, J, rfl, K, L, C, rfl, rfl, rfl, ((b.k1d).facts (allC F0 (allT (allT allI))))⟩ ?_
  rintro _ _ w g2 ⟨D, u, f, x, rfl, rfl, E, S, T, U, V, W, X, Z, F, b⟩ d e3 g3 e4 e5
  refine sR fun _ e6 => yY (ylss (eh F) (eh Z)) (wK e6 (seqQ fun g4 e7 e8 => ?_))
  refine cIf e0 d (fun e9 d => ?_) fun e9 d => ?_
  ·refine wp_skip (e7 _ _ (sQ fun _ f0 => blockQ fun _ f1 => sR fun _ f2 => bE d fun a0 a1 d => yY (yIa SL_22 (eh X) (eh F) b (rdI F0) a1) (yY (yI O_3 e0 b (rdI F0) a1) (Ya (iV a0) e0 (wK f2 (wR (Ym x.v (eh T) ?_)))))))
   refine Ym (iV a0) e0 (Ym (iV j) (eh E) (bE d fun G f3 d => yC (yCall FN_62 (a2 e0 e0)) (modular_mod_ok f3 b) ?_))
   rintro _ w ⟨rfl, b⟩
   refine ⟨_, rfl, ?_⟩
   refine yH (rLt (n := 1) (l := [G]) b SL_22 [iV G] (bp1 e0) rfl rfl (mks1 (cs := [iV G]) rfl mkI mks0)) fun g5 w b => bE d fun g6 f4 d => yH (rAp (b.k16) SL_22 e0 e0 rO1 f4) fun f5 w b => Ya f5.v e0 (wN (f1 _ _ _ (f0 _ _ (wR (yY (yadd (eh F) rfl) (Ym (iV (wa .i64 u 1)) e0 (wN ?_)))))))
   cases d
   exact e4 _ _ _ rfl ⟨_, _, _, _, rfl, rfl, E, S, rfl, U, V, W, X, Z, rfl, (b.k1e)⟩
  ·refine wp_exit (e8 _ _ _ rfl ?_)
   cases d
   exact e5 _ _ _ _ rfl rfl (d3 _ _ _ _ E S T U V W (b.facts (allT allI)) (e3 _ rfl))
 ·refine wp_exit (c1 _ _ _ rfl ?_)
  cases c
  exact b8 _ _ _ _ rfl rfl (b2 _ _ _ _ _ J b (b6 _ rfl))
theorem modular_echelon_1_ok {g : LI} {a : Int} {c : Hdr} {d : Nat} {out : Bool} (f : modular_echelon_1 g a = some out) (h : imm I1 c.v g ∈ ros) (b : St w0 ros (box d 3 [iV a] :: rs) w) :
  Calls Tryz.prog 120 #[c.v, (pB d)] w (fun e w => e = .returned (.bool out) ∧ St w0 ros (box d 3 [iV a] :: rs) w) := by
 refine enterQ Tryz.func120 rfl Tryz.ntmps120 rfl fun Q j => sR fun _ k => Ya (.bool false) rfl (wK k (sR fun _ l => Ym c.v e0 (yY (lb_ (iV a) O_3 e0 b R0) (bE f fun m i f => yY (yIa SL_22 e0 e0 b (rdI h) i) (yY (yI O_3 e0 b (rdI h) i) (yY (yneq e0 rfl) ?_))))))
 refine Ya (.bool (!(decide (m = 0)))) e0 (wK l (wp_ret ?_))
 cases f
 exact j _ _ _ (fin1r Tryz.results120 ⟨rfl, rfl⟩ ⟨rfl, b⟩)
theorem slices_IndexFunc_int_v3_ok {k : L2} {h : Int} {i : Hdr} {g : Nat} {out : Int} (j : slices_IndexFunc_int_v3 k h = some out) (l : imm S1 i.v k ∈ ros) (b : St w0 ros (box g 3 [iV h] :: rs) w) :
  Calls Tryz.prog 119 #[i.v, .func (.func 120) #[] #[(pB g)]] w (fun e w => e = .returned (iV out) ∧ St w0 ros (box g 3 [iV h] :: rs) w) := by
 refine enterQ Tryz.func119 rfl Tryz.ntmps119 rfl fun Q o => sR fun _ C => Ya (iV 0) rfl (wK C (seqQ fun a2 D E => sR fun _ F => Ym i.v e0 (yY (yLen SL_52 e0 b (rdI l)) (Ym (iV 0) rfl (wK F ?_)))))
 refine blockQ fun p q => bE j fun r G j => ?_
 have H : ∀ (f : FV) w, St w0 ros (box g 3 [iV h] :: rs) w → .inl () = r → p (.exit 0) (fr 19 f) w := by
  intro f w b ho
  subst ho
  refine q _ _ _ (D _ _ (sR fun _ I => Ya (iV (-1)) rfl (wK I (wp_ret ?_))))
  cases j
  exact o _ _ _ (fin1r Tryz.results119 ⟨rfl, rfl⟩ ⟨rfl, b⟩)
 have J : ∀ (m : Int) (f : FV) w, f 4 = iV m → St w0 ros (box g 3 [iV h] :: rs) w → .inr m = r → p .ret (fr 19 f) w := by
  intro m f w K b ho
  subst ho
  refine q _ _ _ (E _ _ _ rfl ?_)
  cases j
  exact o _ _ _ (fin1r Tryz.results119 ⟨rfl, K⟩ ⟨rfl, b⟩)
 refine loopQ (fun s a w => ∃ (d : Int) (f : FV), d = s ∧ a = fr 19 f ∧ f 0 = i.v ∧ f 1 = .func (.func 120) #[] #[(pB g)] ∧ f 7 = iV (k.length : Int) ∧ f 8 = iV d ∧ St w0 ros (box g 3 [iV h] :: rs) w) G ⟨_, _, rfl, rfl, rfl, rfl, rfl, rfl, b⟩ ?_
 rintro _ _ w a3 ⟨d, f, rfl, rfl, t, u, x, n, b⟩ c y a4 L z
 refine sR fun _ N => yY (ylss (eh n) (eh x)) (wK N (seqQ fun a5 O R => ?_))
 refine cIf e0 c (fun S c => ?_) fun S c => ?_
 ·refine wp_skip (O _ _ (seqQ fun a6 T U => blockQ fun _ A => sR fun _ V => Ym (iV d) (eh n) (Ya (iV d) e0 (wK V (sR fun _ W => Ym (.func (.func 120) #[] #[(pB g)]) (eh u) (Ym i.v (eh t) ?_))))))
  refine Ym (iV d) e0 (bE c fun a7 B c => yY (yIa SL_52 e0 e0 b (rdI l) B) ?_)
  obtain ⟨a8, b⟩ := iLs b l B
  refine yY (yCt O_22 e0 b F1 rfl) (bE c fun a9 X c => yC (yCallw FN_120 e0 (a1 e0)) (modular_echelon_1_ok X F0 b) ?_)
  rintro _ w ⟨rfl, b⟩
  refine ⟨_, rfl, ?_⟩
  refine wK W (cB e0 c (fun Z c => ?_) fun Z c => ?_)
  ·refine sR fun _ a0 => Ym (iV d) e0 (Ya (iV d) e0 (wK a0 (wp_ret (A _ _ _ (U _ _ _ rfl ?_)))))
   cases c
   exact z _ _ _ _ rfl rfl (J _ _ _ rfl (b.facts (allT (allT allI))) (y _ rfl))
  ·refine wp_skip (A _ _ _ (T _ _ (wR (yY (yadd (eh n) rfl) (Ym (iV (wa .i64 d 1)) e0 (wN ?_))))))
   cases c
   exact L _ _ _ rfl ⟨_, _, rfl, rfl, t, u, x, rfl, (b.facts (allT (allT allI)))⟩
 ·refine wp_exit (R _ _ _ rfl ?_)
  cases c
  exact z _ _ _ _ rfl rfl (H _ _ b (y _ rfl))
end Go.Proofs.YtnfamnfdndaekaaGreatDoor
