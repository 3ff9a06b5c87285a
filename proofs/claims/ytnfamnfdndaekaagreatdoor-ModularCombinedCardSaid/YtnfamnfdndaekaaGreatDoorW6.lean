/- Walks: each function computes its model, printed. -/
import Derived.Test.YtnfamnfdndaekaaGreatDoorW5
namespace Go.Proofs.YtnfamnfdndaekaaGreatDoor
open Go Sx M
set_option maxRecDepth 100000
set_option maxHeartbeats 40000000
set_option linter.unusedVariables false
attribute [local irreducible] wpList Code.wp Calls DR QR QS LA LS St
variable {w0 : World} {ros : List Fact} {rs : List Res} {w : World}
theorem sparseref01_Cmp_ok {c : Bool} {h : LI} {d : Bool} {i : LI} {f g : Hdr} {out : Int} (b : sparseref01_Cmp c h d i = some out) (j : imm (rI .u32) f.v h ∈ ros) (k : imm (rI .u32) g.v i ∈ ros) (a : St w0 ros rs w) :
  Calls Tryz.prog 71 #[.agg #[.bool c, f.v], .agg #[.bool d, g.v]] w (fun e w => e = .returned (iV out) ∧ St w0 ros rs w) := by
 refine enterQ Tryz.func71 rfl Tryz.ntmps71 rfl fun Q l => sR fun _ m => yBb (r_box (vals := [.bool c, f.v]) a e0 rfl) fun r w a => yBb (r_box (vals := [.bool d, g.v]) a e0 rfl) fun s w a => Ya (iV 0) rfl (wK m (sR fun _ n => yY (lbs_ [.bool c, f.v] ST_27 e0 a R1) (yY (lbs_ [.bool d, g.v] ST_27 e0 a R0) ?_)))
 refine bE b fun t o b => yC (yCall FN_73 (a2 e0 e0)) (sparseref01_Sub_ok o j k a) ?_
 rintro _ w ⟨u, rfl, a⟩
 refine ⟨_, rfl, ?_⟩
 refine bE b fun p q b => ?_
 replace a := a.fz
 refine yC (yCall FN_89 (a1 e0)) (sparseref01_Sign_ok q F0 a) ?_
 rintro _ w ⟨rfl, a⟩
 refine ⟨_, rfl, ?_⟩
 refine Ya (iV p) e0 (wK n (wp_ret ?_))
 cases b
 exact l _ _ _ (fin1r Tryz.results71 ⟨rfl, rfl⟩ ⟨rfl, ((a.k1l).facts (allT allI))⟩)
theorem sparseref07_Combine_ok {O R : LI} {F z : Hdr} {out : Bool × LI × Bool × LI} (g : sparseref07_Combine O R = some out) (S : imm I1 F.v O ∈ ros) (H : imm I1 z.v R ∈ ros) (b : St w0 ros rs w) :
  Calls Tryz.prog 17 #[F.v, z.v] w (fun e w => ∃ (T U : Hdr), e = .returned (.tuple #[.agg #[.bool out.1, T.v], .agg #[.bool out.2.2.1, U.v]]) ∧ St w0 (imm (rI .u32) T.v out.2.1 :: imm (rI .u32) U.v out.2.2.2 :: ros) rs w) := by
 refine enterQ Tryz.func17 rfl Tryz.ntmps17 rfl fun Q c1 => sR fun _ c2 => yBb (rAl b ZT_27) fun q w b => yBb (rAl b ZT_27) fun r w b => wK c2 (sR fun _ c3 => yY (ybuild (us := [.bool false, hnil.v]) [] SO_27 bp0 rfl) (bE g fun V c4 g => yC (yCall FN_43 (a1 rfl)) (sparseref01_FromInt_ok c4 b) ?_))
 rintro _ w ⟨W, rfl, b⟩
 refine ⟨_, rfl, ?_⟩
 refine yBb (rAl b ZT_27) fun t w b => yBb (rAl b ZT_27) fun u w b => yT (r_stbn (vals' := [.bool false, hnil.v]) (us := [.bool false, hnil.v]) (b.k11) ST_27 e0 e0 rfl rfl (one_of rfl) rfl) fun w b => yT (r_stbn (vals' := [.bool V.1, W.v]) (us := [.bool V.1, W.v]) (b.k11) ST_27 e0 e0 rfl rfl (one_of rfl) rfl) fun w b => wK c3 (sQ fun _ c5 => sR fun _ c6 => Ya (iV 0) rfl ?_)
 refine wK c6 (blockQ fun c7 c8 => bE g fun c9 d0 g => ?_)
 have d1 : ∀ (A : Bool) (I : LI) (h : Bool) (B : LI) (C i : Hdr) (f : FV) w, f 4 = (pB q) → f 5 = (pB r) → f 6 = (pB t) → f 7 = (pB u) → St w0 ros (box q 27 [.bool false, hnil.v] :: box r 27 [.bool false, hnil.v] :: row 88 (rI .u32) C.v I :: box t 27 [.bool A, C.v] :: row 88 (rI .u32) i.v B :: box u 27 [.bool h, i.v] :: rs) w → (A, I, h, B) = c9 → c7 (.exit 0) (fr 63 f) w := by
  intro A I h B C i f w X Z D E b ho
  subst ho
  refine c8 _ _ _ (c5 _ _ (sQ fun d2 d3 => sQ fun _ d4 => bE g fun g5 d5 g => bE g fun g6 d6 g => dR [0, 1, 0, 7, 15] [1, 3] 2 folM ?_))
  replace b := b.drew
  refine Dn [0, 2] [] [1] (yR rfl (lbs_ [.bool A, C.v] ST_27 (eh D) b R3) (yR rfl (lbs_ [.bool h, i.v] ST_27 (eh E) b R5) (Rn QSn ?_)))
  refine Lc1 rfl ?_
  replace b := (b.k1a).fz
  refine Lk wn (yCall FN_72 (a2 e0 rfl)) (sparseref01_Shift_ok d5 F0 b) ?_
  rintro _ w ⟨g7, rfl, b⟩
  refine ⟨_, rfl, ?_⟩
  refine Dn [] [2] [3] (Rn (yS rfl (lbs_ [.bool h, i.v] ST_27 (eh E) b R5) QSn) ?_)
  refine Lc1 rfl ?_
  replace b := (b.fz.k15).fz
  refine Lk wn (yCall FN_71 (a2 e0 e0)) (sparseref01_Cmp_ok d6 F1 F0 b) ?_
  rintro _ w ⟨rfl, b⟩
  refine ⟨_, rfl, ?_⟩
  refine Dz [4] [] (yR rfl (ygtr e0 rfl) (Rn QSn (d4 _ _ ?_)))
  have a0 : ∀ (x : Bool) (J : LI) (y : Hdr) (f : FV) w, f 4 = (pB q) → f 5 = (pB r) → f 6 = (pB t) → f 7 = (pB u) → St w0 (imm (rI .u32) y.v J :: imm (rI .u32) i.v B :: ros) (box q 27 [.bool false, hnil.v] :: box r 27 [.bool false, hnil.v] :: box t 27 [.bool x, y.v] :: box u 27 [.bool h, i.v] :: rs) w → sparseref07_Combine_j2 h B x J = some out → d2 .normal (fr 63 f) w := by
   intro x J y f w a3 a4 d7 a5 b g
   refine d3 _ _ (sQ fun _ d8 => dR [0, 0, 1, 7] [2, 3] 2 folM ?_)
   replace b := b.drew
   refine Dn [0, 1] [] [2] (yR rfl (lbs_ [.bool x, y.v] ST_27 (eh d7) b R2) (yR rfl (lbs_ [.bool h, i.v] ST_27 (eh a5) b R3) (Rn QSn ?_)))
   refine Lc1 rfl ?_
   refine LT wn (r_stbn (vals' := [.bool x, y.v]) (us := [.bool x, y.v]) b ST_27 (eh a3) e0 rfl rfl (one_of rfl) rfl) fun w b => Dn [] [1] [3] (Rn (yS rfl (lbs_ [.bool h, i.v] ST_27 (eh a5) b R3) QSn) ?_)
   refine Lc1 rfl ?_
   replace b := b.k11
   refine LT wn (r_stbn (vals' := [.bool h, i.v]) (us := [.bool h, i.v]) b ST_27 (eh a4) e0 rfl rfl (one_of rfl) rfl) fun w b => Dz [] [] (Rn QSn (d8 _ _ (wp_ret ?_)))
   cases g
   exact c1 _ _ _ (fin2r Tryz.results17 (rcs2 rfl a3 b R1 ST_27 rfl) (rcs2 rfl a4 b R0 ST_27 rfl) ⟨_, _, rfl, (b.k1h)⟩)
  refine cIf e0 g (fun d9 g => ?_) fun d9 g => ?_
  ·refine wR (yY (lbs_ [.bool A, C.v] ST_27 (eh D) b R2) (yY (lbs_ [.bool h, i.v] ST_27 (eh E) b R3) (bE g fun a6 e1 g => yC (yCall FN_73 (a2 e0 e0)) (sparseref01_Sub_ok e1 F2 F0 b) ?_)))
   rintro _ w ⟨a7, rfl, b⟩
   refine ⟨_, rfl, ?_⟩
   refine yT (r_stbn (vals' := [.bool a6.1, a7.v]) (us := [.bool a6.1, a7.v]) (b.k15) ST_27 (eh D) e0 rfl rfl (one_of rfl) rfl) fun w b => wN ?_
   replace b := (b.k11).fz
   exact a0 _ _ _ _ _ X Z D E ((b.k1e).facts (allC F0 (allC F1 (allT (allT (allT (allT allI))))))) g
  ·exact wp_skip (a0 _ _ _ _ _ X Z D E (b.facts (allC F2 (allC F0 (allT (allT (allT allI)))))) g)
 replace b := b.rowNh 88 (rI .u32)
 refine loopQ (fun s a w => ∃ (m : Bool) (K : LI) (j : Bool) (L : LI) (n : Int) (f : FV) (o k : Hdr), (m, K, j, L, n) = s ∧ a = fr 63 f ∧ f 0 = F.v ∧ f 1 = z.v ∧ f 4 = (pB q) ∧ f 5 = (pB r) ∧ f 6 = (pB t) ∧ f 7 = (pB u) ∧ f 8 = iV n ∧ St w0 ros (box q 27 [.bool false, hnil.v] :: box r 27 [.bool false, hnil.v] :: row 88 (rI .u32) o.v K :: box t 27 [.bool m, o.v] :: row 88 (rI .u32) k.v L :: box u 27 [.bool j, k.v] :: rs) w) d0 ⟨_, _, _, _, _, _, _, _, rfl, rfl, rfl, rfl, rfl, rfl, rfl, rfl, rfl, (b.k21)⟩ ?_
 rintro _ _ w g8 ⟨m, K, j, L, n, f, o, k, rfl, rfl, a8, N, a9, b0, p, l, G, b⟩ c e2 g9 e3 e4
 refine seqQ fun h0 e5 e6 => sR fun _ e7 => Ym (iV n) (eh G) (Ym z.v (eh N) (yY (yLen SL_22 e0 b (rdI H)) (yY (ylss e0 e0) (wK e7 ?_))))
 refine cIf e0 c (fun e8 c => ?_) fun e8 c => ?_
 ·refine wp_skip (e5 _ _ (sQ fun _ e9 => blockQ fun _ f0 => sR fun _ f1 => Ym z.v (eh N) (Ym (iV n) (eh G) (bE c fun d b1 c => yY (yIa SL_22 e0 e0 b (rdI H) b1) (yY (yI O_3 e0 b (rdI H) b1) (Ya (iV d) e0 (wK f1 ?_)))))))
  refine sQ fun _ f2 => bE c fun h1 b2 c => bE c fun h3 f3 c => bE c fun h5 f4 c => bE c fun h6 f5 c => bE c fun h7 f6 c => bE c fun h9 f7 c => bE c fun b3 f8 c => dR [0, 0, 3, 7, 0, 31, 0, 0, 255, 511, 0, 2047, 0, 0, 16383, 0, 65535, 131071, 0, 524287, 1048575] [5, 8, 11, 14, 16, 20] 6 folM ?_
  replace b := b.drew
  refine Dn [0, 1, 2, 3, 4, 6, 7, 10, 12, 13, 15, 18] [] [5] (yR rfl (m_ F.v (eh a8)) (yR rfl (m_ (iV n) (eh G)) (yR rfl (yIa SL_22 e0 e0 b (rdI S) b2) (yR rfl (yI O_3 e0 b (rdI S) b2) (yR rfl (m_ (iV d) e0) (yR rfl (lbs_ [.bool m, o.v] ST_27 (eh p) b R3) (yR rfl (m_ (iV d) e0) (yR rfl (m_ (iV d) e0) (yR rfl (lbs_ [.bool j, k.v] ST_27 (eh l) b R5) (yR rfl (m_ (iV d) e0) (yR rfl (m_ (iV d) e0) (yR rfl (m_ (iV d) e0) (Rn QSn ?_)))))))))))))
  refine Lc1 rfl ?_
  refine Lk wn (yCall FN_31 (a2 e0 e0)) (sparseref07_Mod_ok f3 b) ?_
  rintro _ w ⟨rfl, b⟩
  refine ⟨_, rfl, ?_⟩
  refine Dn [] [6, 7, 10, 12, 13, 15, 18] [8] (Rn (yS rfl (lbs_ [.bool m, o.v] ST_27 (eh p) b R3) (yS rfl (m_ (iV d) e0) (yS rfl (m_ (iV d) e0) (yS rfl (lbs_ [.bool j, k.v] ST_27 (eh l) b R5) (yS rfl (m_ (iV d) e0) (yS rfl (m_ (iV d) e0) (yS rfl (m_ (iV d) e0) QSn))))))) ?_)
  refine Lc1 rfl ?_
  replace b := (b.k1a).fz
  refine Lk wn (yCall FN_30 (a2 e0 e0)) (sparseref07_Reduce_ok f4 F0 b) ?_
  rintro _ w ⟨rfl, b⟩
  refine ⟨_, rfl, ?_⟩
  refine Dn [9] [10, 12, 13, 15, 18] [11] (yR rfl (ysub e0 e0) (Rn (yS rfl (m_ (iV d) e0) (yS rfl (lbs_ [.bool j, k.v] ST_27 (eh l) b R4) (yS rfl (m_ (iV d) e0) (yS rfl (m_ (iV d) e0) (yS rfl (m_ (iV d) e0) QSn))))) ?_))
  refine Lc1 rfl ?_
  refine Lk wn (yCall FN_31 (a2 e0 e0)) (sparseref07_Mod_ok f5 b) ?_
  rintro _ w ⟨rfl, b⟩
  refine ⟨_, rfl, ?_⟩
  refine Dn [] [12, 13, 15, 18] [14] (Rn (yS rfl (lbs_ [.bool j, k.v] ST_27 (eh l) b R4) (yS rfl (m_ (iV d) e0) (yS rfl (m_ (iV d) e0) (yS rfl (m_ (iV d) e0) QSn)))) ?_)
  refine Lc1 rfl ?_
  replace b := (b.k15).fz
  refine Lk wn (yCall FN_30 (a2 e0 e0)) (sparseref07_Reduce_ok f6 F0 b) ?_
  rintro _ w ⟨rfl, b⟩
  refine ⟨_, rfl, ?_⟩
  refine Dn [] [15, 18] [16] (Rn (yS rfl (m_ (iV d) e0) (yS rfl (m_ (iV d) e0) QSn)) ?_)
  refine Lc1 rfl ?_
  refine Lk wn (yCall FN_32 (a2 e0 e0)) (sparseref07_Inverse_ok f7 b) ?_
  rintro _ w ⟨rfl, b⟩
  refine ⟨_, rfl, ?_⟩
  refine Dn [17, 19] [18] [20] (yR rfl (ymul e0 e0) (yR rfl (yrem e0 e0 f8) (Rn (yS rfl (m_ (iV d) e0) QSn) ?_)))
  refine Lc1 rfl ?_
  refine Ly wn (a_ (iV b3) e0) (Dz [] [] (Rn QSn (f2 _ _ (sQ fun _ f9 => bE c fun i0 g0 c => bE c fun i1 g1 c => bE c fun b4 g2 c => dR [0, 0, 0, 4, 14, 31, 63] [3, 4, 5, 6] 4 folM ?_))))
  replace b := b.drew
  refine Dn [0, 1, 2] [] [3] (yR rfl (lbs_ [.bool m, o.v] ST_27 (eh p) b R2) (yR rfl (lbs_ [.bool j, k.v] ST_27 (eh l) b R3) (yR rfl (m_ (iV b3) e0) (Rn QSn ?_))))
  refine Lc1 rfl ?_
  refine Lk wn (yCall FN_43 (a1 e0)) (sparseref01_FromInt_ok g0 b) ?_
  rintro _ w ⟨i2, rfl, b⟩
  refine ⟨_, rfl, ?_⟩
  refine Dn [] [0, 1] [4] (Rn (yS rfl (lbs_ [.bool m, o.v] ST_27 (eh p) b R3) (yS rfl (lbs_ [.bool j, k.v] ST_27 (eh l) b R4) QSn)) ?_)
  refine Lc1 rfl ?_
  replace b := b.fz
  refine Lk wn (yCall FN_70 (a2 e0 e0)) (sparseref01_Mul_ok g1 F1 F0 b) ?_
  rintro _ w ⟨i3, rfl, b⟩
  refine ⟨_, rfl, ?_⟩
  refine Dn [] [0] [5] (Rn (yS rfl (lbs_ [.bool m, o.v] ST_27 (eh p) b R3) QSn) ?_)
  refine Lc1 rfl ?_
  replace b := b.fz
  refine Lk wn (yCall FN_69 (a2 e0 e0)) (sparseref01_Add_ok g2 F3 F0 b) ?_
  rintro _ w ⟨b7, rfl, b⟩
  refine ⟨_, rfl, ?_⟩
  refine Dn [] [] [6] (Rn QSn ?_)
  refine Lc1 rfl ?_
  replace b := b.k15
  refine LT wn (r_stbn (vals' := [.bool b4.1, b7.v]) (us := [.bool b4.1, b7.v]) b ST_27 (eh p) e0 rfl rfl (one_of rfl) rfl) fun w b => Dz [] [] (Rn QSn (f9 _ _ (bE c fun i4 g3 c => bE c fun b8 g4 c => dR [0, 0, 2, 7, 15] [2, 3, 4] 3 folM ?_)))
  replace b := b.drew
  refine Dn [0, 1] [] [2] (yR rfl (lbs_ [.bool j, k.v] ST_27 (eh l) b R4) (yR rfl (m_ (iV d) e0) (Rn QSn ?_)))
  refine Lc1 rfl ?_
  refine Lk wn (yCall FN_43 (a1 e0)) (sparseref01_FromInt_ok g3 b) ?_
  rintro _ w ⟨i5, rfl, b⟩
  refine ⟨_, rfl, ?_⟩
  refine Dn [] [0] [3] (Rn (yS rfl (lbs_ [.bool j, k.v] ST_27 (eh l) b R5) QSn) ?_)
  refine Lc1 rfl ?_
  replace b := b.fz
  refine Lk wn (yCall FN_70 (a2 e0 e0)) (sparseref01_Mul_ok g4 F3 F0 b) ?_
  rintro _ w ⟨c0, rfl, b⟩
  refine ⟨_, rfl, ?_⟩
  refine Dn [] [] [4] (Rn QSn ?_)
  refine Lc1 rfl ?_
  replace b := b.k1t
  refine LT wn (r_stbn (vals' := [.bool b8.1, c0.v]) (us := [.bool b8.1, c0.v]) b ST_27 (eh l) e0 rfl rfl (one_of rfl) rfl) fun w b => Dz [] [] (Rn QSn (f0 _ _ _ (e9 _ _ (wR (Ym (iV n) (eh G) (yY (yadd e0 rfl) (Ya (iV (wa .i64 n 1)) e0 (wN ?_))))))))
  cases c
  exact e3 _ _ _ rfl ⟨_, _, _, _, _, _, _, _, rfl, rfl, a8, N, a9, b0, p, l, rfl, ((b.k22).facts (allT (allT (allT (allT (allT allI))))))⟩
 ·refine wp_exit (e6 _ _ _ rfl ?_)
  cases c
  exact e4 _ _ _ _ rfl rfl (d1 _ _ _ _ _ _ _ _ a9 b0 p l b (e2 _ rfl))
theorem sparsekit_Limbs_ok {q r : LI} {h i : Hdr} {out : Bool} (d : sparsekit_Limbs q r = some out) (j : imm (rI .u32) h.v q ∈ ros) (l : imm (rI .u32) i.v r ∈ ros) (b : St w0 ros rs w) :
  Calls Tryz.prog 68 #[h.v, i.v] w (fun e w => e = .returned (.bool out) ∧ St w0 ros rs w) := by
 refine enterQ Tryz.func68 rfl Tryz.ntmps68 rfl fun Q m => sR fun _ E => Ya (.bool false) rfl (wK E (seqQ fun a4 F G => sR fun _ H => Ym h.v e0 (yY (yLen SL_25 e0 b (rdI j)) (Ym i.v e0 (yY (yLen SL_25 e0 b (rdI l)) (yY (yneq e0 e0) ?_))))))
 refine wK H ?_
 rcases iteS d with ⟨n, d⟩ | ⟨n, d⟩
 ·refine condF e0 (nF (dT n)) (wp_skip (F _ _ (seqQ fun a5 I J => sR fun _ K => Ya (iV 0) rfl (wK K (blockQ fun t u => bE d fun x L d => ?_)))))
  have N : ∀ (f : FV) w, St w0 ros rs w → .inl () = x → t (.exit 0) (fr 26 f) w := by
   intro f w b ho
   subst ho
   refine u _ _ _ (I _ _ (sR fun _ O => Ya (.bool true) rfl (wK O (wp_ret ?_))))
   cases d
   exact m _ _ _ (fin1r Tryz.results68 ⟨rfl, rfl⟩ ⟨rfl, b⟩)
  have R : ∀ (f : FV) w, f 4 = .bool false → St w0 ros rs w → .inr () = x → t .ret (fr 26 f) w := by
   intro f w S b ho
   subst ho
   refine u _ _ _ (J _ _ _ rfl ?_)
   cases d
   exact m _ _ _ (fin1r Tryz.results68 ⟨rfl, S⟩ ⟨rfl, b⟩)
  refine loopQ (fun s a w => ∃ (g : Int) (f : FV), g = s ∧ a = fr 26 f ∧ f 0 = h.v ∧ f 1 = i.v ∧ f 5 = iV g ∧ St w0 ros rs w) L ⟨_, _, rfl, rfl, rfl, rfl, rfl, b⟩ ?_
  rintro _ _ w a6 ⟨g, f, rfl, rfl, o, y, k, b⟩ c z a7 T A
  refine seqQ fun a8 U V => sR fun _ W => Ym (iV g) (eh k) (Ym h.v (eh o) (yY (yLen SL_25 e0 b (rdI j)) (yY (ylss e0 e0) (wK W ?_))))
  refine cIf e0 c (fun X c => ?_) fun X c => ?_
  ·refine wp_skip (U _ _ (seqQ fun a9 Z a0 => blockQ fun _ B => sQ fun _ a1 => bE c fun b0 C c => bE c fun b1 D c => dR [0, 0, 3, 7, 0, 0, 48, 112, 255] [] 0 folM ?_))
   replace b := b.drew
   refine Dz [0, 1, 2, 3, 4, 5, 6, 7, 8] [] (yR rfl (m_ h.v (eh o)) (yR rfl (m_ (iV g) (eh k)) (yR rfl (yIa SL_25 e0 e0 b (rdI j) C) (yR rfl (yI O_88 e0 b (rdI j) C) (yR rfl (m_ i.v (eh y)) (yR rfl (m_ (iV g) (eh k)) (yR rfl (yIa SL_25 e0 e0 b (rdI l) D) (yR rfl (yI O_88 e0 b (rdI l) D) (yR rfl (yneq e0 e0) (Rn QSn (a1 _ _ ?_)))))))))))
   rcases iteS c with ⟨p, c⟩ | ⟨p, c⟩
   ·refine condF e0 (nF (dT p)) (wp_skip (B _ _ _ (Z _ _ (wR (Ym (iV g) (eh k) (yY (yadd e0 rfl) (Ya (iV (wa .i64 g 1)) e0 (wN ?_))))))))
    cases c
    exact T _ _ _ rfl ⟨_, _, rfl, rfl, o, y, rfl, b⟩
   ·refine condT e0 (nT (dF p)) (sR fun _ a2 => Ya (.bool false) rfl (wK a2 (wp_ret (B _ _ _ (a0 _ _ _ rfl ?_)))))
    cases c
    exact A _ _ _ _ rfl rfl (R _ _ rfl b (z _ rfl))
  ·refine wp_exit (V _ _ _ rfl ?_)
   cases c
   exact A _ _ _ _ rfl rfl (N _ _ b (z _ rfl))
 ·refine condT e0 (nT (dF n)) (sR fun _ a3 => Ya (.bool false) rfl (wK a3 (wp_ret (G _ _ _ rfl ?_))))
  cases d
  exact m _ _ _ (fin1r Tryz.results68 ⟨rfl, rfl⟩ ⟨rfl, b⟩)
theorem sparsekit_Big_ok {d : Bool} {k : LI} {g : Bool} {l : LI} {h i : Hdr} {out : Bool} (j : sparsekit_Big d k g l = some out) (o : imm (rI .u32) h.v k ∈ ros) (p : imm (rI .u32) i.v l ∈ ros) (a : St w0 ros rs w) :
  Calls Tryz.prog 16 #[.agg #[.bool d, h.v], .agg #[.bool g, i.v]] w (fun e w => e = .returned (.bool out) ∧ St w0 ros rs w) := by
 refine enterQ Tryz.func16 rfl Tryz.ntmps16 rfl fun Q q => sR fun _ r => yBb (r_box (vals := [.bool d, h.v]) a e0 rfl) fun y w a => yBb (r_box (vals := [.bool g, i.v]) a e0 rfl) fun z w a => Ya (.bool false) rfl (wK r (sR fun _ s => yY (yFb FL_27_0 e0) (yY (lb_ (.bool d) O_4 e0 a R1) ?_)))
 refine yY (yFb FL_27_0 e0) (yY (lb_ (.bool g) O_4 e0 a R0) (yY (yeqb (by kernel_rfl) e0 e0) (Ym (.bool (d == g)) e0 (bE j fun m c j => ?_))))
 refine joinW 6 (fun f w => f 16 = .bool m ∧ St w0 ros rs w) (fun n => ?_) ?_
 ·rcases iteS c with ⟨b, c⟩ | ⟨b, c⟩
  ·refine yG b (yFb FL_27_1 e0) (yG b (lb_ h.v O_25 e0 a R1) (yG b (yFb FL_27_1 e0) (yG b (lb_ i.v O_25 e0 a R0) (bE c fun t u c => Yc (wG b) rfl (yCall FN_68 (a2 e0 e0)) (sparsekit_Limbs_ok u o p a) ?_))))
   rintro _ w ⟨rfl, a⟩
   refine ⟨_, rfl, ?_⟩
   refine yY (pt_ (.bool t) e0 b e0) ?_
   cases c
   exact n _ _ ⟨rfl, (a.k1l)⟩
  ·refine gN (bfalse b) (gN (bfalse b) (gN (bfalse b) (gN (bfalse b) (gN (bfalse b) (yY (pf_ (.bool false) e0 (bfalse b) rfl) ?_)))))
   cases c
   exact n _ _ ⟨rfl, (a.k1l)⟩
 rintro f w ⟨x, a⟩
 refine Ya (.bool m) (eh x) (wK s (wp_ret ?_))
 cases j
 exact q _ _ _ (fin1r Tryz.results16 ⟨rfl, rfl⟩ ⟨rfl, a⟩)
theorem sparselaw07_ModularCombined_ok {R u : LI} {k h : Hdr} {out : Bool} (d : sparselaw07_ModularCombined R u = some out) (x4 : out = true) (X : imm I1 k.v R ∈ ros) (m : imm I1 h.v u ∈ ros) (b : St w0 ros rs w) :
  Calls Tryz.prog 3 #[k.v, h.v] w (fun e w => e = .returned (.bool out) ∧ St w0 ros rs w) := by
 refine enterQ Tryz.func3 rfl Tryz.ntmps3 rfl fun Q Z => sR fun _ k1 => Ya (.bool false) rfl (wK k1 (seqQ fun x5 i2 i3 => sR fun _ i4 => Ym k.v e0 (yY (yLen SL_22 e0 b (rdI X)) (yY (ygtr e0 rfl) (Ym (.bool (decide ((6 : Int) < (R.length : Int)))) e0 ?_)))))
 refine joinW 4 (fun f w => f 0 = k.v ∧ f 1 = h.v ∧ f 21 = .bool ((decide ((6 : Int) < (R.length : Int))) || (decide ((6 : Int) < (u.length : Int)))) ∧ St w0 ros rs w) (fun d6 => ?_) ?_
 ·rcases Bool.eq_false_or_eq_true (decide ((6 : Int) < (R.length : Int))) with x | x
  ·exact gN x (gN x (gN x (yY (pt_ (.bool true) e0 x rfl) (d6 _ _ ⟨rfl, rfl, (congrArg Value.bool (orT x)), b⟩))))
  ·exact yG x (m_ h.v e0) (yG x (yLen SL_22 e0 b (rdI m)) (yG x (ygtr e0 rfl) (yY (pf_ (.bool (decide ((6 : Int) < (u.length : Int)))) e0 x e0) (d6 _ _ ⟨rfl, rfl, (congrArg Value.bool (orF x)), b⟩))))
 rintro f w ⟨i5, i6, i7, b⟩
 refine wK i4 (cB (eh i7) d (fun i8 d => ?_) fun i8 d => ?_)
 ·refine sR fun _ i9 => bE d fun j0 j2 d => yC (yCall FN_11 a0) (sparselaw07_awake_ok j2 b) ?_
  rintro _ w ⟨rfl, b⟩
  refine ⟨_, rfl, ?_⟩
  refine Ya (.bool j0) e0 (wK i9 (wp_ret (i3 _ _ _ rfl ?_)))
  cases d
  exact Z _ _ _ (fin1r Tryz.results3 ⟨rfl, rfl⟩ ⟨rfl, b⟩)
 ·refine wp_skip (i2 _ _ (seqQ fun x6 j4 j5 => sR fun _ j6 => Ya (iV 0) rfl (wK j6 (blockQ fun d7 d8 => bE d fun d9 j7 d => ?_))))
  have j8 : ∀ (f : FV) w, f 0 = k.v → f 1 = h.v → St w0 ros rs w → .inl () = d9 → d7 (.exit 0) (fr 121 f) w := by
   intro f w a3 a4 b ho
   subst ho
   refine d8 _ _ _ (j4 _ _ (sR fun _ j9 => Ym k.v (eh a3) (Ym h.v (eh a4) (bE d fun c k0 d => yC (yCall FN_13 (a2 e0 e0)) (modular_Combine_ok k0 X m b) ?_))))
   rintro _ w ⟨i, g, rfl, b⟩
   refine ⟨_, rfl, ?_⟩
   refine Ym (.tuple #[.agg #[.bool c.1, i.v], .agg #[.bool c.2.2.1, g.v], iV c.2.2.2.2]) e0 (yY (x_ (.agg #[.bool c.1, i.v]) e0) (yY (x_ (.agg #[.bool c.2.2.1, g.v]) e0) (yY (x_ (iV c.2.2.2.2) e0) (yBb (rAl b ZT_27) fun l w b => yBb (rAl b ZT_27) fun j w b => yT (r_stbn (vals' := [.bool c.1, i.v]) (us := [.bool c.1, i.v]) (b.k11) ST_27 e0 e0 rfl rfl (one_of rfl) rfl) fun w b => yT (r_stbn (vals' := [.bool c.2.2.1, g.v]) (us := [.bool c.2.2.1, g.v]) (b.k11) ST_27 e0 e0 rfl rfl (one_of rfl) rfl) fun w b => Ya (iV c.2.2.2.2) e0 (wN ?_)))))
   refine j9 _ _ (sR fun _ k7 => Ya (iV 0) rfl (wK k7 (sQ fun k8 k9 => sR fun _ l0 => Ym k.v (eh a3) (yY (yLen SL_22 e0 b (rdI (F_2 X))) (Ym h.v (eh a4) (yY (yLen SL_22 e0 b (rdI (F_2 m))) (yY (yneq e0 e0) ?_)))))))
   refine wK l0 ?_
   have e1 : ∀ (a9 : Int) (f : FV) w, f 0 = k.v → f 1 = h.v → f 6 = (pB l) → f 7 = (pB j) → f 8 = iV c.2.2.2.2 → f 9 = iV a9 → St w0 (imm (rI .u32) i.v c.2.1 :: imm (rI .u32) g.v c.2.2.2.1 :: ros) (box l 27 [.bool c.1, i.v] :: box j 27 [.bool c.2.2.1, g.v] :: rs) w → sparselaw07_ModularCombined_j3 u R c a9 = some out → k8 .normal (fr 121 f) w := by
    intro a9 f w l1 l2 l3 l4 l5 l6 b d
    refine k9 _ _ (sQ fun _ l7 => sR fun _ l8 => Ya (iV 0) rfl (wK l8 (blockQ fun l9 m0 => bE d fun m1 m2 d => ?_)))
    have m3 : ∀ (b0 : Int) (f : FV) w, f 0 = k.v → f 1 = h.v → f 6 = (pB l) → f 7 = (pB j) → f 8 = iV c.2.2.2.2 → f 9 = iV b0 → St w0 (imm (rI .u32) i.v c.2.1 :: imm (rI .u32) g.v c.2.2.2.1 :: ros) (box l 27 [.bool c.1, i.v] :: box j 27 [.bool c.2.2.1, g.v] :: rs) w → b0 = m1 → l9 (.exit 2) (fr 121 f) w := by
     intro b0 f w m4 m5 m6 m7 m8 m9 b ho
     subst ho
     refine m0 _ _ _ (l7 _ _ (sQ fun _ n0 => sR fun _ n1 => Ya (iV 0) rfl (wK n1 (blockQ fun n3 n4 => bE d fun n5 n6 d => ?_))))
     have n7 : ∀ (S : Int) (f : FV) w, f 0 = k.v → f 1 = h.v → f 6 = (pB l) → f 7 = (pB j) → f 8 = iV c.2.2.2.2 → f 9 = iV S → St w0 (imm (rI .u32) i.v c.2.1 :: imm (rI .u32) g.v c.2.2.2.1 :: ros) (box l 27 [.bool c.1, i.v] :: box j 27 [.bool c.2.2.1, g.v] :: rs) w → S = n5 → n3 (.exit 4) (fr 121 f) w := by
      intro S f w n9 o0 e2 a5 e3 e4 b ho
      subst ho
      refine n4 _ _ _ (n0 _ _ (seqQ fun x7 o1 o3 => sR fun _ o4 => Ym (iV S) (eh e4) (yY (yneq e0 rfl) (wK o4 ?_))))
      rcases iteS d with ⟨b1, d⟩ | ⟨b1, d⟩
      ·refine condF e0 (nF (dT b1)) (wp_skip (o1 _ _ (sR fun _ o5 => Ym k.v (eh n9) (Ym h.v (eh o0) (bE d fun t o6 d => yC (yCall FN_17 (a2 e0 e0)) (sparseref07_Combine_ok o6 (F_2 X) (F_2 m) b) ?_)))))
       rintro _ w ⟨T, E, rfl, b⟩
       refine ⟨_, rfl, ?_⟩
       refine Ym (.tuple #[.agg #[.bool t.1, T.v], .agg #[.bool t.2.2.1, E.v]]) e0 (yY (x_ (.agg #[.bool t.1, T.v]) e0) (yY (x_ (.agg #[.bool t.2.2.1, E.v]) e0) (yBb (rAl b ZT_27) fun x8 w b => yBb (rAl b ZT_27) fun e5 w b => yT (r_stbn (vals' := [.bool t.1, T.v]) (us := [.bool t.1, T.v]) (b.k11) ST_27 e0 e0 rfl rfl (one_of rfl) rfl) fun w b => yT (r_stbn (vals' := [.bool t.2.2.1, E.v]) (us := [.bool t.2.2.1, E.v]) (b.k11) ST_27 e0 e0 rfl rfl (one_of rfl) rfl) fun w b => wK o5 (sQ fun _ o7 => ?_))))
       refine wR (Ym (iV c.2.2.2.2) (eh e3) (yY (yeql e0 rfl) (Ym (.bool (decide (c.2.2.2.2 = 0))) e0 (bE d fun e6 F d => ?_))))
       refine joinW 4 (fun f w => f 7 = (pB j) ∧ f 13 = (pB e5) ∧ f 112 = .bool e6 ∧ St w0 (imm (rI .u32) g.v c.2.2.2.1 :: imm (rI .u32) E.v t.2.2.2 :: ros) (box j 27 [.bool c.2.2.1, g.v] :: box e5 27 [.bool t.2.2.1, E.v] :: rs) w) (fun e7 => ?_) ?_
       ·rcases iteS F with ⟨y, F⟩ | ⟨y, F⟩
        ·refine yG (dT y) (lbs_ [.bool c.1, i.v] ST_27 (eh e2) b R2) (yG (dT y) (lbs_ [.bool t.1, T.v] ST_27 e0 b R1) (bE F fun o9 p0 F => Yc (wG (dT y)) rfl (yCall FN_16 (a2 e0 e0)) (sparsekit_Big_ok p0 F2 F0 b) ?_))
         rintro _ w ⟨rfl, b⟩
         refine ⟨_, rfl, ?_⟩
         refine yY (pt_ (.bool o9) e0 (dT y) e0) ?_
         cases F
         exact e7 _ _ ⟨a5, rfl, rfl, ((b.k1m).facts (allC F3 (allC F1 (allT (allT (allT (allT allI)))))))⟩
        ·refine gN (dF y) (gN (dF y) (gN (dF y) (yY (pf_ (.bool false) e0 (dF y) rfl) ?_)))
         cases F
         exact e7 _ _ ⟨a5, rfl, rfl, ((b.k1m).facts (allC F3 (allC F1 (allT (allT (allT (allT allI)))))))⟩
       rintro f w ⟨p1, p2, p3, b⟩
       refine Ym (.bool e6) (eh p3) (bE d fun e8 G d => ?_)
       refine joinW 4 (fun f w => f 117 = .bool e8 ∧ St w0 ros rs w) (fun e9 => ?_) ?_
       ·rcases iteS G with ⟨z, G⟩ | ⟨z, G⟩
        ·refine yG z (lbs_ [.bool c.2.2.1, g.v] ST_27 (eh p1) b R0) (yG z (lbs_ [.bool t.2.2.1, E.v] ST_27 (eh p2) b R1) (bE G fun p4 p5 G => Yc (wG z) rfl (yCall FN_16 (a2 e0 e0)) (sparsekit_Big_ok p5 F0 F1 b) ?_))
         rintro _ w ⟨rfl, b⟩
         refine ⟨_, rfl, ?_⟩
         refine yY (pt_ (.bool p4) e0 z e0) ?_
         cases G
         exact e9 _ _ ⟨rfl, ((b.k1l).facts (allT (allT allI)))⟩
        ·refine gN (bfalse z) (gN (bfalse z) (gN (bfalse z) (yY (pf_ (.bool false) e0 (bfalse z) rfl) ?_)))
         cases G
         exact e9 _ _ ⟨rfl, ((b.k1l).facts (allT (allT allI)))⟩
       rintro f w ⟨p6, b⟩
       refine Ym (.bool e8) (eh p6) (bE d fun f0 H d => ?_)
       refine joinW 2 (fun f w => f 120 = .bool f0 ∧ St w0 ros rs w) (fun f1 => ?_) ?_
       ·rcases iteS H with ⟨U, H⟩ | ⟨U, H⟩
        ·refine bE H fun p7 p8 H => Yc (wG U) rfl (yCall FN_11 a0) (sparselaw07_awake_ok p8 b) ?_
         rintro _ w ⟨rfl, b⟩
         refine ⟨_, rfl, ?_⟩
         refine yY (pt_ (.bool p7) e0 U e0) ?_
         cases H
         exact f1 _ _ ⟨rfl, b⟩
        ·refine gN (bfalse U) (yY (pf_ (.bool false) e0 (bfalse U) rfl) ?_)
         cases H
         exact f1 _ _ ⟨rfl, b⟩
       rintro f w ⟨p9, b⟩
       refine Ya (.bool f0) (eh p9) (wK o7 (wp_ret ?_))
       cases d
       exact Z _ _ _ (fin1r Tryz.results3 ⟨rfl, rfl⟩ ⟨rfl, b⟩)
      ·refine condT e0 (nT (dF b1)) (sR fun _ q0 => Ym (iV c.2.2.2.2) (eh e3) (Ym (iV S) (eh e4) (yY (yeql e0 e0) (Ym (.bool (decide (c.2.2.2.2 = S))) e0 (bE d fun f2 I d => ?_)))))
       refine joinW 4 (fun f w => f 7 = (pB j) ∧ f 91 = .bool f2 ∧ St w0 (imm (rI .u32) g.v c.2.2.2.1 :: ros) (box j 27 [.bool c.2.2.1, g.v] :: rs) w) (fun f3 => ?_) ?_
       ·rcases iteS I with ⟨A, I⟩ | ⟨A, I⟩
        ·refine yG (dT A) (lbs_ [.bool c.1, i.v] ST_27 (eh e2) b R0) (yG (dT A) (ybuild (us := [.bool false, hnil.v]) [] SO_27 bp0 rfl) (bE I fun q3 q4 I => ?_))
         replace b := b.immNh (rI .u32)
         refine Yc (wG (dT A)) rfl (yCall FN_16 (a2 e0 e0)) (sparsekit_Big_ok q4 F1 F0 b) ?_
         rintro _ w ⟨rfl, b⟩
         refine ⟨_, rfl, ?_⟩
         refine yY (pt_ (.bool q3) e0 (dT A) e0) ?_
         cases I
         exact f3 _ _ ⟨a5, rfl, ((b.k1n).facts (allC F2 (allT (allT (allT allI)))))⟩
        ·refine gN (dF A) (gN (dF A) (gN (dF A) (yY (pf_ (.bool false) e0 (dF A) rfl) ?_)))
         cases I
         exact f3 _ _ ⟨a5, rfl, ((b.k1n).facts (allC F1 (allT (allT allI))))⟩
       rintro f w ⟨q5, q6, b⟩
       refine Ym (.bool f2) (eh q6) (bE d fun f4 J d => ?_)
       refine joinW 4 (fun f w => f 96 = .bool f4 ∧ St w0 ros rs w) (fun f5 => ?_) ?_
       ·rcases iteS J with ⟨B, J⟩ | ⟨B, J⟩
        ·refine yG B (lbs_ [.bool c.2.2.1, g.v] ST_27 (eh q5) b R0) (yG B (ybuild (us := [.bool false, hnil.v]) [] SO_27 bp0 rfl) (bE J fun q7 q8 J => ?_))
         replace b := b.immNh (rI .u32)
         refine Yc (wG B) rfl (yCall FN_16 (a2 e0 e0)) (sparsekit_Big_ok q8 F1 F0 b) ?_
         rintro _ w ⟨rfl, b⟩
         refine ⟨_, rfl, ?_⟩
         refine yY (pt_ (.bool q7) e0 B e0) ?_
         cases J
         exact f5 _ _ ⟨rfl, ((b.k10).facts (allT (allT allI)))⟩
        ·refine gN (bfalse B) (gN (bfalse B) (gN (bfalse B) (yY (pf_ (.bool false) e0 (bfalse B) rfl) ?_)))
         cases J
         exact f5 _ _ ⟨rfl, ((b.k10).facts (allT allI))⟩
       rintro f w ⟨q9, b⟩
       refine Ym (.bool f4) (eh q9) (bE d fun f6 K d => ?_)
       refine joinW 2 (fun f w => f 99 = .bool f6 ∧ St w0 ros rs w) (fun f7 => ?_) ?_
       ·rcases iteS K with ⟨V, K⟩ | ⟨V, K⟩
        ·refine bE K fun r0 r1 K => Yc (wG V) rfl (yCall FN_11 a0) (sparselaw07_awake_ok r1 b) ?_
         rintro _ w ⟨rfl, b⟩
         refine ⟨_, rfl, ?_⟩
         refine yY (pt_ (.bool r0) e0 V e0) ?_
         cases K
         exact f7 _ _ ⟨rfl, b⟩
        ·refine gN (bfalse V) (yY (pf_ (.bool false) e0 (bfalse V) rfl) ?_)
         cases K
         exact f7 _ _ ⟨rfl, b⟩
       rintro f w ⟨r2, b⟩
       refine Ya (.bool f6) (eh r2) (wK q0 (wp_ret (o3 _ _ _ rfl ?_)))
       cases d
       exact Z _ _ _ (fin1r Tryz.results3 ⟨rfl, rfl⟩ ⟨rfl, b⟩)
     refine loopQ (fun s a w => ∃ (L p : Int) (f : FV), (L, p) = s ∧ a = fr 121 f ∧ f 0 = k.v ∧ f 1 = h.v ∧ f 6 = (pB l) ∧ f 7 = (pB j) ∧ f 8 = iV c.2.2.2.2 ∧ f 9 = iV L ∧ f 11 = iV p ∧ St w0 (imm (rI .u32) i.v c.2.1 :: imm (rI .u32) g.v c.2.2.2.1 :: ros) (box l 27 [.bool c.1, i.v] :: box j 27 [.bool c.2.2.1, g.v] :: rs) w) n6 ⟨_, _, _, rfl, rfl, m4, m5, m6, m7, m8, m9, rfl, b⟩ ?_
     rintro _ _ w r3 ⟨L, p, f, rfl, rfl, f8, b2, f9, g0, g1, b3, b4, b⟩ n r4 x9 r5 r6
     refine seqQ fun y0 r7 r9 => sR fun _ s0 => Ym (iV p) (eh b4) (Ym h.v (eh b2) (yY (yLen SL_22 e0 b (rdI (F_2 m))) (yY (ylss e0 e0) (Ym (.bool (decide (p < (u.length : Int)))) e0 ?_))))
     refine joinW 3 (fun f w => f 0 = k.v ∧ f 1 = h.v ∧ f 6 = (pB l) ∧ f 7 = (pB j) ∧ f 8 = iV c.2.2.2.2 ∧ f 9 = iV L ∧ f 11 = iV p ∧ f 71 = .bool ((decide (p < (u.length : Int))) && (decide (L = 0))) ∧ St w0 (imm (rI .u32) i.v c.2.1 :: imm (rI .u32) g.v c.2.2.2.1 :: ros) (box l 27 [.bool c.1, i.v] :: box j 27 [.bool c.2.2.1, g.v] :: rs) w) (fun g2 => ?_) ?_
     ·rcases Bool.eq_false_or_eq_true (decide (p < (u.length : Int))) with C | C
      ·exact yG C (m_ (iV L) (eh b3)) (yG C (yeql e0 rfl) (yY (pt_ (.bool (decide (L = 0))) e0 C e0) (g2 _ _ ⟨f8, b2, f9, g0, g1, b3, b4, (congrArg Value.bool (andT C)), b⟩)))
      ·exact gN C (gN C (yY (pf_ (.bool false) e0 C rfl) (g2 _ _ ⟨f8, b2, f9, g0, g1, b3, b4, (congrArg Value.bool (andF C)), b⟩)))
     rintro f w ⟨b5, W, b6, b7, b8, g3, a6, s1, b⟩
     refine wK s0 (cB (eh s1) n (fun s2 n => ?_) fun s2 n => ?_)
     ·refine wp_skip (r7 _ _ (sQ fun _ s3 => blockQ fun s4 s5 => sQ fun _ s6 => bE n fun y1 g4 n => bE n fun y2 g5 n => bE n fun y3 s7 n => dR [0, 0, 3, 0, 0, 24, 56, 127] [7] 1 folM ?_))
      replace b := b.drew
      refine Dn [0, 1, 2, 3, 4, 5, 6] [] [7] (yR rfl (m_ h.v (eh W)) (yR rfl (m_ (iV p) (eh a6)) (yR rfl (ySl (k1 := .i64) SL_22 e0 b (rdI (F_2 m)) (.inr ⟨rfl, rfl⟩) (.inl (congrArg some e0)) g4) ?_)))
      replace b := b.sub (F_2 m) g4
      refine yR rfl (m_ h.v (eh W)) (yR rfl (m_ (iV p) (eh a6)) (yR rfl (yIa SL_22 e0 e0 b (rdI (F_3 m)) g5) (yR rfl (yI O_3 e0 b (rdI (F_3 m)) g5) (Rn QSn ?_))))
      refine Lc1 rfl ?_
      refine Lk wn (yCall FN_15 (a2 e0 e0)) (sparsekit_In_ok s7 F0 b) ?_
      rintro _ w ⟨rfl, b⟩
      refine ⟨_, rfl, ?_⟩
      refine Dz [] [] (Rn QSn (s6 _ _ ?_))
      have g6 : ∀ (b9 : Int) (f : FV) w, f 0 = k.v → f 1 = h.v → f 6 = (pB l) → f 7 = (pB j) → f 8 = iV c.2.2.2.2 → f 9 = iV b9 → f 11 = iV p → St w0 (imm (rI .u32) i.v c.2.1 :: imm (rI .u32) g.v c.2.2.2.1 :: ros) (box l 27 [.bool c.1, i.v] :: box j 27 [.bool c.2.2.1, g.v] :: rs) w → sparselaw07_ModularCombined_j21 p b9 = some r3 → s4 .normal (fr 121 f) w := by
       intro b9 f w s8 s9 t0 t1 t2 t3 t4 b d
       refine s5 _ _ _ (s3 _ _ (wR (Ym (iV p) (eh t4) (yY (yadd e0 rfl) (Ya (iV (wa .i64 p 1)) e0 (wN ?_))))))
       cases d
       exact r5 _ _ _ rfl ⟨_, _, _, rfl, rfl, s8, s9, t0, t1, t2, t3, rfl, b⟩
      refine cB e0 n (fun t5 n => ?_) fun t5 n => ?_
      ·exact wR (Ya (iV 1) rfl (wN (g6 _ _ _ b5 W b6 b7 b8 rfl a6 (b.facts (allC F1 (allC F2 (allT (allT (allT allI)))))) n)))
      ·exact wp_skip (g6 _ _ _ b5 W b6 b7 b8 g3 a6 (b.facts (allC F1 (allC F2 (allT (allT (allT allI)))))) n)
     ·refine wp_exit (r9 _ _ _ rfl ?_)
      cases n
      exact r6 _ _ _ _ rfl rfl (n7 _ _ _ b5 W b6 b7 b8 g3 b (r4 _ rfl))
    refine loopQ (fun s a w => ∃ (N q : Int) (f : FV), (N, q) = s ∧ a = fr 121 f ∧ f 0 = k.v ∧ f 1 = h.v ∧ f 6 = (pB l) ∧ f 7 = (pB j) ∧ f 8 = iV c.2.2.2.2 ∧ f 9 = iV N ∧ f 10 = iV q ∧ St w0 (imm (rI .u32) i.v c.2.1 :: imm (rI .u32) g.v c.2.2.2.1 :: ros) (box l 27 [.bool c.1, i.v] :: box j 27 [.bool c.2.2.1, g.v] :: rs) w) m2 ⟨_, _, _, rfl, rfl, l1, l2, l3, l4, l5, l6, rfl, b⟩ ?_
    rintro _ _ w t6 ⟨N, q, f, rfl, rfl, g7, c0, g8, g9, h0, c1, c2, b⟩ r t7 y4 t8 t9
    refine seqQ fun y5 u0 u1 => sR fun _ u2 => Ym (iV q) (eh c2) (Ym h.v (eh c0) (yY (yLen SL_22 e0 b (rdI (F_2 m))) (yY (ylss e0 e0) (Ym (.bool (decide (q < (u.length : Int)))) e0 ?_))))
    refine joinW 3 (fun f w => f 0 = k.v ∧ f 1 = h.v ∧ f 6 = (pB l) ∧ f 7 = (pB j) ∧ f 8 = iV c.2.2.2.2 ∧ f 9 = iV N ∧ f 10 = iV q ∧ f 55 = .bool ((decide (q < (u.length : Int))) && (decide (N = 0))) ∧ St w0 (imm (rI .u32) i.v c.2.1 :: imm (rI .u32) g.v c.2.2.2.1 :: ros) (box l 27 [.bool c.1, i.v] :: box j 27 [.bool c.2.2.1, g.v] :: rs) w) (fun h1 => ?_) ?_
    ·rcases Bool.eq_false_or_eq_true (decide (q < (u.length : Int))) with D | D
     ·exact yG D (m_ (iV N) (eh c1)) (yG D (yeql e0 rfl) (yY (pt_ (.bool (decide (N = 0))) e0 D e0) (h1 _ _ ⟨g7, c0, g8, g9, h0, c1, c2, (congrArg Value.bool (andT D)), b⟩)))
     ·exact gN D (gN D (yY (pf_ (.bool false) e0 D rfl) (h1 _ _ ⟨g7, c0, g8, g9, h0, c1, c2, (congrArg Value.bool (andF D)), b⟩)))
    rintro f w ⟨c3, a7, c4, c5, c8, h3, c9, u3, b⟩
    refine wK u2 (cB (eh u3) r (fun u4 r => ?_) fun u4 r => ?_)
    ·refine wp_skip (u0 _ _ (sQ fun _ u5 => blockQ fun u6 u7 => sR fun _ u8 => Ym h.v (eh a7) (Ym (iV q) (eh c9) (bE r fun y6 h5 r => yY (yIa SL_22 e0 e0 b (rdI (F_2 m)) h5) (yY (yI O_3 e0 b (rdI (F_2 m)) h5) (bE r fun y7 u9 r => yC (yCall FN_14 (a1 e0)) (sparseref07_IsPrime_ok u9 b) ?_))))))
     rintro _ w ⟨rfl, b⟩
     refine ⟨_, rfl, ?_⟩
     refine yY (ynot e0) (wK u8 ?_)
     have h6 : ∀ (d0 : Int) (f : FV) w, f 0 = k.v → f 1 = h.v → f 6 = (pB l) → f 7 = (pB j) → f 8 = iV c.2.2.2.2 → f 9 = iV d0 → f 10 = iV q → St w0 (imm (rI .u32) i.v c.2.1 :: imm (rI .u32) g.v c.2.2.2.1 :: ros) (box l 27 [.bool c.1, i.v] :: box j 27 [.bool c.2.2.1, g.v] :: rs) w → sparselaw07_ModularCombined_j23 q d0 = some t6 → u6 .normal (fr 121 f) w := by
      intro d0 f w v0 v1 v2 v3 v4 v5 v6 b d
      refine u7 _ _ _ (u5 _ _ (wR (Ym (iV q) (eh v6) (yY (yadd e0 rfl) (Ya (iV (wa .i64 q 1)) e0 (wN ?_))))))
      cases d
      exact t8 _ _ _ rfl ⟨_, _, _, rfl, rfl, v0, v1, v2, v3, v4, v5, rfl, b⟩
     rcases iteS r with ⟨d1, r⟩ | ⟨d1, r⟩
     ·exact condF e0 (nF d1) (wp_skip (h6 _ _ _ c3 a7 c4 c5 c8 h3 c9 b r))
     ·exact condT e0 (nT (bfalse d1)) (wR (Ya (iV 70) rfl (wN (h6 _ _ _ c3 a7 c4 c5 c8 rfl c9 b r))))
    ·refine wp_exit (u1 _ _ _ rfl ?_)
     cases r
     exact t9 _ _ _ _ rfl rfl (m3 _ _ _ c3 a7 c4 c5 c8 h3 b (t7 _ rfl))
   rcases iteS d with ⟨d2, d⟩ | ⟨d2, d⟩
   ·exact condF e0 (nF (dT d2)) (wp_skip (e1 _ _ _ a3 a4 rfl rfl rfl rfl (b.k11) d))
   ·exact condT e0 (nT (dF d2)) (wR (Ya (iV 2) rfl (wN (e1 _ _ _ a3 a4 rfl rfl rfl rfl (b.k11) d))))
  have v7 : ∀ (d3 : Bool) (f : FV) w, f 4 = .bool d3 → St w0 ros rs w → .inr d3 = d9 → d7 .ret (fr 121 f) w := by
   intro d3 f w v8 b ho
   subst ho
   refine d8 _ _ _ (j5 _ _ _ rfl ?_)
   cases d
   exact Z _ _ _ (fin1r Tryz.results3 ⟨rfl, v8⟩ ⟨rfl, b⟩)
  refine loopQ (fun s a w => ∃ (O : Int) (f : FV), O = s ∧ a = fr 121 f ∧ f 0 = k.v ∧ f 1 = h.v ∧ f 5 = iV O ∧ St w0 ros rs w) j7 ⟨_, _, rfl, rfl, i5, i6, rfl, b⟩ ?_
  rintro _ _ w y8 ⟨O, f, rfl, rfl, h7, a8, d4, b⟩ o h8 y9 v9 h9
  refine seqQ fun z0 w1 w2 => sR fun _ w3 => Ym (iV O) (eh d4) (Ym h.v (eh a8) (yY (yLen SL_22 e0 b (rdI m)) (yY (ylss e0 e0) (wK w3 ?_))))
  refine cIf e0 o (fun w4 o => ?_) fun w4 o => ?_
  ·refine wp_skip (w1 _ _ (seqQ fun z1 w5 w6 => blockQ fun _ i0 => sR fun _ w7 => Ym h.v (eh a8) (Ym (iV O) (eh d4) (bE o fun z3 i1 o => yY (yIa SL_22 e0 e0 b (rdI m) i1) (yY (yI O_3 e0 b (rdI m) i1) (bE o fun z4 w8 o => yC (yCall FN_12 (a1 e0)) (sparselaw07_modulus_ok w8 b) ?_))))))
   rintro _ w ⟨rfl, b⟩
   refine ⟨_, rfl, ?_⟩
   refine yY (ynot e0) (wK w7 ?_)
   rcases iteS o with ⟨d5, o⟩ | ⟨d5, o⟩
   ·refine condF e0 (nF d5) (wp_skip (i0 _ _ _ (w5 _ _ (wR (Ym (iV O) (eh d4) (yY (yadd e0 rfl) (Ya (iV (wa .i64 O 1)) e0 (wN ?_))))))))
    cases o
    exact v9 _ _ _ rfl ⟨_, _, rfl, rfl, h7, a8, rfl, b⟩
   ·refine condT e0 (nT (bfalse d5)) (sR fun _ w9 => bE o fun x0 x2 o => yC (yCall FN_11 a0) (sparselaw07_awake_ok x2 b) ?_)
    rintro _ w ⟨rfl, b⟩
    refine ⟨_, rfl, ?_⟩
    refine Ya (.bool x0) e0 (wK w9 (wp_ret (i0 _ _ _ (w6 _ _ _ rfl ?_))))
    cases o
    exact h9 _ _ _ _ rfl rfl (v7 _ _ _ rfl b (h8 _ rfl))
  ·refine wp_exit (w2 _ _ _ rfl ?_)
   cases o
   exact h9 _ _ _ _ rfl rfl (j8 _ _ h7 a8 b (h8 _ rfl))
end Go.Proofs.YtnfamnfdndaekaaGreatDoor
