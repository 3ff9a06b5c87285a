/- Walks: each function computes its model, printed. -/
import Derived.Test.YtpfmbaidflhamaaGreatDoorW5
namespace Go.Proofs.YtpfmbaidflhamaaGreatDoor
open Go Sx M
set_option maxRecDepth 100000
set_option maxHeartbeats 40000000
set_option linter.unusedVariables false
attribute [local irreducible] wpList Code.wp Calls DR QR QS LA LS St
variable {w0 : World} {ros : List Fact} {rs : List Res} {w : World}
theorem exact_reduced_turned_ok {k : List (List (Bool × LI))} {l : LI} {f : Bool} {m : LI} {h : Int} {c : Bool} {n : LI} {i j g d : Hdr} {out : Bool × LI} (b : exact_reduced_turned k l f m h c n = some out) (I : imm (rS (rP rB (rS (rI .u32)))) i.v k ∈ ros) (J : imm I1 j.v l ∈ ros) (x : imm (rI .u32) g.v m ∈ ros) (o : imm (rI .u32) d.v n ∈ ros) (a : St w0 ros rs w) :
  Calls Tryz.prog 62 #[.agg #[i.v, j.v, .bool f, g.v, iV h], .agg #[.bool c, d.v]] w (fun e w => ∃ (p : Hdr), e = .returned (.agg #[.bool out.1, p.v]) ∧ St w0 (imm (rI .u32) p.v out.2 :: ros) rs w) := by
 refine enterQ Tryz.func62 rfl Tryz.ntmps62 rfl fun Q q => sR fun _ y => yBb (r_box (vals := [i.v, j.v, .bool f, g.v, iV h]) a e0 rfl) fun K w a => yBb (r_box (vals := [.bool c, d.v]) a e0 rfl) fun L w a => yBb (rAl a ZT_31) fun N w a => wK y (seqQ fun O z A => sR fun _ B => ?_)
 refine yY (yFb FL_86_2 e0) (yY (lbs_ [.bool f, g.v] ST_31 e0 a R2) (bE b fun R C b => yC (yCall FN_29 (a1 e0)) (integer_Sign_ok C x a) ?_))
 rintro _ w ⟨rfl, a⟩
 refine ⟨_, rfl, ?_⟩
 refine yY (ylss e0 rfl) (wK B ?_)
 refine cIf e0 b (fun D b => ?_) fun D b => ?_
 ·refine sR fun _ E => yY (lbs_ [.bool c, d.v] ST_31 e0 a R1) (bE b fun r F b => yC (yCall FN_80 (a1 e0)) (integer_Neg_ok F o a) ?_)
  rintro _ w ⟨s, rfl, a⟩
  refine ⟨_, rfl, ?_⟩
  refine yT (r_stbn (vals' := [.bool r.1, s.v]) (us := [.bool r.1, s.v]) a ST_31 e0 e0 rfl rfl (one_of rfl) rfl) fun w a => wK E (wp_ret (A _ _ _ rfl ?_))
  cases b
  exact q _ _ _ (fin1r Tryz.results62 (rcs2 rfl rfl a R0 ST_31 rfl) ⟨_, rfl, (a.k1g)⟩)
 ·refine wp_skip (z _ _ (sR fun _ G => yY (lbs_ [.bool c, d.v] ST_31 e0 a R1) (bE b fun t H b => yC (yCall FN_104 (a1 e0)) (integer_Norm_ok H o a) ?_)))
  rintro _ w ⟨u, rfl, a⟩
  refine ⟨_, rfl, ?_⟩
  refine yT (r_stbn (vals' := [.bool t.1, u.v]) (us := [.bool t.1, u.v]) a ST_31 e0 e0 rfl rfl (one_of rfl) rfl) fun w a => wK G (wp_ret ?_)
  cases b
  exact q _ _ _ (fin1r Tryz.results62 (rcs2 rfl rfl a R0 ST_31 rfl) ⟨_, rfl, (a.k1g)⟩)
theorem integer_Abs_ok {d : Bool} {f : LI} {c : Hdr} {out : Bool × LI} (b : integer_Abs d f = some out) (j : imm (rI .u32) c.v f ∈ ros) (a : St w0 ros rs w) :
  Calls Tryz.prog 63 #[.agg #[.bool d, c.v]] w (fun e w => ∃ (g : Hdr), e = .returned (.agg #[.bool out.1, g.v]) ∧ St w0 (imm (rI .u32) g.v out.2 :: ros) rs w) := by
 refine enterQ Tryz.func63 rfl Tryz.ntmps63 rfl fun Q k => sR fun _ l => yBb (r_box (vals := [.bool d, c.v]) a e0 rfl) fun p w a => yBb (rAl a ZT_31) fun q w a => wK l (sR fun _ m => yY (yFb FL_31_1 e0) (yY (lb_ c.v O_29 e0 a R1) (bE b fun r n b => ?_)))
 refine yC (yCall FN_92 (a1 e0)) (slices_Clone_uint32_ok n j a) ?_
 rintro _ w ⟨s, rfl, a⟩
 refine ⟨_, rfl, ?_⟩
 refine bE b fun h o b => ?_
 replace a := a.fz
 refine yC (yCall FN_76 (a2 rfl e0)) (integer_big_ok o F0 a) ?_
 rintro _ w ⟨i, rfl, a⟩
 refine ⟨_, rfl, ?_⟩
 refine yT (r_stbn (vals' := [.bool h.1, i.v]) (us := [.bool h.1, i.v]) a ST_31 e0 e0 rfl rfl (one_of rfl) rfl) fun w a => wK m (wp_ret ?_)
 cases b
 exact k _ _ _ (fin1r Tryz.results63 (rcs2 rfl rfl a R0 ST_31 rfl) ⟨_, rfl, ((a.k1c).facts (allC F0 (allT (allT allI))))⟩)
theorem exact_Solve_ok {B : List (List (Bool × LI))} {C : List (Bool × LI)} {h r : Hdr} {out : (List (Bool × LI)) × Bool × LI × Int} (c : exact_Solve B C = some out) (m : imm (rS (rP rB (rS (rI .u32)))) h.v B ∈ ros) (K : imm (rP rB (rS (rI .u32))) r.v C ∈ ros) (b : St w0 ros rs w) :
  Calls Tryz.prog 19 #[h.v, r.v] w (fun e w => ∃ (L N : Hdr), e = .returned (.tuple #[L.v, .agg #[.bool out.2.1, N.v], iV out.2.2.2]) ∧ St w0 (imm (rI .u32) N.v out.2.2.1 :: ros) (row 31 (rP rB (rS (rI .u32))) L.v out.1 :: rs) w) := by
 refine enterQ Tryz.func19 rfl Tryz.ntmps19 rfl fun Q t => sR fun _ a5 => Ya hnil.v rfl (yBb (rAl b ZT_31) fun u w b => Ya (iV 0) rfl (wK a5 (sR fun _ a6 => Ym h.v e0 (bE c fun p a7 c => yC (yCall FN_52 (a1 e0)) (exact_square_ok a7 m b) ?_))))
 rintro _ w ⟨rfl, b⟩
 refine ⟨_, rfl, ?_⟩
 refine Ya (iV p) e0 (wK a6 (seqQ fun f1 a8 O => blockQ fun _ D => sR fun _ a9 => Ym (iV p) e0 (yY (yneq e0 rfl) (Ya (.bool (!(decide (p = 0)))) e0 (wK a9 ?_)))))
 rcases iteS c with ⟨E, c⟩ | ⟨E, c⟩
 ·refine condF e0 (nF (dT E)) (sR fun _ b0 => Ym r.v e0 (yY (yLen SL_32 e0 b (rdI K)) (Ym h.v e0 (yY (yLen SL_22 e0 b (rdI m)) (yY (yneq e0 e0) (Ya (.bool (!(decide ((C.length : Int) = (B.length : Int))))) e0 (wK b0 ?_)))))))
  rcases iteS c with ⟨F, c⟩ | ⟨F, c⟩
  ·refine condF e0 (nF (dT F)) (wp_skip (D _ _ _ (a8 _ _ (sR fun _ b1 => Ym h.v e0 (Ym r.v e0 (bE c fun f2 b2 c => yC (yCall FN_54 (a2 e0 e0)) (exact_twin_ok b2 m K b) ?_))))))
   rintro _ w ⟨i, f3, rfl, b⟩
   refine ⟨_, rfl, ?_⟩
   refine Ym h.v e0 (yY (yLen SL_22 e0 b (rdI m)) (bE c fun d b3 c => yC (yCall FN_61 (a2 e0 e0)) (exact_eliminate_ok b3 b) ?_))
   rintro _ w ⟨f4, j, k, rfl, b⟩
   refine ⟨_, rfl, ?_⟩
   refine yBb (rAl b ZT_86) fun x w b => yT (r_stbn (vals' := [i.v, j.v, .bool d.2.2.1, k.v, iV d.2.2.2.2]) (us := [i.v, j.v, .bool d.2.2.1, k.v, iV d.2.2.2.2]) b ST_86 e0 e0 rfl rfl (one_of rfl) rfl) fun w b => wK b1 (seqQ fun f5 b4 b6 => sR fun _ b7 => yY (yFb FL_86_1 e0) (yY (lb_ j.v O_48 e0 b R0) (yY (yLen SL_48 e0 b rO3) (Ym h.v e0 (yY (yLen SL_22 e0 b (rdI (mtF m))) ?_)))))
   refine yY (ylss e0 e0) (wK b7 ?_)
   refine cIf e0 c (fun b8 c => ?_) fun b8 c => ?_
   ·refine sR fun _ b9 => yY (ybuild (us := [.bool false, hnil.v]) [] SO_31 bp0 rfl) (Ya hnil.v rfl (yT (r_stbn (vals' := [.bool false, hnil.v]) (us := [.bool false, hnil.v]) (b.k14) ST_31 e0 e0 rfl rfl (one_of rfl) rfl) fun w b => Ya (iV 9) rfl (wK b9 (wp_ret (b6 _ _ _ rfl ?_)))))
    cases c
    replace b := (b.rowNh 31 (rP rB (rS (rI .u32)))).immNh (rI .u32)
    exact t _ _ _ (fin3r Tryz.results19 ⟨rfl, rfl⟩ (rcs2 rfl rfl b R1 ST_31 rfl) ⟨rfl, rfl⟩ ⟨_, _, rfl, ((b.k2t).facts (allC F0 (allT (allT allI))))⟩)
   ·refine wp_skip (b4 _ _ (sQ fun _ c0 => sR fun _ c1 => yY (yFb FL_86_0 e0) (yY (lb_ i.v O_22 e0 b R0) (yY (yLenF SLH_22 e0 b rO1 R2) (Ym (iV 0) rfl (wK c1 (blockQ fun c2 c3 => bE c fun c4 c5 c => ?_)))))))
    have c6 : ∀ (G : List (Bool × LI)) (q : Hdr) (f : FV) w, f 4 = q.v → f 5 = (pB u) → f 7 = (pB x) → St w0 (imm (rS (rP rB (rS (rI .u32)))) i.v d.1 :: imm I1 j.v d.2.1 :: imm (rI .u32) k.v d.2.2.2.1 :: ros) (row 31 (rP rB (rS (rI .u32))) q.v G :: box u 31 [.bool false, hnil.v] :: box x 86 [i.v, j.v, .bool d.2.2.1, k.v, iV d.2.2.2.2] :: rs) w → G = c4 → c2 (.exit 1) (fr 59 f) w := by
     intro G q f w c9 R d0 b ho
     subst ho
     refine c3 _ _ _ (c0 _ _ (sR fun _ d1 => Ym q.v (eh c9) (yY (yFb FL_86_2 (eh d0)) (yY (lbs_ [.bool d.2.2.1, k.v] ST_31 e0 b R2) (bE c fun S d2 c => yC (yCall FN_63 (a1 e0)) (integer_Abs_ok d2 F2 b) ?_)))))
     rintro _ w ⟨T, rfl, b⟩
     refine ⟨_, rfl, ?_⟩
     refine Ya q.v e0 (yT (r_stbn (vals' := [.bool S.1, T.v]) (us := [.bool S.1, T.v]) (b.k17) ST_31 (eh R) e0 rfl rfl (one_of rfl) rfl) fun w b => Ya (iV 0) rfl (wK d1 (wp_ret ?_)))
     cases c
     exact t _ _ _ (fin3r Tryz.results19 ⟨rfl, rfl⟩ (rcs2 rfl R b R0 ST_31 rfl) ⟨rfl, rfl⟩ ⟨_, _, rfl, ((b.k11).facts (allC F0 (allT (allT (allT (allT allI))))))⟩)
    replace b := ((((b.rowNh 31 (rP rB (rS (rI .u32)))).k1a).ffz).k19).fz
    refine loopQ (fun s a w => ∃ (H : List (Bool × LI)) (y : Int) (f : FV) (o : Hdr), (H, y) = s ∧ a = fr 59 f ∧ f 0 = h.v ∧ f 4 = o.v ∧ f 5 = (pB u) ∧ f 7 = (pB x) ∧ f 38 = i.v ∧ f 39 = iV (d.1.length : Int) ∧ f 40 = iV y ∧ St w0 (imm (rS (rP rB (rS (rI .u32)))) i.v d.1 :: imm I1 j.v d.2.1 :: imm (rI .u32) k.v d.2.2.2.1 :: ros) (row 31 (rP rB (rS (rI .u32))) o.v H :: box u 31 [.bool false, hnil.v] :: box x 86 [i.v, j.v, .bool d.2.2.1, k.v, iV d.2.2.2.2] :: rs) w) c5 ⟨_, _, _, _, rfl, rfl, rfl, rfl, rfl, rfl, rfl, rfl, rfl, ((b.k2u).facts (allC F1 (allC F0 (allC F2 (allT (allT (allT allI)))))))⟩ ?_
    rintro _ _ w f6 ⟨H, y, f, o, rfl, rfl, U, z, V, I, W, X, J, b⟩ g d3 f7 d4 d5
    refine sR fun _ d6 => yY (ylss (eh J) (eh X)) (wK d6 (seqQ fun f8 d7 d8 => ?_))
    refine cIf e0 g (fun d9 g => ?_) fun d9 g => ?_
    ·refine wp_skip (d7 _ _ (sQ fun _ e1 => blockQ fun _ e2 => sR fun _ e3 => bE g fun f9 Z g => yY (yIa SL_22 (eh W) (eh J) b (rdI F0) Z) ?_))
     obtain ⟨a0, b⟩ := iLs b F0 Z
     refine yY (yCt O_32 e0 b F1 rfl) (Ya a0.v e0 (wK e3 (bE g fun e4 a3 g => bE g fun A e5 g => bE g fun g0 e6 g => dR [0, 0, 0, 0, 8, 28, 60, 126, 254, 511, 1023] [7, 8, 9, 10] 4 folM ?_)))
     replace b := b.drew
     refine Dn [0, 1, 2, 3, 4, 5, 6] [] [7] (yR rfl (m_ o.v (eh z)) (yR rfl (lbs_ [i.v, j.v, .bool d.2.2.1, k.v, iV d.2.2.2.2] ST_86 (eh I) b R2) (yR rfl (m_ a0.v e0) (yR rfl (m_ h.v (eh U)) (yR rfl (yLen SL_22 e0 b (rdI (F_5 m))) (yR rfl (yIa SL_32 e0 e0 b (rdI F0) a3) ?_))))))
     obtain ⟨g1, g2, b⟩ := iLd b F0 a3
     obtain ⟨g3, g4, rfl, b⟩ := b.eltP
     obtain ⟨rfl, b⟩ := b.eltB
     obtain ⟨e7, rfl, b⟩ := b.eltS
     refine yR rfl (yCtn (cs := [.bool e4.1, e7.v]) ST_31 rfl e0 b F1) (Rn QSn ?_)
     refine Lc1 rfl ?_
     refine Lk wn (yCall FN_62 (a2 e0 e0)) (exact_reduced_turned_ok e5 F4 F5 F6 F0 b) ?_
     rintro _ w ⟨a4, rfl, b⟩
     refine ⟨_, rfl, ?_⟩
     refine Dn [] [0] [8] (Rn (yS rfl (m_ o.v (eh z)) QSn) ?_)
     refine Lc1 rfl ?_
     refine LH wn (rLt (n := 1) (l := [(A.1, A.2)]) b SL_32 [.agg #[.bool A.1, a4.v]] (bp1 e0) rfl rfl (mks1 (cs := [.bool A.1, a4.v]) rfl (mkP mkB (mkS F0)) mks0)) fun g5 w b => Dn [] [0] [9] (Rn (yS rfl (m_ o.v (eh z)) QSn) ?_)
     refine Lc1 rfl ?_
     replace b := b.k17
     refine LH wn (rAp b SL_32 e0 e0 rO1 e6) fun e8 w b => Dn [] [] [10] (Rn QSn ?_)
     refine Lc1 rfl ?_
     refine Ly wn (a_ e8.v e0) (Dz [] [] (Rn QSn (e2 _ _ _ (e1 _ _ (wR (yY (yadd (eh J) rfl) (Ym (iV (wa .i64 y 1)) e0 (wN ?_))))))))
     cases g
     exact d4 _ _ _ rfl ⟨_, _, _, _, rfl, rfl, U, rfl, V, I, W, X, rfl, ((b.k2v).facts (allC F5 (allC F6 (allC F7 (allT (allT (allT (allT (allT (allT (allT (allT allI))))))))))))⟩
    ·refine wp_exit (d8 _ _ _ rfl ?_)
     cases g
     exact d5 _ _ _ _ rfl rfl (c6 _ _ _ _ z V I b (d3 _ rfl))
  ·refine condT e0 (nT (dF F)) (sR fun _ e9 => yY (ybuild (us := [.bool false, hnil.v]) [] SO_31 bp0 rfl) (Ya hnil.v rfl (yT (r_stbn (vals' := [.bool false, hnil.v]) (us := [.bool false, hnil.v]) b ST_31 e0 e0 rfl rfl (one_of rfl) rfl) fun w b => Ya (iV 2) rfl (wK e9 (wp_ret (D _ _ _ (O _ _ _ rfl ?_)))))))
   cases c
   replace b := (b.rowNh 31 (rP rB (rS (rI .u32)))).immNh (rI .u32)
   exact t _ _ _ (fin3r Tryz.results19 ⟨rfl, rfl⟩ (rcs2 rfl rfl b R1 ST_31 rfl) ⟨rfl, rfl⟩ ⟨_, _, rfl, (b.k18)⟩)
 ·refine condT e0 (nT (dF E)) (sR fun _ f0 => yY (ybuild (us := [.bool false, hnil.v]) [] SO_31 bp0 rfl) (Ym (iV p) e0 (Ya hnil.v rfl (yT (r_stbn (vals' := [.bool false, hnil.v]) (us := [.bool false, hnil.v]) b ST_31 e0 e0 rfl rfl (one_of rfl) rfl) fun w b => Ya (iV p) e0 (wK f0 (wp_ret (D _ _ _ (O _ _ _ rfl ?_))))))))
  cases c
  replace b := (b.rowNh 31 (rP rB (rS (rI .u32)))).immNh (rI .u32)
  exact t _ _ _ (fin3r Tryz.results19 ⟨rfl, rfl⟩ (rcs2 rfl rfl b R1 ST_31 rfl) ⟨rfl, rfl⟩ ⟨_, _, rfl, (b.k18)⟩)
theorem slices_Reverse_string_ok {l : List ByteArray} {d : Hdr} {out : (List ByteArray)} (m : slices_Reverse_string l = some out) (b : St w0 ros (row 9 rG d.v l :: rs) w) :
  Calls Tryz.prog 97 #[d.v] w (fun e w => e = .returned (.tuple #[]) ∧ St w0 ros (row 9 rG d.v out :: rs) w) := by
 refine enterQ Tryz.func97 rfl Tryz.ntmps97 rfl fun Q u => sR fun _ x => Ym d.v e0 (yY (yLen SL_110 e0 b rO0) (yY (ysub e0 rfl) (Ya (iV 0) rfl (Ya (iV (ws .i64 (l.length : Int) 1)) e0 (wK x (blockQ fun y z => bE m fun A B m => ?_))))))
 have C : ∀ (n : List ByteArray) (f : FV) w, St w0 ros (row 9 rG d.v n :: rs) w → n = A → y (.exit 0) (fr 28 f) w := by
  intro n f w b ho
  subst ho
  refine z _ _ _ ?_
  cases m
  exact u _ _ _ (fin0n Tryz.results97 ⟨rfl, b⟩)
 refine loopQ (fun s a w => ∃ (o : List ByteArray) (h g : Int) (f : FV), (o, h, g) = s ∧ a = fr 28 f ∧ f 0 = d.v ∧ f 2 = iV h ∧ f 3 = iV g ∧ St w0 ros (row 9 rG d.v o :: rs) w) B ⟨_, _, _, _, rfl, rfl, rfl, rfl, rfl, b⟩ ?_
 rintro _ _ w R ⟨o, h, g, f, rfl, rfl, i, k, j, b⟩ c D S E F
 refine seqQ fun T G H => sR fun _ I => Ym (iV h) (eh k) (Ym (iV g) (eh j) (yY (ylss e0 e0) (wK I ?_)))
 refine cIf e0 c (fun J c => ?_) fun J c => ?_
 ·refine wp_skip (G _ _ (sQ fun _ K => blockQ fun _ L => bE c fun N p c => bE c fun O q c => bE c fun U r c => bE c fun V t c => dR [0, 0, 0, 0, 0, 0, 48, 112, 0, 0, 768, 1792, 4083, 8179, 16383, 32767] [13, 15] 2 folM ?_))
  replace b := b.drew
  refine Dn [0, 1, 2, 3, 4, 5, 6, 7, 8, 9, 10, 11, 12] [] [13] (yR rfl (m_ d.v (eh i)) (yR rfl (m_ (iV h) (eh k)) (yR rfl (m_ d.v (eh i)) (yR rfl (m_ (iV g) (eh j)) (yR rfl (m_ d.v (eh i)) (yR rfl (m_ (iV g) (eh j)) (yR rfl (yIa SL_110 e0 e0 b rO0 p) (yR rfl (ySt O_9 e0 b rO0 p) (yR rfl (m_ d.v (eh i)) (yR rfl (m_ (iV h) (eh k)) (yR rfl (yIa SL_110 e0 e0 b rO0 q) (yR rfl (ySt O_9 e0 b rO0 q) (yR rfl (yIs SL_110 e0 e0 b rO0 r) ?_)))))))))))))
  refine Rn QSn ?_
  refine Lc1 rfl ?_
  refine LT wn (r_sti (cs := [.string N]) b O_9 rfl e0 e0 rfl mkG r) fun w b => Dn [14] [2, 3] [15] (yR rfl (yIs SL_110 e0 e0 b rO0 t) (Rn (yS rfl (m_ d.v (eh i)) (yS rfl (m_ (iV g) (eh j)) QSn)) ?_))
  refine Lc1 rfl ?_
  refine LT wn (r_sti (cs := [.string O]) b O_9 rfl e0 e0 rfl mkG t) fun w b => Dz [] [] (Rn QSn (L _ _ _ (K _ _ (wR (Ym (iV h) (eh k) (yY (yadd e0 rfl) (Ym (iV g) (eh j) (yY (ysub e0 rfl) (Ya (iV (wa .i64 h 1)) e0 (Ya (iV (ws .i64 g 1)) e0 (wN ?_)))))))))))
  cases c
  exact E _ _ _ rfl ⟨_, _, _, _, rfl, rfl, i, rfl, rfl, b⟩
 ·refine wp_exit (H _ _ _ rfl ?_)
  cases c
  exact F _ _ _ _ rfl rfl (C _ _ _ b (D _ rfl))
theorem integer_Format_ok {h : Bool} {A : LI} {i : Hdr} {out : ByteArray} (c : integer_Format h A = some out) (H : imm (rI .u32) i.v A ∈ ros) (b : St w0 ros rs w) :
  Calls Tryz.prog 45 #[.agg #[.bool h, i.v]] w (fun e w => e = .returned (.string out) ∧ St w0 ros rs w) := by
 refine enterQ Tryz.func45 rfl Tryz.ntmps45 rfl fun Q B => sR fun _ I => yBb (r_box (vals := [.bool h, i.v]) b e0 rfl) fun k w b => Ya (.string (⟨#[]⟩ : ByteArray)) rfl (wK I (sR fun _ J => yY (yFb FL_31_1 e0) (yY (lb_ i.v O_29 e0 b R0) (bE c fun e3 K c => yC (yCall FN_73 (a1 e0)) (integer_trim_ok K H b) ?_))))
 rintro _ w ⟨e4, rfl, b⟩
 refine ⟨_, rfl, ?_⟩
 refine bE c fun e5 L c => yC (yCall FN_92 (a1 e0)) (slices_Clone_uint32_ok L F0 b) ?_
 rintro _ w ⟨N, rfl, b⟩
 refine ⟨_, rfl, ?_⟩
 refine Ya N.v e0 (wK J (sR fun _ O => Ya hnil.v rfl (wK O (sQ fun _ R => blockQ fun S T => bE c fun U V c => ?_))))
 have W : ∀ (u : List ByteArray) (p : Hdr) (f : FV) w, f 1 = (pB k) → f 4 = p.v → St w0 ros (box k 31 [.bool h, i.v] :: row 9 rG p.v u :: rs) w → u = U → S (.exit 0) (fr 49 f) w := by
  intro u p f w X x b ho
  subst ho
  refine T _ _ _ (R _ _ (seqQ fun e6 Z a0 => sR fun _ a3 => Ym p.v (eh x) (yY (yLen SL_110 e0 b rO1) (yY (yeql e0 rfl) (wK a3 ?_)))))
  refine cIf e0 c (fun a4 c => ?_) fun a4 c => ?_
  ·refine sR fun _ a5 => Ya (.string (⟨#[48]⟩ : ByteArray)) rfl (wK a5 (wp_ret (a0 _ _ _ rfl ?_)))
   cases c
   exact B _ _ _ (fin1r Tryz.results45 ⟨rfl, rfl⟩ ⟨rfl, (b.k1c)⟩)
  ·refine wp_skip (Z _ _ (sQ fun a6 a7 => sR fun _ a8 => yY (yFb FL_31_0 (eh X)) (yY (lb_ (.bool h) O_4 e0 b R0) (wK a8 ?_))))
   have C : ∀ (y : List ByteArray) (q : Hdr) (f : FV) w, f 4 = q.v → St w0 ros (row 9 rG q.v y :: rs) w → integer_Format_j4 y = some out → a6 .normal (fr 49 f) w := by
    intro y q f w D b c
    refine a7 _ _ (sR fun _ a9 => Ym q.v (eh D) (bE c fun e7 b0 c => yC (yCall FN_97 (a1 e0)) (slices_Reverse_string_ok b0 b) ?_))
    rintro _ w ⟨rfl, b⟩
    refine ⟨_, rfl, ?_⟩
    refine wK a9 (sR fun _ b1 => Ym q.v (eh D) (bE c fun b2 b3 c => ?_))
    replace b := b.fz
    refine yC (yCall FN_98 (a2 e0 rfl)) (joinG_ok b3 F0 b) ?_
    rintro _ w ⟨rfl, b⟩
    refine ⟨_, rfl, ?_⟩
    refine Ya (.string b2) e0 (wK b1 (wp_ret ?_))
    cases c
    exact B _ _ _ (fin1r Tryz.results45 ⟨rfl, rfl⟩ ⟨rfl, (b.facts (allT allI))⟩)
   refine cB e0 c (fun b5 c => ?_) fun b5 c => ?_
   ·exact wR (Ym p.v (eh x) (yH (rLt (n := 1) (l := [(⟨#[45]⟩ : ByteArray)]) b SL_110 [.string (⟨#[45]⟩ : ByteArray)] (bp1 rfl) rfl rfl (mks1 (cs := [.string (⟨#[45]⟩ : ByteArray)]) rfl mkG mks0)) fun e8 w b => bE c fun e9 b6 c => yH (rAp (b.k19) SL_110 e0 e0 rO1 b6) fun b7 w b => Ya b7.v e0 (wN (C _ _ _ _ rfl (b.k1x) c))))
   ·exact wp_skip (C _ _ _ _ x (b.k20) c)
 replace b := b.fz.rowNh 9 rG
 refine loopQ (fun s a w => ∃ (z : LI) (r : List ByteArray) (f : FV) (t m : Hdr), (z, r) = s ∧ a = fr 49 f ∧ f 1 = (pB k) ∧ f 3 = t.v ∧ f 4 = m.v ∧ St w0 (imm (rI .u32) t.v z :: ros) (box k 31 [.bool h, i.v] :: row 9 rG m.v r :: rs) w) V ⟨_, _, _, _, _, rfl, rfl, rfl, rfl, rfl, ((b.k17).facts (allC F0 (allT (allT allI))))⟩ ?_
 rintro _ _ w b8 ⟨z, r, f, t, m, rfl, rfl, E, F, G, b⟩ d b9 f0 c0 c1
 refine seqQ fun f1 c2 c3 => sR fun _ c4 => Ym t.v (eh F) (yY (yLen SL_29 e0 b (rdI F0)) (yY (ygtr e0 rfl) (wK c4 ?_)))
 refine cIf e0 d (fun c5 d => ?_) fun c5 d => ?_
 ·refine wp_skip (c2 _ _ (blockQ fun _ c6 => sR fun _ c7 => Ym t.v (eh F) (bE d fun o c8 d => yC (yCall FN_94 (a2 e0 rfl)) (integer_short_ok c8 F0 b) ?_)))
  rintro _ w ⟨g, rfl, b⟩
  refine ⟨_, rfl, ?_⟩
  refine Ym (.tuple #[g.v, .int .u32 o.2]) e0 (yY (x_ g.v e0) (yY (x_ (.int .u32 o.2) e0) (Ya g.v e0 (Ya (.int .u32 o.2) e0 (wK c7 (sR fun _ c9 => Ym (.int .u32 o.2) e0 (yY (ycv (k' := .i64) (by kernel_rfl) (by kernel_rfl) e0) (bE d fun j d0 d => yC (yCall FN_95 (a1 e0)) (itoaG_ok d0 b) ?_))))))))
  rintro _ w ⟨rfl, b⟩
  refine ⟨_, rfl, ?_⟩
  refine Ya (.string j) e0 (wK c9 (sQ fun d1 d2 => sR fun _ d3 => Ym g.v e0 (yY (yLen SL_29 e0 b (rdI F0)) (yY (ygtr e0 rfl) (wK d3 ?_)))))
  have d4 : ∀ (f : FV) w, f 1 = (pB k) → f 4 = m.v → f 5 = g.v → f 7 = .string j → St w0 (imm (rI .u32) g.v o.1 :: ros) (box k 31 [.bool h, i.v] :: row 9 rG m.v r :: rs) w → integer_Format_j5 r j o = some b8 → d1 .normal (fr 49 f) w := by
   intro f w d5 d6 d7 d8 b c
   refine d2 _ _ (wR (Ym m.v (eh d6) (Ym (.string j) (eh d8) (yH (rLt (n := 1) (l := [j]) b SL_110 [.string j] (bp1 e0) rfl rfl (mks1 (cs := [.string j]) rfl mkG mks0)) fun f2 w b => bE c fun f3 d9 c => yH (rAp (b.k19) SL_110 e0 e0 rO1 d9) fun e1 w b => Ym g.v (eh d7) (Ya e1.v e0 (Ya g.v e0 (wN (c6 _ _ _ ?_))))))))
   cases c
   exact c0 _ _ _ rfl ⟨_, _, _, _, _, rfl, rfl, d5, rfl, rfl, (b.k2w)⟩
  refine cIf e0 d (fun e2 d => ?_) fun e2 d => ?_
  ·cases d
  ·exact wp_skip (d4 _ _ E G rfl rfl (b.facts (allC F0 (allT (allT allI)))) d)
 ·refine wp_exit (c3 _ _ _ rfl ?_)
  cases d
  exact c1 _ _ _ _ rfl rfl (W _ _ _ _ E G (b.facts (allT allI)) (b9 _ rfl))
theorem sparselaw08_awake_ok {out : Bool} (c : sparselaw08_awake = some out) (a : St w0 ros rs w) :
  Calls Tryz.prog 10 #[] w (fun e w => e = .returned (.bool out) ∧ St w0 ros rs w) := by
 refine enterQ Tryz.func10 rfl Tryz.ntmps10 rfl fun Q d7 => sR fun _ d8 => Ya (.bool false) rfl (wK d8 (sR fun _ d9 => bE c fun y e1 c => yC (yCall FN_50 (a1 rfl)) (sparselaw08_num_ok e1 a) ?_))
 rintro _ w ⟨K, rfl, a⟩
 refine ⟨_, rfl, ?_⟩
 refine bE c fun z e2 c => yC (yCall FN_50 (a1 rfl)) (sparselaw08_num_ok e2 a) ?_
 rintro _ w ⟨L, rfl, a⟩
 refine ⟨_, rfl, ?_⟩
 refine yH (rLt (n := 2) (l := [(y.1, y.2), (z.1, z.2)]) (((a.k17).fz).fz) SL_32 [.agg #[.bool y.1, K.v], .agg #[.bool z.1, L.v]] (bp2 e0 e0) rfl rfl (mks1 (cs := [.bool y.1, K.v]) rfl (mkP mkB (mkS F1)) (mks1 (cs := [.bool z.1, L.v]) rfl (mkP mkB (mkS F0)) mks0))) fun N w a => bE c fun A e3 c => yC (yCall FN_50 (a1 rfl)) (sparselaw08_num_ok e3 a) ?_
 rintro _ w ⟨O, rfl, a⟩
 refine ⟨_, rfl, ?_⟩
 refine bE c fun B e4 c => yC (yCall FN_50 (a1 rfl)) (sparselaw08_num_ok e4 a) ?_
 rintro _ w ⟨R, rfl, a⟩
 refine ⟨_, rfl, ?_⟩
 refine yH (rLt (n := 2) (l := [(A.1, A.2), (B.1, B.2)]) (((a.k17).fz).fz) SL_32 [.agg #[.bool A.1, O.v], .agg #[.bool B.1, R.v]] (bp2 e0 e0) rfl rfl (mks1 (cs := [.bool A.1, O.v]) rfl (mkP mkB (mkS F1)) (mks1 (cs := [.bool B.1, R.v]) rfl (mkP mkB (mkS F0)) mks0))) fun S w a => yH (rLt (n := 2) (l := [[(y.1, y.2), (z.1, z.2)], [(A.1, A.2), (B.1, B.2)]]) (((a.k17).fz).fz) SL_22 [N.v, S.v] (bp2 e0 e0) rfl rfl (mks1 (cs := [N.v]) rfl (mkS F1) (mks1 (cs := [S.v]) rfl (mkS F0) mks0))) fun T w a => Ya T.v e0 (wK d9 (sR fun _ e5 => Ym T.v e0 (bE c fun H e6 c => yC (yCall FN_50 (a1 rfl)) (sparselaw08_num_ok e6 a) ?_)))
 rintro _ w ⟨U, rfl, a⟩
 refine ⟨_, rfl, ?_⟩
 refine bE c fun I e7 c => yC (yCall FN_50 (a1 rfl)) (sparselaw08_num_ok e7 a) ?_
 rintro _ w ⟨V, rfl, a⟩
 refine ⟨_, rfl, ?_⟩
 refine yH (rLt (n := 2) (l := [(H.1, H.2), (I.1, I.2)]) (((a.k17).fz).fz) SL_32 [.agg #[.bool H.1, U.v], .agg #[.bool I.1, V.v]] (bp2 e0 e0) rfl rfl (mks1 (cs := [.bool H.1, U.v]) rfl (mkP mkB (mkS F1)) (mks1 (cs := [.bool I.1, V.v]) rfl (mkP mkB (mkS F0)) mks0))) fun i5 w a => bE c fun d e8 c => ?_
 replace a := ((a.k17).fz).fz
 refine yC (yCall FN_19 (a2 e0 e0)) (exact_Solve_ok e8 F1 F0 a) ?_
 rintro _ w ⟨m, j, rfl, a⟩
 refine ⟨_, rfl, ?_⟩
 refine Ym (.tuple #[m.v, .agg #[.bool d.2.1, j.v], iV d.2.2.2]) e0 (yY (x_ m.v e0) (yY (x_ (.agg #[.bool d.2.1, j.v]) e0) (yY (x_ (iV d.2.2.2) e0) (yBb (rAl a ZT_31) fun C w a => Ya m.v e0 (yT (r_stbn (vals' := [.bool d.2.1, j.v]) (us := [.bool d.2.1, j.v]) a ST_31 e0 e0 rfl rfl (one_of rfl) rfl) fun w a => Ya (iV d.2.2.2) e0 (wK e5 (sR fun _ e9 => ?_)))))))
 refine bE c fun D f0 c => yC (yCall FN_50 (a1 rfl)) (sparselaw08_num_ok f0 a) ?_
 rintro _ w ⟨W, rfl, a⟩
 refine ⟨_, rfl, ?_⟩
 refine bE c fun E f1 c => yC (yCall FN_50 (a1 rfl)) (sparselaw08_num_ok f1 a) ?_
 rintro _ w ⟨X, rfl, a⟩
 refine ⟨_, rfl, ?_⟩
 refine yH (rLt (n := 2) (l := [(D.1, D.2), (E.1, E.2)]) (((a.k17).fz).fz) SL_32 [.agg #[.bool D.1, W.v], .agg #[.bool E.1, X.v]] (bp2 e0 e0) rfl rfl (mks1 (cs := [.bool D.1, W.v]) rfl (mkP mkB (mkS F1)) (mks1 (cs := [.bool E.1, X.v]) rfl (mkP mkB (mkS F0)) mks0))) fun Z w a => bE c fun F f2 c => yC (yCall FN_50 (a1 rfl)) (sparselaw08_num_ok f2 a) ?_
 rintro _ w ⟨a0, rfl, a⟩
 refine ⟨_, rfl, ?_⟩
 refine bE c fun G f3 c => yC (yCall FN_50 (a1 rfl)) (sparselaw08_num_ok f3 a) ?_
 rintro _ w ⟨a3, rfl, a⟩
 refine ⟨_, rfl, ?_⟩
 refine yH (rLt (n := 2) (l := [(F.1, F.2), (G.1, G.2)]) (((a.k17).fz).fz) SL_32 [.agg #[.bool F.1, a0.v], .agg #[.bool G.1, a3.v]] (bp2 e0 e0) rfl rfl (mks1 (cs := [.bool F.1, a0.v]) rfl (mkP mkB (mkS F1)) (mks1 (cs := [.bool G.1, a3.v]) rfl (mkP mkB (mkS F0)) mks0))) fun a4 w a => yH (rLt (n := 2) (l := [[(D.1, D.2), (E.1, E.2)], [(F.1, F.2), (G.1, G.2)]]) (((a.k17).fz).fz) SL_22 [Z.v, a4.v] (bp2 e0 e0) rfl rfl (mks1 (cs := [Z.v]) rfl (mkS F1) (mks1 (cs := [a4.v]) rfl (mkS F0) mks0))) fun i6 w a => bE c fun b f4 c => ?_
 replace a := a.fz
 refine yC (yCall FN_14 (a1 e0)) (exact_Inertia_ok f4 F0 a) ?_
 rintro _ w ⟨rfl, a⟩
 refine ⟨_, rfl, ?_⟩
 refine Ym (.tuple #[iV b.1, iV b.2.1, iV b.2.2.1, iV b.2.2.2]) e0 (yY (x_ (iV b.1) e0) (yY (x_ (iV b.2.1) e0) (yY (x_ (iV b.2.2.1) e0) (yY (x_ (iV b.2.2.2) e0) (Ya (iV b.1) e0 (Ya (iV b.2.1) e0 (Ya (iV b.2.2.1) e0 (Ya (iV b.2.2.2) e0 (wK e9 (sR fun _ f5 => Ym (iV d.2.2.2) e0 ?_))))))))))
 refine yY (yeql e0 rfl) (Ym (.bool (decide (d.2.2.2 = 0))) e0 ?_)
 refine joinW 4 (fun f w => f 2 = m.v ∧ f 3 = (pB C) ∧ f 5 = iV b.1 ∧ f 6 = iV b.2.1 ∧ f 7 = iV b.2.2.1 ∧ f 8 = iV b.2.2.2 ∧ f 44 = .bool ((decide (d.2.2.2 = 0)) && (decide ((d.1.length : Int) = 2))) ∧ St w0 (imm (rI .u32) j.v d.2.2.1 :: ros) (row 31 (rP rB (rS (rI .u32))) m.v d.1 :: box C 31 [.bool d.2.1, j.v] :: rs) w) (fun a5 => ?_) ?_
 ·rcases Bool.eq_false_or_eq_true (decide (d.2.2.2 = 0)) with k | k
  ·exact yG k (m_ m.v e0) (yG k (yLen SL_32 e0 a rO1) (yG k (yeql e0 rfl) (yY (pt_ (.bool (decide ((d.1.length : Int) = 2))) e0 k e0) (a5 _ _ ⟨rfl, rfl, rfl, rfl, rfl, rfl, (congrArg Value.bool (andT k)), ((a.k17).facts (allC F7 (allT (allT (allT (allT (allT (allT (allT (allT (allT (allT (allT (allT (allT (allT (allT (allT (allT (allT allI))))))))))))))))))))⟩))))
  ·exact gN k (gN k (gN k (yY (pf_ (.bool false) e0 k rfl) (a5 _ _ ⟨rfl, rfl, rfl, rfl, rfl, rfl, (congrArg Value.bool (andF k)), ((a.k17).facts (allC F7 (allT (allT (allT (allT (allT (allT (allT (allT (allT (allT (allT (allT (allT (allT (allT (allT (allT (allT allI))))))))))))))))))))⟩))))
 rintro f w ⟨J, a6, a7, a8, a9, b0, f6, a⟩
 refine Ym (.bool ((decide (d.2.2.2 = 0)) && (decide ((d.1.length : Int) = 2)))) (eh f6) (bE c fun b1 o c => ?_)
 refine joinW 6 (fun f w => f 2 = m.v ∧ f 3 = (pB C) ∧ f 5 = iV b.1 ∧ f 6 = iV b.2.1 ∧ f 7 = iV b.2.2.1 ∧ f 8 = iV b.2.2.2 ∧ f 51 = .bool b1 ∧ St w0 (imm (rI .u32) j.v d.2.2.1 :: ros) (row 31 (rP rB (rS (rI .u32))) m.v d.1 :: box C 31 [.bool d.2.1, j.v] :: rs) w) (fun b2 => ?_) ?_
 ·rcases iteS o with ⟨h, o⟩ | ⟨h, o⟩
  ·refine yG h (m_ m.v (eh J)) (bE o fun f7 b3 o => yG h (yIa SL_32 e0 rfl a rO0 b3) ?_)
   obtain ⟨i7, i8, cc46, a⟩ := a.ld rO0 b3
   replace a := a.eltP
   obtain ⟨i9, j0, rfl, a⟩ := a
   replace a := a.eltB
   obtain ⟨rfl, a⟩ := a
   replace a := a.eltS
   obtain ⟨f8, rfl, a⟩ := a
   refine yG h (yCn (cs := [.bool f7.1, f8.v]) ST_31 rfl e0 cc46) (bE o fun f9 g0 o => Yc (wG h) rfl (yCall FN_45 (a1 e0)) (integer_Format_ok g0 F0 a) ?_)
   rintro _ w ⟨rfl, a⟩
   refine ⟨_, rfl, ?_⟩
   refine yG h (yegs e0 rfl) (yY (pt_ (.bool (decide (f9 = (⟨#[51]⟩ : ByteArray)))) e0 h e0) ?_)
   cases o
   exact b2 _ _ ⟨J, a6, a7, a8, a9, b0, rfl, (a.facts (allC F1 (allT (allT allI))))⟩
  ·refine gN (bfalse h) (gN (bfalse h) (gN (bfalse h) (gN (bfalse h) (gN (bfalse h) (yY (pf_ (.bool false) e0 (bfalse h) rfl) ?_)))))
   cases o
   exact b2 _ _ ⟨J, a6, a7, a8, a9, b0, rfl, a⟩
 rintro f w ⟨g1, b4, b5, b6, b7, b8, g2, a⟩
 refine Ym (.bool b1) (eh g2) (bE c fun b9 p c => ?_)
 refine joinW 6 (fun f w => f 3 = (pB C) ∧ f 5 = iV b.1 ∧ f 6 = iV b.2.1 ∧ f 7 = iV b.2.2.1 ∧ f 8 = iV b.2.2.2 ∧ f 58 = .bool b9 ∧ St w0 (imm (rI .u32) j.v d.2.2.1 :: ros) (box C 31 [.bool d.2.1, j.v] :: rs) w) (fun c0 => ?_) ?_
 ·rcases iteS p with ⟨i, p⟩ | ⟨i, p⟩
  ·refine yG i (m_ m.v (eh g1)) (bE p fun g3 c1 p => yG i (yIa SL_32 e0 rfl a rO0 c1) ?_)
   obtain ⟨j9, k0, cc61, a⟩ := a.ld rO0 c1
   replace a := a.eltP
   obtain ⟨k6, k7, rfl, a⟩ := a
   replace a := a.eltB
   obtain ⟨rfl, a⟩ := a
   replace a := a.eltS
   obtain ⟨g4, rfl, a⟩ := a
   refine yG i (yCn (cs := [.bool g3.1, g4.v]) ST_31 rfl e0 cc61) (bE p fun g5 g6 p => Yc (wG i) rfl (yCall FN_45 (a1 e0)) (integer_Format_ok g6 F0 a) ?_)
   rintro _ w ⟨rfl, a⟩
   refine ⟨_, rfl, ?_⟩
   refine yG i (yegs e0 rfl) (yY (pt_ (.bool (decide (g5 = (⟨#[51]⟩ : ByteArray)))) e0 i e0) ?_)
   cases p
   exact c0 _ _ ⟨b4, b5, b6, b7, b8, rfl, ((a.k20).facts (allC F1 (allT (allT allI))))⟩
  ·refine gN (bfalse i) (gN (bfalse i) (gN (bfalse i) (gN (bfalse i) (gN (bfalse i) (yY (pf_ (.bool false) e0 (bfalse i) rfl) ?_)))))
   cases p
   exact c0 _ _ ⟨b4, b5, b6, b7, b8, rfl, (a.k20)⟩
 rintro f w ⟨g7, c2, c3, c4, c5, g8, a⟩
 refine Ym (.bool b9) (eh g8) (bE c fun g x c => ?_)
 refine joinW 4 (fun f w => f 5 = iV b.1 ∧ f 6 = iV b.2.1 ∧ f 7 = iV b.2.2.1 ∧ f 8 = iV b.2.2.2 ∧ f 63 = .bool g ∧ St w0 ros rs w) (fun c6 => ?_) ?_
 ·rcases iteS x with ⟨q, x⟩ | ⟨q, x⟩
  ·refine yG q (lbs_ [.bool d.2.1, j.v] ST_31 (eh g7) a R0) (bE x fun g9 h0 x => Yc (wG q) rfl (yCall FN_45 (a1 e0)) (integer_Format_ok h0 F0 a) ?_)
   rintro _ w ⟨rfl, a⟩
   refine ⟨_, rfl, ?_⟩
   refine yG q (yegs e0 rfl) (yY (pt_ (.bool (decide (g9 = (⟨#[51]⟩ : ByteArray)))) e0 q e0) ?_)
   cases x
   exact c6 _ _ ⟨c2, c3, c4, c5, rfl, ((a.k10).facts (allT allI))⟩
  ·refine gN (bfalse q) (gN (bfalse q) (gN (bfalse q) (yY (pf_ (.bool false) e0 (bfalse q) rfl) ?_)))
   cases x
   exact c6 _ _ ⟨c2, c3, c4, c5, rfl, ((a.k10).facts (allT allI))⟩
 rintro f w ⟨c7, c8, c9, h1, h3, a⟩
 refine Ym (.bool g) (eh h3) ?_
 refine joinW 3 (fun f w => f 5 = iV b.1 ∧ f 6 = iV b.2.1 ∧ f 7 = iV b.2.2.1 ∧ f 67 = .bool (g && (decide (b.2.2.2 = 0))) ∧ St w0 ros rs w) (fun d0 => ?_) ?_
 ·rcases Bool.eq_false_or_eq_true g with r | r
  ·exact yG r (m_ (iV b.2.2.2) (eh h1)) (yG r (yeql e0 rfl) (yY (pt_ (.bool (decide (b.2.2.2 = 0))) e0 r e0) (d0 _ _ ⟨c7, c8, c9, (congrArg Value.bool (andT r)), a⟩)))
  ·exact gN r (gN r (yY (pf_ (.bool false) e0 r rfl) (d0 _ _ ⟨c7, c8, c9, (congrArg Value.bool (andF r)), a⟩)))
 rintro f w ⟨h6, d1, d2, h8, a⟩
 refine Ym (.bool (g && (decide (b.2.2.2 = 0)))) (eh h8) ?_
 refine joinW 3 (fun f w => f 6 = iV b.2.1 ∧ f 7 = iV b.2.2.1 ∧ f 71 = .bool ((g && (decide (b.2.2.2 = 0))) && (decide (b.1 = 1))) ∧ St w0 ros rs w) (fun d3 => ?_) ?_
 ·rcases Bool.eq_false_or_eq_true (g && (decide (b.2.2.2 = 0))) with s | s
  ·exact yG s (m_ (iV b.1) (eh h6)) (yG s (yeql e0 rfl) (yY (pt_ (.bool (decide (b.1 = 1))) e0 s e0) (d3 _ _ ⟨d1, d2, (congrArg Value.bool (andT s)), a⟩)))
  ·exact gN s (gN s (yY (pf_ (.bool false) e0 s rfl) (d3 _ _ ⟨d1, d2, (congrArg Value.bool (andF s)), a⟩)))
 rintro f w ⟨i0, d4, i1, a⟩
 refine Ym (.bool ((g && (decide (b.2.2.2 = 0))) && (decide (b.1 = 1)))) (eh i1) ?_
 refine joinW 3 (fun f w => f 7 = iV b.2.2.1 ∧ f 75 = .bool (((g && (decide (b.2.2.2 = 0))) && (decide (b.1 = 1))) && (decide (b.2.1 = 0))) ∧ St w0 ros rs w) (fun d5 => ?_) ?_
 ·rcases Bool.eq_false_or_eq_true ((g && (decide (b.2.2.2 = 0))) && (decide (b.1 = 1))) with t | t
  ·exact yG t (m_ (iV b.2.1) (eh i0)) (yG t (yeql e0 rfl) (yY (pt_ (.bool (decide (b.2.1 = 0))) e0 t e0) (d5 _ _ ⟨d4, (congrArg Value.bool (andT t)), a⟩)))
  ·exact gN t (gN t (yY (pf_ (.bool false) e0 t rfl) (d5 _ _ ⟨d4, (congrArg Value.bool (andF t)), a⟩)))
 rintro f w ⟨i2, i3, a⟩
 refine Ym (.bool (((g && (decide (b.2.2.2 = 0))) && (decide (b.1 = 1))) && (decide (b.2.1 = 0)))) (eh i3) ?_
 refine joinW 3 (fun f w => f 79 = .bool ((((g && (decide (b.2.2.2 = 0))) && (decide (b.1 = 1))) && (decide (b.2.1 = 0))) && (decide (b.2.2.1 = 1))) ∧ St w0 ros rs w) (fun d6 => ?_) ?_
 ·rcases Bool.eq_false_or_eq_true (((g && (decide (b.2.2.2 = 0))) && (decide (b.1 = 1))) && (decide (b.2.1 = 0))) with u | u
  ·exact yG u (m_ (iV b.2.2.1) (eh i2)) (yG u (yeql e0 rfl) (yY (pt_ (.bool (decide (b.2.2.1 = 1))) e0 u e0) (d6 _ _ ⟨(congrArg Value.bool (andT u)), a⟩)))
  ·exact gN u (gN u (yY (pf_ (.bool false) e0 u rfl) (d6 _ _ ⟨(congrArg Value.bool (andF u)), a⟩)))
 rintro f w ⟨i4, a⟩
 refine Ya (.bool ((((g && (decide (b.2.2.2 = 0))) && (decide (b.1 = 1))) && (decide (b.2.1 = 0))) && (decide (b.2.2.1 = 1)))) (eh i4) (wK f5 (wp_ret ?_))
 cases c
 exact d7 _ _ _ (fin1r Tryz.results10 ⟨rfl, rfl⟩ ⟨rfl, a⟩)
theorem sparselaw08_ExactInertia_ok {a6 : List (List (Bool × LI))} {p : Bool} {m : Hdr} {out : Bool} (d : sparselaw08_ExactInertia a6 p = some out) (t2 : out = true) (R : imm (rS (rP rB (rS (rI .u32)))) m.v a6 ∈ ros) (b : St w0 ros rs w) :
  Calls Tryz.prog 3 #[m.v, .bool p] w (fun e w => e = .returned (.bool out) ∧ St w0 ros rs w) := by
 refine enterQ Tryz.func3 rfl Tryz.ntmps3 rfl fun Q a7 => sR fun _ h5 => Ya (.bool false) rfl (wK h5 (seqQ fun t3 h6 h8 => sR fun _ h9 => Ym m.v e0 (bE d fun t4 i0 d => yC (yCall FN_9 (a1 e0)) (sparselaw08_small_ok i0 R b) ?_)))
 rintro _ w ⟨rfl, b⟩
 refine ⟨_, rfl, ?_⟩
 refine yY (ynot e0) (wK h9 ?_)
 rcases iteS d with ⟨a8, d⟩ | ⟨a8, d⟩
 ·refine condF e0 (nF a8) (wp_skip (h6 _ _ (sR fun _ i1 => Ym m.v e0 (bE d fun t5 i2 d => yC (yCall FN_11 (a1 e0)) (sparsekit_TwinRows_ok i2 R b) ?_))))
  rintro _ w ⟨h, l, rfl, b⟩
  refine ⟨_, rfl, ?_⟩
  refine Ya h.v e0 (wK i1 (sQ fun _ i3 => sR fun _ i4 => Ya (iV 0) rfl (wK i4 (blockQ fun i5 i6 => bE d fun i7 i8 d => ?_))))
  have i9 : ∀ (x : List (List (Bool × LI))) (f : FV) w, f 5 = h.v → St w0 ros (row 32 rH h.v l :: fam 31 (rP rB (rS (rI .u32))) l x :: rs) w → x = i7 → i5 (.exit 0) (fr 132 f) w := by
   intro x f w N b ho
   subst ho
   refine i6 _ _ _ (i3 _ _ (sR fun _ j0 => Ym h.v (eh N) (bE d fun c j1 d => ?_)))
   replace b := b.ffz
   refine yC (yCall FN_14 (a1 e0)) (exact_Inertia_ok j1 F0 b) ?_
   rintro _ w ⟨rfl, b⟩
   refine ⟨_, rfl, ?_⟩
   refine Ym (.tuple #[iV c.1, iV c.2.1, iV c.2.2.1, iV c.2.2.2]) e0 (yY (x_ (iV c.1) e0) (yY (x_ (iV c.2.1) e0) (yY (x_ (iV c.2.2.1) e0) (yY (x_ (iV c.2.2.2) e0) (Ya (iV c.1) e0 (Ya (iV c.2.1) e0 (Ya (iV c.2.2.1) e0 (Ya (iV c.2.2.2) e0 (wK j0 (sR fun _ j2 => Ym h.v (eh N) ?_))))))))))
   refine bE d fun W j3 d => yC (yCall FN_12 (a1 e0)) (sparseref08_Check_ok j3 F0 b) ?_
   rintro _ w ⟨rfl, b⟩
   refine ⟨_, rfl, ?_⟩
   refine Ya (iV W) e0 (wK j2 (sQ fun j4 j5 => sR fun _ j6 => Ym (iV W) e0 (yY (yeql e0 rfl) (Ym (.bool (decide (W = 0))) e0 (bE d fun j7 F d => ?_)))))
   refine joinW 6 (fun f w => f 5 = h.v ∧ f 8 = iV c.1 ∧ f 9 = iV c.2.1 ∧ f 10 = iV c.2.2.1 ∧ f 11 = iV c.2.2.2 ∧ f 12 = iV W ∧ f 78 = .bool j7 ∧ St w0 (imm (rS (rP rB (rS (rI .u32)))) h.v x :: ros) rs w) (fun c0 => ?_) ?_
   ·rcases iteS F with ⟨n, F⟩ | ⟨n, F⟩
    ·refine yG (dT n) (m_ h.v (eh N)) (yG (dT n) (yLen SL_22 e0 b (rdI F0)) (yG (dT n) (m_ h.v (eh N)) (bE F fun j8 j9 F => Yc (wG (dT n)) rfl (yCall FN_13 (a1 e0)) (sparseref08_Cols_ok j9 F0 b) ?_)))
     rintro _ w ⟨rfl, b⟩
     refine ⟨_, rfl, ?_⟩
     refine yG (dT n) (yneq e0 e0) (yY (pt_ (.bool (!(decide ((x.length : Int) = j8)))) e0 (dT n) e0) ?_)
     cases F
     exact c0 _ _ ⟨N, rfl, rfl, rfl, rfl, rfl, rfl, b⟩
    ·refine gN (dF n) (gN (dF n) (gN (dF n) (gN (dF n) (gN (dF n) (yY (pf_ (.bool false) e0 (dF n) rfl) ?_)))))
     cases F
     exact c0 _ _ ⟨N, rfl, rfl, rfl, rfl, rfl, rfl, b⟩
   rintro f w ⟨c1, c2, c3, c4, c6, k0, k7, b⟩
   refine wK j6 ?_
   have c7 : ∀ (O : Int) (f : FV) w, f 5 = h.v → f 8 = iV c.1 → f 9 = iV c.2.1 → f 10 = iV c.2.2.1 → f 11 = iV c.2.2.2 → f 12 = iV O → St w0 (imm (rS (rP rB (rS (rI .u32)))) h.v x :: ros) rs w → sparselaw08_ExactInertia_j11 x c O = some out → j4 .normal (fr 132 f) w := by
    intro O f w a9 c8 c9 d0 d1 b0 b d
    refine j5 _ _ (sQ fun k8 k9 => sR fun _ l0 => Ym (iV O) (eh b0) (yY (yeql e0 rfl) (Ym (.bool (decide (O = 0))) e0 (bE d fun l1 G d => ?_))))
    refine joinW 4 (fun f w => f 5 = h.v ∧ f 8 = iV c.1 ∧ f 9 = iV c.2.1 ∧ f 10 = iV c.2.2.1 ∧ f 11 = iV c.2.2.2 ∧ f 12 = iV O ∧ f 85 = .bool l1 ∧ St w0 (imm (rS (rP rB (rS (rI .u32)))) h.v x :: ros) rs w) (fun d2 => ?_) ?_
    ·rcases iteS G with ⟨z, G⟩ | ⟨z, G⟩
     ·refine yG (dT z) (m_ h.v (eh a9)) (bE G fun l2 l3 G => Yc (wG (dT z)) rfl (yCall FN_15 (a1 e0)) (sparseref08_Symmetric_ok l3 F0 b) ?_)
      rintro _ w ⟨rfl, b⟩
      refine ⟨_, rfl, ?_⟩
      refine yG (dT z) (ynot e0) (yY (pt_ (.bool (!l2)) e0 (dT z) e0) ?_)
      cases G
      exact d2 _ _ ⟨a9, c8, c9, d0, d1, b0, rfl, b⟩
     ·refine gN (dF z) (gN (dF z) (gN (dF z) (yY (pf_ (.bool false) e0 (dF z) rfl) ?_)))
      cases G
      exact d2 _ _ ⟨a9, c8, c9, d0, d1, b0, rfl, b⟩
    rintro f w ⟨d3, d4, d5, d6, d7, l4, l5, b⟩
    refine wK l0 ?_
    have d8 : ∀ (j : Int) (f : FV) w, f 5 = h.v → f 8 = iV c.1 → f 9 = iV c.2.1 → f 10 = iV c.2.2.1 → f 11 = iV c.2.2.2 → f 12 = iV j → St w0 (imm (rS (rP rB (rS (rI .u32)))) h.v x :: ros) rs w → sparselaw08_ExactInertia_j13 x c j = some out → k8 .normal (fr 132 f) w := by
     intro j f w l6 d9 X Z e1 e2 b d
     refine k9 _ _ (seqQ fun t6 l7 l8 => sR fun _ l9 => Ym (iV j) (eh e2) (yY (yneq e0 rfl) (wK l9 ?_)))
     rcases iteS d with ⟨b1, d⟩ | ⟨b1, d⟩
     ·refine condF e0 (nF (dT b1)) (wp_skip (l7 _ _ (sR fun _ m0 => Ym h.v (eh l6) (bE d fun g m1 d => yC (yCall FN_16 (a1 e0)) (sparseref08_Inertia_ok m1 F0 b) ?_))))
      rintro _ w ⟨rfl, b⟩
      refine ⟨_, rfl, ?_⟩
      refine Ym (.tuple #[iV g.1, iV g.2.1, iV g.2.2]) e0 (yY (x_ (iV g.1) e0) (yY (x_ (iV g.2.1) e0) (yY (x_ (iV g.2.2) e0) (Ya (iV g.1) e0 (Ya (iV g.2.1) e0 (Ya (iV g.2.2) e0 (wK m0 (sR fun _ m2 => Ym (iV c.2.2.2) (eh e1) (yY (yeql e0 rfl) (Ym (.bool (decide (c.2.2.2 = 0))) e0 ?_))))))))))
      refine joinW 4 (fun f w => f 9 = iV c.2.1 ∧ f 10 = iV c.2.2.1 ∧ f 14 = iV g.2.1 ∧ f 15 = iV g.2.2 ∧ f 118 = .bool ((decide (c.2.2.2 = 0)) && (decide (c.1 = g.1))) ∧ St w0 ros rs w) (fun e3 => ?_) ?_
      ·rcases Bool.eq_false_or_eq_true (decide (c.2.2.2 = 0)) with q | q
       ·exact yG q (m_ (iV c.1) (eh d9)) (yG q (m_ (iV g.1) e0) (yG q (yeql e0 e0) (yY (pt_ (.bool (decide (c.1 = g.1))) e0 q e0) (e3 _ _ ⟨X, Z, rfl, rfl, (congrArg Value.bool (andT q)), (b.facts (allT allI))⟩))))
       ·exact gN q (gN q (gN q (yY (pf_ (.bool false) e0 q rfl) (e3 _ _ ⟨X, Z, rfl, rfl, (congrArg Value.bool (andF q)), (b.facts (allT allI))⟩))))
      rintro f w ⟨m3, e4, m4, e5, m5, b⟩
      refine Ym (.bool ((decide (c.2.2.2 = 0)) && (decide (c.1 = g.1)))) (eh m5) ?_
      refine joinW 4 (fun f w => f 10 = iV c.2.2.1 ∧ f 15 = iV g.2.2 ∧ f 123 = .bool (((decide (c.2.2.2 = 0)) && (decide (c.1 = g.1))) && (decide (c.2.1 = g.2.1))) ∧ St w0 ros rs w) (fun e6 => ?_) ?_
      ·rcases Bool.eq_false_or_eq_true ((decide (c.2.2.2 = 0)) && (decide (c.1 = g.1))) with r | r
       ·exact yG r (m_ (iV c.2.1) (eh m3)) (yG r (m_ (iV g.2.1) (eh m4)) (yG r (yeql e0 e0) (yY (pt_ (.bool (decide (c.2.1 = g.2.1))) e0 r e0) (e6 _ _ ⟨e4, e5, (congrArg Value.bool (andT r)), b⟩))))
       ·exact gN r (gN r (gN r (yY (pf_ (.bool false) e0 r rfl) (e6 _ _ ⟨e4, e5, (congrArg Value.bool (andF r)), b⟩))))
      rintro f w ⟨m6, m7, m8, b⟩
      refine Ym (.bool (((decide (c.2.2.2 = 0)) && (decide (c.1 = g.1))) && (decide (c.2.1 = g.2.1)))) (eh m8) ?_
      refine joinW 4 (fun f w => f 128 = .bool ((((decide (c.2.2.2 = 0)) && (decide (c.1 = g.1))) && (decide (c.2.1 = g.2.1))) && (decide (c.2.2.1 = g.2.2))) ∧ St w0 ros rs w) (fun e7 => ?_) ?_
      ·rcases Bool.eq_false_or_eq_true (((decide (c.2.2.2 = 0)) && (decide (c.1 = g.1))) && (decide (c.2.1 = g.2.1))) with t | t
       ·exact yG t (m_ (iV c.2.2.1) (eh m6)) (yG t (m_ (iV g.2.2) (eh m7)) (yG t (yeql e0 e0) (yY (pt_ (.bool (decide (c.2.2.1 = g.2.2))) e0 t e0) (e7 _ _ ⟨(congrArg Value.bool (andT t)), b⟩))))
       ·exact gN t (gN t (gN t (yY (pf_ (.bool false) e0 t rfl) (e7 _ _ ⟨(congrArg Value.bool (andF t)), b⟩))))
      rintro f w ⟨m9, b⟩
      refine Ym (.bool ((((decide (c.2.2.2 = 0)) && (decide (c.1 = g.1))) && (decide (c.2.1 = g.2.1))) && (decide (c.2.2.1 = g.2.2)))) (eh m9) (bE d fun e8 H d => ?_)
      refine joinW 2 (fun f w => f 131 = .bool e8 ∧ St w0 ros rs w) (fun e9 => ?_) ?_
      ·rcases iteS H with ⟨S, H⟩ | ⟨S, H⟩
       ·refine bE H fun n0 n1 H => Yc (wG S) rfl (yCall FN_10 a0) (sparselaw08_awake_ok n1 b) ?_
        rintro _ w ⟨rfl, b⟩
        refine ⟨_, rfl, ?_⟩
        refine yY (pt_ (.bool n0) e0 S e0) ?_
        cases H
        exact e9 _ _ ⟨rfl, b⟩
       ·refine gN (bfalse S) (yY (pf_ (.bool false) e0 (bfalse S) rfl) ?_)
        cases H
        exact e9 _ _ ⟨rfl, b⟩
      rintro f w ⟨n2, b⟩
      refine Ya (.bool e8) (eh n2) (wK m2 (wp_ret ?_))
      cases d
      exact a7 _ _ _ (fin1r Tryz.results3 ⟨rfl, rfl⟩ ⟨rfl, b⟩)
     ·refine condT e0 (nT (dF b1)) (sR fun _ n3 => Ym (iV c.2.2.2) (eh e1) (Ym (iV j) (eh e2) (yY (yeql e0 e0) (Ym (.bool (decide (c.2.2.2 = j))) e0 ?_))))
      refine joinW 3 (fun f w => f 9 = iV c.2.1 ∧ f 10 = iV c.2.2.1 ∧ f 94 = .bool ((decide (c.2.2.2 = j)) && (decide (c.1 = 0))) ∧ St w0 ros rs w) (fun f0 => ?_) ?_
      ·rcases Bool.eq_false_or_eq_true (decide (c.2.2.2 = j)) with A | A
       ·exact yG A (m_ (iV c.1) (eh d9)) (yG A (yeql e0 rfl) (yY (pt_ (.bool (decide (c.1 = 0))) e0 A e0) (f0 _ _ ⟨X, Z, (congrArg Value.bool (andT A)), (b.facts (allT allI))⟩)))
       ·exact gN A (gN A (yY (pf_ (.bool false) e0 A rfl) (f0 _ _ ⟨X, Z, (congrArg Value.bool (andF A)), (b.facts (allT allI))⟩)))
      rintro f w ⟨n4, f1, n5, b⟩
      refine Ym (.bool ((decide (c.2.2.2 = j)) && (decide (c.1 = 0)))) (eh n5) ?_
      refine joinW 3 (fun f w => f 10 = iV c.2.2.1 ∧ f 98 = .bool (((decide (c.2.2.2 = j)) && (decide (c.1 = 0))) && (decide (c.2.1 = 0))) ∧ St w0 ros rs w) (fun f2 => ?_) ?_
      ·rcases Bool.eq_false_or_eq_true ((decide (c.2.2.2 = j)) && (decide (c.1 = 0))) with B | B
       ·exact yG B (m_ (iV c.2.1) (eh n4)) (yG B (yeql e0 rfl) (yY (pt_ (.bool (decide (c.2.1 = 0))) e0 B e0) (f2 _ _ ⟨f1, (congrArg Value.bool (andT B)), b⟩)))
       ·exact gN B (gN B (yY (pf_ (.bool false) e0 B rfl) (f2 _ _ ⟨f1, (congrArg Value.bool (andF B)), b⟩)))
      rintro f w ⟨n6, n7, b⟩
      refine Ym (.bool (((decide (c.2.2.2 = j)) && (decide (c.1 = 0))) && (decide (c.2.1 = 0)))) (eh n7) ?_
      refine joinW 3 (fun f w => f 102 = .bool ((((decide (c.2.2.2 = j)) && (decide (c.1 = 0))) && (decide (c.2.1 = 0))) && (decide (c.2.2.1 = 0))) ∧ St w0 ros rs w) (fun f3 => ?_) ?_
      ·rcases Bool.eq_false_or_eq_true (((decide (c.2.2.2 = j)) && (decide (c.1 = 0))) && (decide (c.2.1 = 0))) with C | C
       ·exact yG C (m_ (iV c.2.2.1) (eh n6)) (yG C (yeql e0 rfl) (yY (pt_ (.bool (decide (c.2.2.1 = 0))) e0 C e0) (f3 _ _ ⟨(congrArg Value.bool (andT C)), b⟩)))
       ·exact gN C (gN C (yY (pf_ (.bool false) e0 C rfl) (f3 _ _ ⟨(congrArg Value.bool (andF C)), b⟩)))
      rintro f w ⟨n8, b⟩
      refine Ym (.bool ((((decide (c.2.2.2 = j)) && (decide (c.1 = 0))) && (decide (c.2.1 = 0))) && (decide (c.2.2.1 = 0)))) (eh n8) (bE d fun f4 I d => ?_)
      refine joinW 2 (fun f w => f 105 = .bool f4 ∧ St w0 ros rs w) (fun f5 => ?_) ?_
      ·rcases iteS I with ⟨T, I⟩ | ⟨T, I⟩
       ·refine bE I fun o0 o1 I => Yc (wG T) rfl (yCall FN_10 a0) (sparselaw08_awake_ok o1 b) ?_
        rintro _ w ⟨rfl, b⟩
        refine ⟨_, rfl, ?_⟩
        refine yY (pt_ (.bool o0) e0 T e0) ?_
        cases I
        exact f5 _ _ ⟨rfl, b⟩
       ·refine gN (bfalse T) (yY (pf_ (.bool false) e0 (bfalse T) rfl) ?_)
        cases I
        exact f5 _ _ ⟨rfl, b⟩
      rintro f w ⟨o2, b⟩
      refine Ya (.bool f4) (eh o2) (wK n3 (wp_ret (l8 _ _ _ rfl ?_)))
      cases d
      exact a7 _ _ _ (fin1r Tryz.results3 ⟨rfl, rfl⟩ ⟨rfl, b⟩)
    refine cB (eh l5) d (fun o3 d => ?_) fun o3 d => ?_
    ·exact wR (Ya (iV 80) rfl (wN (d8 _ _ _ d3 d4 d5 d6 d7 rfl b d)))
    ·exact wp_skip (d8 _ _ _ d3 d4 d5 d6 d7 l4 b d)
   refine cB (eh k7) d (fun o4 d => ?_) fun o4 d => ?_
   ·exact wR (Ya (iV 5) rfl (wN (c7 _ _ _ c1 c2 c3 c4 c6 rfl b d)))
   ·exact wp_skip (c7 _ _ _ c1 c2 c3 c4 c6 k0 b d)
  refine loopQ (fun s a w => ∃ (y : List (List (Bool × LI))) (i : Int) (f : FV), (y, i) = s ∧ a = fr 132 f ∧ f 0 = m.v ∧ f 1 = .bool p ∧ f 5 = h.v ∧ f 6 = iV i ∧ St w0 ros (row 32 rH h.v l :: fam 31 (rP rB (rS (rI .u32))) l y :: rs) w) i8 ⟨_, _, _, rfl, rfl, rfl, rfl, rfl, rfl, b⟩ ?_
  rintro _ _ w t7 ⟨y, i, f, rfl, rfl, f6, b2, b3, b4, b⟩ u o5 t8 o6 o7
  refine seqQ fun t9 o8 p0 => sR fun _ p1 => Ym (iV i) (eh b4) (Ym h.v (eh b3) (yY (yLenF SLH_22 e0 b rO0 R1) (yY (ylss e0 e0) (Ym (.bool (decide (i < (y.length : Int)))) e0 ?_))))
  refine joinW 2 (fun f w => f 0 = m.v ∧ f 1 = .bool p ∧ f 5 = h.v ∧ f 6 = iV i ∧ f 28 = .bool ((decide (i < (y.length : Int))) && p) ∧ St w0 ros (row 32 rH h.v l :: fam 31 (rP rB (rS (rI .u32))) l y :: rs) w) (fun f7 => ?_) ?_
  ·rcases Bool.eq_false_or_eq_true (decide (i < (y.length : Int))) with J | J
   ·exact yG J (m_ (.bool p) (eh b2)) (yY (pt_ (.bool p) e0 J e0) (f7 _ _ ⟨f6, b2, b3, b4, (congrArg Value.bool (andT J)), b⟩))
   ·exact gN J (yY (pf_ (.bool false) e0 J rfl) (f7 _ _ ⟨f6, b2, b3, b4, (congrArg Value.bool (andF J)), b⟩))
  rintro f w ⟨b5, f8, f9, g0, p2, b⟩
  refine Ym (.bool ((decide (i < (y.length : Int))) && p)) (eh p2) (bE u fun g1 K u => ?_)
  refine joinW 4 (fun f w => f 0 = m.v ∧ f 1 = .bool p ∧ f 5 = h.v ∧ f 6 = iV i ∧ f 33 = .bool g1 ∧ St w0 ros (row 32 rH h.v l :: fam 31 (rP rB (rS (rI .u32))) l y :: rs) w) (fun g2 => ?_) ?_
  ·rcases iteS K with ⟨D, K⟩ | ⟨D, K⟩
   ·refine yG D (m_ m.v (eh b5)) (bE K fun p3 p4 K => Yc (wG D) rfl (yCall FN_12 (a1 e0)) (sparseref08_Check_ok p4 R b) ?_)
    rintro _ w ⟨rfl, b⟩
    refine ⟨_, rfl, ?_⟩
    refine yG D (yeql e0 rfl) (yY (pt_ (.bool (decide (p3 = 0))) e0 D e0) ?_)
    cases K
    exact g2 _ _ ⟨b5, f8, f9, g0, rfl, b⟩
   ·refine gN (bfalse D) (gN (bfalse D) (gN (bfalse D) (yY (pf_ (.bool false) e0 (bfalse D) rfl) ?_)))
    cases K
    exact g2 _ _ ⟨b5, f8, f9, g0, rfl, b⟩
  rintro f w ⟨a2, g3, g4, g5, p5, b⟩
  refine Ym (.bool g1) (eh p5) (bE u fun p6 L u => ?_)
  refine joinW 6 (fun f w => f 0 = m.v ∧ f 1 = .bool p ∧ f 5 = h.v ∧ f 6 = iV i ∧ f 40 = .bool p6 ∧ St w0 ros (row 32 rH h.v l :: fam 31 (rP rB (rS (rI .u32))) l y :: rs) w) (fun g6 => ?_) ?_
  ·rcases iteS L with ⟨o, L⟩ | ⟨o, L⟩
   ·refine yG o (m_ m.v (eh a2)) (yG o (yLen SL_22 e0 b (rdI R)) (yG o (m_ m.v (eh a2)) (bE L fun p7 p8 L => Yc (wG o) rfl (yCall FN_13 (a1 e0)) (sparseref08_Cols_ok p8 R b) ?_)))
    rintro _ w ⟨rfl, b⟩
    refine ⟨_, rfl, ?_⟩
    refine yG o (yeql e0 e0) (yY (pt_ (.bool (decide ((a6.length : Int) = p7))) e0 o e0) ?_)
    cases L
    exact g6 _ _ ⟨a2, g3, g4, g5, rfl, b⟩
   ·refine gN (bfalse o) (gN (bfalse o) (gN (bfalse o) (gN (bfalse o) (gN (bfalse o) (yY (pf_ (.bool false) e0 (bfalse o) rfl) ?_)))))
    cases L
    exact g6 _ _ ⟨a2, g3, g4, g5, rfl, b⟩
  rintro f w ⟨p9, q0, g7, q2, q3, b⟩
  refine wK p1 (cB (eh q3) u (fun q4 u => ?_) fun q4 u => ?_)
  ·refine wp_skip (o8 _ _ (sQ fun _ q5 => blockQ fun _ q6 => sR fun _ q7 => Ya (iV 0) rfl (wK q7 (blockQ fun q8 q9 => bE u fun r0 r1 u => ?_))))
   have r2 : ∀ (b6 : List (List (Bool × LI))) (f : FV) w, f 0 = m.v → f 1 = .bool p → f 5 = h.v → f 6 = iV i → St w0 ros (row 32 rH h.v l :: fam 31 (rP rB (rS (rI .u32))) l b6 :: rs) w → b6 = r0 → q8 (.exit 2) (fr 132 f) w := by
    intro b6 f w r3 r5 r7 r8 b ho
    subst ho
    refine q9 _ _ _ (q6 _ _ _ (q5 _ _ (wR (Ym (iV i) (eh r8) (yY (yadd e0 rfl) (Ya (iV (wa .i64 i 1)) e0 (wN ?_)))))))
    cases u
    exact o6 _ _ _ rfl ⟨_, _, _, rfl, rfl, r3, r5, r7, rfl, b⟩
   refine loopQ (fun s a w => ∃ (b7 : List (List (Bool × LI))) (E : Int) (f : FV), (b7, E) = s ∧ a = fr 132 f ∧ f 0 = m.v ∧ f 1 = .bool p ∧ f 5 = h.v ∧ f 6 = iV i ∧ f 7 = iV E ∧ St w0 ros (row 32 rH h.v l :: fam 31 (rP rB (rS (rI .u32))) l b7 :: rs) w) r1 ⟨_, _, _, rfl, rfl, p9, q0, g7, q2, rfl, b⟩ ?_
   rintro _ _ w u0 ⟨b7, E, f, rfl, rfl, g8, g9, a3, U, a4, b⟩ k r9 u1 s0 s1
   refine seqQ fun u2 s2 s3 => sR fun _ s4 => Ym (iV E) (eh a4) (Ym (iV i) (eh U) (yY (ylss e0 e0) (wK s4 ?_)))
   refine cIf e0 k (fun s5 k => ?_) fun s5 k => ?_
   ·refine wp_skip (s2 _ _ (sQ fun _ s6 => blockQ fun _ s7 => bE k fun u3 b8 k => bE k fun u4 b9 k => bE k fun h0 h1 k => bE k fun u5 h3 k => bE k fun u6 s8 k => dR [0, 0, 3, 7, 0, 0, 0, 96, 224, 0, 992, 2016, 4095, 8191] [13] 1 folM ?_))
    replace b := b.drew
    refine Dn [0, 1, 2, 3, 4, 5, 6, 7, 8, 9, 10, 11, 12] [] [13] (yR rfl (m_ h.v (eh a3)) (yR rfl (m_ (iV i) (eh U)) ?_))
    obtain ⟨u7, V⟩ := b.famI R1 b8
    refine yR rfl (yIa SLH_22 e0 e0 b rO0 V) (yR rfl (yF1 O_32 e0 b rO0 V rfl) (yR rfl (m_ (iV E) (eh a4)) (yR rfl (m_ h.v (eh a3)) (yR rfl (m_ (iV E) (eh a4)) ?_))))
    obtain ⟨u8, a5⟩ := b.famI R1 b9
    refine yR rfl (yIa SLH_22 e0 e0 b rO0 a5) (yR rfl (yF1 O_32 e0 b rO0 a5 rfl) (yR rfl (m_ (iV i) (eh U)) (yR rfl (yIa SL_32 e0 e0 b (rdF R1 a5 b9) h1) ?_)))
    obtain ⟨u9, v0, cc213, b⟩ := b.ld (rdF R1 a5 b9) h1
    replace b := b.eltP
    obtain ⟨v1, v2, rfl, b⟩ := b
    replace b := b.eltB
    obtain ⟨rfl, b⟩ := b
    replace b := b.eltS
    obtain ⟨h4, rfl, b⟩ := b
    refine yR rfl (yCn (cs := [.bool h0.1, h4.v]) ST_31 rfl e0 cc213) (yR rfl (yIs SL_32 e0 e0 b (rdF R1 V b8) h3) (Rn QSn ?_))
    refine Lc1 rfl ?_
    replace b := b.k17
    refine LT wn (r_stn (cs := [.bool h0.1, h4.v]) (b.foc V b8) ST_31 e0 e0 rfl (mkP mkB (mkS F0)) h3) fun w b => ?_
    replace b := b.unfoc' V s8
    refine Dz [] [] (Rn QSn (s7 _ _ _ (s6 _ _ (wR (Ym (iV E) (eh a4) (yY (yadd e0 rfl) (Ya (iV (wa .i64 E 1)) e0 (wN ?_))))))))
    cases k
    exact s0 _ _ _ rfl ⟨_, _, _, rfl, rfl, g8, g9, a3, U, rfl, ((b.k17).facts (allT allI))⟩
   ·refine wp_exit (s3 _ _ _ rfl ?_)
    cases k
    exact s1 _ _ _ _ rfl rfl (r2 _ _ _ g8 g9 a3 U b (r9 _ rfl))
  ·refine wp_exit (p0 _ _ _ rfl ?_)
   cases u
   exact o7 _ _ _ _ rfl rfl (i9 _ _ _ g7 b (o5 _ rfl))
 ·refine condT e0 (nT (bfalse a8)) (sR fun _ s9 => bE d fun t0 t1 d => yC (yCall FN_10 a0) (sparselaw08_awake_ok t1 b) ?_)
  rintro _ w ⟨rfl, b⟩
  refine ⟨_, rfl, ?_⟩
  refine Ya (.bool t0) e0 (wK s9 (wp_ret (h8 _ _ _ rfl ?_)))
  cases d
  exact a7 _ _ _ (fin1r Tryz.results3 ⟨rfl, rfl⟩ ⟨rfl, b⟩)
end Go.Proofs.YtpfmbaidflhamaaGreatDoor
